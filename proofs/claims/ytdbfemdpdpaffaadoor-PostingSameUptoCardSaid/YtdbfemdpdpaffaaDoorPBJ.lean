/-
  ErV.
-/
import Derived.Test.YtdbfemdpdpaffaaDoorPAA
/-
  The values of package api's errors, by their numbers.
-/
namespace Go.Proofs.YtdbfemdpdpaffaaDoor
open Go Go.RowKit
def errV (E : Nat → Addr) (k : Nat) : Value := if k = 0 then .nilIface else .iface 118 (.pointer (some (E k)))
theorem errV_zero (E : Nat → Addr) : errV E 0 = .nilIface := rfl
theorem errV_pos (E : Nat → Addr) (k : Nat) (hk : 1 ≤ k) : errV E k = .iface 118 (.pointer (some (E k))) := by
  unfold errV; rw [if_neg (by omega)]
end Go.Proofs.YtdbfemdpdpaffaaDoor
