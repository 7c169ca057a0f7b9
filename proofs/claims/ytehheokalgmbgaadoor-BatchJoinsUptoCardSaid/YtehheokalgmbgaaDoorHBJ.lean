/-
  ErV.
-/
import Derived.Test.YtehheokalgmbgaaDoorHAA
/-
  The values of package api's errors, by their numbers.
-/
namespace Go.Proofs.YtehheokalgmbgaaDoor
open Go Go.RowKit
def errV (E : Nat → Addr) (k : Nat) : Value := if k = 0 then .nilIface else .iface 151 (.pointer (some (E k)))
end Go.Proofs.YtehheokalgmbgaaDoor
