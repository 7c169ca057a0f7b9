/-
  WiO.
-/
import Derived.Test.YtnbgcimalpdfoaaGreatDoorPCI
import Derived.SizedLaws
/-
  A whole number as an argument: its bounds.
-/
namespace Go.Proofs.YtnbgcimalpdfoaaGreatDoor
open Go Go.RowKit
theorem i64_lit {n : Int} (h : (Lit.int .i64 n).wf = true) : -9223372036854775808 ≤ n ∧ n ≤ 9223372036854775807 := by
  simp only [Lit.wf, Bool.and_eq_true, decide_eq_true_eq] at h
  exact h
end Go.Proofs.YtnbgcimalpdfoaaGreatDoor
