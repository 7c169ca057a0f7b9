/-
  BaR2.
-/
import Derived.Test.YtehheokalgmbgaaDoorFBL
/-
  The document's answer for chapter 12: Normal. Printed by genbar2.py.
-/
namespace Go.Proofs.YtehheokalgmbgaaDoor
open Go Go.RowKit
theorem normD_len (l : List BOp) : (normD l).length ≤ l.length := by
  induction l with
  | nil => exact Nat.le_refl _
  | cons o r ih =>
    unfold normD
    split
    · rw [List.length_cons]; omega
    · rw [insB_eq]
      have := atB_le (f := BOp.key) (normD r) o.nrm.key
      simp only [List.length_append, List.length_take, List.length_drop, List.length_cons, List.length_nil]
      omega
end Go.Proofs.YtehheokalgmbgaaDoor
