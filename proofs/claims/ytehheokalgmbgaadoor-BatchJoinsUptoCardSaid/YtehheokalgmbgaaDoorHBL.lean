/-
  BaR2.
-/
import Derived.Test.YtehheokalgmbgaaDoorHBK
/-
  The document's answer for chapter 12: Normal. Printed by genbar2.py.
-/
namespace Go.Proofs.YtehheokalgmbgaaDoor
open Go Go.RowKit
/-- room is made at k: what stood from k on is one further, at k stands y -/
def shL {α : Type} (l : List α) (k : Nat) (y : α) : List α := l.take k ++ y :: l.drop k
section
variable {α : Type}
theorem shL_len (l : List α) {k : Nat} (y : α) (h : k ≤ l.length) : (shL l k y).length = l.length + 1 := by
  unfold shL
  rw [List.length_append, List.length_cons, List.length_take, List.length_drop]; omega
theorem shL_get (l : List α) {k : Nat} (y : α) (h : k < l.length) : (shL l (k + 1) y)[k]? = l[k]? := by
  unfold shL
  rw [List.getElem?_append_left (by rw [List.length_take]; omega), List.getElem?_take, if_pos (by omega)]
theorem shL_set (l : List α) {k : Nat} (y x : α) (h : k ≤ l.length) : (shL l k y).set k x = shL l k x := by
  unfold shL
  rw [List.set_append_right _ _ (by rw [List.length_take]; omega)]
  rw [List.length_take, Nat.min_eq_left h, Nat.sub_self]
  rfl
theorem shL_down (l : List α) {k : Nat} {x : α} (hx : l[k]? = some x) : shL l (k + 1) x = shL l k x := by
  obtain ⟨h, e⟩ := List.getElem?_eq_some_iff.1 hx
  unfold shL
  rw [List.take_add_one, hx, List.drop_eq_getElem_cons h, e]
  simp
theorem shL_end (l : List α) (y : α) : l ++ [y] = shL l l.length y := by simp [shL]
end
theorem normD_len (l : List BOp) : (normD l).length ≤ l.length := by
  induction l with
  | nil => exact Nat.le_refl _
  | cons o r ih =>
    unfold normD
    split
    · rw [List.length_cons]; omega
    · rw [insB_eq]
      have := atB_le (f := BOp.key) (normD r) o.nrm.key
      simp only [List.length_append, List.length_take, List.length_drop, List.length_cons, List.length_nil]
      omega
end Go.Proofs.YtehheokalgmbgaaDoor
