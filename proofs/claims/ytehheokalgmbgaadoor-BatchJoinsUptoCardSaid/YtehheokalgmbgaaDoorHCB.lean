/-
  RuP, RdW3.
-/
import Derived.Test.YtehheokalgmbgaaDoorHBI
import Derived.Test.YtehheokalgmbgaaDoorHBS
import Derived.Test.YtehheokalgmbgaaDoorHAM
/-
  A number read byte by byte; a bitwise and, a shift to the left.
-/
namespace Go.Proofs.YtehheokalgmbgaaDoor
open Go Go.RowKit
/-- a number being read: its first i bytes have made x -/
structure RuI (l : List UInt8) (i x : Nat) : Prop where
  go : ruG (l.drop i) i x = ru l
  i9 : i ≤ 9
  x7 : x < 2 ^ (7 * i)
  il : i ≤ l.length
theorem RuI.start (l : List UInt8) : RuI l 0 0 := ⟨rfl, by omega, by simp, by omega⟩
theorem drop_get {l : List UInt8} {i : Nat} {b : UInt8} (hb : l[i]? = some b) : l.drop i = b :: l.drop (i + 1) := by
  obtain ⟨h1, h2⟩ := List.getElem?_eq_some_iff.1 hb
  rw [List.drop_eq_getElem_cons h1, h2]
section
variable {l : List UInt8} {i x : Nat} {b : UInt8}
theorem RuI.bad (h : RuI l i x) (hb : l[i]? = some b) (hc : i = 9 ∧ 1 < b.toNat) : ru l = .bad 2 := by
  rw [← h.go, drop_get hb]; unfold ruG; rw [if_pos hc]
theorem RuI.nought (h : RuI l i x) (hb : l[i]? = some b) (h0 : b.toNat = 0) (hi : 0 < i) : ru l = .bad 2 := by
  rw [← h.go, drop_get hb]; unfold ruG; rw [if_neg (by omega), if_pos (by omega), if_pos ⟨h0, hi⟩]
theorem RuI.done (h : RuI l i x) (hb : l[i]? = some b) (hn : ¬ (i = 9 ∧ 1 < b.toNat)) (hs : b.toNat < 128) (h0 : ¬ (b.toNat = 0 ∧ 0 < i)) : ru l = .ok (x + b.toNat % 128 * 2 ^ (7 * i)) (l.drop (i + 1)) := by
  rw [← h.go, drop_get hb]; unfold ruG; rw [if_neg hn, if_pos hs, if_neg h0, Nat.mod_eq_of_lt hs]
theorem RuI.next (h : RuI l i x) (hb : l[i]? = some b) (hn : ¬ (i = 9 ∧ 1 < b.toNat)) (hs : ¬ b.toNat < 128) : RuI l (i + 1) (x + b.toNat % 128 * 2 ^ (7 * i)) := by
  have h1 := (List.getElem?_eq_some_iff.1 hb).1
  have h9 := h.i9
  refine ⟨?_, by omega, ?_, by omega⟩
  · rw [← h.go, drop_get hb]
    conv => rhs; unfold ruG
    rw [if_neg hn, if_neg hs]
  · have hx := h.x7
    have : b.toNat % 128 ≤ 127 := by omega
    have := Nat.mul_le_mul_right (2 ^ (7 * i)) this
    have e : (2 : Nat) ^ (7 * (i + 1)) = 128 * 2 ^ (7 * i) := by rw [Nat.mul_add, Nat.pow_add, Nat.mul_comm]
    omega
theorem RuI.len {z : Nat} {j : Nat} (h : ru l = .ok z (l.drop j)) (hj : j ≤ l.length) : (vu z).length = j := by
  have := congrArg List.length (vu_ru h).1
  rw [List.length_append, List.length_drop] at this
  omega
end
end Go.Proofs.YtehheokalgmbgaaDoor
/-
  The package wire: a reader goes back where a read is refused; Upto, Text.
-/
namespace Go.Proofs.YtehheokalgmbgaaDoor
open Go Go.RowKit
theorem Ev_mkFunc2 {P : Program} {W : World} {n : Nat} {E : Env} {H : List SP} {f : FuncId} {x y : Operand} {u v : Value} (hx : Env.ev E x = some u) (hy : Env.ev E y = some v) : Ev P W n E H (.makeFunc (.func f) #[] #[x, y]) (.func (.func f) #[] #[u, v]) :=
  Ev_mkFunc (f := .func f) (xs := []) (ys := [x, y]) (us := []) (vs := [u, v]) Evs.nil (.cons hx (.cons hy Evs.nil)) rfl
end Go.Proofs.YtehheokalgmbgaaDoor
