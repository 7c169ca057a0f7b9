/-
  WpW1.
-/
import Derived.Test.YtnbgcimalpdfoaaGreatDoorQCY
import Derived.Test.YtnbgcimalpdfoaaGreatDoorQCX
/-
  The document's writing and reading of numbers of eight bytes (chapter 1), and the row of a window (chapter 19).
-/
namespace Go.Proofs.YtnbgcimalpdfoaaGreatDoor
open Go Go.RowKit
section
variable {P : Program} {W : World} {n : Nat} {E : Env} {H : List SP} {t u : TypeId} {x y : Operand} {kd : IntKind}
theorem Ev_quo_u {i j : Int} {r : Nat} (hx : Env.ev E x = some (.int kd i)) (hy : Env.ev E y = some (.int kd j)) (hb : 0 ≤ i ∧ 0 < j) (h : i / j = (r : Int)) (hw : kd.wrap ((r : Nat) : Int) = (r : Int)) : Ev P W n E H (.binOp .quo t x y u) (.int kd ((r : Nat) : Int)) := by
  have e : kd.wrap (i.tdiv j) = ((r : Nat) : Int) := by rw [Int.tdiv_eq_ediv_of_nonneg hb.1, h, hw]
  rw [← e]
  exact Ev_quo hx hy (by omega)
theorem Ev_mul_d {i j r : Int} (hx : Env.ev E x = some (.int kd i)) (hy : Env.ev E y = some (.int kd j)) (h : kd.wrap (i * j) = r) : Ev P W n E H (.binOp .mul t x y u) (.int kd r) := by subst h; exact Ev_mul hx hy
end
theorem valB_step {s : List UInt8} {k f : Nat} {b : UInt8} (h : s[k]? = some b) : valB ((s.drop k).take (f + 1)) = b.toNat + 256 * valB ((s.drop (k + 1)).take f) := by
  obtain ⟨hk, hb⟩ := List.getElem?_eq_some_iff.1 h
  rw [List.drop_eq_getElem_cons hk, hb]
  rfl
end Go.Proofs.YtnbgcimalpdfoaaGreatDoor
