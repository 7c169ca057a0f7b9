/-
  Mor2.
-/
import Derived.Test.YtmlnegmabfnaaaaBAM
import Derived.Test.YtmlnegmabfnaaaaBAN
import Derived.Test.YtmlnegmabfnaaaaBAE
/-
  More rules of the walk: bits, complements, parts of a slice to one end, copies of a string, known answers.
-/
namespace Go.Proofs.Ytmlnegmabfnaaaa
open Go Go.RowKit
section
variable {P : Program} {W : World} {n d : Nat} {E : Env} {H H' R : List SP} {t u e : TypeId} {x y z : Operand} {T : TypeId} {b off : Nat} {k : KK}
theorem Ev_and {kd : IntKind} {i j : Int} (hx : Env.ev E x = some (.int kd i)) (hy : Env.ev E y = some (.int kd j)) : Ev P W n E H (.binOp .and t x y u) (.int kd (bits .and kd i j)) := Ev_bits (.inl rfl) hx hy fun _ => rfl
theorem Ev_geqI_q {kd : IntKind} {i j : Int} {q : Bool} (hx : Env.ev E x = some (.int kd i)) (hy : Env.ev E y = some (.int kd j)) (h : decide (j ≤ i) = q) : Ev P W n E H (.binOp .geq t x y u) (.bool q) := by
  subst h; exact Ev_geqI hx hy
theorem Ev_gtrI_q {kd : IntKind} {i j : Int} {q : Bool} (hx : Env.ev E x = some (.int kd i)) (hy : Env.ev E y = some (.int kd j)) (h : decide (j < i) = q) : Ev P W n E H (.binOp .gtr t x y u) (.bool q) := by
  subst h; exact Ev_gtrI hx hy
theorem Ev_leqI_q {kd : IntKind} {i j : Int} {q : Bool} (hx : Env.ev E x = some (.int kd i)) (hy : Env.ev E y = some (.int kd j)) (h : decide (i ≤ j) = q) : Ev P W n E H (.binOp .leq t x y u) (.bool q) := by
  subst h; exact Ev_leqI hx hy
theorem Ev_lssI_q {kd : IntKind} {i j : Int} {q : Bool} (hx : Env.ev E x = some (.int kd i)) (hy : Env.ev E y = some (.int kd j)) (h : decide (i < j) = q) : Ev P W n E H (.binOp .lss t x y u) (.bool q) := by
  subst h; exact Ev_lssI hx hy
theorem Ev_neqI_t {kd : IntKind} {i j : Int} (hx : Env.ev E x = some (.int kd i)) (hy : Env.ev E y = some (.int kd j)) (h : i ≠ j) : Ev P W n E H (.binOp .neq t x y u) (.bool true) := by
  have := Ev_neqI (P := P) (W := W) (n := n) (E := E) (H := H) (t := t) (u := u) hx hy
  rw [decide_eq_true (by exact h)] at this; exact this
end
end Go.Proofs.Ytmlnegmabfnaaaa
