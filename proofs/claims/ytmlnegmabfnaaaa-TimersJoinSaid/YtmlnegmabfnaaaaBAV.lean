/-
  Mor5.
-/
import Derived.Test.YtmlnegmabfnaaaaBAU
/-
  Rules of the walk with a value of one's choice.
-/
namespace Go.Proofs.Ytmlnegmabfnaaaa
open Go Go.RowKit
section
variable {P : Program} {W : World} {n : Nat} {E : Env} {H : List SP} {t u : TypeId} {x y : Operand} {kd : IntKind}
theorem Ev_quo_w {i j r : Int} (hx : Env.ev E x = some (.int .i64 i)) (hy : Env.ev E y = some (.int .i64 j)) (hb : 0 ≤ i ∧ i ≤ 9223372036854775807 ∧ 0 < j) (h : i / j = r) : Ev P W n E H (.binOp .quo t x y u) (.int .i64 r) := by
  subst h; exact Ev_quoI hx hy hb
end
end Go.Proofs.Ytmlnegmabfnaaaa
