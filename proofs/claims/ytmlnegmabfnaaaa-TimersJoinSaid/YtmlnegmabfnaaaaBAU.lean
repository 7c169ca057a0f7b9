/-
  Mor4.
-/
import Derived.Test.YtmlnegmabfnaaaaBAQ
/-
  More rules of the walk: one text for what several ways have in common; sums with a value of one's choice.
-/
namespace Go.Proofs.Ytmlnegmabfnaaaa
open Go Go.RowKit
section
variable {P : Program} {W : World} {n d : Nat} {E : Env} {H H' R : List SP} {t u e : TypeId} {x y z : Operand} {T : TypeId} {b off : Nat} {k : KK} {q : QQ}
/-- what several ways have in common: K is found by the first of them -/
theorem KJ_rest {G : Prop} {K : KK} (Q : KK → Prop) (main : Q K → G) (r : Q K) : G := main r
theorem at_seq_region {id : Nat} {ops : Array Oper} {dr : Bool} {c : Code} (h : KJ W n (.code P (Code.seq (Code.region id ops dr) c) q) E H) : KJ W n (.code P (Code.seq (Code.region id ops dr) c) q) E H := h
theorem Ev_addI_v {i j r : Int} (hx : Env.ev E x = some (.int .i64 i)) (hy : Env.ev E y = some (.int .i64 j)) (h : i + j = r) (hb : -9223372036854775808 ≤ r ∧ r ≤ 9223372036854775807) : Ev P W n E H (.binOp .add t x y u) (.int .i64 r) := by
  subst h; exact Ev_addI hx hy hb
theorem Ev_subI_v {i j r : Int} (hx : Env.ev E x = some (.int .i64 i)) (hy : Env.ev E y = some (.int .i64 j)) (h : i - j = r) (hb : -9223372036854775808 ≤ r ∧ r ≤ 9223372036854775807) : Ev P W n E H (.binOp .sub t x y u) (.int .i64 r) := by
  subst h; exact Ev_subI hx hy hb
theorem Ev_mulI_v {i j r : Int} (hx : Env.ev E x = some (.int .i64 i)) (hy : Env.ev E y = some (.int .i64 j)) (h : i * j = r) (hb : -9223372036854775808 ≤ r ∧ r ≤ 9223372036854775807) : Ev P W n E H (.binOp .mul t x y u) (.int .i64 r) := by
  subst h; exact Ev_mulI hx hy hb
theorem Ev_move_v {v v' : Value} (hx : Env.ev E x = some v) (h : v = v') : Ev P W n E H (.move x) v' := by
  subst h; exact Ev_move hx
end
end Go.Proofs.Ytmlnegmabfnaaaa
