/-
  AsV.
-/
import Derived.Test.YtmlnegmabfnaaaaBAU
import Derived.Test.YtmlnegmabfnaaaaBAO
/-
  A slot's value in another form; a quotient by its answer.
-/
namespace Go.Proofs.Ytmlnegmabfnaaaa
open Go Go.RowKit
theorem KJ.asv0 {W : World} {n : Nat} {k : KK} {E : Env} {H : List SP} (t : Nat) {v v' : Value} (q : Env.at E t = some v) (e : v = v') (h : KJ W n k ((t, v') :: E) H) : KJ W n k E H := by subst e; exact KJ.also t q h
theorem Ev_quo_v0 {P : Program} {W : World} {n : Nat} {E : Env} {H : List SP} {t u : TypeId} {x y : Operand} {kd : IntKind} {i j r : Int} (hx : Env.ev E x = some (.int kd i)) (hy : Env.ev E y = some (.int kd j)) (hj : j ≠ 0) (h : kd.wrap (i.tdiv j) = r) : Ev P W n E H (.binOp .quo t x y u) (.int kd r) := by subst h; exact Ev_quo hx hy hj
theorem Ev_sub_v0 {P : Program} {W : World} {n : Nat} {E : Env} {H : List SP} {t u : TypeId} {x y : Operand} {kd : IntKind} {i j r : Int} (hx : Env.ev E x = some (.int kd i)) (hy : Env.ev E y = some (.int kd j)) (h : kd.wrap (i - j) = r) : Ev P W n E H (.binOp .sub t x y u) (.int kd r) := by subst h; exact Ev_sub hx hy
theorem Ev_and_v0 {P : Program} {W : World} {n : Nat} {E : Env} {H : List SP} {t u : TypeId} {x y : Operand} {kd : IntKind} {i j r : Int} (hx : Env.ev E x = some (.int kd i)) (hy : Env.ev E y = some (.int kd j)) (h : bits .and kd i j = r) : Ev P W n E H (.binOp .and t x y u) (.int kd r) := by subst h; exact Ev_and hx hy
theorem at_seq_block0 {P : Program} {W : World} {n : Nat} {E : Env} {H : List SP} {q : QQ} {id : Nat} {c c2 : Code} (h : KJ W n (.code P (Code.seq (Code.block id c) c2) q) E H) : KJ W n (.code P (Code.seq (Code.block id c) c2) q) E H := h
end Go.Proofs.Ytmlnegmabfnaaaa
