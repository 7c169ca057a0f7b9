/-
  Mor4, Mor5.
-/
import Derived.Test.YtnkhohfbijkohaaGreatDoorTBG
set_option maxHeartbeats 64000000
namespace Go.Proofs.YtnkhohfbijkohaaGreatDoor
open Go Go.RowKit
section
variable {P:Program} {W:World} {n d:Nat} {E:Env} {H H' R:List SP} {t u e:TypeId} {x y z:Operand} {T:TypeId} {b off:Nat} {k:KK} {q:QQ}
theorem KJ_rest {G:Prop} {K:KK} (Q:KK→Prop) (main:Q K→G) (r:Q K):G:=main r
theorem at_seq_region {id:Nat} {ops:Array Oper} {dr:Bool} {c:Code} (h:KJ W n (.code P (Code.seq (Code.region id ops dr) c) q) E H):KJ W n (.code P (Code.seq (Code.region id ops dr) c) q) E H:=h
theorem zAi {i j r:Int} (hx:Env.ev E x=some (.int .i64 i)) (hy:Env.ev E y=some (.int .i64 j)) (h:i+j=r) (hb:-9223372036854775808≤r∧r≤9223372036854775807):Ev P W n E H (.binOp .add t x y u) (.int .i64 r):=by
 subst h;exact Ev_addI hx hy hb
theorem Ev_subI_v {i j r:Int} (hx:Env.ev E x=some (.int .i64 i)) (hy:Env.ev E y=some (.int .i64 j)) (h:i-j=r) (hb:-9223372036854775808≤r∧r≤9223372036854775807):Ev P W n E H (.binOp .sub t x y u) (.int .i64 r):=by
 subst h;exact Ev_subI hx hy hb
theorem Ev_mulI_v {i j r:Int} (hx:Env.ev E x=some (.int .i64 i)) (hy:Env.ev E y=some (.int .i64 j)) (h:i*j=r) (hb:-9223372036854775808≤r∧r≤9223372036854775807):Ev P W n E H (.binOp .mul t x y u) (.int .i64 r):=by
 subst h;exact Ev_mulI hx hy hb
theorem Ev_move_v {v v':Value} (hx:Env.ev E x=some v) (h:v=v'):Ev P W n E H (.move x) v':=by
 subst h;exact Ev_move hx
theorem Ev_neqS_t {a b:List UInt8} (hx:Env.ev E x=some (strV a)) (hy:Env.ev E y=some (strV b)) (h:a≠b):Ev P W n E H (.binOp .neq t x y u) (.bool true):=by
 have:=Ev_neqS (P:=P) (W:=W) (n:=n) (E:=E) (H:=H) (t:=t) (u:=u) hx hy
 rw [decide_eq_true (by exact h)] at this;exact this
theorem Ev_buildA {ps:List (Nat × Operand)} {pv:List (Nat × Value)} {vs:List Value} (hp:EvP E ps pv) (h:P.built t pv=some vs.toArray):Ev P W n E H (.build t ps.toArray) (.agg vs.toArray):=
 Ev.mk fun o ho a w p _=>by
  have e:(ps.toArray.map fun (i,x)=>(i,a.eval x)).toList=pv:=by
   rw [← hp.map p];simp
  have h1:=run_build (P:=P) w t (ps.toArray.map fun (i,x)=>(i,a.eval x)) vs.toArray (by rw [e];exact h)
  simp only [execOp,ho,Sem.run_bind,h1,Result.andThen_ok,Sem.run_pure]
end
end Go.Proofs.YtnkhohfbijkohaaGreatDoor
namespace Go.Proofs.YtnkhohfbijkohaaGreatDoor
open Go Go.RowKit
section
variable {P:Program} {W:World} {n:Nat} {E:Env} {H:List SP} {t u:TypeId} {x y:Operand} {kd:IntKind}
theorem Ev_rem_w {i j r:Int} (hx:Env.ev E x=some (.int kd i)) (hy:Env.ev E y=some (.int kd j)) (hb:0≤i∧0<j) (h:i % j=r):Ev P W n E H (.binOp .rem t x y u) (.int kd r):=by subst h;exact Ev_remI hx hy hb
theorem Ev_add_w {i j r:Int} (hx:Env.ev E x=some (.int kd i)) (hy:Env.ev E y=some (.int kd j)) (h:kd.wrap (i+j)=r):Ev P W n E H (.binOp .add t x y u) (.int kd r):=by subst h;exact Ev_add hx hy
theorem Ev_quo_w {i j r:Int} (hx:Env.ev E x=some (.int .i64 i)) (hy:Env.ev E y=some (.int .i64 j)) (hb:0≤i∧i≤9223372036854775807∧0<j) (h:i / j=r):Ev P W n E H (.binOp .quo t x y u) (.int .i64 r):=by
 subst h;exact Ev_quoI hx hy hb
theorem Ev_max_w {i j m:Int} {ts:Array TypeId} (hx:Env.ev E x=some (.int kd i)) (hy:Env.ev E y=some (.int kd j)) (h:max i j=m):Ev P W n E H (.call { callee:=.builtin .max,args:=#[x,y],argTypes:=ts }) (.int kd m):=by subst h;exact Ev_max hx hy
theorem Ev_or_w {i j r:Int} (hx:Env.ev E x=some (.int kd i)) (hy:Env.ev E y=some (.int kd j)) (h:bits .or kd i j=r):Ev P W n E H (.binOp .or t x y u) (.int kd r):=by subst h;exact Ev_or hx hy
end
end Go.Proofs.YtnkhohfbijkohaaGreatDoor
