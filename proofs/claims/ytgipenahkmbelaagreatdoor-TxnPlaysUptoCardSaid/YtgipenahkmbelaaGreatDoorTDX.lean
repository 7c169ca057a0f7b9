/-
  Errq, ErL.
-/
import Derived.Test.YtgipenahkmbelaaGreatDoorTBO
import Derived.Test.YtgipenahkmbelaaGreatDoorTFN
import Derived.Lib.LaidTab
import Derived.Test.YtgipenahkmbelaaGreatDoorTBB
set_option maxHeartbeats 64000000
namespace Go.Proofs.YtgipenahkmbelaaGreatDoor
open Go Go.RowKit
theorem equal_of_eql {P:Program} {w:World} {t:TypeId} {u1:TypeId} {x1:Value} {v2:Value} {b:Bool} (h:(binOp .eql t v2 (.iface u1 x1)).run P w=.ok (.bool b) w):(Op.equal t v2 (.iface u1 x1)).run P w=.ok b w:=by
 have e:binOp .eql t v2 (.iface u1 x1)=(do pure (.bool (← Op.equal t v2 (.iface u1 x1)))):=by
  cases v2 <;> rfl
 rw [e] at h
 simp only [Sem.run_bind] at h
 cases hq:(Op.equal t v2 (.iface u1 x1)).run P w with
 |ok c w'=>
  rw [hq] at h
  simp only [Result.andThen_ok,Sem.run_pure,Result.ok.injEq,Value.bool.injEq] at h
  rw [h.1,h.2]
 |_=>rw [hq] at h;simp [Result.andThen] at h
section
variable {W:World} {n:Nat} {E:Env} {H:List SP} {x y:Operand} {u:TypeId} {F:Nat→Addr}
theorem err_eql {S:List Nat} (hE:ErrsOn S W F) {w:World} (bl:Below W.heap.size W w) (a b:Nat) (ha:a=0∨a ∈ S) (hb:b ∈ S):(binOp .eql 40 (errV F a) (errV F b)).run Tryz.prog w=.ok (.bool (decide (a=b))) w:=by
 have hw:=hE.later bl
 have hb1:=hE.pos b hb
 rw [errV_pos F b hb1]
 by_cases h0:a=0
 ·subst h0
  rw [decide_eq_false (by omega)]
  exact run_eql_iface_nil_left w _ _ Tryz.underlying40
 ·rw [errV_pos F a (by omega)]
  by_cases hab:a=b
  ·subst hab
   rw [decide_eq_true rfl]
   exact eql_same w _
  ·rw [decide_eq_false hab]
   have ha:a ∈ S:=ha.resolve_left h0
   obtain ⟨ca,ta,h1⟩:=hw.obj a ha
   obtain ⟨cb,tb,h2⟩:=hw.obj b hb
   exact eql_other w _ _ (fun e=>hab (hw.inj _ _ ha hb e)) h1 h2
theorem err_guard (op:BinOp) (t:TypeId) (a b:Nat) (hb:1≤b) (w:World):(eqGuard op t x y (errV F a) (errV F b)).run Tryz.prog w=.ok () w:=by
 rw [errV_pos F b hb]
 by_cases h0:a=0
 ·subst h0
  cases op <;> rfl
 ·rw [errV_pos F a (by omega)]
  cases op <;> rfl
theorem Ev_eqlE {a b:Nat} {q:Bool} {S:List Nat} (hE:ErrsOn S W F) (hx:Env.ev E x=some (errV F a)) (hy:Env.ev E y=some (errV F b)) (ha:a=0∨a ∈ S) (hb:b ∈ S) (hq:decide (a=b)=q):Ev Tryz.prog W n E H (.binOp .eql 40 x y u) (.bool q):=
 Ev.mk fun o ho ac w p s=>by
  subst hq
  have h1:=err_guard (x:=x) (y:=y) (F:=F) .eql 40 a b (hE.pos b hb) w
  have h2:=err_eql hE s.below a b ha hb
  simp only [execOp,ho,p.ev hx,p.ev hy,Sem.run_bind,h1,h2,Result.andThen_ok,Sem.run_pure]
theorem Ev_neqE {a b:Nat} {q:Bool} {S:List Nat} (hE:ErrsOn S W F) (hx:Env.ev E x=some (errV F a)) (hy:Env.ev E y=some (errV F b)) (ha:a=0∨a ∈ S) (hb:b ∈ S) (hq:decide (a≠b)=q):Ev Tryz.prog W n E H (.binOp .neq 40 x y u) (.bool q):=
 Ev.mk fun o ho ac w p s=>by
  subst hq
  have h1:=err_guard (x:=x) (y:=y) (F:=F) .neq 40 a b (hE.pos b hb) w
  have h2:=err_eql hE s.below a b ha hb
  have h3:(binOp .neq 40 (errV F a) (errV F b)).run Tryz.prog w=.ok (.bool (decide (a≠b))) w:=by
   rw [errV_pos F b (hE.pos b hb)] at h2 ⊢
   have h4:=equal_of_eql h2
   have e:binOp .neq 40 (errV F a) (.iface 256 (.pointer (some (F b))))=(do pure (.bool (!(← Op.equal 40 (errV F a) (.iface 256 (.pointer (some (F b)))))))):=by
    cases errV F a <;> rfl
   rw [e,Sem.run_bind,h4]
   simp
  simp only [execOp,ho,p.ev hx,p.ev hy,Sem.run_bind,h1,h3,Result.andThen_ok,Sem.run_pure]
end
theorem nibs_of_laid (at_ : Nat) {laid : List (String × DataW Unit)} {W : World} (hp : (laid.all fun x => x.2.handleName?.isNone) = true) (hi : laid[at_]? = some ("remit/checks.nibbles", Lib.tabData .u32 nibT)) (h : laidMetH Tryz.prog laid W) : NibAt W := by
 rw [MakeChecks.laidMetH_plain _ _ _ hp] at h
 obtain ⟨ps,hL,hnd,_⟩:=h
 obtain ⟨pl,h1,_⟩:=laidVars_at hL hnd
 obtain ⟨g,t,cs,fuel,a1,a2,a3,a4,_,_⟩:=h1 _ _ _ hi
 obtain rfl := Option.some.inj ((show Tryz.prog.globalNamed "remit/checks.nibbles" = some 37 by kernel_rfl).symm.trans a1)
 obtain rfl:=Option.some.inj ((show (Tryz.prog.globals[37]?).map (·.type)=some 255 by kernel_rfl).symm.trans a2)
 have hcs:=Lib.cells_of_tab Tryz.underlying255 Tryz.underlying222 (by kernel_rfl) (by kernel_rfl) a4
 intro i hi'
 have:=World.var?_cell a1 a3 i
 rw [this]
 have e:cs[i]? = cs.toList[i]?:=by simp
 rw [e,hcs]
 have hn:i<nibT.length:=hi'
 simp [List.getD,hn]
end Go.Proofs.YtgipenahkmbelaaGreatDoor
namespace Go.Proofs.YtgipenahkmbelaaGreatDoor
open Go Go.RowKit
abbrev L16:List Nat:=[1,2,3,4,5,6,7,12,13,14,15,16,17,18,19,21]
section
variable {W:World} {F:Nat→Addr}
theorem ErrsOn.lo {S T:List Nat} (h:ErrsOn S W F) (hs:∀ k,k ∈ T→k ∈ S):ErrsOn T W F:=
 ⟨fun k hk=>h.at_ k (hs k hk),fun k hk=>h.obj k (hs k hk),fun j k hj hk=>h.inj j k (hs j hj) (hs k hk),fun k hk=>h.pos k (hs k hk)⟩
theorem ErrsOn.to8 (h:ErrsOn L16 W F):ErrsOn L8 W F:=h.lo (by decide)
theorem ErrsAt.to16 (h:ErrsAt W F):ErrsOn L16 W F:=by
 have hS:∀ k ∈ L16,1≤k∧k≤37:=by decide
 exact ⟨fun k hk=>h.at_ k (hS k hk).1 (hS k hk).2,fun k hk=>h.obj k (hS k hk).1 (hS k hk).2,fun j k hj hk=>h.inj j k (hS j hj).1 (hS j hj).2 (hS k hk).1 (hS k hk).2,fun k hk=>(hS k hk).1⟩
end
end Go.Proofs.YtgipenahkmbelaaGreatDoor
