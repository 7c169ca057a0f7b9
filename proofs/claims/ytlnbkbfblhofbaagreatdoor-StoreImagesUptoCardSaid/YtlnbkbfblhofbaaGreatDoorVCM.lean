/-
  Mp2.
-/
import Derived.Test.YtlnbkbfblhofbaaGreatDoorVCG
set_option maxHeartbeats 64000000
namespace Go.Proofs.YtlnbkbfblhofbaaGreatDoor
open Go Go.RowKit Go.MapKept
section
variable {P:Program} {W w:World} {n d:Nat} {E:Env} {H H' R:List SP} {k:KK} {t kt e:TypeId} {x y z:Operand}
variable {α β:Type} [DecidableEq α] {kf:α→Value} {vf:β→Value} {b r:Nat} {m left:List (α × β)}
theorem yNW (es:Array MapEntry):leftOf es #[]=es:=by
 unfold leftOf
 exact Array.filter_eq_self.2 zW
omit [DecidableEq α] in
theorem yNX (hx:Env.ev E x=some (.map (some b))) [hu:UIs P t (.map kt e)] (hs:Sel (yR8 kf vf b m) H R) (hn:Nat.blt d n=true)
 (h:∀ r,KJ W n k ((d,zPp r)::E) (yHC kf vf b r m m none::R)):KJ W n (.oper P (.range t x) (some d) k) E H:=by
 refine yR4 (X:=Nat) (v:=fun r=>(zPp r)) (H':=fun r=>yHC kf vf b r m m none::R) (fun o ho a w M p s=>?_) hn h
 obtain ⟨es,c,hb,h1,h2⟩:=s.map (hs.app M)
 have hrun:=run_range_map (P:=P) w t kt e b es c hu.h hb
 refine ⟨w.heap.size,w.alloc (.mapIter (some b) c #[] c),.inl (by simp [execOp,ho,p.ev hx,hrun,Result.andThen]),?_⟩
 refine St.act (A:=[yR8 kf vf b m]) (B:=[yHC kf vf b w.heap.size m m none]) (H:=R++M) (s.perm (hs.app M).perm) rfl rfl rfl zW ?_
 intro h1' ⟨h,_,_,le,_,⟨es',c',q,_⟩,_⟩ lies
 have hq:=(lies _ _ (le _ _ q)).2
 rw [hb] at hq;cases hq
 have hbl:=lies.lt (le _ _ q)
 have hne:b≠w.heap.size:=zO
 refine ⟨fun k=>if k=w.heap.size then some (.mapIter (some b) c #[] c) else if k=b then some (.map es c) else none,yBn ⟨es,c,c,#[],c,by simp [hne],by simp,h1,h2,h1.1,Nat.le_refl _,Nat.le_refl _,by rw [yNW];exact h2,trivial⟩,fun k o hk=>?_,fun k o hk=>?_,fun k hk _=>heap_alloc_old w _ hk⟩
 ·dsimp only at hk
  split at hk
  ·rename_i e0;subst e0;cases hk;exact heap_alloc_new w _
  ·split at hk
   ·rename_i e0;subst e0;cases hk;rw [heap_alloc_old w _ hbl];exact hb
   ·cases hk
 ·dsimp only at hk
  split at hk
  ·rename_i e0;exact .inr zO
  ·split at hk
   ·rename_i e0;subst e0;exact .inl ⟨_,le _ _ q⟩
   ·cases hk
theorem yNY {es:Array MapEntry} {clock:Nat} (hs:Stamped es clock) (K:∀ a b,kf a=kf b→a=b) (_:kvs es.toList=yIb kf vf m) {seen:Array Nat} (hl:kvs (leftOf es seen).toList=yIb kf vf left) {e0:MapEntry} (he:e0 ∈ (leftOf es seen).toList) {p:α × β} (hp:e0.key=kf p.1) :
 kvs (leftOf es (seen.push e0.born)).toList=yIb kf vf (left.filter fun q=>decide (q.1≠p.1)):=by
 have hm:=(mem_left he).1
 have e1:(leftOf es (seen.push e0.born)).toList=(leftOf es seen).toList.filter (fun x=>decide (x.born≠e0.born)):=by
  unfold leftOf
  rw [Array.toList_filter,Array.toList_filter,List.filter_filter]
  refine List.filter_congr (fun x _=>?_)
  rw [contains_push]
  cases hc:seen.contains x.born <;> by_cases hb:x.born=e0.born <;> simp [hb]
 have hsub:∀ x ∈ (leftOf es seen).toList,x ∈ es.toList:=fun x hx=>(mem_left hx).1
 have hdec:∀ x ∈ (leftOf es seen).toList,(x.born=e0.born↔x.key=e0.key):=fun x hx=>by
  have hx2:=hsub x hx
  constructor
  ·intro hb
   have:=born_inj hs.2.1 hx2 hm hb
   rw [this]
  ·intro hk
   have hn:=hs.2.2
   obtain ⟨i,hi,ei⟩:=List.getElem_of_mem hx2
   obtain ⟨j,hj,ej⟩:=List.getElem_of_mem hm
   have:(es.toList.map (·.key))[i]'(by simpa using hi)=(es.toList.map (·.key))[j]'(by simpa using hj):=by
    rw [List.getElem_map,List.getElem_map,ei,ej,hk]
   have hij:=(List.getElem_inj hn).1 this
   subst hij
   rw [← ei,← ej]
 rw [e1]
 have key:∀ (l:List MapEntry) (r:List (α × β)),kvs l=yIb kf vf r→(∀ x ∈ l,(x.born=e0.born↔x.key=e0.key))→kvs (l.filter fun x=>decide (x.born≠e0.born))=yIb kf vf (r.filter fun q=>decide (q.1≠p.1)):=by
  intro l
  induction l with
  |nil=>intro r hr _;cases r with
   |nil=>rfl
   |cons q r=>cases hr
  |cons x l ih=>
   intro r hr hd
   cases r with
   |nil=>cases hr
   |cons q r=>
    simp only [kvs,yIb,List.map_cons,List.cons.injEq,Prod.mk.injEq] at hr
    obtain ⟨⟨k1,k2⟩,k3⟩:=hr
    have:=ih r k3 (fun y hy=>hd y (by simp [hy]))
    simp only [kvs,yIb] at this
    have hx0:=hd x zW
    by_cases hq:q.1=p.1
    ·have hx:x.born=e0.born:=hx0.2 (by rw [k1,hp,hq])
     simp [kvs,yIb,hx,hq] at this ⊢
     exact this
    ·have hx:¬ x.born=e0.born:=fun h=>hq (K _ _ (by rw [← k1,hx0.1 h,hp]))
     simp [kvs,yIb,hx,hq,k1,k2] at this ⊢
     exact this
 exact key _ _ hl hdec
theorem yQj {ty:TypeId} {c:Option (α × β)} (K:KyOk P kt kf) (hx:Env.ev E x=some (zPp r)) (hs:Sel (yHC kf vf b r m left c) H R) (hn:Nat.blt d n=true) (_ht:ty=ty)
 (h0:left=[]→KJ W n k ((d,.tuple #[.bool false])::E) (yHC kf vf b r m left c::R))
 (h1:∀ p,p ∈ left→KJ W n k ((d,.tuple #[.bool true,kf p.1,vf p.2])::E) (yHC kf vf b r m (left.filter fun q=>decide (q.1≠p.1)) (some p)::R)):KJ W n (.oper P (.next x false) (some d) k) E H:=by
 refine ⟨fun a w p s o ho hd=>?_⟩
 show uponP P o a _ ((execOp a.eval o).run P w)
 obtain ⟨hh,⟨es,clock,since,seen,c0,q1,q2,hst,hkv,yCO,hsc,hsk,hlf,hcur⟩,ls⟩:=(s.sel (hs.app (dm a.defers)) yOZ)
 have hb:=(ls _ _ q1).2
 have hr:=(ls _ _ q2).2
 have hrl:=ls.lt q2
 have hbl:=ls.lt q1
 rcases run_next_at (P:=P) w o.type r b since c0 seen es clock hr hb yCO hsc with ⟨l0,hrun⟩|⟨e0,he0,w1,hw1,hrun⟩
 ·have hl:left=[]:=by
   have:(leftOf es seen).toList=[]:=by
    rw [← List.length_eq_zero_iff,Array.length_toList];exact l0
   rw [this] at hlf
   cases left with
   |nil=>rfl
   |cons q l=>cases hlf
  have e2:(execOp a.eval o).run P w=.ok (.value (.tuple #[.bool false])) w:=by
   simp [execOp,ho,p.ev hx,hrun,Result.andThen]
  rw [e2]
  have:=(h0 hl).go _ w (p.put (d:=some d) hn _) (by show St W _ w;rw [yBE];exact s.perm (hs.app _).perm)
  rw [← hd] at this
  exact this
 ·obtain ⟨pp,hpl,hpk,hpv⟩:=ySa hlf he0
  have e2:(execOp a.eval o).run P w=.ok (.value (.tuple #[.bool true,kf pp.1,vf pp.2])) (ChangeMaps.setBlock w1 r (.mapIter (some b) since (seen.push e0.born) clock)):=by
   rw [← hpk,← hpv]
   simp [execOp,ho,p.ev hx,hrun,Result.andThen]
  rw [e2]
  obtain ⟨g1,g2,dj,hA,hH,l1,l2⟩:=(show St W ([yHC kf vf b r m left c]++(R++dm a.defers)) w from s.perm (hs.app (dm a.defers)).perm).split
  obtain ⟨ha,_,_,le,_,⟨es',clock',since',seen',c0',z1,z2,_⟩,_⟩:=hA
  have hw:w1.heap=w.heap∧w1.os=w.os∧w1.tape=w.tape∧w1.output=w.output:=by rcases hw1 with rfl|rfl <;> exact ⟨rfl,rfl,rfl,rfl⟩
  have hrb:r≠b:=by intro e;rw [e,hb] at hr;cases hr
  have hpl2:(ChangeMaps.setBlock w1 r (.mapIter (some b) since (seen.push e0.born) clock)).heap=w.heap.setIfInBounds r (.mapIter (some b) since (seen.push e0.born) clock):=by show w1.heap.setIfInBounds _ _=_;rw [hw.1]
  have st:St W (yHC kf vf b r m (left.filter fun q=>decide (q.1≠pp.1)) (some pp)::(R++dm a.defers)) (ChangeMaps.setBlock w1 r (.mapIter (some b) since (seen.push e0.born) clock)):=by
   refine St.join (B:=[yHC kf vf b r m (left.filter fun q=>decide (q.1≠pp.1)) (some pp)]) (g:=fun k=>if k=r then some (.mapIter (some b) since (seen.push e0.born) clock) else if k=b then some (.map es clock) else none) s.below dj hH l1 l2 (yBn ⟨es,clock,since,seen.push e0.born,clock,by simp [Ne.symm hrb],by simp,hst,hkv,yCO,hsk,hsk,yNY hst K.inj hkv hlf he0 hpk,rfl,e0,(mem_left he0).1,hpk,hpv,by simp⟩) hw.2.1 hw.2.2.1 hw.2.2.2 (by rw [hpl2];simp) ?_ ?_ ?_
   ·intro kk o q
    rw [hpl2]
    split at q
    ·rename_i e;subst e;cases q;simp [hrl]
    ·rename_i hne
     split at q
     ·rename_i e;subst e;cases q
      rw [zLx (Ne.symm hne)];exact hb
     ·cases q
   ·intro kk o q
    split at q
    ·rename_i e;subst e;exact .inl ⟨_,le _ _ z2⟩
    ·split at q
     ·rename_i e;subst e;exact .inl ⟨_,le _ _ z1⟩
     ·cases q
   ·intro kk _ hnone
    rw [hpl2,zLx (fun e=>by subst e;rw [le _ _ z2] at hnone;cases hnone)]
  have:=(h1 pp hpl).go _ _ (p.put (d:=some d) hn _) (by show St W _ _;rw [yBE];exact st)
  rw [← hd] at this
  exact this
omit [DecidableEq α] in
theorem yU3 {p:α × β} (hx:Env.ev E x=some (zPp r)) (hs:Sel (yHC kf vf b r m left (some p)) H R):Ev P W n E H (.entry x) (.tuple #[kf p.1,vf p.2]):=
 Ev.mk fun o ho a w q s=>by
  obtain ⟨hh,⟨es,clock,since,seen,c0,q1,q2,hst,hkv,yCO,hsc,hsk,hlf,rfl,e0,he0,hk,hv,hbk⟩,ls⟩:=s.sel hs yOZ
  have hb:=(ls _ _ q1).2
  have hr:=(ls _ _ q2).2
  have hf:es.find? (·.born == e0.born)=some e0:=by rw [← Array.find?_toList];exact find_born e0 es.toList hst.2.1 he0
  have hrun:(Instr.entry (zPp r)).run P w=.ok (.tuple #[e0.key,e0.val]) w:=by
   simp only [Instr.entry,getObj,Sem.run_bind,Sem.run,hr,hb,Result.andThen,hbk,bne_self_eq_false,Bool.false_eq_true,if_false,hf]
   rfl
  simp [execOp,ho,q.ev hx,hrun,hk,hv]
end
end Go.Proofs.YtlnbkbfblhofbaaGreatDoor
