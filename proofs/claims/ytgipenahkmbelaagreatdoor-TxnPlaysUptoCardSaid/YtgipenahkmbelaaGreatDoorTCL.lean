/-
  Mp, Mp2.
-/
import Derived.Test.YtgipenahkmbelaaGreatDoorTAK
import Derived.MapKept
import Derived.Maps.RangeRun
set_option maxHeartbeats 64000000
namespace Go.Proofs.YtgipenahkmbelaaGreatDoor
open Go Go.RowKit Go.MapKept
section
variable {P:Program} {W:World} {n:Nat} {E:Env} {H H' R:List SP} {k:KK} {op:Op} {dd:Option Tmp}
theorem KJ_eff {X:Type} {v:X→Value} {H':X→List SP} (hr:∀ o:Oper,o.op=op→∀ a w M,Hd n E a→St W (H++M) w→∃ x w',((execOp a.eval o).run P w=.ok (.value (v x)) w'∨(v x=undef∧(execOp a.eval o).run P w=.ok .skip w'))∧St W (H' x++M) w')
 (hn:dstOk n dd=true) (h:∀ x,KJ W n k (Env.put E dd (v x)) (H' x)):KJ W n (.oper P op dd k) E H:=by
 refine ⟨fun a w p s o ho hd=>?_⟩
 show uponP P o a _ ((execOp a.eval o).run P w)
 obtain ⟨x,w',hrun,s'⟩:=hr o ho a w (dm a.defers) p s
 have:=(h x).go _ w' (p.put hn (v x)) (by show St W (H' x++dm (a.put dd (v x)).defers) _;rw [put_defers];exact s')
 rw [← hd] at this
 rcases hrun with e|⟨e0,e⟩
 ·rw [e];exact this
 ·rw [e];rw [e0] at this;exact this
end
structure KyOk (P:Program) (k:TypeId) {α:Type} (kf:α→Value):Prop where
 inj:∀ a b,kf a=kf b→a=b
 check:∀ w em a,(Instr.checkKey em 10000 k (kf a)).run P w=.ok () w
 find:∀ w a (es:List MapEntry),(∀ e ∈ es,∃ b,e.key=kf b)→((Instr.findKey k (kf a) es).run P w=.ok none w∧∀ e ∈ es,e.key≠kf a)∨∃ j e,(Instr.findKey k (kf a) es).run P w=.ok (some (j,e.val)) w∧es[j]? = some e∧e.key=kf a
 stays:∀ w a,(Instr.keyThatStays (kf a) (kf a)).run P w=.ok (kf a) w
theorem ky_plain {P:Program} {k:TypeId} {d:TypeDesc} {α:Type} {kf:α→Value} (hu:P.underlying k=some d) (hk:∀ a,IsKey d (kf a)) (inj:∀ a b,kf a=kf b→a=b):KyOk P k kf where
 inj:=inj
 check:=fun w em a=>run_checkKey hu (hk a) em 9999
 find:=fun w a es hes=>by
  rcases findNow_spec (hk a) es 0 (fun e he=>by obtain ⟨b,hb⟩:=hes e he;rw [hb];exact hk b) with ⟨h1,h2⟩|⟨j,e0,h1,h2,h3⟩
  ·exact .inl ⟨run_findKey hu h1,h2⟩
  ·exact .inr ⟨j,e0,by simpa using run_findKey hu h1,h2,h3⟩
 stays:=fun w a=>run_keyThatStays (hk a)
theorem ky_str {P:Program} {k:TypeId} (hu:P.underlying k=some .string):KyOk P k strV:=
 ky_plain hu (fun _=>trivial) (fun a b h=>by simpa using h)
section
variable {α β:Type} [DecidableEq α]
def lk:List (α × β)→α→Option β
 |[],_=>none
 |p::m,a=>if p.1=a then some p.2 else lk m a
def mput (m:List (α × β)) (a:α) (v:β):List (α × β):=if (lk m a).isSome then m.map (fun p=>if p.1=a then (a,v) else p) else m++[(a,v)]
def mdel (m:List (α × β)) (a:α):List (α × β):=m.filter (fun p=>decide (p.1≠a))
theorem lk_none {m:List (α × β)} {a:α}:lk m a=none↔∀ p ∈ m,p.1≠a:=by
 induction m with
 |nil=>simp [lk]
 |cons p m ih=>
  by_cases h:p.1=a
  ·simp [lk,h]
  ·simp [lk,h,ih]
theorem lk_mem {m:List (α × β)} {a:α} {v:β} (h:lk m a=some v):(a,v) ∈ m:=by
 induction m with
 |nil=>cases h
 |cons p m ih=>
  by_cases e:p.1=a
  ·simp only [lk,e,if_true,Option.some.injEq] at h
   subst h;subst e
   exact List.mem_cons_self ..
  ·simp only [lk,e,if_false] at h
   exact List.mem_cons_of_mem _ (ih h)
theorem lk_of {m:List (α × β)} (hn:(m.map (·.1)).Nodup) {p:α × β} (h:p ∈ m):lk m p.1=some p.2:=by
 induction m with
 |nil=>cases h
 |cons q m ih=>
  simp only [List.map_cons,List.nodup_cons] at hn
  rcases List.mem_cons.1 h with rfl|h
  ·simp [lk]
  ·have:q.1≠p.1:=fun e=>hn.1 (by rw [e];exact List.mem_map.2 ⟨p,h,rfl⟩)
   simp [lk,this,ih hn.2 h]
theorem lk_append (m r:List (α × β)) (a:α):lk (m++r) a=(lk m a).or (lk r a):=by
 induction m with
 |nil=>simp [lk]
 |cons p m ih=>
  by_cases h:p.1=a
  ·simp [lk,h]
  ·simp [lk,h,ih]
theorem lk_mapset (m:List (α × β)) (a:α) (v:β) (b:α):lk (m.map (fun p=>if p.1=a then (a,v) else p)) b=if b=a then (lk m b).map (fun _=>v) else lk m b:=by
 induction m with
 |nil=>simp [lk]
 |cons p m ih=>
  by_cases h:p.1=a
  ·by_cases hb:a=b
   ·subst hb;simp [lk,h]
   ·simp [lk,h,hb,ih,show ¬ b=a from fun e=>hb e.symm]
  ·by_cases hb:p.1=b
   ·have:¬ b=a:=fun e=>h (hb.trans e)
    simp [lk,hb,this]
   ·simp [lk,h,hb,ih]
theorem lk_put (m:List (α × β)) (a:α) (v:β) (b:α):lk (mput m a v) b=if b=a then some v else lk m b:=by
 unfold mput
 split
 ·rename_i h
  rw [lk_mapset]
  split
  ·rename_i e;subst e
   cases hl:lk m b with
   |none=>rw [hl] at h;cases h
   |some x=>rfl
  ·rfl
 ·rename_i h
  have h0:lk m a=none:=by cases hl:lk m a with
   |none=>rfl
   |some x=>rw [hl] at h;exact absurd rfl h
  rw [lk_append]
  by_cases e:b=a
  ·subst e;simp [h0,lk]
  ·have:¬ a=b:=fun q=>e q.symm
   simp [lk,e,this]
theorem lk_del (m:List (α × β)) (a b:α):lk (mdel m a) b=if b=a then none else lk m b:=by
 induction m with
 |nil=>simp [mdel,lk]
 |cons p m ih=>
  have e:mdel (p::m) a=if p.1=a then mdel m a else p::mdel m a:=by
   by_cases h:p.1=a <;> simp [mdel,h]
  rw [e]
  by_cases h:p.1=a
  ·rw [if_pos h,ih]
   by_cases hb:b=a
   ·simp [hb]
   ·have:¬ p.1=b:=fun q=>hb (q.symm.trans h)
    simp [hb,lk,this]
  ·rw [if_neg h]
   by_cases hb:p.1=b
   ·have:¬ b=a:=fun q=>h (hb.trans q)
    simp [lk,hb,this]
   ·simp only [lk,hb,if_false];exact ih
theorem keys_mapset (m:List (α × β)) (a:α) (v:β):(m.map (fun p=>if p.1=a then (a,v) else p)).map (·.1)=m.map (·.1):=by
 rw [List.map_map]
 refine List.map_congr_left (fun p _=>?_)
 by_cases h:p.1=a <;> simp [h]
theorem mput_nodup {m:List (α × β)} (h:(m.map (·.1)).Nodup) (a:α) (v:β):((mput m a v).map (·.1)).Nodup:=by
 unfold mput
 split
 ·rw [keys_mapset];exact h
 ·rename_i q
  have h0:lk m a=none:=by cases hl:lk m a with
   |none=>rfl
   |some x=>rw [hl] at q;exact absurd rfl q
  rw [List.map_append,List.nodup_append]
  refine ⟨h,by simp,fun x hx y hy=>?_⟩
  simp only [List.map_cons,List.map_nil,List.mem_singleton] at hy
  subst hy
  obtain ⟨p,hp,rfl⟩:=List.mem_map.1 hx
  exact lk_none.1 h0 p hp
end
def kvs (es:List MapEntry):List (Value × Value):=es.map fun e=>(e.key,e.val)
section
variable {α β:Type} {kf:α→Value} {vf:β→Value}
abbrev encs (kf:α→Value) (vf:β→Value) (m:List (α × β)):List (Value × Value):=m.map fun p=>(kf p.1,vf p.2)
def mapP (kf:α→Value) (vf:β→Value) (b:Nat) (m:List (α × β)):SP:=⟨11,b,fun h=>∃ es clock,h b=some (.map es clock)∧Stamped es clock∧kvs es.toList=encs kf vf m⟩
def iterP (kf:α→Value) (vf:β→Value) (b r:Nat) (m left:List (α × β)) (cur:Option (α × β)):SP:=⟨13,r,fun h=>∃ es clock since seen c0,h b=some (.map es clock)∧h r=some (.mapIter (some b) since seen c0)∧Stamped es clock∧kvs es.toList=encs kf vf m∧
 (∀ x ∈ es.toList,x.born<since)∧since≤c0∧since≤clock∧kvs (leftOf es seen).toList=encs kf vf left∧(match cur with
  |none=>True
  |some p=>c0=clock∧∃ e ∈ es.toList,e.key=kf p.1∧e.val=vf p.2∧seen.back? = some e.born)⟩
theorem mapP_up {b:Nat} {m:List (α × β)}:∀ h g,Hl.le h g→(mapP kf vf b m).ok h→(mapP kf vf b m).ok g:=fun _ _ le ⟨es,c,q,r⟩=>⟨es,c,le _ _ q,r⟩
theorem iterP_up {b r:Nat} {m left:List (α × β)} {cur:Option (α × β)}:∀ h g,Hl.le h g→(iterP kf vf b r m left cur).ok h→(iterP kf vf b r m left cur).ok g:=fun _ _ le ⟨es,c,si,se,c0,q,q2,rest⟩=>⟨es,c,si,se,c0,le _ _ q,le _ _ q2,rest⟩
theorem kvs_get {es:List MapEntry} {m:List (α × β)} (h:kvs es=encs kf vf m) {j:Nat} {e:MapEntry} (he:es[j]? = some e):∃ p,m[j]? = some p∧e.key=kf p.1∧e.val=vf p.2:=by
 have h1:(kvs es)[j]? = some (e.key,e.val):=by simp [kvs,he]
 rw [h] at h1
 simp only [encs,List.getElem?_map,Option.map_eq_some_iff,Prod.mk.injEq] at h1
 obtain ⟨p,hp,h2,h3⟩:=h1
 exact ⟨p,hp,h2.symm,h3.symm⟩
theorem kvs_mem {es:List MapEntry} {m:List (α × β)} (h:kvs es=encs kf vf m) {e:MapEntry} (he:e ∈ es):∃ p ∈ m,e.key=kf p.1∧e.val=vf p.2:=by
 obtain ⟨j,hj⟩:=List.getElem?_of_mem he
 obtain ⟨p,hp,q⟩:=kvs_get h hj
 exact ⟨p,List.mem_of_getElem? hp,q⟩
theorem kvs_nodup {es:Array MapEntry} {clock:Nat} {m:List (α × β)} (hs:Stamped es clock) (h:kvs es.toList=encs kf vf m):(m.map (·.1)).Nodup:=by
 have h1:es.toList.map (·.key)=m.map (fun p=>kf p.1):=by
  have:=congrArg (List.map Prod.fst) h
  simpa [kvs,encs,Function.comp_def] using this
 have h2:=hs.2.2
 rw [h1] at h2
 have h3:(m.map (fun p=>kf p.1))=(m.map (·.1)).map kf:=by simp [Function.comp_def]
 rw [h3] at h2
 exact List.Pairwise.of_map kf (fun a b hab e=>hab (by rw [e])) h2
section
variable [DecidableEq α] {P:Program} {w:World} {kt:TypeId}
theorem find_lk (K:KyOk P kt kf) {es:Array MapEntry} {clock:Nat} {m:List (α × β)} (hs:Stamped es clock) (h:kvs es.toList=encs kf vf m) (a:α) :
 ((Instr.findKey kt (kf a) es.toList).run P w=.ok none w∧lk m a=none∧∀ e ∈ es.toList,e.key≠kf a)∨∃ j e v,(Instr.findKey kt (kf a) es.toList).run P w=.ok (some (j,e.val)) w∧es.toList[j]? = some e∧e.key=kf a∧e.val=vf v∧lk m a=some v∧m[j]? = some (a,v):=by
 rcases K.find w a es.toList (fun e he=>by obtain ⟨p,_,hp,_⟩:=kvs_mem h he;exact ⟨_,hp⟩) with ⟨h1,h2⟩|⟨j,e,h1,h2,h3⟩
 ·refine .inl ⟨h1,lk_none.2 (fun p hp e=>?_),h2⟩
  obtain ⟨j,hj⟩:=List.getElem?_of_mem hp
  have:(encs kf vf m)[j]? = some (kf p.1,vf p.2):=by simp [encs,hj]
  rw [← h] at this
  simp only [kvs,List.getElem?_map,Option.map_eq_some_iff,Prod.mk.injEq] at this
  obtain ⟨x,hx,hx1,_⟩:=this
  exact h2 x (List.mem_of_getElem? hx) (by rw [hx1,e])
 ·obtain ⟨p,hp,hk,hv⟩:=kvs_get h h2
  have e0:p.1=a:=K.inj _ _ (by rw [← hk,h3])
  refine .inr ⟨j,e,p.2,h1,h2,h3,hv,?_,by rw [hp,← e0]⟩
  rw [← e0]
  exact lk_of (kvs_nodup hs h) (List.mem_of_getElem? hp)
theorem mapset_set (m:List (α × β)) (hn:(m.map (·.1)).Nodup) (j:Nat) (a:α) (v u:β) (hj:m[j]? = some (a,v)):m.map (fun p=>if p.1=a then (a,u) else p)=m.set j (a,u):=by
 induction m generalizing j with
 |nil=>cases hj
 |cons q m ih=>
  simp only [List.map_cons,List.nodup_cons] at hn
  cases j with
  |zero=>
   cases hj
   simp only [List.map_cons,if_true,List.set_cons_zero,List.cons.injEq,true_and]
   have:∀ p ∈ m,p.1≠a:=fun p hp e=>hn.1 (by show a ∈ _;rw [← e];exact List.mem_map.2 ⟨p,hp,rfl⟩)
   have e2:m.map (fun p=>if p.1=a then (a,u) else p)=m.map id:=List.map_congr_left (fun p hp=>if_neg (this p hp))
   rw [e2];simp
  |succ j=>
   have hj:m[j]? = some (a,v):=by simpa using hj
   have:q.1≠a:=fun e=>hn.1 (by rw [e];exact List.mem_map.2 ⟨_,List.mem_of_getElem? hj,rfl⟩)
   simp [this,ih hn.2 j hj]
theorem run_mapUpdate_put (K:KyOk P kt kf) {t e:TypeId} (ht:P.underlying t=some (.map kt e)) {b:Nat} {es:Array MapEntry} {clock:Nat} {m:List (α × β)} (hb:w.heap[b]? = some (.map es clock)) (hs:Stamped es clock) (h:kvs es.toList=encs kf vf m) (a:α) (v:β) :
 ∃ es' clock',(Instr.mapUpdate t (.map (some b)) (kf a) (vf v)).run P w=.ok () (w.putObj b (.map es' clock'))∧Stamped es' clock'∧kvs es'.toList=encs kf vf (mput m a v):=by
 have hset:∀ o,(setObj b o).run P w=.ok () (w.putObj b o):=fun o=>Go.MapKept.run_setObj_map o hb
 rcases find_lk (P:=P) (w:=w) K hs h a with ⟨h1,h2,h3⟩|⟨j,e0,v0,h1,h2,h3,h4,h5,h6⟩
 ·refine ⟨es.push ⟨kf a,vf v,clock⟩,clock+1,?_,stamped_push hs h3,?_⟩
  ·simp [Instr.mapUpdate,run_underlying ht,Go.MapKept.run_getObj_map hb,K.check w _ a,h1,hset,Result.andThen]
  ·unfold mput
   rw [h2]
   simp only [Option.isSome_none,Bool.false_eq_true,if_false,encs,List.map_append,List.map_cons,List.map_nil]
   rw [← encs,← h]
   simp [kvs]
 ·have hj:es[j]? = some e0:=by simpa using h2
  refine ⟨es.modify j (fun e'=>{ e' with key:=kf a,val:=vf v }),clock,?_,stamped_modify hs _ _ (fun _ _=>rfl) (fun e' _ he'=>by rw [hj] at he';cases he';exact h3.symm),?_⟩
  ·simp [Instr.mapUpdate,run_underlying ht,Go.MapKept.run_getObj_map hb,K.check w _ a,h1,hj,h3,K.stays w a,hset,Result.andThen]
  ·unfold mput
   rw [h5]
   simp only [Option.isSome_some,if_true]
   rw [mapset_set m (kvs_nodup hs h) j a v0 v h6]
   have e1:(es.modify j (fun e'=>{ e' with key:=kf a,val:=vf v })).toList=es.toList.set j { e0 with key:=kf a,val:=vf v }:=by
    apply List.ext_getElem?
    intro i
    rw [Array.getElem?_toList,Array.getElem?_modify,List.getElem?_set]
    by_cases hij:j=i
    ·subst hij
     have hl:=(Array.getElem?_eq_some_iff.1 hj).1
     rw [if_pos rfl,if_pos rfl,if_pos (by simpa using hl),hj];rfl
    ·rw [if_neg hij,if_neg hij,Array.getElem?_toList]
   rw [e1]
   simp only [kvs,List.map_set,encs]
   rw [show es.toList.map (fun e=>(e.key,e.val))=m.map (fun p=>(kf p.1,vf p.2)) from h]
end
end
section
variable {P:Program} {W w:World} {n d:Nat} {E:Env} {H H' R:List SP} {k:KK} {t kt e:TypeId} {x y z:Operand}
theorem St.putTurn {b:Nat} {o':Obj} {A A':SP} (s:St W (A::R) w) (hA:∀ h,A.ok h→∃ o,h b=some o) (hA':A'.ok (Hl.one b o')):St W (A'::R) (w.putObj b o'):=by
 refine St.act (A:=[A]) (B:=[A']) (H:=R) s rfl rfl rfl (by simp) ?_
 intro h1 ⟨h,_,_,le,_,a,_⟩ lies
 obtain ⟨o,ho⟩:=hA h a
 have hlt:=lies.lt (le _ _ ho)
 refine ⟨Hl.one b o',starL_one hA',fun k x hx=>?_,fun k x hx=>?_,fun k _ hn=>World.putObj_heap_other ?_⟩
 ·obtain ⟨rfl,rfl⟩:=Hl.one_some hx;exact World.putObj_heap_same hlt
 ·obtain ⟨rfl,rfl⟩:=Hl.one_some hx;exact .inl ⟨_,le _ _ ho⟩
 ·intro e;subst e;rw [le _ _ ho] at hn;cases hn
variable {α β:Type} {kf:α→Value} {vf:β→Value} {b:Nat} {m:List (α × β)}
theorem St.map {R:List SP} (s:St W H w) (p:Sel (mapP kf vf b m) H R):∃ es clock,w.heap[b]? = some (.map es clock)∧Stamped es clock∧kvs es.toList=encs kf vf m:=by
 obtain ⟨h,⟨es,c,q,r⟩,ls⟩:=s.sel p mapP_up
 exact ⟨es,c,(ls _ _ q).2,r⟩
theorem KJ_makeMap (kf:α→Value) (vf:β→Value) (hn:Nat.blt d n=true) (h:∀ g,KJ W n k ((d,.map (some g))::E) (mapP kf vf g []::H)):KJ W n (.oper P (.makeMap t none) (some d) k) E H:=by
 refine KJ_eff (X:=Nat) (v:=fun g=>.map (some g)) (H':=fun g=>mapP kf vf g []::H) (fun o ho a w M p s=>⟨w.heap.size,w.alloc (.map #[] 0),.inl ?_,?_⟩) hn h
 ·simp [execOp,ho,Instr.makeMap,Go.newObj,Sem.run,Result.andThen]
 ·exact s.alloc ⟨#[],0,Hl.one_self _ _,stamped_empty 0,rfl⟩
class ZvIs (P:Program) (t:TypeId) (v:outParam Value):Prop where h:(P.info? t).map (·.zero)=some (some v)
theorem ZvIs.run {v:Value} [hz:ZvIs P t v] (w:World):(zeroValue t).run P w=.ok v w:=by
 have hz:=hz.h
 cases hq:P.info? t with
 |none=>simp [hq] at hz
 |some i=>
  have hz:i.zero=some v:=by simpa [hq] using hz
  simp [zeroValue,typeInfo,hq,hz]
section
variable [DecidableEq α]
theorem KJ_mapUpdate {a:α} {v:β} (K:KyOk P kt kf) (hx:Env.ev E x=some (.map (some b))) (hy:Env.ev E y=some (kf a)) (hz:Env.ev E z=some (vf v)) [hu:UIs P t (.map kt e)] (hs:Sel (mapP kf vf b m) H R)
 (h:KJ W n k E (mapP kf vf b (mput m a v)::R)):KJ W n (.oper P (.mapUpdate t x y z) none k) E H:=by
 refine KJ_eff (X:=Unit) (v:=fun _=>undef) (H':=fun _=>mapP kf vf b (mput m a v)::R) (fun o ho a' w M p s=>?_) rfl (fun _=>h)
 obtain ⟨es,c,hb,h1,h2⟩:=s.map (hs.app M)
 obtain ⟨es',c',hrun,h3,h4⟩:=run_mapUpdate_put (P:=P) (w:=w) K hu.h hb h1 h2 a v
 refine ⟨(),w.putObj b (.map es' c'),.inr ⟨rfl,?_⟩,St.putTurn (s.perm (hs.app M).perm) (fun h ⟨es,c,q,_⟩=>⟨_,q⟩) ⟨es',c',Hl.one_self _ _,h3,h4⟩⟩
 simp [execOp,ho,p.ev hx,p.ev hy,p.ev hz,hrun,Result.andThen]
end
end
end Go.Proofs.YtgipenahkmbelaaGreatDoor
namespace Go.Proofs.YtgipenahkmbelaaGreatDoor
open Go Go.RowKit Go.MapKept
section
variable {P:Program} {W w:World} {n d:Nat} {E:Env} {H H' R:List SP} {k:KK} {t kt e:TypeId} {x y z:Operand}
variable {α β:Type} [DecidableEq α] {kf:α→Value} {vf:β→Value} {b r:Nat} {m left:List (α × β)}
theorem leftOf_none (es:Array MapEntry):leftOf es #[]=es:=by
 unfold leftOf
 exact Array.filter_eq_self.2 (by simp)
omit [DecidableEq α] in
theorem KJ_rangeMap (hx:Env.ev E x=some (.map (some b))) [hu:UIs P t (.map kt e)] (hs:Sel (mapP kf vf b m) H R) (hn:Nat.blt d n=true)
 (h:∀ r,KJ W n k ((d,.pointer (some ⟨r,0,none⟩))::E) (iterP kf vf b r m m none::R)):KJ W n (.oper P (.range t x) (some d) k) E H:=by
 refine KJ_eff (X:=Nat) (v:=fun r=>.pointer (some ⟨r,0,none⟩)) (H':=fun r=>iterP kf vf b r m m none::R) (fun o ho a w M p s=>?_) hn h
 obtain ⟨es,c,hb,h1,h2⟩:=s.map (hs.app M)
 have hrun:=run_range_map (P:=P) w t kt e b es c hu.h hb
 refine ⟨w.heap.size,w.alloc (.mapIter (some b) c #[] c),.inl (by simp [execOp,ho,p.ev hx,hrun,Result.andThen]),?_⟩
 refine St.act (A:=[mapP kf vf b m]) (B:=[iterP kf vf b w.heap.size m m none]) (H:=R++M) (s.perm (hs.app M).perm) rfl rfl rfl (by simp) ?_
 intro h1' ⟨h,_,_,le,_,⟨es',c',q,_⟩,_⟩ lies
 have hq:=(lies _ _ (le _ _ q)).2
 rw [hb] at hq;cases hq
 have hbl:=lies.lt (le _ _ q)
 have hne:b≠w.heap.size:=by omega
 refine ⟨fun k=>if k=w.heap.size then some (.mapIter (some b) c #[] c) else if k=b then some (.map es c) else none,starL_one ⟨es,c,c,#[],c,by simp [hne],by simp,h1,h2,h1.1,Nat.le_refl _,Nat.le_refl _,by rw [leftOf_none];exact h2,trivial⟩,fun k o hk=>?_,fun k o hk=>?_,fun k hk _=>heap_alloc_old w _ hk⟩
 ·dsimp only at hk
  split at hk
  ·rename_i e0;subst e0;cases hk;exact heap_alloc_new w _
  ·split at hk
   ·rename_i e0;subst e0;cases hk;rw [heap_alloc_old w _ hbl];exact hb
   ·cases hk
 ·dsimp only at hk
  split at hk
  ·rename_i e0;exact .inr (by omega)
  ·split at hk
   ·rename_i e0;subst e0;exact .inl ⟨_,le _ _ q⟩
   ·cases hk
theorem leftOf_push {es:Array MapEntry} {clock:Nat} (hs:Stamped es clock) (K:∀ a b,kf a=kf b→a=b) (_:kvs es.toList=encs kf vf m) {seen:Array Nat} (hl:kvs (leftOf es seen).toList=encs kf vf left) {e0:MapEntry} (he:e0 ∈ (leftOf es seen).toList) {p:α × β} (hp:e0.key=kf p.1) :
 kvs (leftOf es (seen.push e0.born)).toList=encs kf vf (left.filter fun q=>decide (q.1≠p.1)):=by
 have hm:=(mem_left he).1
 have e1:(leftOf es (seen.push e0.born)).toList=(leftOf es seen).toList.filter (fun x=>decide (x.born≠e0.born)):=by
  unfold leftOf
  rw [Array.toList_filter,Array.toList_filter,List.filter_filter]
  refine List.filter_congr (fun x _=>?_)
  rw [contains_push]
  cases hc:seen.contains x.born <;> by_cases hb:x.born=e0.born <;> simp [hb]
 have hsub:∀ x ∈ (leftOf es seen).toList,x ∈ es.toList:=fun x hx=>(mem_left hx).1
 have hdec:∀ x ∈ (leftOf es seen).toList,(x.born=e0.born↔x.key=e0.key):=fun x hx=>by
  have hx2:=hsub x hx
  constructor
  ·intro hb
   have:=born_inj hs.2.1 hx2 hm hb
   rw [this]
  ·intro hk
   have hn:=hs.2.2
   obtain ⟨i,hi,ei⟩:=List.getElem_of_mem hx2
   obtain ⟨j,hj,ej⟩:=List.getElem_of_mem hm
   have:(es.toList.map (·.key))[i]'(by simpa using hi)=(es.toList.map (·.key))[j]'(by simpa using hj):=by
    rw [List.getElem_map,List.getElem_map,ei,ej,hk]
   have hij:=(List.getElem_inj hn).1 this
   subst hij
   rw [← ei,← ej]
 rw [e1]
 have key:∀ (l:List MapEntry) (r:List (α × β)),kvs l=encs kf vf r→(∀ x ∈ l,(x.born=e0.born↔x.key=e0.key))→kvs (l.filter fun x=>decide (x.born≠e0.born))=encs kf vf (r.filter fun q=>decide (q.1≠p.1)):=by
  intro l
  induction l with
  |nil=>intro r hr _;cases r with
   |nil=>rfl
   |cons q r=>cases hr
  |cons x l ih=>
   intro r hr hd
   cases r with
   |nil=>cases hr
   |cons q r=>
    simp only [kvs,encs,List.map_cons,List.cons.injEq,Prod.mk.injEq] at hr
    obtain ⟨⟨k1,k2⟩,k3⟩:=hr
    have:=ih r k3 (fun y hy=>hd y (by simp [hy]))
    simp only [kvs,encs] at this
    have hx0:=hd x (by simp)
    by_cases hq:q.1=p.1
    ·have hx:x.born=e0.born:=hx0.2 (by rw [k1,hp,hq])
     simp [kvs,encs,hx,hq] at this ⊢
     exact this
    ·have hx:¬ x.born=e0.born:=fun h=>hq (K _ _ (by rw [← k1,hx0.1 h,hp]))
     simp [kvs,encs,hx,hq,k1,k2] at this ⊢
     exact this
 exact key _ _ hl hdec
theorem KJ_nextMap {ty:TypeId} {c:Option (α × β)} (K:KyOk P kt kf) (hx:Env.ev E x=some (.pointer (some ⟨r,0,none⟩))) (hs:Sel (iterP kf vf b r m left c) H R) (hn:Nat.blt d n=true) (_ht:ty=ty)
 (h0:left=[]→KJ W n k ((d,.tuple #[.bool false])::E) (iterP kf vf b r m left c::R))
 (h1:∀ p,p ∈ left→KJ W n k ((d,.tuple #[.bool true,kf p.1,vf p.2])::E) (iterP kf vf b r m (left.filter fun q=>decide (q.1≠p.1)) (some p)::R)):KJ W n (.oper P (.next x false) (some d) k) E H:=by
 refine ⟨fun a w p s o ho hd=>?_⟩
 show uponP P o a _ ((execOp a.eval o).run P w)
 obtain ⟨hh,⟨es,clock,since,seen,c0,q1,q2,hst,hkv,hold,hsc,hsk,hlf,hcur⟩,ls⟩:=(s.sel (hs.app (dm a.defers)) iterP_up)
 have hb:=(ls _ _ q1).2
 have hr:=(ls _ _ q2).2
 have hrl:=ls.lt q2
 have hbl:=ls.lt q1
 rcases run_next_at (P:=P) w o.type r b since c0 seen es clock hr hb hold hsc with ⟨l0,hrun⟩|⟨e0,he0,w1,hw1,hrun⟩
 ·have hl:left=[]:=by
   have:(leftOf es seen).toList=[]:=by
    rw [← List.length_eq_zero_iff,Array.length_toList];exact l0
   rw [this] at hlf
   cases left with
   |nil=>rfl
   |cons q l=>cases hlf
  have e2:(execOp a.eval o).run P w=.ok (.value (.tuple #[.bool false])) w:=by
   simp [execOp,ho,p.ev hx,hrun,Result.andThen]
  rw [e2]
  have:=(h0 hl).go _ w (p.put (d:=some d) hn _) (by show St W _ w;rw [put_defers];exact s.perm (hs.app _).perm)
  rw [← hd] at this
  exact this
 ·obtain ⟨pp,hpl,hpk,hpv⟩:=kvs_mem hlf he0
  have e2:(execOp a.eval o).run P w=.ok (.value (.tuple #[.bool true,kf pp.1,vf pp.2])) (ChangeMaps.setBlock w1 r (.mapIter (some b) since (seen.push e0.born) clock)):=by
   rw [← hpk,← hpv]
   simp [execOp,ho,p.ev hx,hrun,Result.andThen]
  rw [e2]
  obtain ⟨g1,g2,dj,hA,hH,l1,l2⟩:=(show St W ([iterP kf vf b r m left c]++(R++dm a.defers)) w from s.perm (hs.app (dm a.defers)).perm).split
  obtain ⟨ha,_,_,le,_,⟨es',clock',since',seen',c0',z1,z2,_⟩,_⟩:=hA
  have hw:w1.heap=w.heap∧w1.os=w.os∧w1.tape=w.tape∧w1.output=w.output:=by rcases hw1 with rfl|rfl <;> exact ⟨rfl,rfl,rfl,rfl⟩
  have hrb:r≠b:=by intro e;rw [e,hb] at hr;cases hr
  have hpl2:(ChangeMaps.setBlock w1 r (.mapIter (some b) since (seen.push e0.born) clock)).heap=w.heap.setIfInBounds r (.mapIter (some b) since (seen.push e0.born) clock):=by show w1.heap.setIfInBounds _ _=_;rw [hw.1]
  have st:St W (iterP kf vf b r m (left.filter fun q=>decide (q.1≠pp.1)) (some pp)::(R++dm a.defers)) (ChangeMaps.setBlock w1 r (.mapIter (some b) since (seen.push e0.born) clock)):=by
   refine St.join (B:=[iterP kf vf b r m (left.filter fun q=>decide (q.1≠pp.1)) (some pp)]) (g:=fun k=>if k=r then some (.mapIter (some b) since (seen.push e0.born) clock) else if k=b then some (.map es clock) else none) s.below dj hH l1 l2 (starL_one ⟨es,clock,since,seen.push e0.born,clock,by simp [Ne.symm hrb],by simp,hst,hkv,hold,hsk,hsk,leftOf_push hst K.inj hkv hlf he0 hpk,rfl,e0,(mem_left he0).1,hpk,hpv,by simp⟩) hw.2.1 hw.2.2.1 hw.2.2.2 (by rw [hpl2];simp) ?_ ?_ ?_
   ·intro kk o q
    rw [hpl2]
    split at q
    ·rename_i e;subst e;cases q;simp [hrl]
    ·rename_i hne
     split at q
     ·rename_i e;subst e;cases q
      rw [Array.getElem?_setIfInBounds_ne (Ne.symm hne)];exact hb
     ·cases q
   ·intro kk o q
    split at q
    ·rename_i e;subst e;exact .inl ⟨_,le _ _ z2⟩
    ·split at q
     ·rename_i e;subst e;exact .inl ⟨_,le _ _ z1⟩
     ·cases q
   ·intro kk _ hnone
    rw [hpl2,Array.getElem?_setIfInBounds_ne (fun e=>by subst e;rw [le _ _ z2] at hnone;cases hnone)]
  have:=(h1 pp hpl).go _ _ (p.put (d:=some d) hn _) (by show St W _ _;rw [put_defers];exact st)
  rw [← hd] at this
  exact this
omit [DecidableEq α] in
theorem Ev_entry {p:α × β} (hx:Env.ev E x=some (.pointer (some ⟨r,0,none⟩))) (hs:Sel (iterP kf vf b r m left (some p)) H R):Ev P W n E H (.entry x) (.tuple #[kf p.1,vf p.2]):=
 Ev.mk fun o ho a w q s=>by
  obtain ⟨hh,⟨es,clock,since,seen,c0,q1,q2,hst,hkv,hold,hsc,hsk,hlf,rfl,e0,he0,hk,hv,hbk⟩,ls⟩:=s.sel hs iterP_up
  have hb:=(ls _ _ q1).2
  have hr:=(ls _ _ q2).2
  have hf:es.find? (·.born == e0.born)=some e0:=by rw [← Array.find?_toList];exact find_born e0 es.toList hst.2.1 he0
  have hrun:(Instr.entry (.pointer (some ⟨r,0,none⟩))).run P w=.ok (.tuple #[e0.key,e0.val]) w:=by
   simp only [Instr.entry,getObj,Sem.run_bind,Sem.run,hr,hb,Result.andThen,hbk,bne_self_eq_false,Bool.false_eq_true,if_false,hf]
   rfl
  simp [execOp,ho,q.ev hx,hrun,hk,hv]
omit [DecidableEq α] in
theorem KJ.iterDone {c:Option (α × β)} (hs:Sel (iterP kf vf b r m left c) H R) (h:KJ W n k E (mapP kf vf b m::R)):KJ W n k E H:=
 ⟨fun a w q s=>h.go a w q ((s.perm (hs.app _).perm).mono fun _ ⟨h1,h2,dj,l1,l2,⟨es,c,_,_,_,a1,_,a3,a4,_⟩,a2⟩=>⟨h1,h2,dj,l1,l2,⟨es,c,a1,a3,a4⟩,a2⟩)⟩
end
end Go.Proofs.YtgipenahkmbelaaGreatDoor
