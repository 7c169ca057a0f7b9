/-
  JLe2, Mp.
-/
import Derived.Test.YtoipmnikdiogcaaGreatDoorYCF
import Derived.MapKept
import Derived.Maps.RangeRun
set_option maxHeartbeats 64000000
namespace Go.Proofs.YtoipmnikdiogcaaGreatDoor
open Go Go.RowKit
def wsJ (at_ v:Nat):Nat→List zB→List (Nat × zB)
 |_,[]=>[]
 |k,p::r=>(at_+k,yAF (yA8 v k:Nat) p)::wsJ at_ v (k+1) r
theorem ySh (at_ v:Nat):∀ (G:List zB) (k:Nat),(wsJ at_ v k G).length=G.length:=by
 intro G
 induction G with
 |nil=>intro k;rfl
 |cons p G ih=>intro k;simp [wsJ,ih]
theorem xBA (at_ v:Nat):∀ (G:List zB) (k:Nat),(∀ p ∈ G,p.length≤234)→∀ x ∈ wsJ at_ v k G,at_+k≤x.1∧x.1<at_+k+G.length∧x.2.length=256:=by
 intro G
 induction G with
 |nil=>intro k _ x hx;cases hx
 |cons p G ih=>
  intro k hp x hx;rcases zLm.1 hx with rfl|hx
  ·exact ⟨Nat.le_refl _,by dsimp only;rw [zLj];omega,yBk _ _ (hp p zW)⟩
  ·obtain ⟨h1,h2,h3⟩:=ih (k+1) (fun q hq=>hp q (by simp [hq])) x hx;rw [zLj];exact ⟨zO,zO,h3⟩
theorem yYN {D:Dsk} (h:D.off=false) (i:Nat) (hi:i<D.n) (s:zB) (hs:s.length=256):(D.writeE i s=12→(D.writeD i s).off=true)∧(D.writeD i s).life=D.life:=by
 have aQ:D.has (i:Int)=true:=by unfold Dsk.has;exact zY zO
 obtain ⟨n,img,und,off,armed,wr,fl,lf⟩:=D;obtain rfl:off=false:=h;by_cases h0:armed=0
 ·subst h0;simp [Dsk.writeE,Dsk.writeD,Dsk.dead,Dsk.gone,aQ,hs]
 ·by_cases hp:0<armed
  ·simp [Dsk.writeE,Dsk.writeD,Dsk.dead,Dsk.gone,aQ,hs,h0,hp]
  ·simp [Dsk.writeE,Dsk.writeD,Dsk.dead,Dsk.gone,aQ,hs,h0,hp]
theorem yUG {D:Dsk} (h:D.off=false):(D.flushE=12→D.flushD.off=true)∧D.flushD.life=D.life:=by
 obtain ⟨n,img,und,off,armed,wr,fl,lf⟩:=D;obtain rfl:off=false:=h;by_cases h0:armed=0
 ·subst h0;simp [Dsk.flushE,Dsk.flushD,Dsk.dead,Dsk.gone]
 ·by_cases hp:0<armed
  ·simp [Dsk.flushE,Dsk.flushD,Dsk.dead,Dsk.gone,h0,hp]
  ·simp [Dsk.flushE,Dsk.flushD,Dsk.dead,Dsk.gone,h0,hp]
theorem yUH (at_ v used:Nat):∀ (ps:List zB) (i:Nat) (D:Dsk),D.off=false→D.ok→(∀ p ∈ ps,p.length≤234)→at_+used+i+ps.length≤D.n→(((yBU at_ v used ps i D).1=true∧(yBU at_ v used ps i D).2.off=false∧(yBU at_ v used ps i D).2.und=D.und++wsJ at_ v (used+i) ps)∨ ((yBU at_ v used ps i D).1=false∧(yBU at_ v used ps i D).2.off=true∧∃ m,(yBU at_ v used ps i D).2.und=D.und++(wsJ at_ v (used+i) ps).take m))∧ (yBU at_ v used ps i D).2.img=D.img∧(yBU at_ v used ps i D).2.n=D.n∧(yBU at_ v used ps i D).2.ok∧(yBU at_ v used ps i D).2.life=D.life:=by
 intro ps
 induction ps with
 |nil=>intro i D h1 h2 _ _;exact ⟨.inl ⟨rfl,h1,by show D.und=D.und++[];rw [zLs]⟩,rfl,rfl,h2,rfl⟩
 |cons q ps ih=>
  intro i D h1 h2 hp hn;rw [zLj] at hn;have hS:=yBk (yA8 v (used+i):Nat) q (hp q zW);obtain ⟨w1,w2,w3,w4,-⟩:=yIG h1 (at_+used+i) zO _ hS;obtain ⟨w5,w6⟩:=yYN h1 (at_+used+i) zO _ hS;have am:=Dsk.writeD_ok h2 ((at_+used+i:Nat):Int) (yAF (yA8 v (used+i):Nat) q);have hadr:(at_:Int)+(used:Nat)+(i:Nat)=((at_+used+i:Nat):Int):=zO
  have hu:yBU at_ v used (q::ps) i D=if D.writeE ((at_+used+i:Nat):Int) (yAF (yA8 v (used+i):Nat) q)≠0 then (false,D.writeD ((at_+used+i:Nat):Int) (yAF (yA8 v (used+i):Nat) q))
   else yBU at_ v used ps (i+1) (D.writeD ((at_+used+i:Nat):Int) (yAF (yA8 v (used+i):Nat) q)):=by
   rw [← hadr];rfl
  rw [hu];clear hu;obtain ⟨D1,aL⟩:∃ D1,D1=D.writeD ((at_+used+i:Nat):Int) (yAF (yA8 v (used+i):Nat) q):=⟨_,rfl⟩;obtain ⟨e,he⟩:∃ e,e=D.writeE ((at_+used+i:Nat):Int) (yAF (yA8 v (used+i):Nat) q):=⟨_,rfl⟩;rw [← aL] at w1 w2 w3 w4 w5 w6 am ⊢;rw [← he] at w1 w5 ⊢;rcases w1 with ⟨a,b⟩|a
  ·rw [if_neg (by rw [a];simp)];obtain ⟨r1,r2,r3,r4,r5⟩:=ih (i+1) D1 b am (fun x hx=>hp x (by simp [hx])) (by rw [w4];omega);have hcat:∀ X:List (Nat × zB),D1.und++X=D.und++((at_+(used+i),yAF (yA8 v (used+i):Nat) q)::X):=fun X=>by rw [w2,zLd,← Nat.add_assoc at_ used i];rfl
   refine ⟨?_,by rw [r2,w3],by rw [r3,w4],r4,by rw [r5,w6]⟩;rcases r1 with ⟨c1,c2,c3⟩|⟨c1,c2,m,c3⟩
   ·exact .inl ⟨c1,c2,by rw [c3,hcat];rfl⟩
   ·exact .inr ⟨c1,c2,m+1,by rw [c3,hcat];rfl⟩
  ·rw [if_pos (by rw [a];simp)];refine ⟨.inr ⟨rfl,w5 a,1,?_⟩,w3,w4,am,w6⟩;rw [w2,Nat.add_assoc at_ used i];rfl
theorem ySi {s:Nat} {raw:zB} (hs:s<2 ^ 64) (h:yDX (raw.drop 248) 8<(s:Int)):yCq s raw=none:=by
 unfold yCq;split
 ·rfl
 split
 ·rfl
 split
 ·rfl
 split
 ·rename_i j2 heq;exfalso;have bk:(yEy raw).length≤234:=by unfold yEy;rw [zLf,zLg];omega
  have h1:=yNV s (yEy raw) bk hs;rw [heq] at h1;omega
 ·rfl
theorem yMU {v j:Nat} (hv:v≤1099511627776) (hj:j<65536):yA8 v j<2 ^ 64:=by unfold yA8;omega
section
open Go Go.RowKit Go.MapKept
section
variable {P:Program} {W:World} {n:Nat} {E:Env} {H H' R:List SP} {k:KK} {op:Op} {dd:Option Tmp}
theorem yUI {X:Type} {v:X→Value} {H':X→List SP} (hr:∀ o:Oper,o.op=op→∀ a w M,Hd n E a→St W (H++M) w→∃ x w',((execOp a.eval o).run P w=.ok (.value (v x)) w'∨(v x=undef∧(execOp a.eval o).run P w=.ok .skip w'))∧St W (H' x++M) w') (hn:yFW n dd=true) (h:∀ x,KJ W n k (Env.put E dd (v x)) (H' x)):KJ W n (.oper P op dd k) E H:=by
 refine ⟨fun a w p s o ho hd=>?_⟩;show uponP P o a _ ((execOp a.eval o).run P w);obtain ⟨x,w',av,s'⟩:=hr o ho a w (dm a.defers) p s;have:=(h x).go _ w' (p.put hn (v x)) (by show St W (H' x++dm (a.put dd (v x)).defers) _;rw [yB9];exact s');rw [← hd] at this;rcases av with e|⟨e0,e⟩
 ·rw [e];exact this
 ·rw [e];rw [e0] at this;exact this
end
structure KyOk (P:Program) (k:TypeId) {α:Type} (kf:α→Value):Prop where
 inj:∀ a b,kf a=kf b→a=b
 check:∀ w em a,(Instr.checkKey em 10000 k (kf a)).run P w=.ok () w
 find:∀ w a (es:List MapEntry),(∀ e ∈ es,∃ b,e.key=kf b)→((Instr.findKey k (kf a) es).run P w=.ok none w∧∀ e ∈ es,e.key≠kf a)∨∃ j e,(Instr.findKey k (kf a) es).run P w=.ok (some (j,e.val)) w∧es[j]? = some e∧e.key=kf a
 stays:∀ w a,(Instr.keyThatStays (kf a) (kf a)).run P w=.ok (kf a) w
theorem yXd {P:Program} {k:TypeId} {d:TypeDesc} {α:Type} {kf:α→Value} (hu:P.underlying k=some d) (hk:∀ a,IsKey d (kf a)) (inj:∀ a b,kf a=kf b→a=b):KyOk P k kf where
 inj:=inj
 check:=fun w em a=>run_checkKey hu (hk a) em 9999
 find:=fun w a es hes=>by
  rcases findNow_spec (hk a) es 0 (fun e he=>by obtain ⟨b,hb⟩:=hes e he;rw [hb];exact hk b) with ⟨h1,h2⟩|⟨j,e0,h1,h2,h3⟩
  ·exact .inl ⟨run_findKey hu h1,h2⟩
  ·exact .inr ⟨j,e0,by simpa using run_findKey hu h1,h2,h3⟩
 stays:=fun w a=>run_keyThatStays (hk a)
theorem xBB {P:Program} {k:TypeId} (hu:P.underlying k=some .string):KyOk P k strV:=
 yXd hu (fun _=>trivial) (fun a b h=>by simpa using h)
section
variable {α β:Type} [DecidableEq α]
def lk:List (α × β)→α→Option β
 |[],_=>none
 |p::m,a=>if p.1=a then some p.2 else lk m a
def ySj (m:List (α × β)) (a:α) (v:β):List (α × β):=if (lk m a).isSome then m.map (fun p=>if p.1=a then (a,v) else p) else m++[(a,v)]
def yHn (m:List (α × β)) (a:α):List (α × β):=m.filter (fun p=>decide (p.1≠a))
theorem lk_none {m:List (α × β)} {a:α}:lk m a=none↔∀ p ∈ m,p.1≠a:=by
 induction m with
 |nil=>simp [lk]
 |cons p m ih=>
  by_cases h:p.1=a
  ·simp [lk,h]
  ·simp [lk,h,ih]
theorem yQP {m:List (α × β)} {a:α} {v:β} (h:lk m a=some v):(a,v) ∈ m:=by
 induction m with
 |nil=>cases h
 |cons p m ih=>
  by_cases e:p.1=a
  ·simp only [lk,e,if_true,Option.some.injEq] at h;subst h;subst e;exact List.mem_cons_self ..
  ·simp only [lk,e,if_false] at h;exact List.mem_cons_of_mem _ (ih h)
theorem ySk {m:List (α × β)} (hn:(m.map (·.1)).Nodup) {p:α × β} (h:p ∈ m):lk m p.1=some p.2:=by
 induction m with
 |nil=>cases h
 |cons q m ih=>
  simp only [List.map_cons,List.nodup_cons] at hn;rcases zLm.1 h with rfl|h
  ·simp [lk]
  ·have:q.1≠p.1:=fun e=>hn.1 (by rw [e];exact List.mem_map.2 ⟨p,h,rfl⟩);simp [lk,this,ih hn.2 h]
theorem yKk (m r:List (α × β)) (a:α):lk (m++r) a=(lk m a).or (lk r a):=by
 induction m with
 |nil=>simp [lk]
 |cons p m ih=>
  by_cases h:p.1=a
  ·simp [lk,h]
  ·simp [lk,h,ih]
theorem yUJ (m:List (α × β)) (a:α) (v:β) (b:α):lk (m.map (fun p=>if p.1=a then (a,v) else p)) b=if b=a then (lk m b).map (fun _=>v) else lk m b:=by
 induction m with
 |nil=>simp [lk]
 |cons p m ih=>
  by_cases h:p.1=a
  ·by_cases hb:a=b
   ·subst hb;simp [lk,h]
   ·simp [lk,h,hb,ih,show ¬ b=a from fun e=>hb e.symm]
  ·by_cases hb:p.1=b
   ·have:¬ b=a:=fun e=>h (hb.trans e);simp [lk,hb,this]
   ·simp [lk,h,hb,ih]
theorem xBC (m:List (α × β)) (a:α) (v:β) (b:α):lk (ySj m a v) b=if b=a then some v else lk m b:=by
 unfold ySj;split
 ·rename_i h;rw [yUJ];split
  ·rename_i e;subst e;cases hl:lk m b with
   |none=>rw [hl] at h;cases h
   |some x=>rfl
  ·rfl
 ·rename_i h;have h0:lk m a=none:=by cases hl:lk m a with
   |none=>rfl
   |some x=>rw [hl] at h;exact absurd rfl h
  rw [yKk];by_cases e:b=a
  ·subst e;simp [h0,lk]
  ·have:¬ a=b:=fun q=>e q.symm;simp [lk,e,this]
theorem yYO (m:List (α × β)) (a b:α):lk (yHn m a) b=if b=a then none else lk m b:=by
 induction m with
 |nil=>simp [yHn,lk]
 |cons p m ih=>
  have e:yHn (p::m) a=if p.1=a then yHn m a else p::yHn m a:=by by_cases h:p.1=a <;> simp [yHn,h]
  rw [e];by_cases h:p.1=a
  ·rw [if_pos h,ih];by_cases hb:b=a
   ·simp [hb]
   ·have:¬ p.1=b:=fun q=>hb (q.symm.trans h);simp [hb,lk,this]
  ·rw [if_neg h];by_cases hb:p.1=b
   ·have:¬ b=a:=fun q=>h (hb.trans q);simp [lk,hb,this]
   ·simp only [lk,hb,if_false];exact ih
theorem yPD (m:List (α × β)) (a:α) (v:β):(m.map (fun p=>if p.1=a then (a,v) else p)).map (·.1)=m.map (·.1):=by rw [List.map_map];refine List.map_congr_left (fun p _=>?_);by_cases h:p.1=a <;> simp [h]
theorem ySl {m:List (α × β)} (h:(m.map (·.1)).Nodup) (a:α) (v:β):((ySj m a v).map (·.1)).Nodup:=by
 unfold ySj;split
 ·rw [yPD];exact h
 ·rename_i q;have h0:lk m a=none:=by cases hl:lk m a with
   |none=>rfl
   |some x=>rw [hl] at q;exact absurd rfl q
  rw [List.map_append,List.nodup_append];refine ⟨h,by simp,fun x hx y hy=>?_⟩;simp only [List.map_cons,List.map_nil,List.mem_singleton] at hy;subst hy;obtain ⟨p,hp,rfl⟩:=List.mem_map.1 hx;exact lk_none.1 h0 p hp
end
def kvs (es:List MapEntry):List (Value × Value):=es.map fun e=>(e.key,e.val)
section
variable {α β:Type} {kf:α→Value} {vf:β→Value}
abbrev yJf (kf:α→Value) (vf:β→Value) (m:List (α × β)):List (Value × Value):=m.map fun p=>(kf p.1,vf p.2)
def yUK (kf:α→Value) (vf:β→Value) (b:Nat) (m:List (α × β)):SP:=⟨11,b,fun h=>∃ es clock,h b=some (.map es clock)∧Stamped es clock∧kvs es.toList=yJf kf vf m⟩
def yIJ (kf:α→Value) (vf:β→Value) (b r:Nat) (m left:List (α × β)) (aw:Option (α × β)):SP:=⟨13,r,fun h=>∃ es clock bf seen c0,h b=some (.map es clock)∧h r=some (.mapIter (some b) bf seen c0)∧Stamped es clock∧kvs es.toList=yJf kf vf m∧ (∀ x ∈ es.toList,x.born<bf)∧bf≤c0∧bf≤clock∧kvs (leftOf es seen).toList=yJf kf vf left∧(match aw with
  |none=>True
  |some p=>c0=clock∧∃ e ∈ es.toList,e.key=kf p.1∧e.val=vf p.2∧seen.back? = some e.born)⟩
theorem yZN {b:Nat} {m:List (α × β)}:∀ h g,Hl.le h g→(yUK kf vf b m).ok h→(yUK kf vf b m).ok g:=fun _ _ le ⟨es,c,q,r⟩=>⟨es,c,le _ _ q,r⟩
theorem yQQ {b r:Nat} {m left:List (α × β)} {aw:Option (α × β)}:∀ h g,Hl.le h g→(yIJ kf vf b r m left aw).ok h→(yIJ kf vf b r m left aw).ok g:=fun _ _ le ⟨es,c,si,se,c0,q,q2,rest⟩=>⟨es,c,si,se,c0,le _ _ q,le _ _ q2,rest⟩
theorem yUL {es:List MapEntry} {m:List (α × β)} (h:kvs es=yJf kf vf m) {j:Nat} {e:MapEntry} (he:es[j]? = some e):∃ p,m[j]? = some p∧e.key=kf p.1∧e.val=vf p.2:=by
 have h1:(kvs es)[j]? = some (e.key,e.val):=by simp [kvs,he]
 rw [h] at h1;simp only [yJf,zLE,Option.map_eq_some_iff,Prod.mk.injEq] at h1;obtain ⟨p,hp,h2,h3⟩:=h1;exact ⟨p,hp,h2.symm,h3.symm⟩
theorem yUM {es:List MapEntry} {m:List (α × β)} (h:kvs es=yJf kf vf m) {e:MapEntry} (he:e ∈ es):∃ p ∈ m,e.key=kf p.1∧e.val=vf p.2:=by obtain ⟨j,hj⟩:=List.getElem?_of_mem he;obtain ⟨p,hp,q⟩:=yUL h hj;exact ⟨p,zLk hp,q⟩
theorem yN3 {es:Array MapEntry} {clock:Nat} {m:List (α × β)} (hs:Stamped es clock) (h:kvs es.toList=yJf kf vf m):(m.map (·.1)).Nodup:=by
 have h1:es.toList.map (·.key)=m.map (fun p=>kf p.1):=by have:=congrArg (List.map Prod.fst) h;simpa [kvs,yJf,Function.comp_def] using this
 have h2:=hs.2.2;rw [h1] at h2;have h3:(m.map (fun p=>kf p.1))=(m.map (·.1)).map kf:=by simp [Function.comp_def]
 rw [h3] at h2;exact List.Pairwise.of_map kf (fun a b aJ e=>aJ (by rw [e])) h2
section
variable [DecidableEq α] {P:Program} {w:World} {kt:TypeId}
theorem yZO (K:KyOk P kt kf) {es:Array MapEntry} {clock:Nat} {m:List (α × β)} (hs:Stamped es clock) (h:kvs es.toList=yJf kf vf m) (a:α) :((Instr.findKey kt (kf a) es.toList).run P w=.ok none w∧lk m a=none∧∀ e ∈ es.toList,e.key≠kf a)∨∃ j e v,(Instr.findKey kt (kf a) es.toList).run P w=.ok (some (j,e.val)) w∧es.toList[j]? = some e∧e.key=kf a∧e.val=vf v∧lk m a=some v∧m[j]? = some (a,v):=by
 rcases K.find w a es.toList (fun e he=>by obtain ⟨p,_,hp,_⟩:=yUM h he;exact ⟨_,hp⟩) with ⟨h1,h2⟩|⟨j,e,h1,h2,h3⟩
 ·refine .inl ⟨h1,lk_none.2 (fun p hp e=>?_),h2⟩;obtain ⟨j,hj⟩:=List.getElem?_of_mem hp;have:(yJf kf vf m)[j]? = some (kf p.1,vf p.2):=by simp [yJf,hj]
  rw [← h] at this;simp only [kvs,zLE,Option.map_eq_some_iff,Prod.mk.injEq] at this;obtain ⟨x,hx,fi,_⟩:=this;exact h2 x (zLk hx) (by rw [fi,e])
 ·obtain ⟨p,hp,hk,hv⟩:=yUL h h2;have e0:p.1=a:=K.inj _ _ (by rw [← hk,h3]);refine .inr ⟨j,e,p.2,h1,h2,h3,hv,?_,by rw [hp,← e0]⟩;rw [← e0];exact ySk (yN3 hs h) (zLk hp)
theorem ySm (m:List (α × β)) (hn:(m.map (·.1)).Nodup) (j:Nat) (a:α) (v u:β) (hj:m[j]? = some (a,v)):m.map (fun p=>if p.1=a then (a,u) else p)=m.set j (a,u):=by
 induction m generalizing j with
 |nil=>cases hj
 |cons q m ih=>
  simp only [List.map_cons,List.nodup_cons] at hn;cases j with
  |zero=>
   cases hj;simp only [List.map_cons,if_true,List.set_cons_zero,List.cons.injEq,true_and];have:∀ p ∈ m,p.1≠a:=fun p hp e=>hn.1 (by show a ∈ _;rw [← e];exact List.mem_map.2 ⟨p,hp,rfl⟩);have e2:m.map (fun p=>if p.1=a then (a,u) else p)=m.map id:=List.map_congr_left (fun p hp=>if_neg (this p hp));rw [e2];simp
  |succ j=>
   have hj:m[j]? = some (a,v):=by simpa using hj
   have:q.1≠a:=fun e=>hn.1 (by rw [e];exact List.mem_map.2 ⟨_,zLk hj,rfl⟩);simp [this,ih hn.2 j hj]
theorem yIK (K:KyOk P kt kf) {t e:TypeId} (ht:P.underlying t=some (.map kt e)) {b:Nat} {es:Array MapEntry} {clock:Nat} {m:List (α × β)} (hb:w.heap[b]? = some (.map es clock)) (hs:Stamped es clock) (h:kvs es.toList=yJf kf vf m) (a:α) (v:β) :∃ jB ff,(Instr.mapUpdate t (.map (some b)) (kf a) (vf v)).run P w=.ok () (w.putObj b (.map jB ff))∧Stamped jB ff∧kvs jB.toList=yJf kf vf (ySj m a v):=by
 have hY:∀ o,(setObj b o).run P w=.ok () (w.putObj b o):=fun o=>Go.MapKept.run_setObj_map o hb;rcases yZO (P:=P) (w:=w) K hs h a with ⟨h1,h2,h3⟩|⟨j,e0,v0,h1,h2,h3,h4,h5,h6⟩
 ·refine ⟨es.push ⟨kf a,vf v,clock⟩,clock+1,?_,stamped_push hs h3,?_⟩
  ·simp [Instr.mapUpdate,run_underlying ht,Go.MapKept.run_getObj_map hb,K.check w _ a,h1,hY,Result.andThen]
  ·unfold ySj;rw [h2];simp only [Option.isSome_none,Bool.false_eq_true,if_false,yJf,List.map_append,List.map_cons,List.map_nil];rw [← yJf,← h];simp [kvs]
 ·have hj:es[j]? = some e0:=by simpa using h2
  refine ⟨es.modify j (fun e'=>{ e' with key:=kf a,val:=vf v }),clock,?_,stamped_modify hs _ _ (fun _ _=>rfl) (fun e' _ he'=>by rw [hj] at he';cases he';exact h3.symm),?_⟩
  ·simp [Instr.mapUpdate,run_underlying ht,Go.MapKept.run_getObj_map hb,K.check w _ a,h1,hj,h3,K.stays w a,hY,Result.andThen]
  ·unfold ySj;rw [h5];simp only [Option.isSome_some,if_true];rw [ySm m (yN3 hs h) j a v0 v h6];have e1:(es.modify j (fun e'=>{ e' with key:=kf a,val:=vf v })).toList=es.toList.set j { e0 with key:=kf a,val:=vf v }:=by
    apply List.ext_getElem?;intro i;rw [Array.getElem?_toList,Array.getElem?_modify,List.getElem?_set];by_cases ec:j=i
    ·subst ec;have hl:=(zLh.1 hj).1;rw [if_pos rfl,if_pos rfl,if_pos (by simpa using hl),hj];rfl
    ·rw [if_neg ec,if_neg ec,Array.getElem?_toList]
   rw [e1];simp only [kvs,List.map_set,yJf];rw [show es.toList.map (fun e=>(e.key,e.val))=m.map (fun p=>(kf p.1,vf p.2)) from h]
end
end
section
variable {P:Program} {W w:World} {n d:Nat} {E:Env} {H H' R:List SP} {k:KK} {t kt e:TypeId} {x y z:Operand}
theorem St.putTurn {b:Nat} {o':Obj} {A A':SP} (s:St W (A::R) w) (hA:∀ h,A.ok h→∃ o,h b=some o) (hA':A'.ok (Hl.one b o')):St W (A'::R) (w.putObj b o'):=by
 refine St.act (A:=[A]) (B:=[A']) (H:=R) s rfl rfl rfl zW ?_;intro h1 ⟨h,_,_,le,_,a,_⟩ lies;obtain ⟨o,ho⟩:=hA h a;have hlt:=lies.lt (le _ _ ho);refine ⟨Hl.one b o',yBP hA',fun k x hx=>?_,fun k x hx=>?_,fun k _ hn=>World.putObj_heap_other ?_⟩
 ·obtain ⟨rfl,rfl⟩:=Hl.one_some hx;exact World.putObj_heap_same hlt
 ·obtain ⟨rfl,rfl⟩:=Hl.one_some hx;exact .inl ⟨_,le _ _ ho⟩
 ·intro e;subst e;rw [le _ _ ho] at hn;cases hn
variable {α β:Type} {kf:α→Value} {vf:β→Value} {b:Nat} {m:List (α × β)}
theorem St.map {R:List SP} (s:St W H w) (p:Sel (yUK kf vf b m) H R):∃ es clock,w.heap[b]? = some (.map es clock)∧Stamped es clock∧kvs es.toList=yJf kf vf m:=by obtain ⟨h,⟨es,c,q,r⟩,ls⟩:=s.sel p yZN;exact ⟨es,c,(ls _ _ q).2,r⟩
theorem ySn (kf:α→Value) (vf:β→Value) (hn:Nat.blt d n=true) (h:∀ g,KJ W n k ((d,.map (some g))::E) (yUK kf vf g []::H)):KJ W n (.oper P (.makeMap t none) (some d) k) E H:=by
 refine yUI (X:=Nat) (v:=fun g=>.map (some g)) (H':=fun g=>yUK kf vf g []::H) (fun o ho a w M p s=>⟨w.heap.size,w.alloc (.map #[] 0),.inl ?_,?_⟩) hn h
 ·simp [execOp,ho,Instr.makeMap,Go.newObj,Sem.run,Result.andThen]
 ·exact s.alloc ⟨#[],0,Hl.one_self _ _,stamped_empty 0,rfl⟩
section
variable [DecidableEq α]
theorem yJg {a:α} {v:β} (K:KyOk P kt kf) (hx:Env.ev E x=some (.map (some b))) (hy:Env.ev E y=some (kf a)) (hz:Env.ev E z=some (vf v)) [hu:UIs P t (.map kt e)] (hs:Sel (yUK kf vf b m) H R) (h:KJ W n k E (yUK kf vf b (ySj m a v)::R)):KJ W n (.oper P (.mapUpdate t x y z) none k) E H:=by
 refine yUI (X:=Unit) (v:=fun _=>undef) (H':=fun _=>yUK kf vf b (ySj m a v)::R) (fun o ho a' w M p s=>?_) rfl (fun _=>h);obtain ⟨es,c,hb,h1,h2⟩:=s.map (hs.app M);obtain ⟨jB,c',av,h3,h4⟩:=yIK (P:=P) (w:=w) K hu.h hb h1 h2 a v;refine ⟨(),w.putObj b (.map jB c'),.inr ⟨rfl,?_⟩,St.putTurn (s.perm (hs.app M).perm) (fun h ⟨es,c,q,_⟩=>⟨_,q⟩) ⟨jB,c',Hl.one_self _ _,h3,h4⟩⟩;simp [execOp,ho,p.ev hx,p.ev hy,p.ev hz,av,Result.andThen]
end
end
end
end Go.Proofs.YtoipmnikdiogcaaGreatDoor
