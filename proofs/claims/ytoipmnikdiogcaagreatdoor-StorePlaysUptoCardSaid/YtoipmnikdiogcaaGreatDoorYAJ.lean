/-
  Flow.
-/
import Derived.Test.YtoipmnikdiogcaaGreatDoorYAI
set_option maxHeartbeats 64000000
namespace Go.Proofs.YtoipmnikdiogcaaGreatDoor
open Go Go.RowKit
inductive Pl where
 |nil
 |op (i:Nat) (p:Pl)
 |ef (i:Nat) (U:List Nat) (p:Pl)
 |alt (a b:Pl)
def po (l:List Nat) (p:Pl):Pl:=l.foldr .op p
def Pl.heads:Pl→List Nat
 |.nil=>[]
 |.op _ _=>[]
 |.ef i _ _=>[i]
 |.alt a b=>a.heads++b.heads
inductive Path (ops:Array Oper):Nat→Nat→Prop
 |edge {j:Nat} {o:Oper} {e:Edge}:ops[j]? = some o→e ∈ o.after→Region.binds .any e=true→Path ops j e.on
 |step {j i:Nat} {o:Oper} {e:Edge}:ops[j]? = some o→e ∈ o.after→Region.binds .any e=true→Path ops e.on i→Path ops j i
theorem Path.listed {ops:Array Oper} {j i:Nat} (p:Path ops j i) {listed:Array Bool} (hc:Closed .any ops listed) (hj:j ∈ Region.ready .any ops listed∨listed.getD j false=true):listed.getD i false=true:=by
 have one:∀ {j:Nat} {o:Oper} {e:Edge},ops[j]? = some o→e ∈ o.after→Region.binds .any e=true→(j ∈ Region.ready .any ops listed∨listed.getD j false=true)→listed.getD e.on false=true:=by
  intro j o e ho he hb hj;rcases hj with hj|hj
  ·obtain ⟨_,o',gp,aI⟩:=mem_ready.1 hj;rw [ho] at gp;cases gp;exact aI _ he hb
  ·exact hc j o ho hj _ he hb
 induction p with
 |edge ho he hb=>exact one ho he hb hj
 |step ho he hb _ ih=>exact ih (.inr (one ho he hb hj))
def yMu (ops:List Oper):Array Nat:=ops.foldl (fun an o=>an.push (o.after.toList.foldl (fun s e=>bif Region.binds .any e then s ||| 2 ^ e.on ||| an.getD e.on 0 else s) 0)) #[]
def yI7 (ops:Array Oper) (an:Array Nat):Prop:=∀ j i,(an.getD j 0).testBit i=true→Path ops j i
theorem yJZ (l:List Oper):yI7 l.toArray (yMu l):=by
 have key:∀ (r d:List Oper) (an:Array Nat),d++r=l→an.size=d.length→yI7 l.toArray an→yI7 l.toArray (r.foldl (fun an o=>an.push (o.after.toList.foldl (fun s e=>bif Region.binds .any e then s ||| 2 ^ e.on ||| an.getD e.on 0 else s) 0)) an):=by
  intro r
  induction r with
  |nil=>intro d an _ _ h;exact h
  |cons o r ih=>
   intro d an hd hs h;refine ih (d++[o]) _ (by simp [hd]) (by simp [hs]) ?_;have ho:l.toArray[d.length]? = some o:=by subst hd;simp
   have inner:∀ (es:List Edge) (s:Nat),(∀ e ∈ es,e ∈ o.after)→(∀ i,s.testBit i=true→Path l.toArray d.length i)→∀ i,(es.foldl (fun s e=>bif Region.binds .any e then s ||| 2 ^ e.on ||| an.getD e.on 0 else s) s).testBit i=true→Path l.toArray d.length i:=by
    intro es
    induction es with
    |nil=>intro s _ hs i hi;exact hs i hi
    |cons e es ih2=>
     intro s hes jY;refine ih2 _ (fun x hx=>hes x (by simp [hx])) ?_;intro i hi;dsimp only at hi;cases hb:Region.binds .any e with
     |false=>rw [hb] at hi;exact jY i hi
     |true=>
      rw [hb] at hi;simp only [cond_true,Nat.testBit_or,Bool.or_eq_true,Nat.testBit_two_pow,decide_eq_true_eq] at hi;rcases hi with (hi|hi)|hi
      ·exact jY i hi
      ·subst hi;exact .edge ho (hes e zW) hb
      ·exact .step ho (hes e zW) hb (h e.on i hi)
   intro j i hj;by_cases hjl:j=d.length
   ·subst hjl;have e1:(an.push (o.after.toList.foldl (fun s e=>bif Region.binds .any e then s ||| 2 ^ e.on ||| an.getD e.on 0 else s) 0)).getD d.length 0=o.after.toList.foldl (fun s e=>bif Region.binds .any e then s ||| 2 ^ e.on ||| an.getD e.on 0 else s) 0:=by rw [← hs];simp
    rw [e1] at hj;exact inner o.after.toList 0 (fun e he=>by simpa using he) (fun i hi=>by simp at hi) i hj
   ·have e1:(an.push (o.after.toList.foldl (fun s e=>bif Region.binds .any e then s ||| 2 ^ e.on ||| an.getD e.on 0 else s) 0)).getD j 0=an.getD j 0:=by rw [Array.getD_eq_getD_getElem?,Array.getD_eq_getD_getElem?,Array.getElem?_push,if_neg zO]
    rw [e1] at hj;exact h j i hj
 exact key l [] #[] rfl rfl (fun j i h=>by simp at h)
def xA0 (b:Array Nat) (ops:Array Oper) (i:Nat):Bool:=match ops[i]? with
 |none=>false
 |some o=>match o.dst with
  |none=>true
  |some d=>(List.range ops.size).all fun j=>match ops[j]? with
   |none=>true
   |some oj=>(Nat.beq i j || !(oj.dst == some d)) && (!(oj.looksAt ops).contains d || (b.getD j 0).testBit i)
def yNC (ops:Array Oper) (wk:List Nat) (i:Nat):Bool:=match ops[i]? with
 |none=>false
 |some o=>!wk.contains i && o.after.all fun e=>!Region.binds .any e || wk.contains e.on
def yND (b:Array Nat) (ops:Array Oper) (wk hs:List Nat):Bool:=(List.range ops.size).all fun j=>wk.contains j || hs.contains j || hs.any fun e=>(b.getD j 0).testBit e
def yMv (ops:Array Oper):Bool:=Region.noSelect ops && (List.range ops.size).all fun k=>match ops[k]? with
 |none=>true
 |some o=>o.after.all fun e=>!Region.binds .any e || decide (e.on<k)
def yJr (b:Array Nat) (ops:Array Oper):Pl→Bool→List Nat→List Nat→Bool
 |.nil,_,wk,_=>yND b ops wk []
 |.op i p,t,wk,U=>!t && yNC ops wk i && xA0 b ops i && yJr b ops p false (i::wk) (i::U)
 |.ef i U' p,t,wk,U=>(t || yND b ops wk [i]) && yNC ops wk i && (U.all fun u=>U'.contains u || (b.getD i 0).testBit u) && (U'.all fun u=>U.contains u) && yJr b ops p false (i::wk) U'
 |.alt x y,t,wk,U=>!(x.heads++y.heads).isEmpty && (t || yND b ops wk (x.heads++y.heads)) && yJr b ops x true wk U && yJr b ops y true wk U
section
variable (P:Program) (W:World) (n:Nat) (ops:Array Oper) (k:KK)
structure QR (E:Env) (H:List SP) (o:Oper) (v:Value):Prop where
 go:∀ M a w,Hd n E a→St W (H++M) w→(execOp a.eval o).run P w=.ok (.value v) w∨∃ f args,(execOp a.eval o).run P w=.ok (.enter f args) w∧Calls P f args w fun e w'=>e=.returned v∧St W (H++M) w'
structure QV (E:Env) (H:List SP) (o:Oper) (v:Value):Prop where
 go:(∀ a,Hd n E a→Region.wanted o (yielded ops a.tmps)=true)∧QR P W n E H o v∨(∀ a,Hd n E a→Region.wanted o (yielded ops a.tmps)=false)∧v=undef
inductive Rech (E:Env) (H:List SP):List Nat→Prop
 |nil:Rech E H []
 |cons {u:Nat} {U:List Nat} {o:Oper} {v:Value}:ops[u]? = some o→(∀ d,o.dst=some d→Env.at E d=some v)→QV P W n ops E H o v→Rech E H U→Rech E H (u::U)
def FJ:Pl→Env→List SP→Prop
 |.nil,E,H=>KJ W n k E H
 |.op i p,E,H=>∃ o v,ops[i]? = some o∧yFW n o.dst=true∧QV P W n ops E H o v∧FJ p (Env.put E o.dst v) H
 |.ef i U' p,E,H=>(∃ o,ops[i]? = some o∧(∀ a,Hd n E a→Region.wanted o (yielded ops a.tmps)=true)∧
  KJ W n (.oper P o.op o.dst (.raw fun a w=>∃ E' H',Hd n E' a∧Sta W H' a w∧Rech P W n ops E' H' U'∧FJ p E' H')) E H)∨
  (∃ o,ops[i]? = some o∧(∀ a,Hd n E a→Region.wanted o (yielded ops a.tmps)=false)∧yFW n o.dst=true∧Rech P W n ops (Env.put E o.dst undef) H U'∧FJ p (Env.put E o.dst undef) H)
 |.alt x y,E,H=>FJ x E H∧FJ y E H
def yZr (p:Pl) (U:List Nat):Act→World→Prop:=fun a w=>∃ E' H',Hd n E' a∧Sta W H' a w∧Rech P W n ops E' H' U∧FJ P W n ops k p E' H'
end
section
variable {P:Program} {W:World} {n:Nat} {ops:Array Oper} {q:QQ} {k:KK} {g:List Deferred→List Deferred}
def Vir (g:List Deferred→List Deferred) (ops:Array Oper) (U:List Nat) (listed:Array Bool) (a a':Act):Prop:=
 a.defers=g a'.defers∧a.tmps.size=a'.tmps.size∧∀ t,a.tmps[t]? = a'.tmps[t]?∨∃ u ∈ U,listed.getD u false=false∧∃ o,ops[u]? = some o∧o.dst=some t
theorem Vir.eval {U:List Nat} {listed:Array Bool} {a a':Act} (h:Vir g ops U listed a a') {x:Operand} (hx:∀ t,x=.tmp t→∀ u ∈ U,listed.getD u false=false→∀ o,ops[u]? = some o→o.dst≠some t):a.eval x=a'.eval x:=by
 cases x with
 |tmp t=>
  rcases h.2.2 t with e|⟨u,hu,hl,o,ho,hd⟩
  ·simp [Act.eval,e]
  ·exact absurd hd (hx t rfl u hu hl o ho)
 |_=>rfl
theorem yHB {bb:Array Nat} (hb:yI7 ops bb) {i:Nat} (h:xA0 bb ops i=true) {o:Oper} (ho:ops[i]? = some o) {d:Tmp} (hd:o.dst=some d) {j:Nat} {oj:Oper} (hj:ops[j]? = some oj):(i=j∨oj.dst≠some d)∧(d ∉ oj.looksAt ops∨Path ops j i):=by
 unfold xA0 at h;simp only [ho,hd] at h;have h2:=List.all_eq_true.1 h j (List.mem_range.2 (zLh.1 hj).1);simp only [hj,zLw,Bool.or_eq_true,Bool.not_eq_true',beq_eq_false_iff_ne] at h2;refine ⟨h2.1.imp (fun q=>Nat.eq_of_beq_eq_true q) id,h2.2.imp (fun q=>?_) (hb j i)⟩;intro hm;have:(oj.looksAt ops).contains d=true:=by simpa using hm
 rw [this] at q;cases q
theorem Vir.sees {U:List Nat} {listed:Array Bool} {a a':Act} (h:Vir g ops U listed a a') (hc:Closed .any ops listed) {bb:Array Nat} (hb:yI7 ops bb) (hU:∀ u ∈ U,xA0 bb ops u=true) {i:Nat} {o:Oper} (ho:ops[i]? = some o) (hr:i ∈ Region.ready .any ops listed) (ap:∀ cs b,o.op≠.select cs b) :execOp a.eval o=execOp a'.eval o∧Region.wanted o (yielded ops a.tmps)=Region.wanted o (yielded ops a'.tmps):=by
 have key:∀ t ∈ o.looksAt ops,∀ u ∈ U,listed.getD u false=false→∀ ou,ops[u]? = some ou→ou.dst≠some t:=by
  intro t ht u hu hl ou cy hd;rcases (yHB hb (hU u hu) cy hd ho).2 with h3|h3
  ·exact h3 ht
  ·have:=h3.listed hc (.inl hr);rw [hl] at this;cases this
 refine ⟨execOp_congr o ap fun x hx=>h.eval fun t e u hu hl ou cy=>?_,?_⟩
 ·subst e;exact key t (List.mem_append_left _ (List.mem_filterMap.2 ⟨.tmp t,by simpa using hx,rfl⟩)) u hu hl ou cy
 ·unfold Region.wanted;cases hg:o.guard with
  |none=>rfl
  |some gw=>
   obtain ⟨g,want⟩:=gw;have hy:yielded ops a.tmps g=yielded ops a'.tmps g:=by
    unfold yielded;cases ht:(ops[g]?).bind (·.dst) with
    |none=>rfl
    |some t=>
     have hm:t ∈ o.looksAt ops:=by simp [Oper.looksAt,hg,ht]
     have:a.tmps[t]? = a'.tmps[t]?:=by
      rcases h.2.2 t with e|⟨u,hu,hl,ou,cy,hd⟩
      ·exact e
      ·exact absurd hd (key t hm u hu hl ou cy)
     simp [this]
   simp only [hy]
def cnt (l:List Bool):Nat:=(l.filter (!·)).length
theorem yMw:∀ (l:List Bool) (i:Nat),(l[i]? : Option Bool)=some false→cnt (l.set i true)+1=cnt l
 |[],i,h=>by simp at h
 |b::l,0,h=>by simp at h;subst h;simp [cnt]
 |b::l,i+1,h=>by have:=yMw l i (by simpa using h);unfold cnt at this ⊢;simp only [List.set_cons_succ,List.filter_cons];cases b <;> simp <;> omega
theorem yWD (l:List Bool) (h:cnt l=0):∀ i:Nat,(l[i]? : Option Bool)≠some false:=by intro i hi;have:=yMw l i hi;omega
structure FInv (g:List Deferred→List Deferred) (bb:Array Nat) (P:Program) (W:World) (n:Nat) (ops:Array Oper) (wk U:List Nat) (E:Env) (H:List SP) (fuel:Nat) (listed:Array Bool) (a a':Act) (w:World):Prop where
 size:listed.size=ops.size
 closed:Closed .any ops listed
 cnt:cnt listed.toList≤fuel
 sub:∀ k,listed.getD k false=true→k ∈ wk
 cov:∀ k ∈ wk,listed.getD k false=true∨k ∈ U
 uwk:∀ u ∈ U,u ∈ wk
 own:∀ u ∈ U,xA0 bb ops u=true
 hd:Hd n E a'
 rech:Rech P W n ops E H U
 st:Sta W H a' w
 vir:Vir g ops U listed a a'
theorem yCK (h:yMv ops=true):(∀ (j:Nat) (o:Oper) cs b,ops[j]? = some o→o.op≠.select cs b)∧∀ (k:Nat) (o:Oper),ops[k]? = some o→∀ e ∈ o.after,Region.binds .any e=true→e.on<k:=by unfold yMv at h;simp only [zLw] at h;refine ⟨Region.noSelect_spec h.1,fun k o hk e he hb=>?_⟩;have h2:=List.all_eq_true.1 h.2 k (List.mem_range.2 (zLh.1 hk).1);simp only [hk] at h2;have h3:=(Array.all_eq_true_iff_forall_mem.1 h2) e he;simpa [hb] using h3
theorem yRN (hB:yMv ops=true) {listed:Array Bool} (hs:listed.size=ops.size) (h:Region.ready .any ops listed=[]):∀ k,k<ops.size→listed.getD k false=true:=by
 intro k
 induction k using Nat.strongRecOn with
 |_ k ih=>
  intro hk;cases hl:listed.getD k false with
  |true=>rfl
  |false=>
   exfalso;have:k ∈ Region.ready .any ops listed:=by
    refine mem_ready.2 ⟨?_,ops[k],by simp [hk],fun e he hb=>?_⟩
    ·have eH:k<listed.size:=by omega
     simp [eH] at hl ⊢;exact hl
    ·have hlt:=(yCK hB).2 k ops[k] (by simp [hk]) e he hb;exact ih e.on hlt zO
   rw [h] at this;cases this
theorem yLD {listed:Array Bool} {i k:Nat} (h:(listed.setIfInBounds i true).getD k false=true):k=i∨listed.getD k false=true:=by
 by_cases e:i=k
 ·exact .inl e.symm
 ·right;rwa [getD_set_ne false e] at h
theorem FInv.quiet {wk U:List Nat} {E:Env} {H:List SP} {fuel:Nat} {listed:Array Bool} {a a':Act} {w w':World} {bb:Array Nat} (I:FInv g bb P W n ops wk U E H (fuel+1) listed a a' w) {i:Nat} (hr:i ∈ Region.ready .any ops listed) (hi:i ∈ wk) {o:Oper} (ho:ops[i]? = some o) {v:Value} (hv:∀ d,o.dst=some d→Env.at E d=some v) (hw:Sta W H a' w') :FInv g bb P W n ops wk U E H fuel (listed.setIfInBounds i true) (a.put o.dst v) a' w':=by
 obtain ⟨h0,_⟩:=mem_ready.1 hr;have hlt:i<listed.size:=by
  rcases Nat.lt_or_ge i listed.size with h|h
  ·exact h
  ·simp [Array.getElem?_eq_none h] at h0
 have h1:listed.toList[i]? = some false:=by simp [hlt] at h0 ⊢;exact h0
 refine ⟨by simp [I.size],I.closed.set hr,?_,fun k hk=>?_,fun k hk=>(I.cov k hk).imp getD_set_true id,I.uwk,I.own,I.hd,I.rech,hw,?_⟩
 ·have:=yMw listed.toList i h1;have h2:=I.cnt;simp only [Array.toList_setIfInBounds];omega
 ·rcases yLD hk with e|e
  ·rw [e];exact hi
  ·exact I.sub k e
 ·obtain ⟨v1,v2,v3⟩:=I.vir;refine ⟨by cases hd:o.dst <;> simpa [Act.put,hd] using v1,by cases hd:o.dst <;> simpa [Act.put,hd] using v2,fun t=>?_⟩;by_cases ht:o.dst=some t
  ·left;have h3:=I.hd.at_ t v (hv t ht);have h4:t<a.tmps.size:=by rw [v2];exact (zLh.1 h3).1
   rw [h3];simp [Act.put,ht,h4]
  ·have he:(a.put o.dst v).tmps[t]? = a.tmps[t]?:=by
    cases hd:o.dst with
    |none=>rfl
    |some d=>
     have:d≠t:=fun e=>ht (by rw [hd,e]);simp [Act.put,zLx this]
   rw [he];rcases v3 t with e|⟨u,hu,hl,ou,cy,hd⟩
   ·exact .inl e
   ·refine .inr ⟨u,hu,?_,ou,cy,hd⟩;have:i≠u:=by intro e;subst e;rw [ho] at cy;cases cy;exact ht hd
    rwa [getD_set_ne false this]
theorem xBe {o:Oper} {a a':Act} {w:World} {K:Act→World→Prop} (h:uponP P o a' K ((execOp a'.eval o).run P w)) (he:execOp a.eval o=execOp a'.eval o):uponP P o a (fun a1 w1=>∃ v,a1=a.put o.dst v∧K (a'.put o.dst v) w1) ((execOp a.eval o).run P w):=by
 rw [he];generalize (execOp a'.eval o).run P w=r at *;unfold uponP at h ⊢;split
 ·exact ⟨_,rfl,h⟩
 ·exact ⟨_,rfl,h⟩
 ·exact h.mono fun e w ⟨v,he,hn⟩=>⟨v,he,_,rfl,hn⟩
 ·exact h.mono fun e w ⟨v,he,hn⟩=>⟨v,he,_,rfl,hn⟩
 ·simp_all
theorem Rech.get {E:Env} {H:List SP} {U:List Nat} (h:Rech P W n ops E H U):∀ u ∈ U,∃ o,ops[u]? = some o∧∃ v,(∀ d,o.dst=some d→Env.at E d=some v)∧QV P W n ops E H o v:=by
 induction h with
 |nil=>intro u hu;cases hu
 |cons ho hv hq _ ih=>
  intro u hu;rcases zLm.1 hu with e|e
  ·subst e;exact ⟨_,ho,_,hv,hq⟩
  ·exact ih u e
theorem Rech.of {E:Env} {H:List SP} {U:List Nat} (h:∀ u ∈ U,∃ o,ops[u]? = some o∧∃ v,(∀ d,o.dst=some d→Env.at E d=some v)∧QV P W n ops E H o v):Rech P W n ops E H U:=by
 induction U with
 |nil=>exact .nil
 |cons u U ih=>
  obtain ⟨o,ho,v,hv,hq⟩:=h u zW;exact .cons ho hv hq (ih fun x hx=>h x (by simp [hx]))
theorem yWE {wk U:List Nat} {E:Env} {H:List SP} (hB:yMv ops=true) {bb:Array Nat} (d6:yI7 ops bb) (hs:List Nat) (gP:yND bb ops wk hs=true) (ao:∀ e ∈ hs,e ∉ wk∧e<ops.size) (eX:∀ e ∈ hs,∀ fuel listed a a' w,FInv g bb P W n ops wk U E H (fuel+1) listed a a' w→e ∈ Region.ready .any ops listed→wpOpIn (fen q.ro) 0 P ops q.den e (fun a1 w1=>wpAnyIn (fen q.ro) 0 P .any ops q.den fuel (listed.setIfInBounds e true) a1 w1) a w) (a7:hs=[]→KJ W n k E H) (hk:∀ a w,k.den a w→q.den .normal { a with defers:=g a.defers } w):∀ fuel listed a a' w,FInv g bb P W n ops wk U E H fuel listed a a' w→wpAnyIn (fen q.ro) 0 P .any ops q.den fuel listed a w:=by
 intro fuel;have cX:∀ (fuel:Nat) listed a a' w,FInv g bb P W n ops wk U E H fuel listed a a' w→(∀ k,k<ops.size→listed.getD k false=true)→q.den .normal a w:=by
  intro fuel listed a a' w I aI;have hs0:hs=[]:=by
   cases hs with
   |nil=>rfl
   |cons e hs=>
    have:=ao e zW;exact absurd (I.sub e (aI e this.2)) this.1
  have ha:a={ a' with defers:=g a'.defers }:=by
   obtain ⟨v1,v2,v3⟩:=I.vir;have:a.tmps=a'.tmps:=by
    apply Array.ext_getElem?;intro t;rcases v3 t with e|⟨u,hu,hl,ou,cy,_⟩
    ·exact e
    ·have:=aI u (zLh.1 cy).1;rw [hl] at this;cases this
   cases a;cases a';simp_all
  subst ha;exact hk a' w ((a7 hs0).go a' w I.hd I.st)
 induction fuel with
 |zero=>
  intro listed a a' w I;have hc:cnt listed.toList=0:=by have:=I.cnt;omega
  have aI:∀ k,k<ops.size→listed.getD k false=true:=by
   intro k hk;have h1:=yWD _ hc k;have h2:k<listed.size:=by rw [I.size];exact hk
   simp [h2] at h1 ⊢;exact h1
  refine ⟨?_,cX 0 listed a a' w I aI⟩;cases hr:Region.ready .any ops listed with
  |nil=>rfl
  |cons x xs=>
   have hx:x ∈ Region.ready .any ops listed:=by rw [hr];simp
   obtain ⟨h0,ox,hox,_⟩:=mem_ready.1 hx;have h1:=aI x (zLh.1 hox).1;exact (yHA h0 h1).elim
 |succ fuel ih=>
  intro listed a a' w I;refine ⟨fun h0=>cX _ listed a a' w I (yRN hB I.size h0),fun i hr=>?_⟩;obtain ⟨h0,o,ho,_⟩:=mem_ready.1 hr;have hilt:=(zLh.1 ho).1;by_cases hi:i ∈ wk
  ·have hU:i ∈ U:=by
    rcases I.cov i hi with h|h
    ·exact (yHA h0 h).elim
    ·exact h
   obtain ⟨o',gp,v,hv,hq⟩:=I.rech.get i hU;rw [ho] at gp;cases gp;obtain ⟨hex,hwn⟩:=I.vir.sees I.closed d6 I.own ho hr ((yCK hB).1 i o · · ho);unfold wpOpIn;simp only [ho];rcases hq.go with ⟨hw,hqr⟩|⟨hw,rfl⟩
   ·rw [if_pos (by rw [hwn];exact hw a' I.hd)];refine uponP.wpIn _ _ ?_;rw [hex];rcases hqr.go _ a' w I.hd I.st with av|⟨f,args,av,hcall⟩
    ·rw [av];exact ih _ _ _ _ (I.quiet hr hi ho hv I.st)
    ·rw [av];refine hcall.mono ?_
     rintro e w' ⟨rfl,aj⟩
     exact ⟨_,rfl,ih _ _ _ _ (I.quiet hr hi ho hv aj)⟩
   ·rw [if_neg (by rw [hwn,hw a' I.hd];simp)];exact ⟨fun _ _=>trivial,ih _ _ _ _ (I.quiet hr hi ho hv I.st)⟩
  ·have h2:=List.all_eq_true.1 gP i (List.mem_range.2 hilt);simp only [Bool.or_eq_true,List.contains_iff_mem,List.any_eq_true] at h2;rcases h2 with (h2|h2)|⟨e,he,hw⟩
   ·exact absurd h2 hi
   ·exact eX i h2 fuel listed a a' w I hr
   ·have hl:=(d6 i e hw).listed I.closed (.inl hr);exact absurd (I.sub e hl) (ao e he).1
theorem yF4 {wk:List Nat} {i:Nat} (h:yNC ops wk i=true):i ∉ wk∧i<ops.size:=by
 unfold yNC at h;cases ho:ops[i]? with
 |none=>simp [ho] at h
 |some o=>
  simp only [ho,zLw,Bool.not_eq_true'] at h;refine ⟨fun hm=>?_,(zLh.1 ho).1⟩;have:wk.contains i=true:=by simpa using hm
  rw [this] at h;cases h.1
theorem yGz {bb:Array Nat}:∀ (p:Pl) (t:Bool) (wk U:List Nat),yJr bb ops p t wk U=true→∀ e ∈ p.heads,e ∉ wk∧e<ops.size
 |.nil,_,_,_,_,e,he=>by cases he
 |.op i p,_,_,_,_,e,he=>by cases he
 |.ef i U' p,t,wk,U,h,e,he=>by
  have he:e=i:=by simpa [Pl.heads] using he
  subst he;simp only [yJr,zLw] at h;exact yF4 h.1.1.1.2
 |.alt x y,t,wk,U,h,e,he=>by
  simp only [yJr,zLw] at h;rcases List.mem_append.1 he with he|he
  ·exact yGz x true wk U h.1.2 e he
  ·exact yGz y true wk U h.2 e he
theorem QV.put {E:Env} {H:List SP} {o:Oper} {v x:Value} {d:Option Tmp} (h:QV P W n ops E H o v) (hd:∀ t,d=some t→t ∉ o.looksAt ops) (ap:∀ cs b,o.op≠.select cs b):QV P W n ops (Env.put E d x) H o v:=by
 cases d with
 |none=>exact h
 |some d=>
  have key:∀ a,Hd n ((d,x)::E) a→∃ u,Hd n E (a.put (some d) u):=by
   intro a p;cases he:Env.at E d with
   |none=>
    refine ⟨a.tmps.getD d undef,?_,fun t u q=>?_⟩
    ·simpa [Act.put] using p.size
    ·have ao:d≠t:=fun e=>by subst e;rw [he] at q;cases q
     have:=p.at_ t u (by rw [Env.at_cons,if_neg ao];exact q);simpa [Act.put,zLx ao] using this
   |some u=>
    refine ⟨u,?_,fun t u' q=>?_⟩
    ·simpa [Act.put] using p.size
    ·by_cases ao:d=t
     ·subst ao;rw [he] at q;cases q;have:=p.at_ d x (Env.at_self _ _ _);have hl:=(zLh.1 this).1;simp [Act.put,hl]
     ·have:=p.at_ t u' (by rw [Env.at_cons,if_neg ao];exact q);simpa [Act.put,zLx ao] using this
  have eh:=hd d rfl;refine ⟨?_⟩;rcases h.go with ⟨hw,hq⟩|⟨hw,rfl⟩
  ·refine .inl ⟨fun a p=>?_,⟨fun M a w p s=>?_⟩⟩
   ·obtain ⟨u,pu⟩:=key a p;rw [← hw _ pu,wanted_put o a (some d) u (fun t e=>by cases e;exact eh)]
   ·obtain ⟨u,pu⟩:=key a p;have:=hq.go M _ w pu s
    rwa [execOp_put o ap a (some d) u (fun t e=>by cases e;exact eh)] at this
  ·refine .inr ⟨fun a p=>?_,rfl⟩;obtain ⟨u,pu⟩:=key a p;rw [← hw _ pu,wanted_put o a (some d) u (fun t e=>by cases e;exact eh)]
theorem yHC {listed:Array Bool} {i:Nat} (h:¬ listed.getD i false=true):listed.getD i false=false:=by
 cases q:listed.getD i false with
 |false=>rfl
 |true=>exact absurd q h
theorem yTM (hB:yMv ops=true) {j i:Nat} (p:Path ops j i):i<j:=by
 induction p with
 |edge ho he hb=>exact (yCK hB).2 _ _ ho _ he hb
 |step ho he hb _ ih=>have:=(yCK hB).2 _ _ ho _ he hb;omega
def WkOk (ops:Array Oper) (wk:List Nat):Prop:=∀ k ∈ wk,∀ o,ops[k]? = some o→∀ e ∈ o.after,Region.binds .any e=true→e.on ∈ wk
theorem WkOk.path {wk:List Nat} (h:WkOk ops wk) {j i:Nat} (p:Path ops j i) (hj:j ∈ wk):i ∈ wk:=by
 induction p with
 |edge ho he hb=>exact h _ hj _ ho _ he hb
 |step ho he hb _ ih=>exact ih (h _ hj _ ho _ he hb)
theorem WkOk.cons {wk:List Nat} (h:WkOk ops wk) {i:Nat} (hd:yNC ops wk i=true):WkOk ops (i::wk):=by
 intro k hk o ho e he hb;rcases zLm.1 hk with q|q
 ·subst q;unfold yNC at hd;simp only [ho,zLw] at hd;have:=(Array.all_eq_true_iff_forall_mem.1 hd.2) e he;simp only [hb,Bool.not_true,Bool.false_or] at this;simp [show e.on ∈ wk by simpa using this]
 ·simp [h k q o ho e he hb]
theorem yWF {listed:Array Bool} {i:Nat} (hr:i ∈ Region.ready .any ops listed):(listed.setIfInBounds i true).getD i false=true:=by
 obtain ⟨h0,_⟩:=mem_ready.1 hr;have hlt:i<listed.size:=by
  rcases Nat.lt_or_ge i listed.size with h|h
  ·exact h
  ·simp [Array.getElem?_eq_none h] at h0
 simp [hlt]
theorem FJ.sound (hk:∀ a w,k.den a w→q.den .normal { a with defers:=g a.defers } w) (hB:yMv ops=true) {bb:Array Nat} (d6:yI7 ops bb):∀ (p:Pl) (t:Bool) (wk U:List Nat) (E:Env) (H:List SP),yJr bb ops p t wk U=true→WkOk ops wk→FJ P W n ops k p E H→(t=false→∀ fuel listed a a' w,FInv g bb P W n ops wk U E H fuel listed a a' w→wpAnyIn (fen q.ro) 0 P .any ops q.den fuel listed a w)∧ (∀ e ∈ p.heads,∀ fuel listed a a' w,FInv g bb P W n ops wk U E H (fuel+1) listed a a' w→e ∈ Region.ready .any ops listed→wpOpIn (fen q.ro) 0 P ops q.den e (fun a1 w1=>wpAnyIn (fen q.ro) 0 P .any ops q.den fuel (listed.setIfInBounds e true) a1 w1) a w):=by
 intro p
 induction p with
 |nil=>
  intro t wk U E H hp _ h;refine ⟨fun _=>yWE hB d6 [] hp (fun e he=>by cases he) (fun e he=>by cases he) (fun _=>h) hk,fun e he=>by cases he⟩
 |op i p ih=>
  intro t wk U E H hp et h;simp only [yJr,zLw,Bool.not_eq_true'] at hp;obtain ⟨⟨⟨ht,bQ⟩,aA⟩,hp⟩:=hp;refine ⟨fun _=>?_,fun e he=>by cases he⟩;obtain ⟨o,v,ho,gY,hq,hF⟩:=h;intro fuel listed a a' w I;have ip:=yF4 bQ;have dJ:¬ listed.getD i false=true:=fun hl=>ip.1 (I.sub i hl);refine (ih false (i::wk) (i::U) (Env.put E o.dst v) H hp (et.cons bQ) hF).1 rfl fuel listed a (a'.put o.dst v) w ⟨I.size,I.closed,I.cnt,fun k hk=>by simp [I.sub k hk],fun k hk=>?_,fun u hu=>?_,fun u hu=>?_,I.hd.put gY v,?_,(by show St W (H++dm (a'.put o.dst v).defers) w;rw [yB9];exact I.st),?_⟩
  ·rcases zLm.1 hk with e|e
   ·right;simp [e]
   ·exact (I.cov k e).imp id (fun q=>by simp [q])
  ·rcases zLm.1 hu with e|e
   ·simp [e]
   ·simp [I.uwk u e]
  ·rcases zLm.1 hu with e|e
   ·rw [e];exact aA
   ·exact I.own u e
  ·refine Rech.of fun u hu=>?_;have eC:∀ ou,ops[u]? = some ou→∀ tt,o.dst=some tt→tt ∉ ou.looksAt ops:=by
    intro ou cy tt htt hm;rcases (yHB d6 aA ho htt cy).2 with h1|h1
    ·exact h1 hm
    ·rcases zLm.1 hu with e|e
     ·subst e;have:=yTM hB h1;omega
     ·exact ip.1 (et.path h1 (I.uwk u e))
   rcases zLm.1 hu with e|e
   ·subst e;refine ⟨o,ho,v,fun d hd=>by rw [hd];exact Env.at_self _ _ _,hq.put (eC o ho) ((yCK hB).1 _ o · · ho)⟩
   ·obtain ⟨ou,cy,vu,hvu,hqu⟩:=I.rech.get u e;refine ⟨ou,cy,vu,fun d hd=>?_,hqu.put (eC ou cy) ((yCK hB).1 _ ou · · cy)⟩;have ao:o.dst≠some d:=by
     rcases (yHB d6 (I.own u e) cy hd ho).1 with h1|h1
     ·subst h1;exact absurd (I.uwk u e) ip.1
     ·exact h1
    cases hod:o.dst with
    |none=>exact hvu d hd
    |some d'=>
     show Env.at ((d',v)::E) d=_;rw [Env.at_cons,if_neg (fun h=>ao (by rw [hod,h]))];exact hvu d hd
  ·obtain ⟨v1,v2,v3⟩:=I.vir;refine ⟨by cases hd:o.dst <;> simpa [Act.put,hd] using v1,by cases hd:o.dst <;> simpa [Act.put,hd] using v2,fun tt=>?_⟩;by_cases htt:o.dst=some tt
   ·exact .inr ⟨i,by simp,yHC dJ,o,ho,htt⟩
   ·have he:(a'.put o.dst v).tmps[tt]? = a'.tmps[tt]?:=by
     cases hd:o.dst with
     |none=>rfl
     |some d=>
      have:d≠tt:=fun e=>htt (by rw [hd,e]);simp [Act.put,zLx this]
    rw [he];exact (v3 tt).imp id fun ⟨u,hu,r⟩=>⟨u,by simp [hu],r⟩
 |ef i U' p ih=>
  intro t wk U E H hp et h;have jQ:=hp;simp only [yJr,zLw,Bool.or_eq_true] at hp;obtain ⟨⟨⟨⟨gP,bQ⟩,hU⟩,hU'⟩,hp⟩:=hp;have ip:=yF4 bQ;have dI:∀ u ∈ U',u ∈ U:=fun u hu=>by simpa using List.all_eq_true.1 hU' u hu
  have eX:∀ e ∈ (Pl.ef i U' p).heads,∀ fuel listed a a' w,FInv g bb P W n ops wk U E H (fuel+1) listed a a' w→e ∈ Region.ready .any ops listed→wpOpIn (fen q.ro) 0 P ops q.den e (fun a1 w1=>wpAnyIn (fen q.ro) 0 P .any ops q.den fuel (listed.setIfInBounds e true) a1 w1) a w:=by
   intro e he fuel listed a a' w I hr;have he:e=i:=by simpa [Pl.heads] using he
   subst he;have build:∀ (o:Oper),ops[e]? = some o→∀ (v:Value) (w1:World) (E':Env) (H':List SP),Hd n E' (a'.put o.dst v)→Sta W H' (a'.put o.dst v) w1→Rech P W n ops E' H' U'→FInv g bb P W n ops (e::wk) U' E' H' fuel (listed.setIfInBounds e true) (a.put o.dst v) (a'.put o.dst v) w1:=by
    intro o ho v w1 E' H' eh st' re';obtain ⟨h0,_⟩:=mem_ready.1 hr;have hlt:e<listed.size:=by
     rcases Nat.lt_or_ge e listed.size with h|h
     ·exact h
     ·simp [Array.getElem?_eq_none h] at h0
    have h1:(listed.toList[e]? : Option Bool)=some false:=by simp [hlt] at h0 ⊢;exact h0
    refine ⟨by simp [I.size],I.closed.set hr,?_,fun k hk=>?_,fun k hk=>?_,fun u hu=>?_,fun u hu=>I.own u (dI u hu),eh,re',st',?_⟩
    ·have:=yMw listed.toList e h1;have h2:=I.cnt;simp only [Array.toList_setIfInBounds];omega
    ·rcases yLD hk with q|q
     ·simp [q]
     ·simp [I.sub k q]
    ·rcases zLm.1 hk with q|q
     ·subst q;exact .inl (yWF hr)
     ·rcases I.cov k q with c|c
      ·exact .inl (getD_set_true c)
      ·have h3:=List.all_eq_true.1 hU k c;simp only [Bool.or_eq_true,List.contains_iff_mem] at h3;rcases h3 with h3|h3
       ·exact .inr h3
       ·exact .inl (getD_set_true ((d6 e k h3).listed I.closed (.inl hr)))
    ·simp [I.uwk u (dI u hu)]
    ·obtain ⟨v1,v2,v3⟩:=I.vir;refine ⟨by cases hd:o.dst <;> simpa [Act.put,hd] using v1,by cases hd:o.dst <;> simpa [Act.put,hd] using v2,fun tt=>?_⟩;by_cases htt:o.dst=some tt
     ·left;simp only [Act.put,htt,Array.getElem?_setIfInBounds,v2];simp
     ·have hpt:∀ b:Act,(b.put o.dst v).tmps[tt]? = b.tmps[tt]?:=by
       intro b;cases hd:o.dst with
       |none=>rfl
       |some d=>
        have:d≠tt:=fun e=>htt (by rw [hd,e]);simp [Act.put,zLx this]
      rw [hpt,hpt];rcases v3 tt with c|⟨u,hu,hl,ou,cy,hdu⟩
      ·exact .inl c
      ·have ao:e≠u:=fun h=>by subst h;exact ip.1 (I.uwk _ hu)
       refine .inr ⟨u,?_,by rwa [getD_set_ne false ao],ou,cy,hdu⟩;have h3:=List.all_eq_true.1 hU u hu;simp only [Bool.or_eq_true,List.contains_iff_mem] at h3;rcases h3 with h3|h3
       ·exact h3
       ·have:=(d6 e u h3).listed I.closed (.inl hr);rw [hl] at this;cases this
   rcases h with ⟨o,ho,hwant,hk⟩|⟨o,ho,hwant,gY,hre,hF⟩
   ·obtain ⟨hex,hwn⟩:=I.vir.sees I.closed d6 I.own ho hr ((yCK hB).1 _ o · · ho);unfold wpOpIn;simp only [ho];rw [if_pos (by rw [hwn];exact hwant a' I.hd)];refine uponP.wpIn _ _ ((xBe (hk.go a' w I.hd I.st o rfl rfl) hex).mono ?_)
    rintro a1 w1 ⟨v,rfl,E',H',eh,st',re',fj'⟩
    exact (ih false (e::wk) U' E' H' hp (et.cons bQ) fj').1 rfl fuel _ _ _ w1 (build o ho v w1 E' H' eh st' re')
   ·obtain ⟨hex,hwn⟩:=I.vir.sees I.closed d6 I.own ho hr ((yCK hB).1 _ o · · ho);unfold wpOpIn;simp only [ho];rw [if_neg (by rw [hwn,hwant a' I.hd];simp)];exact ⟨fun _ _=>trivial,(ih false (e::wk) U' _ H hp (et.cons bQ) hF).1 rfl fuel _ _ _ w (build o ho undef w _ H (I.hd.put gY undef) (by show St W (H++dm (a'.put o.dst undef).defers) w;rw [yB9];exact I.st) hre)⟩
  refine ⟨fun htf=>?_,eX⟩;subst htf;exact yWE hB d6 [i] (by simpa using gP) (yGz (.ef i U' p) false wk U jQ) eX (fun h=>by cases h) hk
 |alt x y ihx ihy=>
  intro t wk U E H hp et h;have jQ:=hp;simp only [yJr,zLw,Bool.or_eq_true] at hp;obtain ⟨⟨⟨dH,gP⟩,hx⟩,hy⟩:=hp;have eX:∀ e ∈ (Pl.alt x y).heads,∀ fuel listed a a' w,FInv g bb P W n ops wk U E H (fuel+1) listed a a' w→e ∈ Region.ready .any ops listed→wpOpIn (fen q.ro) 0 P ops q.den e (fun a1 w1=>wpAnyIn (fen q.ro) 0 P .any ops q.den fuel (listed.setIfInBounds e true) a1 w1) a w:=by
   intro e he;rcases List.mem_append.1 he with he|he
   ·exact (ihx true wk U E H hx et h.1).2 e he
   ·exact (ihy true wk U E H hy et h.2).2 e he
  refine ⟨fun htf=>?_,eX⟩;subst htf;exact yWE hB d6 (x.heads++y.heads) (by simpa using gP) (yGz (.alt x y) false wk U jQ) eX (fun h=>by rw [h] at dH;cases dH) hk
end
section
variable {P:Program} {W:World} {n:Nat} {ops:Array Oper} {q:QQ} {k:KK} {E:Env} {H:List SP} {l:List Oper} {op:Op} {d:Nat} {dd:Option Tmp} {ty:TypeId} {pos:String} {af:Array Edge} {p:Pl} {i:Nat}
def yRO (ops:List Oper) (p:Pl):Bool:=yMv ops.toArray && yJr (yMu ops) ops.toArray p false [] []
theorem yHD (m:Nat):cnt (List.replicate m false)=m:=by
 unfold cnt
 induction m with
 |zero=>rfl
 |succ m ih=>simp [List.replicate_succ] at ih ⊢
theorem yNE {id:Nat} {g:List Deferred→List Deferred} (hk:∀ a w,k.den a w→q.den .normal { a with defers:=g a.defers } w) (p:Pl) (hm:P.follows .mixedOrders=true) (hB:yRO l p=true) (h:FJ P W n l.toArray k p E H) {a:Act} {w:World} (hd:Hd n E a) (st:Sta W H a w):(Code.region id l.toArray true).wpIn (fen q.ro) 0 P q.den { a with defers:=g a.defers } w:=by simp only [yRO,zLw] at hB;refine wpIn_region_any hm ?_;refine (FJ.sound hk hB.1 (yJZ l) p false [] [] E H hB.2 (fun k hk=>by cases hk) h).1 rfl _ _ _ a _ ⟨by simp,fun k o _ hl=>(by rw [getD_replicate_false] at hl;cases hl),?_,fun k hk=>(by rw [getD_replicate_false] at hk;cases hk),fun k hk=>(by cases hk),fun u hu=>(by cases hu),fun u hu=>(by cases hu),hd,.nil,st.drawn _,rfl,rfl,fun t=>.inl rfl⟩;rw [Array.toList_replicate,yHD];exact Nat.le_refl _
theorem yWG {id:Nat} (p:Pl) (hm:P.follows .mixedOrders=true) (hB:yRO l p=true) (h:FJ P W n l.toArray (.ex q .normal) p E H):KJ W n (.code P (Code.region id l.toArray true) q) E H:=
 ⟨fun _ _ hd st=>yNE (g:=fun l=>l) (k:=.ex q .normal) (fun _ _ h=>h) p hm hB h hd st⟩
theorem QV.ev {v:Value} {o:Oper} (hg:o.guard=none) (h:Ev P W n E H o.op v):QV P W n ops E H o v:=
 ⟨.inl ⟨fun a _=>by simp [Region.wanted,hg],⟨fun _ a w p s=>.inl (h.go o rfl a w p s.left)⟩⟩⟩
theorem QV.evg {v:Value} {o:Oper} {j t:Nat} {b:Bool} (hg:o.guard=some (j,b)) (hj:(ops[j]?).bind (·.dst)=some t) (ht:Env.at E t=some (.bool b)) (h:Ev P W n E H o.op v):QV P W n ops E H o v:=
 ⟨.inl ⟨fun a p=>by rw [yEg hg hj p ht];simp,⟨fun _ a w p s=>.inl (h.go o rfl a w p s.left)⟩⟩⟩
theorem QV.no {o:Oper} {j t:Nat} {b:Bool} {v:Value} (hg:o.guard=some (j,b)) (hj:(ops[j]?).bind (·.dst)=some t) (ht:Env.at E t=some v) (hv:yYr b v=true):QV P W n ops E H o undef:=
 ⟨.inr ⟨fun a p=>by rw [yEg hg hj p ht];cases v <;> simp_all [yYr],rfl⟩⟩
theorem QR.call {o:Oper} {f:FuncId} {xs:List Operand} {ts:Array TypeId} {vs:List Value} {Hpre R:List SP} {v:Value} {X:Type} (ho:o.op=.call { callee:=.value (.func f),args:=xs.toArray,argTypes:=ts }) (hx:Evs E xs vs) [hf:FnIs P f] (hc:Ct P W f vs Hpre (fun _:X=>v) (fun _=>Hpre)) (hp:Pick Hpre H R):QR P W n E H o v:=
 ⟨fun M _ w p s=>.inr ⟨f,_,yHz ho hx p w,(hc.go (R++M) w (s.perm ((hp.perm.append_right _).trans (by rw [zLd])))).mono fun _ _ ⟨_,he,hs⟩=>⟨he,hs.perm ((show (Hpre++(R++M)).Perm ((Hpre++R)++M) by rw [zLd]).trans (hp.perm.symm.append_right _))⟩⟩⟩
theorem QV.call {f:FuncId} {xs:List Operand} {ts:Array TypeId} {vs:List Value} {Hpre R:List SP} {v:Value} {X:Type} {o:Oper} (hg:o.guard=none) (ho:o.op=.call { callee:=.value (.func f),args:=xs.toArray,argTypes:=ts }) (hx:Evs E xs vs) [hf:FnIs P f] (hc:Ct P W f vs Hpre (fun _:X=>v) (fun _=>Hpre)) (hp:Pick Hpre H R):QV P W n ops E H o v:=
 ⟨.inl ⟨fun a _=>by simp [Region.wanted,hg],QR.call ho hx hc hp⟩⟩
theorem QV.callg {f:FuncId} {xs:List Operand} {ts:Array TypeId} {vs:List Value} {Hpre R:List SP} {v:Value} {X:Type} {o:Oper} {j t:Nat} {b:Bool} (hg:o.guard=some (j,b)) (hj:(ops[j]?).bind (·.dst)=some t) (ht:Env.at E t=some (.bool b)) (ho:o.op=.call { callee:=.value (.func f),args:=xs.toArray,argTypes:=ts }) (hx:Evs E xs vs) [hf:FnIs P f] (hc:Ct P W f vs Hpre (fun _:X=>v) (fun _=>Hpre)) (hp:Pick Hpre H R):QV P W n ops E H o v:=
 ⟨.inl ⟨fun a p=>by rw [yEg hg hj p ht];simp,QR.call ho hx hc hp⟩⟩
structure FW (P:Program) (W:World) (n:Nat) (ops:Array Oper) (k:KK) (p:Pl) (E:Env) (H:List SP):Prop where
 go:FJ P W n ops k p E H
structure FO (P:Program) (W:World) (n:Nat) (ops:Array Oper) (k:KK) (o:Oper) (p:Pl) (E:Env) (H:List SP):Prop where
 go:∃ v,yFW n o.dst=true∧QV P W n ops E H o v∧FJ P W n ops k p (Env.put E o.dst v) H
structure RO (P:Program) (W:World) (n:Nat) (ops:Array Oper) (o:Oper) (U:List Nat) (E:Env) (H:List SP):Prop where
 go:∃ v,(∀ d,o.dst=some d→Env.at E d=some v)∧QV P W n ops E H o v∧Rech P W n ops E H U
theorem yWH {id:Nat} (p:Pl) (hm:P.follows .mixedOrders=true) (hB:yRO l p=true) (h:FW P W n l.toArray (.ex q .normal) p E H):KJ W n (.code P (Code.region id l.toArray true) q) E H:=yWG p hm hB h.go
theorem yQw (h:KJ W n k E H):FW P W n ops k .nil E H:=⟨h⟩
theorem yB8 {o:Oper} (ho:ops[i]? = some o) (h:FO P W n ops k o p E H):FW P W n ops k (.op i p) E H:=by obtain ⟨v,h1,h2,h3⟩:=h.go;exact ⟨⟨o,v,ho,h1,h2,h3⟩⟩
theorem yFo {v:Value} (hv:Ev P W n E H op v) (hn:Nat.blt d n=true) (h:FW P W n ops k p ((d,v)::E) H):FO P W n ops k ⟨some d,op,ty,pos,af,none⟩ p E H:=⟨⟨v,hn,QV.ev rfl hv,h.go⟩⟩
theorem xBf {j t:Nat} {b:Bool} {v:Value} (hj:(ops[j]?).bind (·.dst)=some t) (ht:Env.at E t=some (.bool b)) (hv:Ev P W n E H op v) (hn:Nat.blt d n=true) (h:FW P W n ops k p ((d,v)::E) H):FO P W n ops k ⟨some d,op,ty,pos,af,some (j,b)⟩ p E H:=⟨⟨v,hn,QV.evg rfl hj ht hv,h.go⟩⟩
theorem xCE {j t:Nat} {b:Bool} {v:Value} (hj:(ops[j]?).bind (·.dst)=some t) (ht:Env.at E t=some v) (hv:yYr b v=true) (hn:yFW n dd=true) (h:FW P W n ops k p (Env.put E dd undef) H):FO P W n ops k ⟨dd,op,ty,pos,af,some (j,b)⟩ p E H:=⟨⟨undef,hn,QV.no rfl hj ht hv,h.go⟩⟩
theorem yBn {f:FuncId} {xs:List Operand} {ts:Array TypeId} {vs:List Value} {Hpre R:List SP} {v:Value} {X:Type} (hx:Evs E xs vs) [hf:FnIs P f] (hc:Ct P W f vs Hpre (fun _:X=>v) (fun _=>Hpre)) (hp:Pick Hpre H R) (hn:Nat.blt d n=true) (h:FW P W n ops k p ((d,v)::E) H):FO P W n ops k ⟨some d,.call { callee:=.value (.func f),args:=xs.toArray,argTypes:=ts },ty,pos,af,none⟩ p E H:=⟨⟨v,hn,QV.call rfl rfl hx hc hp,h.go⟩⟩
theorem yCl {f:FuncId} {xs:List Operand} {ts:Array TypeId} {vs:List Value} {Hpre R:List SP} {v:Value} {X:Type} {j t:Nat} {b:Bool} (hj:(ops[j]?).bind (·.dst)=some t) (ht:Env.at E t=some (.bool b)) (hx:Evs E xs vs) [hf:FnIs P f] (hc:Ct P W f vs Hpre (fun _:X=>v) (fun _=>Hpre)) (hp:Pick Hpre H R) (hn:Nat.blt d n=true) (h:FW P W n ops k p ((d,v)::E) H):FO P W n ops k ⟨some d,.call { callee:=.value (.func f),args:=xs.toArray,argTypes:=ts },ty,pos,af,some (j,b)⟩ p E H:=⟨⟨v,hn,QV.callg rfl hj ht rfl hx hc hp,h.go⟩⟩
theorem xCF {U:List Nat} (ho:ops[i]? = some ⟨dd,op,ty,pos,af,none⟩) (h:KJ W n (.oper P op dd (.raw (yZr P W n ops k p U))) E H):FW P W n ops k (.ef i U p) E H:=⟨.inl ⟨_,ho,fun a _=>by simp [Region.wanted],h⟩⟩
theorem xBg {U:List Nat} {j t:Nat} {b:Bool} (ho:ops[i]? = some ⟨dd,op,ty,pos,af,some (j,b)⟩) (hj:(ops[j]?).bind (·.dst)=some t) (ht:Env.at E t=some (.bool b)) (h:KJ W n (.oper P op dd (.raw (yZr P W n ops k p U))) E H):FW P W n ops k (.ef i U p) E H:=⟨.inl ⟨_,ho,fun a p=>by rw [yEg rfl hj p ht];simp,h⟩⟩
theorem xBh {U:List Nat} {j t:Nat} {b:Bool} {v:Value} (ho:ops[i]? = some ⟨dd,op,ty,pos,af,some (j,b)⟩) (hj:(ops[j]?).bind (·.dst)=some t) (ht:Env.at E t=some v) (hv:yYr b v=true) (hn:yFW n dd=true) (hr:Rech P W n ops (Env.put E dd undef) H U) (h:FW P W n ops k p (Env.put E dd undef) H):FW P W n ops k (.ef i U p) E H:=by exact ⟨.inr ⟨_,ho,fun a p=>by rw [yEg rfl hj p ht];cases v <;> simp_all [yYr],hn,hr,h.go⟩⟩
theorem xBi {x y:Pl} (hx:FW P W n ops k x E H) (hy:FW P W n ops k y E H):FW P W n ops k (.alt x y) E H:=⟨⟨hx.go,hy.go⟩⟩
theorem yZs {U:List Nat} (hr:Rech P W n ops E H U) (h:FW P W n ops k p E H):KJ W n (.raw (yZr P W n ops k p U)) E H:=⟨fun _ _ hd st=>⟨E,H,hd,st,hr,h.go⟩⟩
theorem yTN {u:Nat} {U:List Nat} {o:Oper} (ho:ops[u]? = some o) (h:RO P W n ops o U E H):Rech P W n ops E H (u::U):=by obtain ⟨v,h1,h2,h3⟩:=h.go;exact .cons ho h1 h2 h3
theorem xCG {U:List Nat} {v:Value} (hd:Env.at E d=some v) (hv:Ev P W n E H op v) (h:Rech P W n ops E H U):RO P W n ops ⟨some d,op,ty,pos,af,none⟩ U E H:=⟨⟨v,fun _ e=>by cases e;exact hd,QV.ev rfl hv,h⟩⟩
theorem xBj {U:List Nat} {j t:Nat} {b:Bool} {v:Value} (hd:Env.at E d=some v) (hj:(ops[j]?).bind (·.dst)=some t) (ht:Env.at E t=some (.bool b)) (hv:Ev P W n E H op v) (h:Rech P W n ops E H U):RO P W n ops ⟨some d,op,ty,pos,af,some (j,b)⟩ U E H:=⟨⟨v,fun _ e=>by cases e;exact hd,QV.evg rfl hj ht hv,h⟩⟩
theorem xCH {U:List Nat} {j t:Nat} {b:Bool} {v:Value} (hd:Env.at E d=some undef) (hj:(ops[j]?).bind (·.dst)=some t) (ht:Env.at E t=some v) (hv:yYr b v=true) (h:Rech P W n ops E H U):RO P W n ops ⟨some d,op,ty,pos,af,some (j,b)⟩ U E H:=⟨⟨undef,fun _ e=>by cases e;exact hd,QV.no rfl hj ht hv,h⟩⟩
theorem QV.congr {E1:Env} {o:Oper} {v:Value} (he:∀ t,Env.at E t=Env.at E1 t) (h:QV P W n ops E1 H o v):QV P W n ops E H o v:=by have k:∀ a,Hd n E a→Hd n E1 a:=fun a p=>⟨p.size,fun t u q=>p.at_ t u (by rw [he];exact q)⟩;exact ⟨h.go.imp (fun ⟨a,b⟩=>⟨fun x p=>a x (k x p),⟨fun M x w p s=>b.go M x w (k x p) s⟩⟩) (fun ⟨a,b⟩=>⟨fun x p=>a x (k x p),b⟩)⟩
theorem yHE:∀ (p:Pl) {E E1:Env},(∀ t,Env.at E t=Env.at E1 t)→FJ P W n ops k p E1 H→FJ P W n ops k p E H
 |.nil,E,E1,he,h=>by have k:∀ a,Hd n E a→Hd n E1 a:=fun a p=>⟨p.size,fun t u q=>p.at_ t u (by rw [he];exact q)⟩;exact KJ.mk fun a w p s=>KJ.go h a w (k a p) s
 |.op i p,E,E1,he,⟨o,v,ho,hd,hq,hF⟩=>⟨o,v,ho,hd,hq.congr he,yHE p (fun t=>by
  cases hod:o.dst with
  |none=>exact he t
  |some d=>show Env.at ((d,v)::E) t=Env.at ((d,v)::E1) t;rw [Env.at_cons,Env.at_cons,he]) hF⟩
 |.ef i U p,E,E1,he,.inl ⟨o,ho,hw,hk⟩=>by have k:∀ a,Hd n E a→Hd n E1 a:=fun a p=>⟨p.size,fun t u q=>p.at_ t u (by rw [he];exact q)⟩;exact .inl ⟨o,ho,fun a p=>hw a (k a p),⟨fun a w p s=>hk.go a w (k a p) s⟩⟩
 |.ef i U p,E,E1,he,.inr ⟨o,ho,hw,hd,hr,hF⟩=>by
  have k:∀ a,Hd n E a→Hd n E1 a:=fun a p=>⟨p.size,fun t u q=>p.at_ t u (by rw [he];exact q)⟩;have he2:∀ t,Env.at (Env.put E o.dst undef) t=Env.at (Env.put E1 o.dst undef) t:=fun t=>by
   cases hod:o.dst with
   |none=>exact he t
   |some d=>show Env.at ((d,undef)::E) t=Env.at ((d,undef)::E1) t;rw [Env.at_cons,Env.at_cons,he]
  exact .inr ⟨o,ho,fun a p=>hw a (k a p),hd,Rech.of fun u hu=>by obtain ⟨o',h1,v,h2,h3⟩:=hr.get u hu;exact ⟨o',h1,v,fun d hd=>by rw [he2];exact h2 d hd,h3.congr he2⟩,yHE p he2 hF⟩
 |.alt x y,E,E1,he,h=>⟨yHE x he h.1,yHE y he h.2⟩
theorem yWI {o:Oper} {E1:Env} (he:∀ t,Env.at E t=Env.at E1 t) (h:FO P W n ops k o p E1 H):FO P W n ops k o p E H:=by
 obtain ⟨v,h1,h2,h3⟩:=h.go;refine ⟨⟨v,h1,h2.congr he,yHE p (fun t=>?_) h3⟩⟩;cases hod:o.dst with
 |none=>exact he t
 |some d=>show Env.at ((d,v)::E) t=Env.at ((d,v)::E1) t;rw [Env.at_cons,Env.at_cons,he]
theorem yTO {o:Oper} {t:Nat} {v:Value} (ht:Env.at E t=some v) (h:FO P W n ops k o p ((t,v)::E) H):FO P W n ops k o p E H:=yWI (fun u=>by
 rw [Env.at_cons];split
 ·rename_i e;subst e;exact ht
 ·rfl) h
theorem yQx {t j:Nat} {b c:Bool} (hj:(ops[j]?).bind (·.dst)=some t) (ht:Env.at E t=some (.bool c)) (hy:c=b→FO P W n ops k ⟨dd,op,ty,pos,af,some (j,b)⟩ p ((t,.bool b)::E) H) (hn:c=!b→FO P W n ops k ⟨dd,op,ty,pos,af,some (j,b)⟩ p ((t,.bool !b)::E) H):FO P W n ops k ⟨dd,op,ty,pos,af,some (j,b)⟩ p E H:=by
 have _:=hj;by_cases h:c=b
 ·subst h;exact yTO ht (hy rfl)
 ·have h:c=!b:=by cases c <;> cases b <;> simp_all
  subst h;exact yTO ht (hn rfl)
theorem yQy {t j:Nat} {pr:Prop} [Decidable pr] (hj:(ops[j]?).bind (·.dst)=some t) (ht:Env.at E t=some (.bool (decide pr))) (hy:pr→FO P W n ops k ⟨dd,op,ty,pos,af,some (j,true)⟩ p ((t,.bool true)::E) H) (hn:¬ pr→FO P W n ops k ⟨dd,op,ty,pos,af,some (j,true)⟩ p ((t,.bool false)::E) H):FO P W n ops k ⟨dd,op,ty,pos,af,some (j,true)⟩ p E H:=
 yQx hj ht (fun e=>hy (by simpa using e)) (fun e=>hn (by simpa using e))
theorem yQz {t j:Nat} {pr:Prop} [Decidable pr] (hj:(ops[j]?).bind (·.dst)=some t) (ht:Env.at E t=some (.bool (decide pr))) (hy:¬ pr→FO P W n ops k ⟨dd,op,ty,pos,af,some (j,false)⟩ p ((t,.bool false)::E) H) (hn:pr→FO P W n ops k ⟨dd,op,ty,pos,af,some (j,false)⟩ p ((t,.bool true)::E) H):FO P W n ops k ⟨dd,op,ty,pos,af,some (j,false)⟩ p E H:=
 yQx hj ht (fun e=>hy (by simpa using e)) (fun e=>hn (by simpa using e))
end
end Go.Proofs.YtoipmnikdiogcaaGreatDoor
