/-
  Mp2, Seq, Mp3, Srt, Gnl, Gnl2.
-/
import Derived.Test.YtoipmnikdiogcaaGreatDoorYCH
import Derived.Laws.StructEq
import Derived.DeepKeys4
import Derived.Deep.Upon
set_option maxHeartbeats 64000000
namespace Go.Proofs.YtoipmnikdiogcaaGreatDoor
open Go Go.RowKit Go.MapKept
section
variable {P:Program} {W w:World} {n d:Nat} {E:Env} {H H' R:List SP} {k:KK} {t kt e:TypeId} {x y z:Operand}
variable {α β:Type} [DecidableEq α] {kf:α→Value} {vf:β→Value} {b r:Nat} {m left:List (α × β)}
theorem yPI (es:Array MapEntry):leftOf es #[]=es:=by unfold leftOf;exact Array.filter_eq_self.2 zW
omit [DecidableEq α] in
theorem yPJ (hx:Env.ev E x=some (.map (some b))) [hu:UIs P t (.map kt e)] (hs:Sel (yUK kf vf b m) H R) (hn:Nat.blt d n=true) (h:∀ r,KJ W n k ((d,zPp r)::E) (yIJ kf vf b r m m none::R)):KJ W n (.oper P (.range t x) (some d) k) E H:=by
 refine yUI (X:=Nat) (v:=fun r=>(zPp r)) (H':=fun r=>yIJ kf vf b r m m none::R) (fun o ho a w M p s=>?_) hn h;obtain ⟨es,c,hb,h1,h2⟩:=s.map (hs.app M);have av:=run_range_map (P:=P) w t kt e b es c hu.h hb;refine ⟨w.heap.size,w.alloc (.mapIter (some b) c #[] c),.inl (by simp [execOp,ho,p.ev hx,av,Result.andThen]),?_⟩;refine St.act (A:=[yUK kf vf b m]) (B:=[yIJ kf vf b w.heap.size m m none]) (H:=R++M) (s.perm (hs.app M).perm) rfl rfl rfl zW ?_;intro iI ⟨h,_,_,le,_,⟨jB,c',q,_⟩,_⟩ lies;have hq:=(lies _ _ (le _ _ q)).2;rw [hb] at hq;cases hq;have dG:=lies.lt (le _ _ q);have ao:b≠w.heap.size:=zO;refine ⟨fun k=>if k=w.heap.size then some (.mapIter (some b) c #[] c) else if k=b then some (.map es c) else none,yBP ⟨es,c,c,#[],c,by simp [ao],by simp,h1,h2,h1.1,Nat.le_refl _,Nat.le_refl _,by rw [yPI];exact h2,trivial⟩,fun k o hk=>?_,fun k o hk=>?_,fun k hk _=>heap_alloc_old w _ hk⟩
 ·dsimp only at hk;split at hk
  ·rename_i e0;subst e0;cases hk;exact heap_alloc_new w _
  ·split at hk
   ·rename_i e0;subst e0;cases hk;rw [heap_alloc_old w _ dG];exact hb
   ·cases hk
 ·dsimp only at hk;split at hk
  ·rename_i e0;exact .inr zO
  ·split at hk
   ·rename_i e0;subst e0;exact .inl ⟨_,le _ _ q⟩
   ·cases hk
theorem yPK {es:Array MapEntry} {clock:Nat} (hs:Stamped es clock) (K:∀ a b,kf a=kf b→a=b) (_:kvs es.toList=yJf kf vf m) {seen:Array Nat} (hl:kvs (leftOf es seen).toList=yJf kf vf left) {e0:MapEntry} (he:e0 ∈ (leftOf es seen).toList) {p:α × β} (hp:e0.key=kf p.1) :kvs (leftOf es (seen.push e0.born)).toList=yJf kf vf (left.filter fun q=>decide (q.1≠p.1)):=by
 have hm:=(mem_left he).1;have e1:(leftOf es (seen.push e0.born)).toList=(leftOf es seen).toList.filter (fun x=>decide (x.born≠e0.born)):=by unfold leftOf;rw [Array.toList_filter,Array.toList_filter,List.filter_filter];refine List.filter_congr (fun x _=>?_);rw [contains_push];cases hc:seen.contains x.born <;> by_cases hb:x.born=e0.born <;> simp [hb]
 have dI:∀ x ∈ (leftOf es seen).toList,x ∈ es.toList:=fun x hx=>(mem_left hx).1;have di:∀ x ∈ (leftOf es seen).toList,(x.born=e0.born↔x.key=e0.key):=fun x hx=>by
  have cH:=dI x hx;constructor
  ·intro hb;have:=born_inj hs.2.1 cH hm hb;rw [this]
  ·intro hk;have hn:=hs.2.2;obtain ⟨i,hi,ei⟩:=List.getElem_of_mem cH;obtain ⟨j,hj,ej⟩:=List.getElem_of_mem hm;have:(es.toList.map (·.key))[i]'(by simpa using hi)=(es.toList.map (·.key))[j]'(by simpa using hj):=by rw [List.getElem_map,List.getElem_map,ei,ej,hk]
   have ec:=(List.getElem_inj hn).1 this;subst ec;rw [← ei,← ej]
 rw [e1];have key:∀ (l:List MapEntry) (r:List (α × β)),kvs l=yJf kf vf r→(∀ x ∈ l,(x.born=e0.born↔x.key=e0.key))→kvs (l.filter fun x=>decide (x.born≠e0.born))=yJf kf vf (r.filter fun q=>decide (q.1≠p.1)):=by
  intro l
  induction l with
  |nil=>intro r hr _;cases r with
   |nil=>rfl
   |cons q r=>cases hr
  |cons x l ih=>
   intro r hr hd;cases r with
   |nil=>cases hr
   |cons q r=>
    simp only [kvs,yJf,List.map_cons,List.cons.injEq,Prod.mk.injEq] at hr;obtain ⟨⟨k1,k2⟩,k3⟩:=hr;have:=ih r k3 (fun y hy=>hd y (by simp [hy]));simp only [kvs,yJf] at this;have aZ:=hd x zW;by_cases hq:q.1=p.1
    ·have hx:x.born=e0.born:=aZ.2 (by rw [k1,hp,hq]);simp [kvs,yJf,hx,hq] at this ⊢;exact this
    ·have hx:¬ x.born=e0.born:=fun h=>hq (K _ _ (by rw [← k1,aZ.1 h,hp]));simp [kvs,yJf,hx,hq,k1,k2] at this ⊢;exact this
 exact key _ _ hl di
theorem ySp {ty:TypeId} {c:Option (α × β)} (K:KyOk P kt kf) (hx:Env.ev E x=some (zPp r)) (hs:Sel (yIJ kf vf b r m left c) H R) (hn:Nat.blt d n=true) (_ht:ty=ty) (h0:left=[]→KJ W n k ((d,.tuple #[.bool false])::E) (yIJ kf vf b r m left c::R)) (h1:∀ p,p ∈ left→KJ W n k ((d,.tuple #[.bool true,kf p.1,vf p.2])::E) (yIJ kf vf b r m (left.filter fun q=>decide (q.1≠p.1)) (some p)::R)):KJ W n (.oper P (.next x false) (some d) k) E H:=by
 refine ⟨fun a w p s o ho hd=>?_⟩;show uponP P o a _ ((execOp a.eval o).run P w);obtain ⟨hh,⟨es,clock,bf,seen,c0,q1,q2,aj,dY,yDw,hsc,hsk,d7,hcur⟩,ls⟩:=(s.sel (hs.app (dm a.defers)) yQQ);have hb:=(ls _ _ q1).2;have hr:=(ls _ _ q2).2;have du:=ls.lt q2;have dG:=ls.lt q1;rcases run_next_at (P:=P) w o.type r b bf c0 seen es clock hr hb yDw hsc with ⟨l0,av⟩|⟨e0,he0,w1,cU,av⟩
 ·have hl:left=[]:=by
   have:(leftOf es seen).toList=[]:=by rw [← List.length_eq_zero_iff,Array.length_toList];exact l0
   rw [this] at d7;cases left with
   |nil=>rfl
   |cons q l=>cases d7
  have e2:(execOp a.eval o).run P w=.ok (.value (.tuple #[.bool false])) w:=by simp [execOp,ho,p.ev hx,av,Result.andThen]
  rw [e2];have:=(h0 hl).go _ w (p.put (d:=some d) hn _) (by show St W _ w;rw [yB9];exact s.perm (hs.app _).perm);rw [← hd] at this;exact this
 ·obtain ⟨pp,bk,eQ,hpv⟩:=yUM d7 he0;have e2:(execOp a.eval o).run P w=.ok (.value (.tuple #[.bool true,kf pp.1,vf pp.2])) (ChangeMaps.setBlock w1 r (.mapIter (some b) bf (seen.push e0.born) clock)):=by rw [← eQ,← hpv];simp [execOp,ho,p.ev hx,av,Result.andThen]
  rw [e2];obtain ⟨g1,g2,dj,hA,hH,l1,l2⟩:=(show St W ([yIJ kf vf b r m left c]++(R++dm a.defers)) w from s.perm (hs.app (dm a.defers)).perm).split;obtain ⟨ha,_,_,le,_,⟨jB,ff,since',seen',c0',z1,z2,_⟩,_⟩:=hA;have hw:w1.heap=w.heap∧w1.os=w.os∧w1.tape=w.tape∧w1.output=w.output:=by rcases cU with rfl|rfl <;> exact ⟨rfl,rfl,rfl,rfl⟩
  have hrb:r≠b:=by intro e;rw [e,hb] at hr;cases hr
  have kM:(ChangeMaps.setBlock w1 r (.mapIter (some b) bf (seen.push e0.born) clock)).heap=w.heap.setIfInBounds r (.mapIter (some b) bf (seen.push e0.born) clock):=by show w1.heap.setIfInBounds _ _=_;rw [hw.1]
  have st:St W (yIJ kf vf b r m (left.filter fun q=>decide (q.1≠pp.1)) (some pp)::(R++dm a.defers)) (ChangeMaps.setBlock w1 r (.mapIter (some b) bf (seen.push e0.born) clock)):=by
   refine St.join (B:=[yIJ kf vf b r m (left.filter fun q=>decide (q.1≠pp.1)) (some pp)]) (g:=fun k=>if k=r then some (.mapIter (some b) bf (seen.push e0.born) clock) else if k=b then some (.map es clock) else none) s.below dj hH l1 l2 (yBP ⟨es,clock,bf,seen.push e0.born,clock,by simp [Ne.symm hrb],by simp,aj,dY,yDw,hsk,hsk,yPK aj K.inj dY d7 he0 eQ,rfl,e0,(mem_left he0).1,eQ,hpv,by simp⟩) hw.2.1 hw.2.2.1 hw.2.2.2 (by rw [kM];simp) ?_ ?_ ?_
   ·intro kk o q;rw [kM];split at q
    ·rename_i e;subst e;cases q;simp [du]
    ·rename_i ao;split at q
     ·rename_i e;subst e;cases q;rw [zLx (Ne.symm ao)];exact hb
     ·cases q
   ·intro kk o q;split at q
    ·rename_i e;subst e;exact .inl ⟨_,le _ _ z2⟩
    ·split at q
     ·rename_i e;subst e;exact .inl ⟨_,le _ _ z1⟩
     ·cases q
   ·intro kk _ aT;rw [kM,zLx (fun e=>by subst e;rw [le _ _ z2] at aT;cases aT)]
  have:=(h1 pp bk).go _ _ (p.put (d:=some d) hn _) (by show St W _ _;rw [yB9];exact st);rw [← hd] at this;exact this
omit [DecidableEq α] in
theorem yXh {p:α × β} (hx:Env.ev E x=some (zPp r)) (hs:Sel (yIJ kf vf b r m left (some p)) H R):Ev P W n E H (.entry x) (.tuple #[kf p.1,vf p.2]):=
 Ev.mk fun o ho a w q s=>by
  obtain ⟨hh,⟨es,clock,bf,seen,c0,q1,q2,aj,dY,yDw,hsc,hsk,d7,rfl,e0,he0,hk,hv,hbk⟩,ls⟩:=s.sel hs yQQ;have hb:=(ls _ _ q1).2;have hr:=(ls _ _ q2).2;have hf:es.find? (·.born == e0.born)=some e0:=by rw [← Array.find?_toList];exact find_born e0 es.toList aj.2.1 he0
  have av:(Instr.entry (zPp r)).run P w=.ok (.tuple #[e0.key,e0.val]) w:=by simp only [Instr.entry,getObj,Sem.run_bind,Sem.run,hr,hb,Result.andThen,hbk,bne_self_eq_false,Bool.false_eq_true,if_false,hf];rfl
  simp [execOp,ho,q.ev hx,av,hk,hv]
end
def yKq:TypeDesc→Value→Value→Option Bool
 |.int k,.int k1 a,.int k2 b=>if k1=k∧k2=k then some (decide (a=b)) else none
 |.string,.string a,.string b=>some (decide (a.data.toList=b.data.toList))
 |.bool,.bool a,.bool b=>some (decide (a=b))
 |_,_,_=>none
class StIs (P:Program) (t:TypeId):Prop where h:P.stoodInHeld t=false∧P.eqGuardType P.depth t=false
inductive EqF (P:Program) (xs ys:List Value):List Field→Bool→Prop
 |nil:EqF P xs ys [] true
 | cons {f : Field} {fs : List Field} {d : TypeDesc} {x y : Value} {b b' : Bool} : (f.name == "_") = false → UIs P f.type d → xs[f.offset]? = some x → ys[f.offset]? = some y → yKq d x y = some b → EqF P xs ys fs b' → EqF P xs ys (f :: fs) (b && b')
section
variable {P:Program} {W:World} {n:Nat} {E:Env} {H:List SP} {t u:TypeId} {x y:Operand} {xs ys:List Value} {fs:Array Field} {b c:Bool}
theorem ySq {d:TypeDesc} {t:TypeId} {v w':Value} {b:Bool} (hu:P.underlying t=some d) (h:yKq d v w'=some b) (m:Nat) (w:World):(Op.equalIn (m+1) t v w').run P w=.ok b w:=by
 unfold yKq at h;split at h
 ·split at h
  ·rename_i k k1 a k2 b' hk;obtain ⟨rfl,rfl⟩:=hk;cases h;rw [run_equalIn_int (w:=w) m t _ _ _ _ hu];by_cases e:a=b' <;> simp [e]
  ·cases h
 ·cases h;rw [run_equalIn_string w m t _ _ hu];rename_i a b';rw [ByteArray.toList_eq,ByteArray.toList_eq];have e:(a.data.toList == b'.data.toList)=decide (a.data.toList=b'.data.toList):=Bool.eq_iff_iff.2 zW;rw [e]
 ·cases h;rename_i a b';rw [run_equalIn_bool' w m t _ _ hu];by_cases e:a=b' <;> simp [e]
 ·cases h
theorem yUR {d:TypeDesc} {v w':Value} {b:Bool} (h:yKq d v w'=some b):yI2 d=false:=by unfold yKq at h;split at h <;> first|rfl|cases h
theorem EqF.run {fs:List Field} (h:EqF P xs ys fs b) (m:Nat) (w:World):(Op.eqFields (m+1) xs.toArray ys.toArray fs).run P w=.ok b w:=by
 induction h with
 |nil=>simp [Op.eqFields]
 |cons hn hu hx hy he _ ih=>
  rename_i f fs d v1 v2 b1 b2 _;have iH : f.name ≠ "_" := by simpa using hn
  have j9:=yF0 (P:=P) hu.h w;rw [yUR he] at j9;have p1:(Go.part f.type xs.toArray f.offset).run P w=.ok v1 w:=by simp [Go.part,j9,hx,Result.andThen]
  have p2:(Go.part f.type ys.toArray f.offset).run P w=.ok v2 w:=by simp [Go.part,j9,hy,Result.andThen]
  have p3:=ySq hu.h he m w;unfold Op.eqFields;rw [if_pos iH];simp only [Sem.run_bind,p1,p2,p3,Result.andThen_ok];cases b1
  ·simp
  ·simp [ih]
theorem yMZ (hu:P.underlying t=some (.struct fs)) (aj:P.stoodInHeld t=false) (h:EqF P xs ys fs.toList b) (m:Nat) (w:World):(Op.equalIn (m+2) t (.agg xs.toArray) (.agg ys.toArray)).run P w=.ok b w:=by
 have hf:P.fieldsOf t=fs:=by simp [Program.fieldsOf,hu]
 rw [run_equalIn_struct w (m+1) t _ _ (by rw [hf];exact hu) aj,hf];exact h.run m w
theorem yQU (hx:Env.ev E x=some (.agg xs.toArray)) (hy:Env.ev E y=some (.agg ys.toArray)) [hu:UIs P t (.struct fs)] [hs:StIs P t] (h:EqF P xs ys fs.toList b) (hc:(!b)=c):Ev P W n E H (.binOp .neq t x y u) (.bool c):=by subst hc;refine yEh hx hy (fun w=>run_eqGuard_agg w .neq t x y _ _ hs.h.2) (fun w=>?_);rw [run_neq_struct,yMZ hu.h hs.h.1 h 9998 w];rfl
end
section
variable {P:Program} {W w:World} {n d:Nat} {E:Env} {H H' R:List SP} {k:KK} {t kt e:TypeId} {x y z:Operand} {dd:Option Tmp}
theorem yXi (h:KJ W n (.oper P (.range t x) dd k) E H):KJ W n (.oper P (.range t x) dd k) E H:=h
theorem yZS {c:Bool} (h:KJ W n (.oper P (.next x c) dd k) E H):KJ W n (.oper P (.next x c) dd k) E H:=h
theorem yFB {t:Nat} {xs:Array Operand} {ts:Array TypeId} (h:KJ W n (.oper P (.call { callee:=.value (.tmp t),args:=xs,argTypes:=ts }) dd k) E H):KJ W n (.oper P (.call { callee:=.value (.tmp t),args:=xs,argTypes:=ts }) dd k) E H:=h
theorem yXj {C:Value→Prop} (h:EK P W n E H (.entry x) C):EK P W n E H (.entry x) C:=h
variable {α β:Type} {kf:α→Value} {vf:β→Value} {b:Nat} {m:List (α × β)}
variable [DecidableEq α]
end
section
open Go Go.RowKit
section
variable {α:Type} {enc:α→List Value} {k:Nat}
theorem yEJ (hk:∀ x,(enc x).length=k):∀ l:List α,(l.flatMap enc).length=l.length*k
 |[]=>zW
 |x::l=>by rw [zLr,zLa,hk,yEJ hk l,zLj,Nat.add_mul];omega
theorem yH1 (hk:∀ x,(enc x).length=k):∀ (l:List α) (i c:Nat),c<k→(l.flatMap enc)[i*k+c]? = (l[i]?).bind (fun x=>(enc x)[c]?)
 |[],_,_,_=>zW
 |x::l,0,c,h=>by rw [zLr,zLp (by rw [hk];omega)];simp
 |x::l,i+1,c,h=>by rw [zLr,zLn (by rw [hk,Nat.add_mul];omega),hk,show (i+1)*k+c-k=i*k+c by rw [Nat.add_mul];omega];simpa using yH1 hk l i c h
end
end
section
open Go Go.RowKit
structure Hold (A:Prop):Prop where
 go:A
theorem yDw {A:Prop} (h:Hold A):A:=h.go
section
variable {P:Program} {W:World} {n d:Nat} {E:Env} {H H' R:List SP} {k:KK} {t u e:TypeId} {x y z:Operand} {b off:Nat}
theorem yPL {e sz:Nat}:∀ g,yAH H g→yAH (yA4 (.slice none 0 0) e sz 0 []::H) g:=
 fun g q=>⟨fun _=>none,g,(fun _ _ q=>by cases q),(fun _ _ q=>by cases q),.rfl,⟨by simp,.inl ⟨rfl,rfl⟩⟩,q⟩
theorem KJ.nilrow (e sz:Nat) (h:KJ W n k E (yA4 (.slice none 0 0) e sz 0 []::H)):KJ W n k E H:=⟨fun a w q s=>h.go a w q (s.mono yPL)⟩
theorem KJ.packs {α:Type} {tag key:Nat} {F:α→List SP} (a:α) (p:Pick (F a) H R) (h:KJ W n k E (yHl tag key F::R)):KJ W n k E H:=
 ⟨fun ac w q s=>h.go ac w q ((s.perm (p.perm.append_right _)).mono (yJw (fun g hg=>yDP a g hg) _))⟩
theorem yN8 {f:Fn} {xs ys:List Operand} {us vs:List Value} (hx:Evs E xs us) (hy:Evs E ys vs) (hc:(Instr.makeFunc f us.toArray vs.toArray)=pure (.func f us.toArray vs.toArray)):Ev P W n E H (.makeFunc f xs.toArray ys.toArray) (.func f us.toArray vs.toArray):=
 Ev.mk fun o ho a w p _=>by have h1:=p.evs hx;have h2:=p.evs hy;simp [execOp,ho,h1,h2,hc]
theorem yB3 {a c:zB} {q:Bool} (hx:Env.ev E x=some (strV a)) (hy:Env.ev E y=some (strV c)) (h:Op.bytesLess a c=q):Ev P W n E H (.binOp .lss t x y u) (.bool q):=by subst h;exact yTH hx hy
theorem yBq {a c:zB} {q:Bool} (hx:Env.ev E x=some (strV a)) (hy:Env.ev E y=some (strV c)) (h:(Op.bytesLess a c || decide (a=c))=q):Ev P W n E H (.binOp .leq t x y u) (.bool q):=by subst h;exact yTK hx hy
theorem yGc {a c:zB} {q:Bool} (hx:Env.ev E x=some (strV a)) (hy:Env.ev E y=some (strV c)) (h:(!(Op.bytesLess a c || decide (a=c)))=q):Ev P W n E H (.binOp .gtr t x y u) (.bool q):=by subst h;exact yTI hx hy
theorem yN9 {a c:zB} {q:Bool} (hx:Env.ev E x=some (strV a)) (hy:Env.ev E y=some (strV c)) (h:(!Op.bytesLess a c)=q):Ev P W n E H (.binOp .geq t x y u) (.bool q):=by subst h;exact yTJ hx hy
theorem yXk {a c r:Bool} (hx:Env.ev E x=some (.bool a)) (hy:Env.ev E y=some (.bool c)) [hu:UIs P t .bool] (h:(a == c)=r):Ev P W n E H (.binOp .eql t x y u) (.bool r):=by subst h;exact yO3 hx hy rfl (fun _=>rfl)
theorem yQV {a c r:Bool} (hx:Env.ev E x=some (.bool a)) (hy:Env.ev E y=some (.bool c)) [hu:UIs P t .bool] (h:(a != c)=r):Ev P W n E H (.binOp .neq t x y u) (.bool r):=by subst h;exact yO4 hx hy rfl (fun _=>rfl)
theorem yAe {kd:IntKind} {i j:Int} {q:Bool} (hx:Env.ev E x=some (.int kd i)) (hy:Env.ev E y=some (.int kd j)) (h:decide (i=j)=q):Ev P W n E H (.binOp .eql t x y u) (.bool q):=by subst h;exact yMl hx hy
theorem yAn {kd:IntKind} {i j:Int} {q:Bool} (hx:Env.ev E x=some (.int kd i)) (hy:Env.ev E y=some (.int kd j)) (h:decide (i≠j)=q):Ev P W n E H (.binOp .neq t x y u) (.bool q):=by subst h;exact yMm hx hy
end
def yLM (b off i c s:Nat):Addr:=if c-i=0 then ⟨b,off,none⟩ else ⟨b,off+i*s,none⟩
section
variable {P:Program} {W:World} {n d:Nat} {E:Env} {H H' R:List SP} {k:KK} {t u e:TypeId} {x y z:Operand} {b off:Nat}
theorem yM0 {i:Int} {ki:IntKind} {m c s:Nat} (hx:Env.ev E x=some (.slice (some ⟨b,off,none⟩) m c)) (hy:Env.ev E y=some (.int ki i)) [hu:UIs P t (.slice e)] [hi:SzIs P e s] (hb:0≤i∧i≤m∧m≤c):Ev P W n E H (.slice t x (some y) none none) (.slice (some (yLM b off i.toNat c s)) (m-i.toNat) (c-i.toNat)):=
 Ev.mk fun o ho a w p _=>by
  have hi:=hi.h;cases hq:P.info? e with
  |none=>simp [hq] at hi
  |some q=>
   have hi:q.size=s:=by simpa [hq] using hi
   have h6:(m:Int)≤c:=zO;by_cases h3:c-i.toNat=0
   ·have h3':c≤i.toNat:=by omega
    have h4:c=i.toNat:=zO;simp [execOp,ho,p.ev hx,p.ev hy,Instr.sliceAt,Instr.slice,run_underlying hu.h,Instr.sliceBounds,Instr.sliceBound,asIntOf,hb,sizeOf,typeInfo,hq,Addr.add_mid,yLM,h4]
   ·have h4:¬ c≤i.toNat:=by omega
    have h5:¬ c=i.toNat:=zO;simp [execOp,ho,p.ev hx,p.ev hy,Instr.sliceAt,Instr.slice,run_underlying hu.h,Instr.sliceBounds,Instr.sliceBound,asIntOf,hb,sizeOf,typeInfo,hq,hi,Addr.add_mid,yLM,h3,h5]
theorem yPM {j:Int} {kj:IntKind} {m c s:Nat} (hx:Env.ev E x=some (.slice (some ⟨b,off,none⟩) m c)) (hz:Env.ev E z=some (.int kj j)) [hu:UIs P t (.slice e)] [hi:SzIs P e s] (hb:0≤j∧j≤c):Ev P W n E H (.slice t x none (some z) none) (.slice (some ⟨b,off,none⟩) j.toNat c):=
 Ev.mk fun o ho a w p _=>by
  have hi:=hi.h;cases hq:P.info? e with
  |none=>simp [hq] at hi
  |some q=>
   have hi:q.size=s:=by simpa [hq] using hi
   by_cases h3:c=0
   ·subst h3;have hj:j=0:=zO;subst hj;simp [execOp,ho,p.ev hx,p.ev hz,Instr.sliceAt,Instr.slice,run_underlying hu.h,Instr.sliceBounds,Instr.sliceBound,asIntOf,sizeOf,typeInfo,hq,Addr.add]
   ·have h1:0≤j:=by omega
    simp [execOp,ho,p.ev hx,p.ev hz,Instr.sliceAt,Instr.slice,run_underlying hu.h,Instr.sliceBounds,Instr.sliceBound,asIntOf,h1,hb,sizeOf,typeInfo,hq,Addr.add]
end
abbrev lsP {α:Type} (enc:α→List Value) (e sz:Nat) (v:Value) (l:List α):SP:=yA4 v e sz l.length (l.flatMap enc)
structure EncOk {α:Type} (enc:α→List Value) (sz:Nat):Prop where
 len:∀ x,(enc x).length=sz
 ones:∀ x,Ones (enc x)
 pos:0<sz
section
variable {P:Program} {W:World} {n d:Nat} {E:Env} {H H' R R':List SP} {k:KK} {t u e:TypeId} {x y z:Operand} {b off c:Nat} {α:Type} {enc:α→List Value} {sz:Nat}
theorem EncOk.flat (K:EncOk enc sz) (l:List α):(l.flatMap enc).length=l.length*sz:=yEJ K.len l
theorem EncOk.all (K:EncOk enc sz):∀ l:List α,Ones (l.flatMap enc)
 |[]=>Ones.nil
 |a::l=>by
  rw [zLr];refine Ones.of fun v hv=>?_;rcases List.mem_append.1 hv with h|h
  ·exact (K.ones a).all v h
  ·exact (K.all l).all v h
theorem EncOk.at_ (K:EncOk enc sz) {l:List α} {i:Nat} {a:α} (h:l[i]? = some a) {j:Nat} {v:Value} (hv:(enc a)[j]? = some v):(l.flatMap enc)[i*sz+j]? = some v:=by have hj:=(zLc.1 hv).1;rw [K.len] at hj;rw [yH1 K.len l i j hj,h];exact hv
theorem EncOk.set_ (K:EncOk enc sz):∀ (l:List α) (i:Nat) (a:α),i<l.length→lay (l.flatMap enc) (i*sz) (enc a)=(l.set i a).flatMap enc
 |[],_,_,h=>by simp at h
 |c::l,0,a,_=>by have hc:=K.len c;have ha:=K.len a;simp only [zLr,List.set_cons_zero,lay,Nat.zero_mul,List.take_zero,List.nil_append,zLq,ha];rw [List.drop_left' hc]
 |c::l,i+1,a,h=>by have hc:=K.len c;have ih:=K.set_ l i a (by simpa using h);simp only [zLr,List.set_cons_succ];rw [← ih];unfold lay;rw [Nat.add_mul,Nat.one_mul,zLF,zLi zO,hc,zLG,zLl (by rw [hc];omega),hc];simp only [Nat.add_sub_cancel,List.nil_append,zLd];congr 4;omega
theorem yBm {v:Value} {l:List α} {a:α} {bytes g:Nat} {T:TypeId} (K:EncOk enc sz) (hx:Env.ev E x=some v) (hy:Env.ev E y=some (.slice (zq g) 1 1)) [hu:UIs P t (.slice e)] [hs:SzIs P e sz] [hb:ByIs P e bytes] {zs:List Value} [hz:ZcIs P e zs] (hzs:zs.length=sz) (ap:Sel (lsP enc e sz v l) H R) (dD:Sel (yAj g (enc a) T) H R') (fO:(l.length+1)*bytes≤140737488355328) (dG:l.length+1≤9223372036854775807) (hn:Nat.blt d n=true) (h:∀ g' c',KJ W n k ((d,.slice (zq g') (l++[a]).length c')::E) (lsP enc e sz (.slice (zq g') (l++[a]).length c') (l++[a])::R)):KJ W n (.oper P (.call { callee:=.builtin .append,args:=#[x,y],argTypes:=#[t,t] }) (some d) k) E H:=by
 have e1:(l++[a]).length=l.length+1:=zW;have e2:(l++[a]).flatMap enc=l.flatMap enc++enc a:=zW;have fx:Cut (enc a) 0 sz (enc a):=by
  have:=Cut.of (cs:=enc a) (k:=0) (m:=sz) (by rw [K.len];omega)
  rwa [zLo,zLi (by rw [K.len];omega)] at this
 refine yCN (hs:=hs) (hb:=hb) (hz:=hz) (l:=1) (news:=enc a) (a2:=0) hx hy hzs K.pos ap (Src.cells dD fx) (by rw [K.len];omega) zO (K.ones a) fO dG hn rfl (fun g' c'=>?_);have:=h g' c';rw [show lsP enc e sz (.slice (zq g') (l++[a]).length c') (l++[a])=yA4 (.slice (zq g') (l.length+1) c') e sz (l.length+1) (l.flatMap enc++enc a) by unfold lsP;rw [e1,e2],e1] at this;exact this
theorem St.lsShape {w:World} {v:Value} {l:List α} (s:St W H w) (ap:Sel (lsP enc e sz v l) H R):∃ a c,v=.slice a l.length c∧l.length≤c:=by
 rcases (s.row ap).2 with ⟨hv,h0⟩|⟨g,cap,aw,hv,_,_,h1,_⟩
 ·exact ⟨none,0,by rw [hv,h0],zO⟩
 ·exact ⟨_,cap,hv,h1⟩
theorem KJ.lsOpen {v:Value} {l:List α} (ap:Sel (lsP enc e sz v l) H R) (h:∀ a c,v=.slice a l.length c→l.length≤c→KJ W n k E H):KJ W n k E H:=
 ⟨fun ac w q s=>by obtain ⟨a,c,hv,hc⟩:=s.lsShape (ap.app _);exact (h a c hv hc).go ac w q s⟩
theorem yGd {g m c i:Nat} {l:List α} {a:α} (K:EncOk enc sz) (hx:Env.ev E x=some (.pointer (some ⟨g,off,none⟩))) [hu:AgIs P t] [hi:SzIs P t sz] (hs:Sel (lsP enc e sz (.slice (zq g) m c) l) H R) (hm:m=l.length) (ho:off=i*sz) (ha:l[i]? = some a):Ev P W n E H (.load t x) (.agg (enc a).toArray):=by subst hm;subst ho;exact yBO (hi:=hi) hx hs (fun j v hj=>K.at_ ha hj) (K.len a)
theorem yCV {g m c i j:Nat} {l:List α} {a:α} {v:Value} (K:EncOk enc sz) (hx:Env.ev E x=some (.pointer (some ⟨g,off,none⟩))) [hu:ScIs P t] (hs:Sel (lsP enc e sz (.slice (zq g) m c) l) H R) (hm:m=l.length) (ho:off=i*sz+j) (ha:l[i]? = some a) (hv:(enc a)[j]? = some v):Ev P W n E H (.load t x) v:=by subst hm;subst ho;exact yCB hx hs (K.at_ ha hv)
theorem yCD {g m c i:Nat} {l:List α} {a:α} (K:EncOk enc sz) (hx:Env.ev E x=some (.pointer (some ⟨g,off,none⟩))) (hy:Env.ev E y=some (.agg (enc a).toArray)) [hi:SzIs P t sz] (hs:Sel (lsP enc e sz (.slice (zq g) m c) l) H R) (hm:m=l.length) (ho:off=i*sz) (hl:i<l.length) (h:KJ W n k E (lsP enc e sz (.slice (zq g) m c) (l.set i a)::R)):KJ W n (.oper P (.store t x y) none k) E H:=by
 subst hm;subst ho;have ak:i*sz+sz≤(l.flatMap enc).length:=by
  rw [K.flat];have:=zLt sz (show i+1≤l.length from hl)
  rwa [Nat.add_mul,Nat.one_mul] at this
 refine yFs (hi:=hi) (vs:=enc a) hx hy hs CellsOf.agg (K.len a) (K.ones a) ak ?_;rw [K.set_ l i a hl];unfold lsP at h;rw [List.length_set] at h;exact h
theorem yGe {v:Value} {l l2:List α} {bytes c2 m:Nat} {xa:Option Addr} (K:EncOk enc sz) (hx:Env.ev E x=some v) (hy:Env.ev E y=some (.slice xa m c2)) (hm:m=l2.length) [hu:UIs P t (.slice e)] [hs:SzIs P e sz] [hb:ByIs P e bytes] {zs:List Value} [hz:ZcIs P e zs] (hzs:zs.length=sz) (ap:Sel (lsP enc e sz v l) H R) (dD:Src W H xa (l2.flatMap enc)) (fO:(l.length+l2.length)*bytes≤140737488355328) (dG:l.length+l2.length≤9223372036854775807) (hn:Nat.blt d n=true) (h:∀ a' c',KJ W n k ((d,.slice a' (l++l2).length c')::E) (lsP enc e sz (.slice a' (l++l2).length c') (l++l2)::R)):KJ W n (.oper P (.call { callee:=.builtin .append,args:=#[x,y],argTypes:=#[t,t] }) (some d) k) E H:=by
 subst hm;cases l2 with
 |nil=>
  refine KJ.lsOpen ap (fun a c hv hc=>?_);subst hv;have e1:(l++([]:List α)).length=l.length:=zW;have e2:l++([]:List α)=l:=zW;have h3:=h a c;rw [e1] at h3;rw [show lsP enc e sz (.slice a l.length c) (l++[])=lsP enc e sz (.slice a l.length c) l by rw [e2]] at h3;refine ⟨fun ac w p s o ho hd=>?_⟩;have hs:=hs.h;cases hq:P.info? e with
  |none=>simp [hq] at hs
  |some it=>
   have j8:Go.Src P it.size t (.slice xa 0 c2) 0 [] w:=by
    cases xa with
    |none=>exact Go.Src.ofNil w hu.h c2
    |some a=>exact Go.Src.ofSlice w hu.h a 0 c2 [] zW (fun j u hj=>by simp at hj) (fun u hj=>by cases hj)
   have av:=run_append_nothing (P:=P) w t t o.type e it hu.h hq a l.length c hc _ j8;show uponP P o ac _ ((execOp ac.eval o).run P w);have aN:(execOp ac.eval o).run P w=.ok (.value (.slice a l.length c)) w:=by simp only [execOp,ho,resolve,invoke,builtin,Sem.run_bind,Sem.run_pure,Result.andThen_ok,List.map_toArray,List.map_cons,List.map_nil,p.ev hx,p.ev hy,List.length_nil,av]
   rw [aN];have:=h3.go _ w (p.put (d:=some d) hn _) (by show St W _ w;rw [yB9];exact s.perm (ap.app _).perm);rw [← hd] at this;exact this
 |cons b r=>
  have e1:(l++b::r).length=l.length+(b::r).length:=zW;have e2:(l++b::r).flatMap enc=l.flatMap enc++(b::r).flatMap enc:=zW;refine yCN (hs:=hs) (hb:=hb) (hz:=hz) (l:=(b::r).length) (news:=(b::r).flatMap enc) (a2:=0) hx hy hzs K.pos ap dD (K.flat _) zW (K.all _) fO dG hn rfl (fun g' c'=>?_);have:=h (zq g') c';rw [show lsP enc e sz (.slice (zq g') (l++b::r).length c') (l++b::r)=yA4 (.slice (zq g') (l.length+(b::r).length) c') e sz (l.length+(b::r).length) (l.flatMap enc++(b::r).flatMap enc) by unfold lsP;rw [e2,e1],e1] at this;exact this
theorem yXl {f:FuncId} {args:List Value} {Hpre:List SP} {X:Type} {r:X→Value} {β:Type} {tag:Nat} {key:X→Nat} {F:X→β→List SP} {Hs:X→List SP} (a:X→β) (h:Ct P W f args Hpre r (fun x=>F x (a x)++Hs x)):Ct P W f args Hpre r (fun x=>yHl tag (key x) (F x)::Hs x):=
 ⟨fun R w s=>(h.go R w s).mono fun _ _ ⟨x,he,s⟩=>⟨x,he,by rw [zLd] at s;exact s.mono (yDP (a x))⟩⟩
theorem KJ.lsSome {a:Option Addr} {m c:Nat} {l:List α} (ap:Sel (lsP enc e sz (.slice a m c) l) H R) (hm:0<l.length) (h:∀ g,a=some ⟨g,0,none⟩→KJ W n k E H):KJ W n k E H:=
 ⟨fun ac w q s=>by
  rcases (s.row (ap.app _)).2 with ⟨_,h0⟩|⟨g,cap,aw,hv,_⟩
  ·omega
  ·cases hv;exact (h g rfl).go ac w q s⟩
theorem EncOk.take_at (_:EncOk enc sz) {l:List α} {i j:Nat} {v:Value} (h:((l.take i).flatMap enc)[j]? = some v):(l.flatMap enc)[j]? = some v:=by
 have e:l.flatMap enc=(l.take i).flatMap enc++(l.drop i).flatMap enc:=by rw [← List.flatMap_append,zLu]
 rw [e,zLp (zLc.1 h).1];exact h
theorem EncOk.drop_at (K:EncOk enc sz) {l:List α} {i j:Nat} {v:Value} (hi:i≤l.length) (h:((l.drop i).flatMap enc)[j]? = some v):(l.flatMap enc)[i*sz+j]? = some v:=by
 have e:l.flatMap enc=(l.take i).flatMap enc++(l.drop i).flatMap enc:=by rw [← List.flatMap_append,zLu]
 have hl:((l.take i).flatMap enc).length=i*sz:=by rw [K.flat,zLg,Nat.min_eq_left hi]
 rw [e,zLn (by rw [hl];omega),hl,Nat.add_sub_cancel_left];exact h
def xCs (w:World) (enc:α→List Value) (sz:Nat) (v:Value) (l:List α):Prop:=
 ∃ a c,v=.slice a l.length c∧(l≠[]→∃ b o,a=some ⟨b,o,none⟩∧b<w.heap.size∧∀ i x,l[i]? = some x→w.rangeAt b (o+sz*i) (enc x))
end
end
section
open Go Go.RowKit
abbrev noP:SP:=yGZ True
section
variable {P:Program} {W:World} {n d:Nat} {E:Env} {H H' R R':List SP} {k:KK} {t u e:TypeId} {x y z:Operand} {b off c:Nat} {α:Type} {enc:α→List Value} {sz:Nat}
structure Lv (W:World) (enc:α→List Value) (sz:Nat) (A:SP) (a:Option Addr) (l:List α):Prop where
 go:∀ w H R,Sel A H R→St W H w→l≠[]→∃ b o,a=some ⟨b,o,none⟩∧w.rangeAt b o (l.flatMap enc)
theorem Lv.old (K:EncOk enc sz) {a:Option Addr} {l:List α} {c:Nat} (h:xCs W enc sz (.slice a l.length c) l):Lv W enc sz noP a l:=
 ⟨fun w H R _ s ao=>by
  obtain ⟨a',c',hv,hx⟩:=h;cases hv;obtain ⟨b,o,ha,hb,hr⟩:=hx ao;refine ⟨b,o,ha,fun j v hj=>s.old ?_⟩;have hlt:j<l.length*sz:=by
   have:=(zLc.1 hj).1
   rwa [K.flat] at this
  have hi:j / sz<l.length:=Nat.div_lt_of_lt_mul (by rw [Nat.mul_comm];exact hlt);have hm:j % sz<sz:=Nat.mod_lt _ K.pos;have e:=yH1 K.len l (j / sz) (j % sz) hm;rw [Nat.div_add_mod',hj,zLb hi] at e;have:=hr (j / sz) l[j / sz] (zLb hi) (j % sz) v e.symm;have ej:sz*(j / sz)+j % sz=j:=Nat.div_add_mod j sz;rw [Nat.add_assoc,ej] at this;exact this⟩
theorem Lv.take (K:EncOk enc sz) {a:Option Addr} {c i m:Nat} {L:List α} (hm:m=L.length):Lv W enc sz (lsP enc e sz (.slice a m c) L) a (L.take i):=
 ⟨fun w H R hs q ao=>by
  subst hm;have aC:=q.row hs;rcases aC.2 with ⟨_,h0⟩|⟨g,cap,aw,hv,_⟩
  ·exact absurd (by rw [List.length_eq_zero_iff.1 h0];simp) ao
  ·cases hv;refine ⟨g,0,rfl,fun j v hj=>?_⟩;have:=aC.cells (g:=g) rfl j v (K.take_at hj)
   rwa [Addr.add_mid] at this⟩
theorem Lv.own (K:EncOk enc sz) {a:Option Addr} {c m:Nat} {L:List α} (hm:m=L.length):Lv W enc sz (lsP enc e sz (.slice a m c) L) a L:=by
 have h:=Lv.take (W:=W) (e:=e) (a:=a) (c:=c) (i:=L.length) K hm
 rwa [List.take_length] at h
theorem KJ.lvSome {A:SP} {a:Option Addr} {l:List α} (hL:Lv W enc sz A a l) (hs:Sel A H R) (hm:0<l.length) (h:∀ b o,a=some ⟨b,o,none⟩→KJ W n k E H):KJ W n k E H:=
 ⟨fun ac w q s=>by obtain ⟨b,o,ha,-⟩:=hL.go w _ _ (hs.app _) s (by intro h;subst h;simp at hm);exact (h b o ha).go ac w q s⟩
theorem yBa {A:SP} {a:Option Addr} {i:Nat} {l:List α} {q:α} {b0 o:Nat} (K:EncOk enc sz) (hL:Lv W enc sz A a l) (ha:a=some ⟨b0,o,none⟩) (hx:Env.ev E x=some (.pointer (some ⟨b0,off,none⟩))) [hu:AgIs P t] [hi:SzIs P t sz] (hs:Sel A H R) (ho:off=o+i*sz) (hq:l[i]? = some q):Ev P W n E H (.load t x) (.agg (enc q).toArray):=
 Ev.mk fun op dE ac w p s=>by
  obtain ⟨dd,hu,hd⟩:=hu.h;subst ho;obtain ⟨b',o',iL,hr⟩:=hL.go w H R hs s (by intro h;subst h;simp at hq);rw [ha] at iL;cases iL;have hc:w.rangeAt b0 (o+i*sz) (enc q):=fun j v hj=>by
   have:=hr _ v (K.at_ hq hj)
   rwa [← Nat.add_assoc] at this
  have:=run_loadAt_mid (P:=P) w b0 (o+i*sz) t (enc q) dd hc hu (yJx hd) (by rw [K.len];exact hi.h);simp [execOp,dE,p.ev hx,this,Result.andThen]
theorem yA0 {A:SP} {a:Option Addr} {i j:Nat} {l:List α} {q:α} {v:Value} {b0 o:Nat} (K:EncOk enc sz) (hL:Lv W enc sz A a l) (ha:a=some ⟨b0,o,none⟩) (hx:Env.ev E x=some (.pointer (some ⟨b0,off,none⟩))) [hu:ScIs P t] (hs:Sel A H R) (ho:off=o+i*sz+j) (hq:l[i]? = some q) (hv:(enc q)[j]? = some v):Ev P W n E H (.load t x) v:=
 Ev.mk fun op dE ac w p s=>by
  obtain ⟨dd,hu,hd⟩:=hu.h;subst ho;obtain ⟨b',o',iL,hr⟩:=hL.go w H R hs s (by intro h;subst h;simp at hq);rw [ha] at iL;cases iL;have hc:w.cell? ⟨b0,o+i*sz+j,none⟩=some v:=by
   have:=hr _ v (K.at_ hq hv)
   rwa [← Nat.add_assoc] at this
  simp [execOp,dE,p.ev hx,yCg w hc hu hd,Result.andThen]
theorem yQW:∀ g,yAH H g→yAH (noP::H) g:=fun g q=>⟨fun _=>none,g,(fun _ _ q=>by cases q),(fun _ _ q=>by cases q),.rfl,trivial,q⟩
theorem KJ.noP (h:KJ W n k E (noP::H)):KJ W n k E H:=⟨fun a w q s=>h.go a w q (s.mono yQW)⟩
theorem Src.lv {A:SP} {a:Option Addr} {l:List α} {b0 o:Nat} (hL:Lv W enc sz A a l) (ha:l≠[]→a=some ⟨b0,o,none⟩) (hs:Sel A H R):Src W H a (l.flatMap enc):=
 ⟨fun ao=>by
  have hl:l≠[]:=by intro h;subst h;exact ao rfl
  refine ⟨b0,o,ha hl,fun w q=>?_⟩;obtain ⟨b',o',iL,hr⟩:=hL.go w H R hs q hl;rw [ha hl] at iL;cases iL;exact hr⟩
theorem KJ.lvOpen {A:SP} {a:Option Addr} {l:List α} (hL:Lv W enc sz A a l) (hs:Sel A H R) (h:∀ b o,(l≠[]→a=some ⟨b,o,none⟩)→KJ W n k E H):KJ W n k E H:=
 ⟨fun ac w q s=>by
  by_cases hl:l=[]
  ·exact (h 0 0 (fun h=>absurd hl h)).go ac w q s
  ·obtain ⟨b,o,ha,-⟩:=hL.go w _ _ (hs.app _) s hl;exact (h b o (fun _=>ha)).go ac w q s⟩
end
theorem yIN {α β:Type} [DecidableEq α]:∀ {left:List (α × β)} {p:α × β},(left.map (·.1)).Nodup→p ∈ left→(p::left.filter fun q=>decide (q.1≠p.1)).Perm left
 |[],p,_,h=>by cases h
 |q::l,p,hn,h=>by
  simp only [List.map_cons,List.nodup_cons] at hn;by_cases e:q=p
  ·subst e;have:l.filter (fun x=>decide (x.1≠q.1))=l:=List.filter_eq_self.2 (fun x hx=>by simp only [ne_eq,decide_not,Bool.not_eq_eq_eq_not,Bool.not_true,decide_eq_false_iff_not];intro h;exact hn.1 (h ▸ List.mem_map.2 ⟨x,hx,rfl⟩))
   simp only [List.filter_cons,ne_eq,not_true_eq_false,decide_false,Bool.false_eq_true,if_false];simp only [ne_eq] at this;rw [this]
  ·have hp:p ∈ l:=by
    rcases zLm.1 h with h|h
    ·exact absurd h.symm e
    ·exact h
   have hk:q.1≠p.1:=fun h=>hn.1 (h ▸ List.mem_map.2 ⟨p,hp,rfl⟩);have ih:=yIN hn.2 hp;simp only [List.filter_cons,hk,ne_eq,not_false_eq_true,decide_true,if_true];simp only [ne_eq] at ih;exact (List.Perm.swap _ _ _).trans (List.Perm.cons _ ih)
theorem yOa {α:Type} [DecidableEq α]:∀ {l r:List α},l.Nodup→(∀ x ∈ l,x ∈ r)→l.length≤r.length
 |[],_,_,_=>zW
 |a::l,r,hn,hs=>by simp only [List.nodup_cons] at hn;have ha:=hs a zW;have ih:=yOa (r:=r.erase a) hn.2 (fun x hx=>(List.mem_erase_of_ne (fun e=>hn.1 (by rw [← e];exact hx))).2 (hs x (by simp [hx])));have hl:=List.length_erase_of_mem ha;have hp:=List.length_pos_of_mem ha;simp only [zLj];omega
end
theorem znf {P:Program} {W:World} {n:Nat} {E:Env} {H:List SP} {t u:TypeId} {x y:Operand} {C:Value→Prop} {kd:IntKind} {i j:Int} (h:C (.bool false)) (hx:Env.ev E x=some (.int kd i):=by exact rfl) (hy:Env.ev E y=some (.int kd j):=by exact rfl) (hs:decide (i≠j)=false:=by exact rfl):EK P W n E H (.binOp .neq t x y u) C:=yAa (yAn hx hy hs) h
end Go.Proofs.YtoipmnikdiogcaaGreatDoor
