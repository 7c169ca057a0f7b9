/-
  Cells, Acts, Region.
-/
import Derived.Test.YtoipmnikdiogcaaGreatDoorYAF
import Derived.WalkKit
import Derived.OrdersHeld
import Derived.StillTailTactics
import Derived.Deep.MidRow
set_option maxHeartbeats 64000000
namespace Go.Proofs.YtoipmnikdiogcaaGreatDoor
open Go Go.RowKit
inductive Cut:List Value→Nat→Nat→List Value→Prop
 |nil {cs:List Value}:Cut cs 0 0 []
 |cons {c:Value} {cs vs:List Value} {m:Nat}:Cut cs 0 m vs→Cut (c::cs) 0 (m+1) (c::vs)
 |skip {c:Value} {cs vs:List Value} {k m:Nat}:Cut cs k m vs→Cut (c::cs) (k+1) m vs
theorem Cut.spec {cs vs:List Value} {k m:Nat} (h:Cut cs k m vs):vs.length=m∧∀ j v,vs[j]? = some v→cs[k+j]? = some v:=by
 induction h with
 |nil=>exact ⟨rfl,fun j v h=>by simp at h⟩
 |cons _ ih=>
  refine ⟨by simp [ih.1],fun j v h=>?_⟩;cases j with
  |zero=>simpa using h
  |succ j=>have:=ih.2 j v (by simpa using h);rw [← this];simp
 |skip _ ih=>
  refine ⟨ih.1,fun j v h=>?_⟩;have:=ih.2 j v h;rw [← this,Nat.add_right_comm];simp
theorem Cut.of {cs:List Value} {k m:Nat} (h:k+m≤cs.length):Cut cs k m ((cs.drop k).take m):=by
 induction cs generalizing k m with
 |nil=>simp at h;obtain ⟨rfl,rfl⟩:=h;exact .nil
 |cons c cs ih=>
  cases k with
  |zero=>
   cases m with
   |zero=>simpa using Cut.nil
   |succ m=>simpa using Cut.cons (ih (k:=0) (m:=m) (by simp at h ⊢;omega))
  |succ k=>simpa using Cut.skip (ih (k:=k) (m:=m) (by simp at h ⊢;omega))
inductive Laid:List Value→Nat→List Value→List Value→Prop
 |nil {cs:List Value}:Laid cs 0 [] cs
 |cons {c v:Value} {cs vs cs':List Value}:Laid cs 0 vs cs'→Laid (c::cs) 0 (v::vs) (v::cs')
 |skip {c:Value} {cs vs cs':List Value} {k:Nat}:Laid cs k vs cs'→Laid (c::cs) (k+1) vs (c::cs')
theorem Laid.spec {cs vs cs':List Value} {k:Nat} (h:Laid cs k vs cs'):k+vs.length≤cs.length∧cs'=lay cs k vs:=by
 induction h with
 |nil=>simp [lay]
 |cons _ ih=>obtain ⟨a,rfl⟩:=ih;simp at a ⊢;exact ⟨a,by simp [lay]⟩
 |skip _ ih=>obtain ⟨a,rfl⟩:=ih;simp at a ⊢;exact ⟨zO,by simp [lay,Nat.add_right_comm]⟩
theorem Laid.of {cs vs:List Value} {k:Nat} (h:k+vs.length≤cs.length):Laid cs k vs (lay cs k vs):=by
 induction cs generalizing k vs with
 |nil=>simp at h;obtain ⟨rfl,rfl⟩:=h;simpa [lay] using Laid.nil
 |cons c cs ih=>
  cases k with
  |zero=>
   cases vs with
   |nil=>simpa [lay] using Laid.nil
   |cons v vs=>simpa [lay] using Laid.cons (c:=c) (v:=v) (ih (k:=0) (vs:=vs) (by simp at h ⊢;omega))
  |succ k=>
   have:=Laid.skip (c:=c) (ih (k:=k) (vs:=vs) (by simp at h ⊢;omega));simpa [lay,Nat.add_right_comm] using this
inductive Ones:List Value→Prop
 |nil:Ones []
 |cons {v:Value} {vs:List Value}:v.oneCell'=true→Ones vs→Ones (v::vs)
theorem Ones.all {vs:List Value} (h:Ones vs):∀ v ∈ vs,v.oneCell'=true:=by
 induction h with
 |nil=>intro v h;cases h
 |cons a _ ih=>intro v h;rcases zLm.1 h with h|h;subst h;exact a;exact ih v h
theorem Ones.of {vs:List Value} (h:∀ v ∈ vs,v.oneCell'=true):Ones vs:=by
 induction vs with
 |nil=>exact .nil
 |cons v vs ih=>exact .cons (h v zW) (ih fun u hu=>h u (by simp [hu]))
theorem yWC (l:zB):Ones (bvs l):=.of (yFj l)
theorem xC {cs vs:List Value} {k m:Nat} (h:Cut cs k m vs:=by (repeat' (first|exact Cut.nil|apply Cut.cons|apply Cut.skip));first|done|fail):Cut cs k m vs:=h
theorem xL {cs vs cs':List Value} {k:Nat} (h:Laid cs k vs cs':=by (repeat' (first|exact Laid.nil|apply Laid.cons|apply Laid.skip));first|done|fail):Laid cs k vs cs':=h
theorem xO {vs:List Value} (h:Ones vs:=by (repeat' (first|exact Ones.nil|exact yWC _|refine Ones.cons rfl ?_));first|done|fail):Ones vs:=h
inductive CellsOf:Value→List Value→Prop
 |agg {vs:List Value}:CellsOf (.agg vs.toArray) vs
 |one {v:Value}:v.oneCell'=true→CellsOf v [v]
theorem xF {v:Value} {vs:List Value} (h:CellsOf v vs:=by first|exact CellsOf.agg|exact CellsOf.one rfl):CellsOf v vs:=h
theorem CellsOf.spec {v:Value} {vs:List Value} (h:CellsOf v vs):v.cells=vs.toArray:=by
 cases h with
 |agg=>rfl
 |one h=>cases v <;> first|rfl|(simp [Value.oneCell'] at h)
section
variable {P:Program} {W:World} {n:Nat} {E:Env} {H H' R:List SP} {x y z:Operand} {t u T:TypeId} {d:TypeDesc} {b off:Nat}
theorem yF0 (hu:P.underlying t=some d) (w:World):(isAgg t).run P w=.ok (yI2 d) w:=by unfold isAgg yI2;cases d <;> simp [run_underlying hu]
theorem yCg (w:World) {v:Value} (hc:w.cell? ⟨b,off,none⟩=some v) (hu:P.underlying t=some d) (hd:yI2 d=false):(Instr.loadAt t (.pointer (some ⟨b,off,none⟩))).run P w=.ok v w:=by simp [Instr.loadAt,Instr.sureAddr,loadVar,yF0 hu,hd,Go.load,Sem.run,hc,Result.andThen]
theorem yJx (hd:yI2 d=true):d.isRow=true:=by cases d <;> simp_all [yI2,TypeDesc.isRow]
theorem yDC {cs:List Value} {v:Value} (hx:Env.ev E x=some (.pointer (some ⟨b,off,none⟩))) [hu:ScIs P t] (hs:Sel (yAj b cs T) H R) (hv:cs[off]? = some v):Ev P W n E H (.load t x) v:=
 Ev.mk fun o ho a w p q=>by
  have hc:w.cell? ⟨b,off,none⟩=some v:=by rw [(q.blk hs).2.cell];exact hv
  obtain ⟨d,hu,hd⟩:=hu.h;simp [execOp,ho,p.ev hx,yCg w hc hu hd,Result.andThen]
theorem yAm {v:Value} (hx:Env.ev E x=some (.pointer (some ⟨b,off,none⟩))) [hu:ScIs P t] (hc:W.cell? ⟨b,off,none⟩=some v):Ev P W n E H (.load t x) v:=
 Ev.mk fun o ho a w p q=>by obtain ⟨d,hu,hd⟩:=hu.h;simp [execOp,ho,p.ev hx,yCg w (q.old hc) hu hd,Result.andThen]
theorem yRL {cs vs:List Value} {m:Nat} (hx:Env.ev E x=some (.pointer (some ⟨b,off,none⟩))) [hu:AgIs P t] [hi:SzIs P t m] (hs:Sel (yAj b cs T) H R) (hv:Cut cs off m vs):Ev P W n E H (.load t x) (.agg vs.toArray):=
 Ev.mk fun o ho a w p q=>by
  have hc:w.rangeAt b off vs:=fun j v hj=>by rw [(q.blk hs).2.cell];exact hv.spec.2 j v hj
  obtain ⟨d,hu,hd⟩:=hu.h;have:=run_loadAt_mid (P:=P) w b off t vs d hc hu (yJx hd) (by rw [hv.spec.1];exact hi.h);simp [execOp,ho,p.ev hx,this,Result.andThen]
theorem St.oldRange {w:World} (q:St W H w) {vs:List Value} (hc:W.rangeAt b off vs):w.rangeAt b off vs:=fun j v hj=>q.old (hc j v hj)
theorem yMs {f ft iz s:Nat} (hx:Env.ev E x=some (.pointer (some ⟨b,off,none⟩))) [hu:FldIs P t f ft iz] [hi:SzIs P ft (s+1)]:Ev P W n E H (.fieldAddr t x f) (.pointer (some ⟨b,off+iz,none⟩)):=
 Ev.mk fun o ho a w p _=>by
  obtain ⟨fs,fd,eJ,hf,rfl,rfl⟩:=hu.h;have hi:=hi.h;cases hq:P.info? fd.type with
  |none=>simp [hq] at hi
  |some i=>
   have hi:i.size=s+1:=by simpa [hq] using hi
   simp [execOp,ho,p.ev hx,Instr.fieldAt,run_underlying eJ,hf,Instr.sureAddr,fieldPlace,sizeOf,typeInfo,hq,hi,Addr.add_mid]
theorem yPa {f ft iz:Nat} {vs:List Value} {v:Value} (hx:Env.ev E x=some (.agg vs.toArray)) [hu:FldIs P t f ft iz] [hs:ScIs P ft] (hv:vs[iz]? = some v):Ev P W n E H (.field t x f) v:=
 Ev.mk fun o ho a w p _=>by obtain ⟨fs,fd,eJ,hf,rfl,rfl⟩:=hu.h;obtain ⟨d,hu',hd⟩:=hs.h;simp [execOp,ho,p.ev hx,Instr.field,run_underlying eJ,hf,asAgg,part,yF0 hu',hd,hv,Result.andThen]
theorem yMt {e:TypeId} {i:Int} {k:IntKind} {m c s:Nat} (hx:Env.ev E x=some (.slice (some ⟨b,off,none⟩) m c)) (hy:Env.ev E y=some (.int k i)) [hu:UIs P t (.slice e)] [hi:SzIs P e s] (hb:0≤i∧i<m):Ev P W n E H (.indexAddr t x y) (.pointer (some ⟨b,off+i.toNat*s,none⟩)):=
 Ev.mk fun o ho a w p _=>by
  have hi:=hi.h;cases hq:P.info? e with
  |none=>simp [hq] at hi
  |some j=>
   have hi:j.size=s:=by simpa [hq] using hi
   simp [execOp,ho,p.ev hx,p.ev hy,Instr.indexAt,asIntOf,run_underlying hu.h,sizeOf,typeInfo,hq,hi,hb,Addr.add_mid]
theorem yJV {e:TypeId} {i:Int} {k:IntKind} {m s:Nat} (hx:Env.ev E x=some (.pointer (some ⟨b,off,none⟩))) (hy:Env.ev E y=some (.int k i)) [hu:UIs P t (.array m e)] [hi:SzIs P e s] (hb:0≤i∧i<m):Ev P W n E H (.indexAddr t x y) (.pointer (some ⟨b,off+i.toNat*s,none⟩)):=
 Ev.mk fun o ho a w p _=>by
  have hi:=hi.h;cases hq:P.info? e with
  |none=>simp [hq] at hi
  |some j=>
   have hi:j.size=s:=by simpa [hq] using hi
   simp [execOp,ho,p.ev hx,p.ev hy,Instr.indexAt,asIntOf,run_underlying hu.h,sizeOf,typeInfo,hq,hi,hb,Addr.add_mid,Instr.sureAddr]
theorem yAp {l:zB} {i:Int} {k:IntKind} {c:UInt8} (hx:Env.ev E x=some (strV l)) (hy:Env.ev E y=some (.int k i)) [hu:UIs P t .string] (h0:0≤i) (hc:l[i.toNat]? = some c):Ev P W n E H (.index t x y) (.int .u8 c.toNat):=
 Ev.mk fun o ho a w p _=>by
  have hl:i.toNat<l.length:=(zLc.1 hc).1;have:(⟨l.toArray⟩:ByteArray)[i.toNat]? = some c:=by rw [getElem?_pos _ _ (by simpa [ByteArray.size] using hl)];rw [zLb hl] at hc;cases hc;rfl
  simp [execOp,ho,p.ev hx,p.ev hy,Instr.index,asIntOf,run_underlying hu.h,h0,this]
theorem yZp (l:zB):(⟨l.toArray⟩:ByteArray).size=l.length:=rfl
theorem yIB (l:zB) (i j:Nat):(⟨l.toArray⟩:ByteArray).extract i j=⟨((l.take j).drop i).toArray⟩:=by apply ByteArray.ext;simp [List.drop_take]
theorem yFm {l:zB} {i j:Int} {ki kj:IntKind} (hx:Env.ev E x=some (strV l)) (hy:Env.ev E y=some (.int ki i)) (hz:Env.ev E z=some (.int kj j)) [hu:UIs P t .string] (hb:0≤i∧i≤j∧j≤l.length):Ev P W n E H (.slice t x (some y) (some z) none) (strV ((l.take j.toNat).drop i.toNat)):=
 Ev.mk fun o ho a w p _=>by have h1:0≤j:=zO;have h2:i≤max j 0:=zO;simp [execOp,ho,p.ev hx,p.ev hy,p.ev hz,Instr.sliceAt,Instr.slice,run_underlying hu.h,Instr.sliceBounds,Instr.sliceBound,asIntOf,h1,hb,yZp,yIB,h2]
theorem yFn {l:zB} {j:Int} {kj:IntKind} (hx:Env.ev E x=some (strV l)) (hz:Env.ev E z=some (.int kj j)) [hu:UIs P t .string] (hb:0≤j∧j≤l.length):Ev P W n E H (.slice t x none (some z) none) (strV (l.take j.toNat)):=
 Ev.mk fun o ho a w p _=>by simp [execOp,ho,p.ev hx,p.ev hz,Instr.sliceAt,Instr.slice,run_underlying hu.h,Instr.sliceBounds,Instr.sliceBound,asIntOf,hb,yZp,yIB]
theorem yB0 {l:zB} {i:Int} {ki:IntKind} (hx:Env.ev E x=some (strV l)) (hy:Env.ev E y=some (.int ki i)) [hu:UIs P t .string] (hb:0≤i∧i≤l.length):Ev P W n E H (.slice t x (some y) none none) (strV (l.drop i.toNat)):=
 Ev.mk fun o ho a w p _=>by simp [execOp,ho,p.ev hx,p.ev hy,Instr.sliceAt,Instr.slice,run_underlying hu.h,Instr.sliceBounds,Instr.sliceBound,asIntOf,hb,yZp,yIB]
end
structure Ct (P:Program) (W:World) (f:FuncId) (args:List Value) (Hpre:List SP) {X:Type} (r:X→Value) (H':X→List SP):Prop where
 go:∀ R w,St W (Hpre++R) w→Calls P f args.toArray w fun e w'=>∃ x,e=.returned (r x)∧St W (H' x++R) w'
abbrev CtU (P:Program) (W:World) (f:FuncId) (vs:List Value) (A:List SP) (r:Value) (B:List SP):Prop:=Ct P W f vs A (fun _:Unit=>r) fun _=>B
abbrev zPp (g:Nat):Value:=.pointer (zq g)
def yRM (W:World) {X:Type} (r:X→Value) (H':X→List SP) (R:List SP):Ending→World→Prop:=fun e w=>∃ x,e=.returned (r x)∧St W (H' x++R) w
def Env.ofArgs:List Value→Nat→Env
 |[],_=>[]
 |v::vs,k=>(k,v)::Env.ofArgs vs (k+1)
theorem Env.ofArgs_at (vs:List Value):∀ k t v,Env.at (Env.ofArgs vs k) t=some v→k≤t∧vs[t-k]? = some v:=by
 induction vs with
 |nil=>intro k t v h;cases h
 |cons u vs ih=>
  intro k t v h;simp only [Env.ofArgs] at h;rw [Env.at_cons] at h;split at h
  ·rename_i e;subst e;cases h;exact ⟨Nat.le_refl _,by simp⟩
  ·obtain ⟨h1,h2⟩:=ih (k+1) t v h;refine ⟨zO,?_⟩;rw [show t-k=(t-(k+1))+1 by omega];simpa using h2
section
variable {P:Program} {W:World} {n:Nat} {q:QQ} {k:KK} {op:Op} {E:Env} {H H' R:List SP} {ops:Array Oper} {l:List Oper} {x y z:Operand} {t u T:TypeId} {b off:Nat} {d:Nat} {dd:Option Tmp} {X:Type}
theorem Ct.enter {f:FuncId} {args:List Value} {Hpre:List SP} {r:X→Value} {Hp:X→List SP} {fn:Func} {c:Code} (hf:P.funcs[f]? = some fn) (hb:fn.body=some c) (hn:fn.ntmps=n) (hk:args.length≤n) (h:∀ R,KJ W n (.code P c (.top (bodyPostM Fence.wide 0 P fn (yRM W r Hp R)))) (Env.ofArgs args 0) (Hpre++R)):Ct P W f args Hpre r Hp:=by
 refine ⟨fun R w s=>?_⟩;refine callsIn_wide.1 (callsIn_of_wp_marks (F:=Fence.wide) (n:=0) hf hb trivial ((h R).go _ w ⟨?_,fun t v e=>?_⟩ (s.perm (by show (Hpre++R).Perm ((Hpre++R)++[]);rw [zLs]))))
 ·simp [hn];omega
 ·obtain ⟨_,h2⟩:=Env.ofArgs_at args 0 t v e;have hl:=(zLc.1 h2).1;simp only [Nat.sub_zero] at h2 hl;show (args.toArray++_)[t]? = _;rw [Array.getElem?_append_left (by simpa using hl)];simpa using h2
theorem zE {f:FuncId} {args:List Value} {Hpre:List SP} {r:X→Value} {Hp:X→List SP} {fn:Func} {c:Code} (hf:P.funcs[f]?=some fn) (hn:fn.ntmps=n) (h:∀ R,KJ W n (.code P c (.top (bodyPostM Fence.wide 0 P fn (yRM W r Hp R)))) (Env.ofArgs args 0) (Hpre++R)) (hb:fn.body=some c:=by rfl) (hk:args.length≤n:=by simp):Ct P W f args Hpre r Hp:=Ct.enter hf hb hn hk h
theorem Ct.val {f:FuncId} {args:List Value} {Hpre:List SP} {r r':X→Value} {Hp:X→List SP} (h:Ct P W f args Hpre r Hp) (e:∀ x,r x=r' x):Ct P W f args Hpre r' Hp:=by have:r=r':=funext e;subst this;exact h
inductive Rvs (P:Program) (E:Env) (H:List SP):List ResultVar→List Value→Prop
 |nil:Rvs P E H [] []
 |tmp {t:Nat} {v:Value} {rs:List ResultVar} {vs:List Value}:Env.at E t=some v→Rvs P E H rs vs→Rvs P E H (.tmp t::rs) (v::vs)
 |cell {a b T t:Nat} {v:Value} {cs:List Value} {R:List SP} {rs:List ResultVar} {vs:List Value}:Env.at E a=some (.pointer (zq b))→ScIs P t→Sel (yAj b cs T) H R→cs[0]? = some v→Rvs P E H rs vs→Rvs P E H (.cell a t::rs) (v::vs)
 |agg {a b T t m:Nat} {ws cs:List Value} {R:List SP} {rs:List ResultVar} {vs:List Value}:Env.at E a=some (.pointer (zq b))→AgIs P t→SzIs P t m→Sel (yAj b cs T) H R→Cut cs 0 m ws→Rvs P E H rs vs→Rvs P E H (.cell a t::rs) (.agg ws.toArray::vs)
def yI5:List Value→Value
 |[v]=>v
 |vs=>.tuple vs.toArray
theorem yJW (w:World) {v:Value} (hc:w.cell? ⟨b,off,none⟩=some v) [hu:ScIs P t]:(loadVar t ⟨b,off,none⟩).run P w=.ok v w:=by obtain ⟨d,hu,hd⟩:=hu.h;have:=yCg w hc hu hd;simpa [Instr.loadAt,Instr.sureAddr] using this
theorem yJX (w:World) {vs:List Value} {m:Nat} (hc:w.rangeAt b off vs) (hl:vs.length=m) [hu:AgIs P t] [hi:SzIs P t m]:(loadVar t ⟨b,off,none⟩).run P w=.ok (.agg vs.toArray) w:=by obtain ⟨d,hu,hd⟩:=hu.h;have:=run_loadAt_mid (P:=P) w b off t vs d hc hu (yJx hd) (by rw [hl];exact hi.h);simpa [Instr.loadAt,Instr.sureAddr] using this
def yPb (tmps:Array Value):ResultVar→Sem Value
 |.tmp t=>pure (tmps.getD t undef)
 |.cell b t=>do loadVar t (← asAddr (tmps.getD b undef))
theorem Rvs.run {rs:List ResultVar} {vs:List Value} (h:Rvs P E H rs vs) {a:Act} {w:World} (p:Hd n E a) (q:St W H w) :(rs.mapM (yPb a.tmps)).run P w=.ok vs w:=by
 induction h with
 |nil=>rfl
 |tmp e _ ih=>
  have h1:=p.at_ _ _ e;rw [List.mapM_cons];simp [yPb,h1,ih,Result.andThen]
 |cell e sc s hv _ ih=>
  have h1:=p.at_ _ _ e;have hc:=(q.blk s).2.cell 0;rw [hv] at hc;have h2:=yJW (P:=P) w hc (hu:=sc);rw [List.mapM_cons];simp [yPb,h1,ih,h2,asAddr,Result.andThen]
 |agg e ag si s hv _ ih=>
  have h1:=p.at_ _ _ e;have hc:w.rangeAt _ 0 _:=fun j v hj=>by rw [(q.blk s).2.cell];exact hv.spec.2 j v hj
  have h2:=yJX (P:=P) w hc hv.spec.1 (hu:=ag) (hi:=si);rw [List.mapM_cons];simp [yPb,h1,ih,h2,asAddr,Result.andThen]
theorem Rvs.results_run {fn:Func} {rs:List ResultVar} {vs:List Value} (hr:fn.results=rs.toArray) (h:Rvs P E H rs vs) {a:Act} {w:World} (p:Hd n E a) (q:St W H w):(Go.results fn a.tmps).run P w=.ok (yI5 vs) w:=by
 have h1:=h.run p q;unfold Go.results;rw [hr];have e:(rs.toArray.mapM (yPb a.tmps))=(List.toArray <$> rs.mapM (yPb a.tmps)):=zW;show (do let vs ← rs.toArray.mapM (yPb a.tmps);pure (if h:vs.size=1 then vs[0] else .tuple vs):Sem Value).run P w=_;rw [e];simp [h1,Result.andThen];cases vs with
 |nil=>rfl
 |cons v vs=>cases vs <;> simp [yI5]
inductive DropTo (R:List SP):List SP→Prop
 |refl:DropTo R R
 |there {A:SP} {H:List SP}:DropTo R H→DropTo R (A::H)
theorem DropTo.star {H:List SP} (d:DropTo R H):∀ g,yAH H g→yAH R g:=by
 induction d with
 |refl=>exact fun _ q=>q
 |there _ ih=>exact fun g ⟨h1,h2,_,_,c,_,e⟩=>ih g (yQn c e)
theorem Ent.of {As H1:List SP} (p:Pick As H H1) (d:DropTo R H1):∀ g,yAH H g→yAH (As++R) g:=by intro g q;have:=yCz p.perm g q;obtain ⟨h1,h2,a,b,c,e,f⟩:=(yBj g).1 this;exact (yBj g).2 ⟨h1,h2,a,b,c,e,d.star _ f⟩
theorem xN {As H1:List SP} (p:Pick As H H1:=by (repeat' (first|exact Pick.nil|apply Pick.cons|exact Sel.here|apply Sel.there));first|done|fail) (d:DropTo R H1:=by (repeat' (first|exact DropTo.refl|apply DropTo.there));first|done|fail):∀ g,yAH H g→yAH (As++R) g:=Ent.of p d
theorem yEB {fn:Func} {tmps:Array Value} {v:Value} {r:X→Value} {Hp:X→List SP} (c:X) (hv:v=r c) (hE:∀ g,yAH H g→yAH (Hp c++R) g) (hr:∀ w,St W H w→(Go.results fn tmps).run P w=.ok v w) :∀ (ds:List Deferred) (w:World),St W (H++dm ds) w→LeavesInM Fence.wide 0 P fn tmps (yRM W r Hp R) ds .returning w:=by
 intro ds
 induction ds with
 |nil=>
  intro w s;have s:St W H w:=s.left;exact ⟨v,hr w s,c,by rw [hv],s.mono hE⟩
 |cons e ds ih=>
  intro w s;refine ⟨by simp,.inl ?_⟩;cases ht:e.target with
  |collected b=>
   have e1:dm (e::ds)=yQo b (.deferred (some []))::dm ds:=by simp [dm,ht]
   rw [e1] at s;have s:=s.perm List.perm_middle;have hb:=(s.obj .here).2;refine ⟨b,_,rfl,run_takeDeferred hb,ih _ ?_⟩;have s2:St W (yQo b (.deferred none)::(H++dm ds)) (w.putObj b (.deferred none)):=s.turn .here (fun h q=>q) (Hl.one_self _ _) rfl rfl rfl zW (World.putObj_heap_same (zLh.1 hb).1) (fun k hk=>World.putObj_heap_other hk);exact s2.right (A:=[_])
  |_=>
   exfalso;have e1:dm (e::ds)=yGZ False::dm ds:=by simp [dm,ht]
   rw [e1] at s;exact (s.perm List.perm_middle).fact .here
theorem yA5 {r:X→Value} {Hp:X→List SP} {fn:Func} {rs:List ResultVar} {vs:List Value} {ex:Exit} (hex:ex=.ret∨ex=.normal) (hr:fn.results=rs.toArray) (hv:Rvs P E H rs vs) (c:X) (hc:yI5 vs=r c) (hE:∀ g,yAH H g→yAH (Hp c++R) g):KJ W n (.ex (.top (bodyPostM Fence.wide 0 P fn (yRM W r Hp R))) ex) E H:=by
 refine ⟨fun a w p q=>?_⟩;have h1:=yEB (P:=P) (fn:=fn) (tmps:=a.tmps) (R:=R) c hc hE (fun w s=>hv.results_run hr p s) a.defers w q;rcases hex with rfl|rfl
 ·exact h1
 ·exact h1
theorem xdn {r:X→Value} {Hp:X→List SP} {fn:Func} {rs:List ResultVar} {vs:List Value} {ex:Exit} (c:X) (hr:fn.results=rs.toArray:=by rfl) (hex:ex=.ret∨ex=.normal:=by first|exact Or.inl rfl|exact Or.inr rfl) (hv:Rvs P E H rs vs:=by (repeat' (first|exact Rvs.nil|(apply Rvs.tmp;exact rfl)));first|done|fail) (hc:yI5 vs=r c:=by rfl) (hE:∀ g,yAH H g→yAH (Hp c++R) g:=by exact xN):KJ W n (.ex (.top (bodyPostM Fence.wide 0 P fn (yRM W r Hp R))) ex) E H:=yA5 hex hr hv c hc hE
theorem yQv {v:Value} {vs cs cs':List Value} {m:Nat} (hx:Env.ev E x=some (.pointer (some ⟨b,off,none⟩))) (hy:Env.ev E y=some v) [hi:SzIs P t m] (hs:Sel (yAj b cs T) H R) (hv:CellsOf v vs) (hl:vs.length=m) (h1:Ones vs) (hL:Laid cs off vs cs') (hr:Rep (yAj b cs T) (yAj b cs' T) H H') (h:KJ W n k E H'):KJ W n (.oper P (.store t x y) none k) E H:=by
 obtain ⟨ak,rfl⟩:=hL.spec;refine ⟨fun a w p s o ho hd=>?_⟩;have av:=yFl (P:=P) w b off t cs vs T (s.left.blk hs).2 ak (by rw [hl];exact hi.h) h1.all;have e:(Instr.storeAt t (.pointer (some ⟨b,off,none⟩)) v).run P w=(Instr.storeAt t (.pointer (some ⟨b,off,none⟩)) (.agg vs.toArray)).run P w:=by simp only [Instr.storeAt,storeVar,hv.spec];rfl
 show uponP P o a _ ((execOp a.eval o).run P w);have e2:(execOp a.eval o).run P w=.ok .skip (w.setRow b (lay cs off vs).toArray):=by simp [execOp,ho,p.ev hx,p.ev hy,e,av,Result.andThen]
 rw [e2];have:=h.go _ _ (p.put (d:=none) rfl undef) (s.setRow (hr.app _));rw [← hd] at this;exact this
theorem yYw {cs:List Value} (hr:∀ o:Oper,o.op=op→∀ a w,Hd n E a→St W H w→(execOp a.eval o).run P w=.ok (.value (.pointer (some ⟨w.heap.size,0,none⟩))) (w.alloc (.cells cs.toArray T))) (hn:Nat.blt d n=true) (h:∀ g,KJ W n k ((d,.pointer (zq g))::E) (yAj g cs T::H)):KJ W n (.oper P op (some d) k) E H:=by
 refine ⟨fun a w p s o ho hd=>?_⟩;show uponP P o a _ ((execOp a.eval o).run P w);rw [hr o ho a w p s.left];have:=(h _).go _ _ (p.put (d:=some d) hn _) s.new;rw [← hd] at this;exact this
theorem yAv {zs:List Value} [hz:ZcIs P t zs] (hn:Nat.blt d n=true) (h:∀ g,KJ W n k ((d,.pointer (zq g))::E) (yAj g zs t::H)):KJ W n (.oper P (.alloc t) (some d) k) E H:=
 yYw (fun o ho a w p s=>by
  have hz:=hz.h;cases hq:P.info? t with
  |none=>simp [hq] at hz
  |some i=>
   simp [hq] at hz;obtain ⟨z,dN,eb⟩:=hz;simp [execOp,ho,Instr.alloc,zeroValue,typeInfo,hq,dN,newVar,newRow,eb,Go.newObj,Sem.run,Result.andThen]) hn h
theorem yAU {v:Value} {vs:List Value} (hy:Env.ev E y=some v) (hv:CellsOf v vs) (hn:Nat.blt d n=true) (h:∀ g,KJ W n k ((d,.pointer (zq g))::E) (yAj g vs t::H)):KJ W n (.oper P (.box t y) (some d) k) E H:=
 yYw (fun o ho a w p s=>by simp [execOp,ho,p.ev hy,Instr.box,newVar,newRow,hv.spec,Go.newObj,Sem.run,Result.andThen]) hn h
theorem yHz {o:Oper} {f:FuncId} {xs:List Operand} {ts:Array TypeId} {vs:List Value} (ho:o.op=.call { callee:=.value (.func f),args:=xs.toArray,argTypes:=ts }) (hx:Evs E xs vs) [hf:FnIs P f] {a:Act} (p:Hd n E a) (w:World):(execOp a.eval o).run P w=.ok (.enter f vs.toArray) w:=by
 have hf:=hf.h;cases hq:P.funcs[f]? with
 |none=>simp [hq] at hf
 |some fn=>
  simp [hq] at hf;obtain ⟨h1,h2⟩:=hf;have e:a.eval (.func f)=.func (.func f) #[] #[]:=rfl;have hb:¬ fn.body=none:=by cases h:fn.body <;> simp_all
  have hv:=p.evs hx;simp [execOp,ho,resolve,e,Deferred.ofValue,invoke,callFunc,Go.program,Sem.run,hq,h2,hb,hv,Result.andThen]
theorem KJ_call' {f:FuncId} {xs:List Operand} {ts:Array TypeId} {vs:List Value} {Hpre:List SP} {r:X→Value} {Hp:X→List SP} (hx:Evs E xs vs) [hf:FnIs P f] (hc:Ct P W f vs Hpre r Hp) (hp:Pick Hpre H R) (hn:yFW n dd=true) (h:∀ c,KJ W n k (Env.put E dd (r c)) (Hp c++R)):KJ W n (.oper P (.call { callee:=.value (.func f),args:=xs.toArray,argTypes:=ts }) dd k) E H:=by
 refine ⟨fun a w p s o ho hd=>?_⟩;subst hd;show uponP P o a _ ((execOp a.eval o).run P w);rw [yHz ho hx p w];refine (hc.go (R++dm a.defers) w (s.perm ((hp.perm.append_right _).trans (by rw [zLd])))).mono ?_
 rintro e w' ⟨c,rfl,s⟩
 refine ⟨_,rfl,(h c).go _ w' (p.put hn _) ?_⟩;show St W (_++dm (a.put o.dst _).defers) w';rw [yB9,zLd];exact s
theorem yZq {f:FuncId} {xs:List Operand} {ts:Array TypeId} {vs:List Value} {Hpre:List SP} {r:X→Value} {Hp:X→List SP} (hx:Evs E xs vs) [hf:FnIs P f] (hc:Ct P W f vs Hpre r Hp) (hp:Pick Hpre H R) (hn:Nat.blt d n=true) (h:∀ c,KJ W n k ((d,r c)::E) (Hp c++R)):KJ W n (.oper P (.call { callee:=.value (.func f),args:=xs.toArray,argTypes:=ts }) (some d) k) E H:=
 KJ_call' hx hc hp hn h
end
section
open Go
section
variable {P:Program} {ops:Array Oper} {Q:Exit→Act→World→Prop} {md:Region.Mode} {S:World→Prop} {late:Nat→Bool}
def yLu (ops:Array Oper) (i:Nat):Bool:=match ops[i]? with
 |some o=>match o.op with | .load ..=>false | .lookup ..=>false|_=>true
 |none=>false
def yF1 (P:Program) (md:Region.Mode) (ops:Array Oper) (Q:Exit→Act→World→Prop) (S:World→Prop) (late:Nat→Bool):Nat→Array Bool→Act→World→Prop
 |0,listed,a,w=>Region.ready md ops listed=[]∧Q .normal a w
 |fuel+1,listed,a,w=>
  (Region.ready md ops listed=[]→Q .normal a w)∧
  ∀ i ∈ Region.ready md ops listed,wpOp P ops Q i (fun a' w'=>(late i=true∨(yLu ops i=true∧¬ S w)∨S w')∧yF1 P md ops Q S late fuel (listed.setIfInBounds i true) a' w') a w
theorem yLC:∀ (fuel:Nat) (listed:Array Bool) (a:Act) (w:World),yF1 P md ops Q S late fuel listed a w→wpAny P md ops Q fuel listed a w
 |0,_,_,_,h=>h
 |fuel+1,_,_,_,h=>⟨h.1,fun i hi=>wpOp_mono (fun a' w' h'=>yLC fuel _ a' w' h'.2) (h.2 i hi)⟩
def Closed (md:Region.Mode) (ops:Array Oper) (listed:Array Bool):Prop:=
 ∀ k o,ops[k]? = some o→listed.getD k false=true→∀ e ∈ o.after,Region.binds md e=true→listed.getD e.on false=true
theorem Closed.set {listed:Array Bool} (h:Closed md ops listed) {i:Nat} (hi:i ∈ Region.ready md ops listed):Closed md ops (listed.setIfInBounds i true):=by
 intro k o ho hk e he hb;obtain ⟨_,oi,hoi,aI⟩:=mem_ready.1 hi;by_cases hki:k=i
 ·subst hki;rw [hoi] at ho;cases ho;exact getD_set_true (aI e he hb)
 ·have:listed.getD k false=true:=by rw [← hk];exact (getD_set_ne false (Ne.symm hki)).symm
  exact getD_set_true (h k o ho this e he hb)
def yJY (md:Region.Mode) (ops:Array Oper):Nat→Nat→Nat→Bool
 |0,_,_=>false
 |n+1,j,i=>match ops[j]? with
  |none=>false
  |some o=>o.after.any fun e=>Region.binds md e && (e.on == i || yJY md ops n e.on i)
theorem yI6 {listed:Array Bool} (hc:Closed md ops listed) (i:Nat):∀ (n j:Nat),yJY md ops n j i=true→(j ∈ Region.ready md ops listed∨listed.getD j false=true)→listed.getD i false=true
 |0,_,h,_=>by simp [yJY] at h
 |n+1,j,h,hj=>by
  simp only [yJY] at h;cases ho:ops[j]? with
  |none=>simp [ho] at h
  |some o=>
   simp only [ho,Array.any_eq_true,zLw,Bool.or_eq_true,beq_iff_eq] at h;obtain ⟨k,hk,hb,h2⟩:=h;have hm:o.after[k] ∈ o.after:=Array.getElem_mem hk;have hl:listed.getD (o.after[k]).on false=true:=by
    rcases hj with hj|hj
    ·obtain ⟨_,o',gp,aI⟩:=mem_ready.1 hj;rw [ho] at gp;cases gp;exact aI _ hm hb
    ·exact hc j o ho hj _ hm hb
   rcases h2 with h2|h2
   ·rw [h2] at hl;exact hl
   ·exact yI6 hc i n _ h2 (.inr hl)
theorem yHA {listed:Array Bool} {i:Nat} (h0:listed.getD i true=false) (h1:listed.getD i false=true):False:=by
 rcases Nat.lt_or_ge i listed.size with h'|h'
 ·simp [h'] at h0 h1;rw [h0] at h1;cases h1
 ·simp [Array.getElem?_eq_none h'] at h1
theorem yNz {i:Nat} {oi:Oper} {v:Value} (hi:ops[i]? = some oi) (ap:∀ (j:Nat) (o:Oper) cs b,ops[j]? = some o→o.op≠.select cs b) (hQ:∀ c a w,Q (.panic c) (a.put oi.dst v) w→Q (.panic c) a w) (fK:∀ j,j<ops.size→late j=true→∃ n,yJY md ops n j i=true) :∀ (fuel:Nat) (listed:Array Bool) (a:Act) (w:World),Closed md ops listed→(∀ j oj,ops[j]? = some oj→j≠i→listed.getD j true=false→(∀ e ∈ oj.after,Region.binds md e=true→e.on≠i)→oi.apart ops oj=true)→i ∈ Region.ready md ops listed→YieldsIf P ops S oi v a→S w→yF1 P md ops Q S late fuel (listed.setIfInBounds i true) (a.put oi.dst v) w→yF1 P md ops Q S late (fuel+1) listed a w:=by
 intro fuel
 induction fuel with
 |zero=>
  intro listed a w _ _ hr hy hS H;refine ⟨fun h=>(by rw [h] at hr;cases hr),fun j hj=>?_⟩;by_cases hji:j=i
  ·subst hji;exact hy.wpOp hi hS ⟨.inr (.inr hS),H⟩
  ·have:=ready_mono hj hji;rw [H.1] at this;cases this
 |succ fuel ih=>
  intro listed a w dS hfree hr hy hS H;refine ⟨fun h=>(by rw [h] at hr;cases hr),fun j hj=>?_⟩;by_cases hji:j=i
  ·subst hji;exact hy.wpOp hi hS ⟨.inr (.inr hS),H⟩
  ·have h1:=H.2 j (ready_mono hj hji);obtain ⟨gR,oj,jO,aI⟩:=mem_ready.1 hj;have kE:∀ e ∈ oj.after,Region.binds md e=true→e.on≠i:=fun e he hb heq=>by have h1:=aI e he hb;rw [heq] at h1;exact yHA (mem_ready.1 hr).1 h1
   have dJ:late j≠true:=fun hl=>by obtain ⟨n,hn⟩:=fK j (zLh.1 jO).1 hl;exact yHA (mem_ready.1 hr).1 (yI6 dS i n j hn (.inl hj))
   have h2:=wpOp_putIf jO (hfree j oj jO hji gR kE) (fun cs b=>ap i oi cs b hi) (fun cs b=>ap j oj cs b jO) hQ hy h1
   have fb:∀ k ok,ops[k]? = some ok→k≠i→(listed.setIfInBounds j true).getD k true=false→
    (∀ e ∈ ok.after,Region.binds md e=true→e.on≠i)→oi.apart ops ok=true:=fun k ok hk hki hun bX=>by
    refine hfree k ok hk hki ?_ bX;by_cases ij:j=k
    ·subst ij;exact gR
    ·rw [getD_set_ne true ij] at hun;exact hun
   refine wpOp_mono (fun a' w' h3=>?_) h2;have hS':S w':=(h3.2.1.resolve_left dJ).resolve_left (fun q=>q.2 hS);refine ⟨.inr (.inr hS'),ih (listed.setIfInBounds j true) a' w' (dS.set hj) fb (ready_mono hr (Ne.symm hji)) h3.1 hS' ?_⟩;rw [Array.setIfInBounds_comm _ _ hji];exact h3.2.2
theorem yPc {i:Nat} {oi:Oper} {v:Value} (hi:ops[i]? = some oi) (hp:yLu ops i=true) (ap:∀ (j:Nat) (o:Oper) cs b,ops[j]? = some o→o.op≠.select cs b) (hQ:∀ c a w,Q (.panic c) (a.put oi.dst v) w→Q (.panic c) a w) :∀ (fuel:Nat) (listed:Array Bool) (a:Act) (w:World),(∀ j oj,ops[j]? = some oj→j≠i→listed.getD j true=false→(∀ e ∈ oj.after,Region.binds md e=true→e.on≠i)→oi.apart ops oj=true)→i ∈ Region.ready md ops listed→YieldsIf P ops (fun _=>True) oi v a→yF1 P md ops Q S late fuel (listed.setIfInBounds i true) (a.put oi.dst v) w→yF1 P md ops Q S late (fuel+1) listed a w:=by
 intro fuel;have hme:∀ w:World,late i=true∨(yLu ops i=true∧¬ S w)∨S w:=fun w=>by
  by_cases h:S w
  ·exact .inr (.inr h)
  ·exact .inr (.inl ⟨hp,h⟩)
 induction fuel with
 |zero=>
  intro listed a w _ hr hy H;refine ⟨fun h=>(by rw [h] at hr;cases hr),fun j hj=>?_⟩;by_cases hji:j=i
  ·subst hji;exact hy.wpOp hi trivial ⟨hme w,H⟩
  ·have:=ready_mono hj hji;rw [H.1] at this;cases this
 |succ fuel ih=>
  intro listed a w hfree hr hy H;refine ⟨fun h=>(by rw [h] at hr;cases hr),fun j hj=>?_⟩;by_cases hji:j=i
  ·subst hji;exact hy.wpOp hi trivial ⟨hme w,H⟩
  ·have h1:=H.2 j (ready_mono hj hji);obtain ⟨gR,oj,jO,aI⟩:=mem_ready.1 hj;have kE:∀ e ∈ oj.after,Region.binds md e=true→e.on≠i:=fun e he hb heq=>by have h1:=aI e he hb;rw [heq] at h1;exact yHA (mem_ready.1 hr).1 h1
   have h2:=wpOp_putIf jO (hfree j oj jO hji gR kE) (fun cs b=>ap i oi cs b hi) (fun cs b=>ap j oj cs b jO) hQ hy h1
   have fb:∀ k ok,ops[k]? = some ok→k≠i→(listed.setIfInBounds j true).getD k true=false→
    (∀ e ∈ ok.after,Region.binds md e=true→e.on≠i)→oi.apart ops ok=true:=fun k ok hk hki hun bX=>by
    refine hfree k ok hk hki ?_ bX;by_cases ij:j=k
    ·subst ij;exact gR
    ·rw [getD_set_ne true ij] at hun;exact hun
   refine wpOp_mono (fun a' w' h3=>⟨h3.2.1,ih (listed.setIfInBounds j true) a' w' fb (ready_mono hr (Ne.symm hji)) h3.1 ?_⟩) h2;rw [Array.setIfInBounds_comm _ _ hji];exact h3.2.2
def yCi (N k:Nat):Array Bool:=(List.replicate k true++List.replicate (N-k) false).toArray
theorem yPd (N k j:Nat) (d:Bool) (hk:k≤N):(yCi N k).getD j d=if j<k then true else if j<N then false else d:=by
 unfold yCi;simp only [Array.getD_eq_getD_getElem?,List.getElem?_toArray,List.getElem?_append,zLB,List.getElem?_replicate];by_cases h1:j<k
 ·simp [h1]
 ·by_cases h2:j<N
  ·simp [h1,h2,show j-k<N-k by omega]
  ·simp [h1,h2,show ¬ j-k<N-k by omega]
theorem yGy (N k:Nat) (hk:k<N):(yCi N k).setIfInBounds k true=yCi N (k+1):=by unfold yCi;rw [List.setIfInBounds_toArray];congr 1;rw [List.set_append_right _ _ zW];simp only [zLB,Nat.sub_self];rw [show N-k=(N-(k+1))+1 by omega,List.replicate_succ,List.set_cons_zero,List.replicate_succ' (n:=k)];simp
def yYx (ops:Array Oper) (n m:Nat):Bool:=
 Region.noSelect ops && decide (n≤m) && decide (m≤ops.size) &&
 ((List.range n).all fun k=>(Region.ready .any ops (yCi ops.size k)).contains k && Region.free .any ops (yCi ops.size k) k) &&
 ((List.range ops.size).all fun k=>decide (k<n) || Region.ready .any ops (yCi ops.size k) == [k]) &&
 (Region.ready .any ops (yCi ops.size ops.size) == []) &&
 ((List.range ops.size).all fun j=>decide (j<m) || (List.range n).all fun i=>yLu ops i || yJY .any ops ops.size j i) &&
 ((List.range ops.size).all fun k=>match ops[k]? with|none=>true|some o=>o.after.all fun e=>!Region.binds .any e || decide (e.on<k))
def yEk (P:Program) (ops:Array Oper) (S:World→Prop) (R:Act→Prop):List Oper→Act→Prop
 |[],a=>R a
 |o::rest,a=>∃ v,((∀ i,ops[i]? = some o→yLu ops i=true)∧YieldsIf P ops (fun _=>True) o v a∨(∀ i,ops[i]? = some o→yLu ops i=false)∧YieldsIf P ops S o v a)∧yEk P ops S R rest (a.put o.dst v)
def yEZ (P:Program) (ops:Array Oper) (Q:Exit→Act→World→Prop) (S:World→Prop) (R:Act→World→Prop):List Oper→Act→World→Prop
 |[],a,w=>R a w
 |o::rest,a,w=>if Region.wanted o (yielded ops a.tmps) then o.wp P a w (fun a' w'=>S w'∧yEZ P ops Q S R rest a' w') Q else S w∧yEZ P ops Q S R rest (a.put o.dst undef) w
theorem yNA (hb:∀ (k:Nat) (o:Oper),ops[k]? = some o→∀ e ∈ o.after,Region.binds md e=true→e.on<k) (k:Nat) (hk:k≤ops.size):Closed md ops (yCi ops.size k):=by
 intro j o ho hj e he fO;rw [yPd _ _ _ _ hk] at hj ⊢;have ij:j<k:=by
  by_cases h:j<k
  ·exact h
  ·by_cases h2:j<ops.size <;> simp [h] at hj
 have:=hb j o ho e he fO;rw [if_pos zO]
theorem yNB {l:List Oper} (k:Nat) (aY:k<l.length) {a:Act} {w:World} (h:wpList P l.toArray Q (l.drop k) a w):wpOp P l.toArray Q k (wpList P l.toArray Q (l.drop (k+1))) a w:=by
 rw [List.drop_eq_getElem_cons aY] at h;unfold wpOp;have ho:l.toArray[k]? = some l[k]:=by simp [aY]
 simp only [ho];unfold wpList at h;exact h
theorem yG6 {l:List Oper} {m:Nat} (a8:∀ k,k<l.length→m≤k→Region.ready .any l.toArray (yCi l.length k)=[k]) (a7:Region.ready .any l.toArray (yCi l.length l.length)=[]) (hlt:∀ j,m≤j→late j=true) :∀ (d k:Nat) (a:Act) (w:World),k+d=l.length→m≤k→wpList P l.toArray Q (l.drop k) a w→yF1 P .any l.toArray Q S late d (yCi l.length k) a w
 |0,k,a,w,hk,_,h=>by obtain rfl:k=l.length:=zO;rw [List.drop_length] at h;exact ⟨a7,h⟩
 |d+1,k,a,w,hk,hm,h=>by
  have aY:k<l.length:=zO;refine ⟨fun e=>(by rw [a8 k aY hm] at e;cases e),fun i hi=>?_⟩;rw [a8 k aY hm] at hi;obtain rfl:i=k:=by simpa using hi
  rw [show (yCi l.length i).setIfInBounds i true=yCi l.length (i+1) from yGy _ _ aY];exact wpOp_mono (fun a' w' h'=>⟨.inl (hlt i hm),yG6 a8 a7 hlt d (i+1) a' w' zO zO h'⟩) (yNB i aY h)
theorem yF2 {l:List Oper} {n m:Nat} (a8:∀ k,k<l.length→n≤k→Region.ready .any l.toArray (yCi l.length k)=[k]) (a7:Region.ready .any l.toArray (yCi l.length l.length)=[]) (hlt:∀ j,m≤j→late j=true) (hm:m≤l.length) (hnm:n≤m) :∀ (e k:Nat) (a:Act) (w:World),k+e=m→n≤k→yEZ P l.toArray Q S (fun a' w'=>wpList P l.toArray Q (l.drop m) a' w') ((l.drop k).take e) a w→yF1 P .any l.toArray Q S late (l.length-k) (yCi l.length k) a w
 |0,k,a,w,hk,hn,h=>by obtain rfl:k=m:=zO;rw [List.take_zero] at h;exact yG6 (fun j h1 h2=>a8 j h1 zO) a7 hlt (l.length-k) k a w zO (Nat.le_refl _) h
 |e+1,k,a,w,hk,hn,h=>by
  have aY:k<l.length:=zO;rw [show l.length-k=(l.length-(k+1))+1 by omega];refine ⟨fun q=>(by rw [a8 k aY hn] at q;cases q),fun i hi=>?_⟩;rw [a8 k aY hn] at hi;obtain rfl:i=k:=by simpa using hi
  rw [show (yCi l.length i).setIfInBounds i true=yCi l.length (i+1) from yGy _ _ aY];rw [List.drop_eq_getElem_cons aY,List.take_succ_cons] at h;have ih:=fun a' w'=>yF2 a8 a7 hlt hm hnm e (i+1) a' w' zO zO;unfold yEZ at h;unfold wpOp;have ho:l.toArray[i]? = some l[i]:=by simp [aY]
  simp only [ho];split
  ·rename_i hw;rw [if_pos hw] at h;have h':wpOp P l.toArray Q i (fun a' w'=>S w'∧yEZ P l.toArray Q S (fun a' w'=>wpList P l.toArray Q (l.drop m) a' w') ((l.drop (i+1)).take e) a' w') a w:=by unfold wpOp;simp only [ho,hw,if_true];exact .inl h
   have h2:=wpOp_mono (fun a' w' q=>(⟨.inr (.inr q.1),ih a' w' q.2⟩:(late i=true∨(yLu l.toArray i=true∧¬ S w)∨S w')∧yF1 P .any l.toArray Q S late (l.length-(i+1)) (yCi l.length (i+1)) a' w')) h';unfold wpOp at h2;simp only [ho,hw,if_true] at h2;exact h2
  ·rename_i hw;rw [if_neg hw] at h;exact ⟨.inr (.inr h.1),ih _ _ h.2⟩
theorem yF3 {l:List Oper} {n:Nat} (ap:Region.noSelect l.toArray=true) (gO:∀ k,k<n→k ∈ Region.ready .any l.toArray (yCi l.length k)∧Region.free .any l.toArray (yCi l.length k) k=true) (fK:∀ i,i<n→yLu l.toArray i=false→∀ j,j<l.length→late j=true→∃ f,yJY .any l.toArray f j i=true) (hb:∀ (k:Nat) (o:Oper),l.toArray[k]? = some o→∀ e ∈ o.after,Region.binds .any e=true→e.on<k) (hn:n≤l.length) (hQ:∀ c a d v w,Q (.panic c) (Act.put a d v) w→Q (.panic c) a w) {w:World} (hS:S w) {R:Act→Prop} (hR:∀ a,R a→yF1 P .any l.toArray Q S late (l.length-n) (yCi l.length n) a w) :∀ (e k:Nat) (a:Act),k+e=n→yEk P l.toArray S R ((l.drop k).take e) a→yF1 P .any l.toArray Q S late (l.length-k) (yCi l.length k) a w
 |0,k,a,hk,h=>by obtain rfl:k=n:=zO;rw [List.take_zero] at h;exact hR a h
 |e+1,k,a,hk,h=>by
  have aY:k<l.length:=zO;rw [List.drop_eq_getElem_cons aY,List.take_succ_cons] at h;obtain ⟨v,hy,h⟩:=h;have ih:=yF3 ap gO fK hb hn hQ hS hR e (k+1) _ zO h;have ho:l.toArray[k]? = some l[k]:=by simp [aY]
  rw [show l.length-k=(l.length-(k+1))+1 by omega];have hf:=gO k zO;rcases hy with ⟨hp,hy⟩|⟨hp,hy⟩
  ·refine yPc ho (hp k ho) (Region.noSelect_spec ap) (fun c a w q=>hQ c _ _ _ w q) _ _ _ _ (Region.free_spec ho hf.2) hf.1 hy ?_;rw [yGy _ _ aY];exact ih
  ·refine yNz ho (Region.noSelect_spec ap) (fun c a w q=>hQ c _ _ _ w q) (fK k zO (hp k ho)) _ _ _ _ ?_ (Region.free_spec ho hf.2) hf.1 hy hS ?_
   ·have:=yNA (md:=.any) hb k (by simp;omega);simpa using this
   ·rw [yGy _ _ aY];exact ih
theorem yDl {id:Nat} {a:Act} {w:World} {l:List Oper} (n m:Nat) (S:World→Prop) (hm:P.follows .mixedOrders=true) (hB:yYx l.toArray n m=true) (hQ:∀ c a d v w,Q (.panic c) (Act.put a d v) w→Q (.panic c) a w) (hS:S w.drew) (h:yEk P l.toArray S (fun a'=>yEZ P l.toArray Q S (fun a' w'=>wpList P l.toArray Q (l.drop m) a' w') ((l.drop n).take (m-n)) a' w.drew) (l.take n) a):(Code.region id l.toArray true).wp P Q a w:=by
 simp only [yYx,zLw,decide_eq_true_eq,List.all_eq_true,List.mem_range,Bool.or_eq_true,beq_iff_eq,List.contains_iff_mem,List.size_toArray] at hB;obtain ⟨⟨⟨⟨⟨⟨⟨ap,hnm⟩,gd⟩,h1⟩,h2⟩,h3⟩,h4⟩,h5⟩:=hB;have a8:∀ k,k<l.length→n≤k→Region.ready .any l.toArray (yCi l.length k)=[k]:=fun k hk hn=>(h2 k hk).resolve_left zO;have hb:∀ (k:Nat) (o:Oper),l.toArray[k]? = some o→∀ e ∈ o.after,Region.binds .any e=true→e.on<k:=by
  intro k o ho e he fO;have hk:k<l.length:=by simpa using (zLh.1 ho).1
  have:=h5 k hk;rw [ho] at this;simp only [Array.all_eq_true_iff_forall_mem,Bool.or_eq_true,Bool.not_eq_true',decide_eq_true_eq] at this;exact (this e he).resolve_left (by rw [fO];decide)
 refine wp_region_any hm (yLC (S:=S) (late:=fun j=>decide (m≤j)) _ _ _ _ ?_);have h0:Array.replicate l.toArray.size false=yCi l.length 0:=by simp [yCi]
 rw [h0]
 have:=yF3 (P:=P) (Q:=Q) (S:=S) (late:=fun j=>decide (m≤j)) (n:=n) ap h1
  (fun i hi hp j hj hl=>⟨_,((h4 j hj).resolve_left (by simpa using hl) i hi).resolve_left (by rw [hp];decide)⟩) hb zO hQ (w:=w.drew) hS
  (fun a' ha=>yF2 a8 h3 (fun j hj=>by simpa using hj) gd hnm (m-n) n a' w.drew zO (Nat.le_refl _) ha) n 0 a zO (by simpa using h)
 simpa using this
theorem yTL {o:Oper} {b:Bool} (h:(match o.op with | .load ..=>false | .lookup ..=>false|_=>true)=b) (i:Nat) (hi:ops[i]? = some o):yLu ops i=b:=by unfold yLu;rw [hi];exact h
theorem yA9 {R:Act→Prop} {o:Oper} {rest:List Oper} {a:Act} (hg:o.guard=none) (hp:(match o.op with | .load ..=>false | .lookup ..=>false|_=>true)=true) (v:Value) (av:∀ w,(execOp a.eval o).run P w=.ok (.value v) w) (h:yEk P ops S R rest (a.put o.dst v)):yEk P ops S R (o::rest) a:=
 ⟨v,.inl ⟨yTL hp,.inl ⟨by simp [Region.wanted,hg],fun w _=>av w⟩⟩,h⟩
theorem yCJ {R:Act→Prop} {o:Oper} {rest:List Oper} {a:Act} (hg:o.guard=none) (hp:(match o.op with | .load ..=>false | .lookup ..=>false|_=>true)=false) (v:Value) (av:∀ w,S w→(execOp a.eval o).run P w=.ok (.value v) w) (h:yEk P ops S R rest (a.put o.dst v)):yEk P ops S R (o::rest) a:=
 ⟨v,.inr ⟨yTL hp,.inl ⟨by simp [Region.wanted,hg],av⟩⟩,h⟩
theorem yDe {R:Act→Prop} {o:Oper} {rest:List Oper} {a:Act} (hg:o.guard=none) (x:Operand) (ho:o.op=.move x) (v:Value) (hx:a.eval x=v) (h:yEk P ops S R rest (a.put o.dst v)):yEk P ops S R (o::rest) a:=
 yA9 hg (by rw [ho]) v (fun w=>by simp [execOp,ho,hx]) h
theorem yEl {R:Act→Prop} {op:Oper} {rest:List Oper} {a:Act} (hg:op.guard=none) (ty:TypeId) (x:Operand) (ho:op.op=.load ty x) (b o:Nat) (hx:a.eval x=.pointer (some ⟨b,o,none⟩)) (cs:List Value) (d:TypeDesc) (hc:∀ w,S w→w.rangeAt b o cs) (hu:P.underlying ty=some d) (hd:d.isRow=true) (hi:(P.info? ty).map (·.size)=some cs.length) (h:yEk P ops S R rest (a.put op.dst (.agg cs.toArray))):yEk P ops S R (op::rest) a:=by
 refine yCJ hg (by rw [ho]) _ (fun w hS=>?_) h;have hr:=run_loadAt_mid (P:=P) w b o ty cs d (hc w hS) hu hd hi;unfold execOp;simp only [ho,hx,Sem.run_bind,Sem.run_pure,Result.andThen_ok,hr]
theorem yPe {R:Act→World→Prop} {o:Oper} {rest:List Oper} {a:Act} {w:World} (hg:o.guard=none) (h:o.wp P a w (fun a' w'=>S w'∧yEZ P ops Q S R rest a' w') Q):yEZ P ops Q S R (o::rest) a w:=by unfold yEZ;rw [if_pos (by simp [Region.wanted,hg])];exact h
end
end
end Go.Proofs.YtoipmnikdiogcaaGreatDoor
