/-
  Mor4, Errq, Mor5, Seq, Mp3, Srt, Gnl, ErL.
-/
import Derived.Test.YtlnbkbfblhofbaaGreatDoorVBF
import Derived.Test.YtlnbkbfblhofbaaGreatDoorVBP
import Derived.Test.YtlnbkbfblhofbaaGreatDoorVFL
import Derived.Lib.LaidTab
import Derived.Test.YtlnbkbfblhofbaaGreatDoorVCM
import Derived.Laws.StructEq
import Derived.DeepKeys4
import Derived.Deep.Upon
set_option maxHeartbeats 64000000
namespace Go.Proofs.YtlnbkbfblhofbaaGreatDoor
open Go Go.RowKit
open Go.Proofs.Tryz
section
variable {P:Program} {W:World} {n d:Nat} {E:Env} {H H' R:List SP} {t u e:TypeId} {x y z:Operand} {T:TypeId} {b off:Nat} {k:KK} {q:QQ}
theorem yI4 {G:Prop} {K:KK} (Q:KK→Prop) (main:Q K→G) (r:Q K):G:=main r
theorem ySv {id:Nat} {ops:Array Oper} {dr:Bool} (h:KJ W n (.code P (Code.region id ops dr) q) E H):KJ W n (.code P (Code.region id ops dr) q) E H:=h
theorem yAw {id:Nat} {ops:Array Oper} {dr:Bool} {c:Code} (h:KJ W n (.code P (Code.seq (Code.region id ops dr) c) q) E H):KJ W n (.code P (Code.seq (Code.region id ops dr) c) q) E H:=h
theorem yAd {i j r:Int} (hx:Env.ev E x=some (.int .i64 i)) (hy:Env.ev E y=some (.int .i64 j)) (h:i+j=r) (hb:-9223372036854775808≤r∧r≤9223372036854775807):Ev P W n E H (.binOp .add t x y u) (.int .i64 r):=by
 subst h;exact yRs hx hy hb
theorem yBG {i j r:Int} (hx:Env.ev E x=some (.int .i64 i)) (hy:Env.ev E y=some (.int .i64 j)) (h:i-j=r) (hb:-9223372036854775808≤r∧r≤9223372036854775807):Ev P W n E H (.binOp .sub t x y u) (.int .i64 r):=by
 subst h;exact yRt hx hy hb
theorem yAG {i j r:Int} (hx:Env.ev E x=some (.int .i64 i)) (hy:Env.ev E y=some (.int .i64 j)) (h:i*j=r) (hb:-9223372036854775808≤r∧r≤9223372036854775807):Ev P W n E H (.binOp .mul t x y u) (.int .i64 r):=by
 subst h;exact yRu hx hy hb
theorem yEq {a b:List UInt8} (hx:Env.ev E x=some (strV a)) (hy:Env.ev E y=some (strV b)) (h:a≠b):Ev P W n E H (.binOp .neq t x y u) (.bool true):=by
 have:=yKT (P:=P) (W:=W) (n:=n) (E:=E) (H:=H) (t:=t) (u:=u) hx hy
 rw [zY (by exact h)] at this;exact this
theorem ySw {ps:List (Nat × Operand)} {pv:List (Nat × Value)} {vs:List Value} (hp:EvP E ps pv) (h:P.built t pv=some vs.toArray):Ev P W n E H (.build t ps.toArray) (.agg vs.toArray):=
 Ev.mk fun o ho a w p _=>by
  have e:(ps.toArray.map fun (i,x)=>(i,a.eval x)).toList=pv:=by
   rw [← hp.map p];simp
  have h1:=run_build (P:=P) w t (ps.toArray.map fun (i,x)=>(i,a.eval x)) vs.toArray (by rw [e];exact h)
  simp only [execOp,ho,Sem.run_bind,h1,Result.andThen_ok,Sem.run_pure]
end
theorem yMC {P:Program} {w:World} {t:TypeId} {u1:TypeId} {x1:Value} {v2:Value} {b:Bool} (h:(binOp .eql t v2 (.iface u1 x1)).run P w=.ok (.bool b) w):(Op.equal t v2 (.iface u1 x1)).run P w=.ok b w:=by
 have e:binOp .eql t v2 (.iface u1 x1)=(do pure (.bool (← Op.equal t v2 (.iface u1 x1)))):=by
  cases v2 <;> rfl
 rw [e] at h
 simp only [Sem.run_bind] at h
 cases hq:(Op.equal t v2 (.iface u1 x1)).run P w with
 |ok c w'=>
  rw [hq] at h
  simp only [Result.andThen_ok,Sem.run_pure,Result.ok.injEq,Value.bool.injEq] at h
  rw [h.1,h.2]
 |_=>rw [hq] at h;simp [Result.andThen] at h
section
variable {W:World} {n:Nat} {E:Env} {H:List SP} {x y:Operand} {u:TypeId} {F:Nat→Addr}
theorem yXx {S:List Nat} (hE:ErrsOn S W F) {w:World} (bl:Below W.heap.size W w) (a b:Nat) (ha:a=0∨a ∈ S) (hb:b ∈ S):(binOp .eql 26 (yAr F a) (yAr F b)).run prog w=.ok (.bool (decide (a=b))) w:=by
 have hw:=hE.later bl
 have hb1:=hE.pos b hb
 rw [yDt F b hb1]
 by_cases h0:a=0
 ·subst h0
  rw [zZ zO]
  exact run_eql_iface_nil_left w _ _ underlying26
 ·rw [yDt F a zO]
  by_cases hab:a=b
  ·subst hab
   rw [zY rfl]
   exact yOY w _
  ·rw [zZ hab]
   have ha:a ∈ S:=ha.resolve_left h0
   obtain ⟨ca,ta,h1⟩:=hw.obj a ha
   obtain ⟨cb,tb,h2⟩:=hw.obj b hb
   exact yMj w _ _ (fun e=>hab (hw.inj _ _ ha hb e)) h1 h2
theorem ySx (op:BinOp) (t:TypeId) (a b:Nat) (hb:1≤b) (w:World):(eqGuard op t x y (yAr F a) (yAr F b)).run prog w=.ok () w:=by
 rw [yDt F b hb]
 by_cases h0:a=0
 ·subst h0
  cases op <;> rfl
 ·rw [yDt F a zO]
  cases op <;> rfl
theorem ySy {a b:Nat} {q:Bool} {S:List Nat} (hE:ErrsOn S W F) (hx:Env.ev E x=some (yAr F a)) (hy:Env.ev E y=some (yAr F b)) (ha:a=0∨a ∈ S) (hb:b ∈ S) (hq:decide (a≠b)=q):Ev prog W n E H (.binOp .neq 26 x y u) (.bool q):=
 Ev.mk fun o ho ac w p s=>by
  subst hq
  have h1:=ySx (x:=x) (y:=y) (F:=F) .neq 26 a b (hE.pos b hb) w
  have h2:=yXx hE s.below a b ha hb
  have h3:(binOp .neq 26 (yAr F a) (yAr F b)).run prog w=.ok (.bool (decide (a≠b))) w:=by
   rw [yDt F b (hE.pos b hb)] at h2 ⊢
   have h4:=yMC h2
   have e:binOp .neq 26 (yAr F a) (.iface 281 (.pointer (some (F b))))=(do pure (.bool (!(← Op.equal 26 (yAr F a) (.iface 281 (.pointer (some (F b)))))))):=by
    cases yAr F a <;> rfl
   rw [e,Sem.run_bind,h4]
   simp
  simp only [execOp,ho,p.ev hx,p.ev hy,Sem.run_bind,h1,h3,Result.andThen_ok,Sem.run_pure]
end
theorem yMD (at_ : Nat) {laid : List (String × DataW Unit)} {W : World} (hp : (laid.all fun x => x.2.handleName?.isNone) = true) (hi : laid[at_]? = some ("remit/checks.nibbles", Lib.tabData .u32 nibT)) (h : laidMetH prog laid W) : NibAt W := by
 rw [MakeChecks.laidMetH_plain _ _ _ hp] at h
 obtain ⟨ps,hL,hnd,_⟩:=h
 obtain ⟨pl,h1,_⟩:=yGp hL hnd
 obtain ⟨g,t,cs,fuel,a1,a2,a3,a4,_,_⟩:=h1 _ _ _ hi
 obtain rfl := Option.some.inj ((show prog.globalNamed "remit/checks.nibbles" = some 37 by kernel_rfl).symm.trans a1)
 obtain rfl:=Option.some.inj ((show (prog.globals[37]?).map (·.type)=some 275 by kernel_rfl).symm.trans a2)
 have hcs:=Lib.cells_of_tab underlying275 underlying200 zK zK a4
 intro i hi'
 have:=World.var?_cell a1 a3 i
 rw [this]
 have e:cs[i]? = cs.toList[i]?:=zW
 rw [e,hcs]
 have hn:i<nibT.length:=hi'
 simp [List.getD,hn]
section
variable {P:Program} {W:World} {n:Nat} {E:Env} {H:List SP} {t u:TypeId} {x y:Operand} {kd:IntKind}
theorem yAZ {i j r:Int} (hx:Env.ev E x=some (.int kd i)) (hy:Env.ev E y=some (.int kd j)) (hb:0≤i∧0<j) (h:i % j=r):Ev P W n E H (.binOp .rem t x y u) (.int kd r):=by subst h;exact yE6 hx hy hb
theorem yB8 {i j r:Int} (hx:Env.ev E x=some (.int kd i)) (hy:Env.ev E y=some (.int kd j)) (h:kd.wrap (i+j)=r):Ev P W n E H (.binOp .add t x y u) (.int kd r):=by subst h;exact yOM hx hy
theorem yD8 {i j r:Int} (hx:Env.ev E x=some (.int .i64 i)) (hy:Env.ev E y=some (.int .i64 j)) (hb:0≤i∧i≤9223372036854775807∧0<j) (h:i / j=r):Ev P W n E H (.binOp .quo t x y u) (.int .i64 r):=by
 subst h;exact yKQ hx hy hb
theorem yO8 {i j m:Int} {ts:Array TypeId} (hx:Env.ev E x=some (.int kd i)) (hy:Env.ev E y=some (.int kd j)) (h:max i j=m):Ev P W n E H (.call { callee:=.builtin .max,args:=#[x,y],argTypes:=ts }) (.int kd m):=by subst h;exact yWc hx hy
theorem yXy {i j r:Int} (hx:Env.ev E x=some (.int kd i)) (hy:Env.ev E y=some (.int kd j)) (h:bits .or kd i j=r):Ev P W n E H (.binOp .or t x y u) (.int kd r):=by subst h;exact yXs hx hy
end
section
open Go Go.RowKit Go.MapKept
def yKg:TypeDesc→Value→Value→Option Bool
 |.int k,.int k1 a,.int k2 b=>if k1=k∧k2=k then some (decide (a=b)) else none
 |.string,.string a,.string b=>some (decide (a.data.toList=b.data.toList))
 |.bool,.bool a,.bool b=>some (decide (a=b))
 |_,_,_=>none
class StIs (P:Program) (t:TypeId):Prop where h:P.stoodInHeld t=false∧P.eqGuardType P.depth t=false
inductive EqF (P:Program) (xs ys:List Value):List Field→Bool→Prop
 |nil:EqF P xs ys [] true
 | cons {f : Field} {fs : List Field} {d : TypeDesc} {x y : Value} {b b' : Bool} : (f.name == "_") = false → UIs P f.type d → xs[f.offset]? = some x → ys[f.offset]? = some y → yKg d x y = some b → EqF P xs ys fs b' → EqF P xs ys (f :: fs) (b && b')
section
variable {P:Program} {W:World} {n:Nat} {E:Env} {H:List SP} {t u:TypeId} {x y:Operand} {xs ys:List Value} {fs:Array Field} {b c:Bool}
theorem yQk {d:TypeDesc} {t:TypeId} {v w':Value} {b:Bool} (hu:P.underlying t=some d) (h:yKg d v w'=some b) (m:Nat) (w:World):(Op.equalIn (m+1) t v w').run P w=.ok b w:=by
 unfold yKg at h
 split at h
 ·split at h
  ·rename_i k k1 a k2 b' hk
   obtain ⟨rfl,rfl⟩:=hk
   cases h
   rw [run_equalIn_int (w:=w) m t _ _ _ _ hu]
   by_cases e:a=b' <;> simp [e]
  ·cases h
 ·cases h
  rw [run_equalIn_string w m t _ _ hu]
  rename_i a b'
  rw [ByteArray.toList_eq,ByteArray.toList_eq]
  have e:(a.data.toList == b'.data.toList)=decide (a.data.toList=b'.data.toList):=Bool.eq_iff_iff.2 zW
  rw [e]
 ·cases h
  rename_i a b'
  rw [run_equalIn_bool' w m t _ _ hu]
  by_cases e:a=b' <;> simp [e]
 ·cases h
theorem ySz {d:TypeDesc} {v w':Value} {b:Bool} (h:yKg d v w'=some b):yHZ d=false:=by
 unfold yKg at h
 split at h <;> first|rfl|cases h
theorem EqF.run {fs:List Field} (h:EqF P xs ys fs b) (m:Nat) (w:World):(Op.eqFields (m+1) xs.toArray ys.toArray fs).run P w=.ok b w:=by
 induction h with
 |nil=>simp [Op.eqFields]
 |cons hn hu hx hy he _ ih=>
  rename_i f fs d v1 v2 b1 b2 _
  have hn' : f.name ≠ "_" := by simpa using hn
  have hag:=yFa (P:=P) hu.h w
  rw [ySz he] at hag
  have p1:(Go.part f.type xs.toArray f.offset).run P w=.ok v1 w:=by simp [Go.part,hag,hx,Result.andThen]
  have p2:(Go.part f.type ys.toArray f.offset).run P w=.ok v2 w:=by simp [Go.part,hag,hy,Result.andThen]
  have p3:=yQk hu.h he m w
  unfold Op.eqFields
  rw [if_pos hn']
  simp only [Sem.run_bind,p1,p2,p3,Result.andThen_ok]
  cases b1
  ·simp
  ·simp [ih]
theorem yLm (hu:P.underlying t=some (.struct fs)) (hst:P.stoodInHeld t=false) (h:EqF P xs ys fs.toList b) (m:Nat) (w:World):(Op.equalIn (m+2) t (.agg xs.toArray) (.agg ys.toArray)).run P w=.ok b w:=by
 have hf:P.fieldsOf t=fs:=by simp [Program.fieldsOf,hu]
 rw [run_equalIn_struct w (m+1) t _ _ (by rw [hf];exact hu) hst,hf]
 exact h.run m w
theorem yU4 (hx:Env.ev E x=some (.agg xs.toArray)) (hy:Env.ev E y=some (.agg ys.toArray)) [hu:UIs P t (.struct fs)] [hs:StIs P t] (h:EqF P xs ys fs.toList b) (hc:(!b)=c):Ev P W n E H (.binOp .neq t x y u) (.bool c):=by
 subst hc
 refine yDZ hx hy (fun w=>run_eqGuard_agg w .neq t x y _ _ hs.h.2) (fun w=>?_)
 rw [run_neq_struct,yLm hu.h hs.h.1 h 9998 w];rfl
end
end
section
open Go Go.RowKit Go.MapKept
section
variable {P:Program} {W w:World} {n d:Nat} {E:Env} {H H' R:List SP} {k:KK} {t kt e:TypeId} {x y z:Operand} {dd:Option Tmp}
theorem yU5 (h:KJ W n (.oper P (.range t x) dd k) E H):KJ W n (.oper P (.range t x) dd k) E H:=h
theorem yXz {c:Bool} (h:KJ W n (.oper P (.next x c) dd k) E H):KJ W n (.oper P (.next x c) dd k) E H:=h
theorem yGX {t:Nat} {xs:Array Operand} {ts:Array TypeId} (h:KJ W n (.oper P (.call { callee:=.value (.tmp t),args:=xs,argTypes:=ts }) dd k) E H):KJ W n (.oper P (.call { callee:=.value (.tmp t),args:=xs,argTypes:=ts }) dd k) E H:=h
theorem yU6 {C:Value→Prop} (h:EK P W n E H (.entry x) C):EK P W n E H (.entry x) C:=h
variable {α β:Type} {kf:α→Value} {vf:β→Value} {b:Nat} {m:List (α × β)}
variable [DecidableEq α]
end
end
section
variable {α:Type} {enc:α→List Value} {k:Nat}
theorem yD9 (hk:∀ x,(enc x).length=k):∀ l:List α,(l.flatMap enc).length=l.length*k
 |[]=>zW
 |x::l=>by rw [zLr,zLa,hk,yD9 hk l,zLj,Nat.add_mul];omega
theorem yGY (hk:∀ x,(enc x).length=k):∀ (l:List α) (i c:Nat),c<k→(l.flatMap enc)[i*k+c]? = (l[i]?).bind (fun x=>(enc x)[c]?)
 |[],_,_,_=>zW
 |x::l,0,c,h=>by rw [zLr,zLp (by rw [hk];omega)];simp
 |x::l,i+1,c,h=>by
  rw [zLr,zLn (by rw [hk,Nat.add_mul];omega),hk,show (i+1)*k+c-k=i*k+c by rw [Nat.add_mul];omega]
  simpa using yGY hk l i c h
end
structure Hold (A:Prop):Prop where
 go:A
theorem yCO {A:Prop} (h:Hold A):A:=h.go
section
variable {P:Program} {W:World} {n d:Nat} {E:Env} {H H' R:List SP} {k:KK} {t u e:TypeId} {x y z:Operand} {b off:Nat}
theorem yNZ {e sz:Nat}:∀ g,yAA H g→yAA (yAP (.slice none 0 0) e sz 0 []::H) g:=
 fun g q=>⟨fun _=>none,g,(fun _ _ q=>by cases q),(fun _ _ q=>by cases q),.rfl,⟨by simp,.inl ⟨rfl,rfl⟩⟩,q⟩
theorem KJ.nilrow (e sz:Nat) (h:KJ W n k E (yAP (.slice none 0 0) e sz 0 []::H)):KJ W n k E H:=⟨fun a w q s=>h.go a w q (s.mono yNZ)⟩
theorem KJ.packs {α:Type} {tag key:Nat} {F:α→List SP} (a:α) (p:Pick (F a) H R) (h:KJ W n k E (yGU tag key F::R)):KJ W n k E H:=
 ⟨fun ac w q s=>h.go ac w q ((s.perm (p.perm.append_right _)).mono (yIt (fun g hg=>yDM a g hg) _))⟩
theorem yME {f:Fn} {xs ys:List Operand} {us vs:List Value} (hx:Evs E xs us) (hy:Evs E ys vs) (hc:(Instr.makeFunc f us.toArray vs.toArray)=pure (.func f us.toArray vs.toArray)):Ev P W n E H (.makeFunc f xs.toArray ys.toArray) (.func f us.toArray vs.toArray):=
 Ev.mk fun o ho a w p _=>by
  have h1:=p.evs hx
  have h2:=p.evs hy
  simp [execOp,ho,h1,h2,hc]
theorem yDQ {a c:List UInt8} {q:Bool} (hx:Env.ev E x=some (strV a)) (hy:Env.ev E y=some (strV c)) (h:Op.bytesLess a c=q):Ev P W n E H (.binOp .lss t x y u) (.bool q):=by
 subst h;exact yRD hx hy
theorem yBb {a c:List UInt8} {q:Bool} (hx:Env.ev E x=some (strV a)) (hy:Env.ev E y=some (strV c)) (h:(Op.bytesLess a c || decide (a=c))=q):Ev P W n E H (.binOp .leq t x y u) (.bool q):=by
 subst h;exact yRF hx hy
theorem yFk {a c:List UInt8} {q:Bool} (hx:Env.ev E x=some (strV a)) (hy:Env.ev E y=some (strV c)) (h:(!(Op.bytesLess a c || decide (a=c)))=q):Ev P W n E H (.binOp .gtr t x y u) (.bool q):=by
 subst h;exact yRE hx hy
theorem yGZ {a c r:Bool} (hx:Env.ev E x=some (.bool a)) (hy:Env.ev E y=some (.bool c)) [hu:UIs P t .bool] (h:(a != c)=r):Ev P W n E H (.binOp .neq t x y u) (.bool r):=by
 subst h;exact yNt hx hy rfl (fun _=>rfl)
theorem yAf {kd:IntKind} {i j:Int} {q:Bool} (hx:Env.ev E x=some (.int kd i)) (hy:Env.ev E y=some (.int kd j)) (h:decide (i=j)=q):Ev P W n E H (.binOp .eql t x y u) (.bool q):=by
 subst h;exact yKR hx hy
theorem yAl {kd:IntKind} {i j:Int} {q:Bool} (hx:Env.ev E x=some (.int kd i)) (hy:Env.ev E y=some (.int kd j)) (h:decide (i≠j)=q):Ev P W n E H (.binOp .neq t x y u) (.bool q):=by
 subst h;exact yKS hx hy
end
def yKh (b off i c s:Nat):Addr:=if c-i=0 then ⟨b,off,none⟩ else ⟨b,off+i*s,none⟩
section
variable {P:Program} {W:World} {n d:Nat} {E:Env} {H H' R:List SP} {k:KK} {t u e:TypeId} {x y z:Operand} {b off:Nat}
theorem yLn {i:Int} {ki:IntKind} {m c s:Nat} (hx:Env.ev E x=some (.slice (some ⟨b,off,none⟩) m c)) (hy:Env.ev E y=some (.int ki i)) [hu:UIs P t (.slice e)] [hi:SzIs P e s] (hb:0≤i∧i≤m∧m≤c):Ev P W n E H (.slice t x (some y) none none) (.slice (some (yKh b off i.toNat c s)) (m-i.toNat) (c-i.toNat)):=
 Ev.mk fun o ho a w p _=>by
  have hi:=hi.h
  cases hq:P.info? e with
  |none=>simp [hq] at hi
  |some q=>
   have hi:q.size=s:=by simpa [hq] using hi
   have h6:(m:Int)≤c:=zO
   by_cases h3:c-i.toNat=0
   ·have h3':c≤i.toNat:=by omega
    have h4:c=i.toNat:=zO
    simp [execOp,ho,p.ev hx,p.ev hy,Instr.sliceAt,Instr.slice,run_underlying hu.h,Instr.sliceBounds,Instr.sliceBound,asIntOf,hb,sizeOf,typeInfo,hq,Addr.add_mid,yKh,h4]
   ·have h4:¬ c≤i.toNat:=by omega
    have h5:¬ c=i.toNat:=zO
    simp [execOp,ho,p.ev hx,p.ev hy,Instr.sliceAt,Instr.slice,run_underlying hu.h,Instr.sliceBounds,Instr.sliceBound,asIntOf,hb,sizeOf,typeInfo,hq,hi,Addr.add_mid,yKh,h3,h5]
theorem yN0 {j:Int} {kj:IntKind} {m c s:Nat} (hx:Env.ev E x=some (.slice (some ⟨b,off,none⟩) m c)) (hz:Env.ev E z=some (.int kj j)) [hu:UIs P t (.slice e)] [hi:SzIs P e s] (hb:0≤j∧j≤c):Ev P W n E H (.slice t x none (some z) none) (.slice (some ⟨b,off,none⟩) j.toNat c):=
 Ev.mk fun o ho a w p _=>by
  have hi:=hi.h
  cases hq:P.info? e with
  |none=>simp [hq] at hi
  |some q=>
   have hi:q.size=s:=by simpa [hq] using hi
   by_cases h3:c=0
   ·subst h3
    have hj:j=0:=zO
    subst hj
    simp [execOp,ho,p.ev hx,p.ev hz,Instr.sliceAt,Instr.slice,run_underlying hu.h,Instr.sliceBounds,Instr.sliceBound,asIntOf,sizeOf,typeInfo,hq,Addr.add]
   ·have h1:0≤j:=by omega
    simp [execOp,ho,p.ev hx,p.ev hz,Instr.sliceAt,Instr.slice,run_underlying hu.h,Instr.sliceBounds,Instr.sliceBound,asIntOf,h1,hb,sizeOf,typeInfo,hq,Addr.add]
end
abbrev lsP {α:Type} (enc:α→List Value) (e sz:Nat) (v:Value) (l:List α):SP:=yAP v e sz l.length (l.flatMap enc)
structure EncOk {α:Type} (enc:α→List Value) (sz:Nat):Prop where
 len:∀ x,(enc x).length=sz
 ones:∀ x,Ones (enc x)
 pos:0<sz
section
variable {P:Program} {W:World} {n d:Nat} {E:Env} {H H' R R':List SP} {k:KK} {t u e:TypeId} {x y z:Operand} {b off c:Nat} {α:Type} {enc:α→List Value} {sz:Nat}
theorem EncOk.flat (K:EncOk enc sz) (l:List α):(l.flatMap enc).length=l.length*sz:=yD9 K.len l
theorem EncOk.all (K:EncOk enc sz):∀ l:List α,Ones (l.flatMap enc)
 |[]=>Ones.nil
 |a::l=>by
  rw [zLr]
  refine Ones.of fun v hv=>?_
  rcases List.mem_append.1 hv with h|h
  ·exact (K.ones a).all v h
  ·exact (K.all l).all v h
theorem EncOk.at_ (K:EncOk enc sz) {l:List α} {i:Nat} {a:α} (h:l[i]? = some a) {j:Nat} {v:Value} (hv:(enc a)[j]? = some v):(l.flatMap enc)[i*sz+j]? = some v:=by
 have hj:=(zLc.1 hv).1
 rw [K.len] at hj
 rw [yGY K.len l i j hj,h]
 exact hv
theorem EncOk.set_ (K:EncOk enc sz):∀ (l:List α) (i:Nat) (a:α),i<l.length→lay (l.flatMap enc) (i*sz) (enc a)=(l.set i a).flatMap enc
 |[],_,_,h=>by simp at h
 |c::l,0,a,_=>by
  have hc:=K.len c
  have ha:=K.len a
  simp only [zLr,List.set_cons_zero,lay,Nat.zero_mul,List.take_zero,List.nil_append,zLq,ha]
  rw [List.drop_left' hc]
 |c::l,i+1,a,h=>by
  have hc:=K.len c
  have ih:=K.set_ l i a (by simpa using h)
  simp only [zLr,List.set_cons_succ]
  rw [← ih]
  unfold lay
  rw [Nat.add_mul,Nat.one_mul,zLF,zLi zO,hc,zLG,zLl (by rw [hc];omega),hc]
  simp only [Nat.add_sub_cancel,List.nil_append,zLd]
  congr 4
  omega
theorem yBV {v:Value} {l:List α} {a:α} {bytes g:Nat} {T:TypeId} (K:EncOk enc sz) (hx:Env.ev E x=some v) (hy:Env.ev E y=some (.slice (some ⟨g,0,none⟩) 1 1)) [hu:UIs P t (.slice e)] [hs:SzIs P e sz] [hb:ByIs P e bytes] {zs:List Value} [hz:ZcIs P e zs] (hzs:zs.length=sz)
 (hsel:Sel (lsP enc e sz v l) H R) (hsrc:Sel (yAi g (enc a) T) H R') (hbd:(l.length+1)*bytes≤140737488355328) (hbl:l.length+1≤9223372036854775807) (hn:Nat.blt d n=true)
 (h:∀ g' c',KJ W n k ((d,.slice (some ⟨g',0,none⟩) (l++[a]).length c')::E) (lsP enc e sz (.slice (some ⟨g',0,none⟩) (l++[a]).length c') (l++[a])::R)):KJ W n (.oper P (.call { callee:=.builtin .append,args:=#[x,y],argTypes:=#[t,t] }) (some d) k) E H:=by
 have e1:(l++[a]).length=l.length+1:=zW
 have e2:(l++[a]).flatMap enc=l.flatMap enc++enc a:=zW
 have hcut:Cut (enc a) 0 sz (enc a):=by
  have:=Cut.of (cs:=enc a) (k:=0) (m:=sz) (by rw [K.len];omega)
  rwa [zLo,zLi (by rw [K.len];omega)] at this
 refine yCf (hs:=hs) (hb:=hb) (hz:=hz) (l:=1) (news:=enc a) (a2:=0) hx hy hzs K.pos hsel (Src.cells hsrc hcut) (by rw [K.len];omega) zO (K.ones a) hbd hbl hn rfl (fun g' c'=>?_)
 have:=h g' c'
 rw [show lsP enc e sz (.slice (some ⟨g',0,none⟩) (l++[a]).length c') (l++[a])=yAP (.slice (some ⟨g',0,none⟩) (l.length+1) c') e sz (l.length+1) (l.flatMap enc++enc a) by unfold lsP;rw [e1,e2],e1] at this
 exact this
theorem St.lsShape {w:World} {v:Value} {l:List α} (s:St W H w) (hsel:Sel (lsP enc e sz v l) H R):∃ a c,v=.slice a l.length c∧l.length≤c:=by
 rcases (s.row hsel).2 with ⟨hv,h0⟩|⟨g,cap,cur,hv,_,_,h1,_⟩
 ·exact ⟨none,0,by rw [hv,h0],zO⟩
 ·exact ⟨_,cap,hv,h1⟩
theorem KJ.lsOpen {v:Value} {l:List α} (hsel:Sel (lsP enc e sz v l) H R) (h:∀ a c,v=.slice a l.length c→l.length≤c→KJ W n k E H):KJ W n k E H:=
 ⟨fun ac w q s=>by obtain ⟨a,c,hv,hc⟩:=s.lsShape (hsel.app _);exact (h a c hv hc).go ac w q s⟩
theorem ySA {g m c i:Nat} {l:List α} {a:α} (K:EncOk enc sz) (hx:Env.ev E x=some (.pointer (some ⟨g,off,none⟩))) [hu:AgIs P t] [hi:SzIs P t sz] (hs:Sel (lsP enc e sz (.slice (some ⟨g,0,none⟩) m c) l) H R) (hm:m=l.length) (ho:off=i*sz) (ha:l[i]? = some a):Ev P W n E H (.load t x) (.agg (enc a).toArray):=by
 subst hm
 subst ho
 exact yDs (hi:=hi) hx hs (fun j v hj=>K.at_ ha hj) (K.len a)
theorem yC7 {g m c i j:Nat} {l:List α} {a:α} {v:Value} (K:EncOk enc sz) (hx:Env.ev E x=some (.pointer (some ⟨g,off,none⟩))) [hu:ScIs P t] (hs:Sel (lsP enc e sz (.slice (some ⟨g,0,none⟩) m c) l) H R) (hm:m=l.length) (ho:off=i*sz+j) (ha:l[i]? = some a) (hv:(enc a)[j]? = some v):Ev P W n E H (.load t x) v:=by
 subst hm
 subst ho
 exact yC3 hx hs (K.at_ ha hv)
theorem yKi {g m c i:Nat} {l:List α} {a:α} (K:EncOk enc sz) (hx:Env.ev E x=some (.pointer (some ⟨g,off,none⟩))) (hy:Env.ev E y=some (.agg (enc a).toArray)) [hi:SzIs P t sz] (hs:Sel (lsP enc e sz (.slice (some ⟨g,0,none⟩) m c) l) H R) (hm:m=l.length) (ho:off=i*sz) (hl:i<l.length)
 (h:KJ W n k E (lsP enc e sz (.slice (some ⟨g,0,none⟩) m c) (l.set i a)::R)):KJ W n (.oper P (.store t x y) none k) E H:=by
 subst hm
 subst ho
 have hfit:i*sz+sz≤(l.flatMap enc).length:=by
  rw [K.flat]
  have:=zLt sz (show i+1≤l.length from hl)
  rwa [Nat.add_mul,Nat.one_mul] at this
 refine yGo (hi:=hi) (vs:=enc a) hx hy hs CellsOf.agg (K.len a) (K.ones a) hfit ?_
 rw [K.set_ l i a hl]
 unfold lsP at h
 rw [List.length_set] at h
 exact h
theorem yMF {v:Value} {l l2:List α} {bytes c2 m:Nat} {xa:Option Addr} (K:EncOk enc sz) (hx:Env.ev E x=some v) (hy:Env.ev E y=some (.slice xa m c2)) (hm:m=l2.length) [hu:UIs P t (.slice e)] [hs:SzIs P e sz] [hb:ByIs P e bytes] {zs:List Value} [hz:ZcIs P e zs] (hzs:zs.length=sz)
 (hsel:Sel (lsP enc e sz v l) H R) (hsrc:Src W H xa (l2.flatMap enc)) (hbd:(l.length+l2.length)*bytes≤140737488355328) (hbl:l.length+l2.length≤9223372036854775807) (hn:Nat.blt d n=true)
 (h:∀ a' c',KJ W n k ((d,.slice a' (l++l2).length c')::E) (lsP enc e sz (.slice a' (l++l2).length c') (l++l2)::R)):KJ W n (.oper P (.call { callee:=.builtin .append,args:=#[x,y],argTypes:=#[t,t] }) (some d) k) E H:=by
 subst hm
 cases l2 with
 |nil=>
  refine KJ.lsOpen hsel (fun a c hv hc=>?_)
  subst hv
  have e1:(l++([]:List α)).length=l.length:=zW
  have e2:l++([]:List α)=l:=zW
  have h3:=h a c
  rw [e1] at h3
  rw [show lsP enc e sz (.slice a l.length c) (l++[])=lsP enc e sz (.slice a l.length c) l by rw [e2]] at h3
  refine ⟨fun ac w p s o ho hd=>?_⟩
  have hs:=hs.h
  cases hq:P.info? e with
  |none=>simp [hq] at hs
  |some it=>
   have hsr:Go.Src P it.size t (.slice xa 0 c2) 0 [] w:=by
    cases xa with
    |none=>exact Go.Src.ofNil w hu.h c2
    |some a=>exact Go.Src.ofSlice w hu.h a 0 c2 [] zW (fun j u hj=>by simp at hj) (fun u hj=>by cases hj)
   have hrun:=run_append_nothing (P:=P) w t t o.type e it hu.h hq a l.length c hc _ hsr
   show uponP P o ac _ ((execOp ac.eval o).run P w)
   have hr2:(execOp ac.eval o).run P w=.ok (.value (.slice a l.length c)) w:=by
    simp only [execOp,ho,resolve,invoke,builtin,Sem.run_bind,Sem.run_pure,Result.andThen_ok,List.map_toArray,List.map_cons,List.map_nil,p.ev hx,p.ev hy,List.length_nil,hrun]
   rw [hr2]
   have:=h3.go _ w (p.put (d:=some d) hn _) (by show St W _ w;rw [yBE];exact s.perm (hsel.app _).perm)
   rw [← hd] at this
   exact this
 |cons b r=>
  have e1:(l++b::r).length=l.length+(b::r).length:=zW
  have e2:(l++b::r).flatMap enc=l.flatMap enc++(b::r).flatMap enc:=zW
  refine yCf (hs:=hs) (hb:=hb) (hz:=hz) (l:=(b::r).length) (news:=(b::r).flatMap enc) (a2:=0) hx hy hzs K.pos hsel hsrc (K.flat _) zW (K.all _) hbd hbl hn rfl (fun g' c'=>?_)
  have:=h (some ⟨g',0,none⟩) c'
  rw [show lsP enc e sz (.slice (some ⟨g',0,none⟩) (l++b::r).length c') (l++b::r)=yAP (.slice (some ⟨g',0,none⟩) (l.length+(b::r).length) c') e sz (l.length+(b::r).length) (l.flatMap enc++(b::r).flatMap enc) by unfold lsP;rw [e2,e1],e1] at this
  exact this
theorem yU7 {f:FuncId} {args:List Value} {Hpre:List SP} {X:Type} {r:X→Value} {β:Type} {tag:Nat} {key:X→Nat} {F:X→β→List SP} {Hs:X→List SP} (a:X→β)
 (h:Ct P W f args Hpre r (fun x=>F x (a x)++Hs x)):Ct P W f args Hpre r (fun x=>yGU tag (key x) (F x)::Hs x):=
 ⟨fun R w s=>(h.go R w s).mono fun _ _ ⟨x,he,s⟩=>⟨x,he,by
  rw [zLd] at s
  exact s.mono (yDM (a x))⟩⟩
theorem KJ.lsSome {a:Option Addr} {m c:Nat} {l:List α} (hsel:Sel (lsP enc e sz (.slice a m c) l) H R) (hm:0<l.length) (h:∀ g,a=some ⟨g,0,none⟩→KJ W n k E H):KJ W n k E H:=
 ⟨fun ac w q s=>by
  rcases (s.row (hsel.app _)).2 with ⟨_,h0⟩|⟨g,cap,cur,hv,_⟩
  ·omega
  ·cases hv
   exact (h g rfl).go ac w q s⟩
theorem EncOk.take_at (_:EncOk enc sz) {l:List α} {i j:Nat} {v:Value} (h:((l.take i).flatMap enc)[j]? = some v):(l.flatMap enc)[j]? = some v:=by
 have e:l.flatMap enc=(l.take i).flatMap enc++(l.drop i).flatMap enc:=by rw [← List.flatMap_append,zLu]
 rw [e,zLp (zLc.1 h).1]
 exact h
theorem EncOk.drop_at (K:EncOk enc sz) {l:List α} {i j:Nat} {v:Value} (hi:i≤l.length) (h:((l.drop i).flatMap enc)[j]? = some v):(l.flatMap enc)[i*sz+j]? = some v:=by
 have e:l.flatMap enc=(l.take i).flatMap enc++(l.drop i).flatMap enc:=by rw [← List.flatMap_append,zLu]
 have hl:((l.take i).flatMap enc).length=i*sz:=by rw [K.flat,zLg,Nat.min_eq_left hi]
 rw [e,zLn (by rw [hl];omega),hl,Nat.add_sub_cancel_left]
 exact h
def xAr (w:World) (enc:α→List Value) (sz:Nat) (v:Value) (l:List α):Prop:=
 ∃ a c,v=.slice a l.length c∧(l≠[]→∃ b o,a=some ⟨b,o,none⟩∧b<w.heap.size∧∀ i x,l[i]? = some x→w.rangeAt b (o+sz*i) (enc x))
end
abbrev L16:List Nat:=[1,2,3,4,5,6,7,12,13,14,15,16,17,18,19,21]
section
variable {W:World} {F:Nat→Addr}
theorem ErrsOn.lo {S T:List Nat} (h:ErrsOn S W F) (hs:∀ k,k ∈ T→k ∈ S):ErrsOn T W F:=
 ⟨fun k hk=>h.at_ k (hs k hk),fun k hk=>h.obj k (hs k hk),fun j k hj hk=>h.inj j k (hs j hj) (hs k hk),fun k hk=>h.pos k (hs k hk)⟩
theorem ErrsOn.to8 (h:ErrsOn L16 W F):ErrsOn L8 W F:=h.lo zX
theorem ErrsAt.to16 (h:ErrsAt W F):ErrsOn L16 W F:=by
 have hS:∀ k ∈ L16,1≤k∧k≤37:=zX
 exact ⟨fun k hk=>h.at_ k (hS k hk).1 (hS k hk).2,fun k hk=>h.obj k (hS k hk).1 (hS k hk).2,fun j k hj hk=>h.inj j k (hS j hj).1 (hS j hj).2 (hS k hk).1 (hS k hk).2,fun k hk=>(hS k hk).1⟩
end
end Go.Proofs.YtlnbkbfblhofbaaGreatDoor
