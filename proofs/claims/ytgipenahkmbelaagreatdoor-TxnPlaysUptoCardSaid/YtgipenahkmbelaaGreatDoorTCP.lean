/-
  Seq, Mp3, Srt, Gnl.
-/
import Derived.Test.YtgipenahkmbelaaGreatDoorTCL
import Derived.Laws.StructEq
import Derived.DeepKeys4
import Derived.Test.YtgipenahkmbelaaGreatDoorTBX
import Derived.Deep.Upon
set_option maxHeartbeats 64000000
namespace Go.Proofs.YtgipenahkmbelaaGreatDoor
open Go Go.RowKit Go.MapKept
def cellEq:TypeDesc→Value→Value→Option Bool
 |.int k,.int k1 a,.int k2 b=>if k1=k∧k2=k then some (decide (a=b)) else none
 |.string,.string a,.string b=>some (decide (a.data.toList=b.data.toList))
 |.bool,.bool a,.bool b=>some (decide (a=b))
 |_,_,_=>none
class StIs (P:Program) (t:TypeId):Prop where h:P.stoodInHeld t=false∧P.eqGuardType P.depth t=false
inductive EqF (P:Program) (xs ys:List Value):List Field→Bool→Prop
 |nil:EqF P xs ys [] true
 | cons {f : Field} {fs : List Field} {d : TypeDesc} {x y : Value} {b b' : Bool} : (f.name == "_") = false → UIs P f.type d → xs[f.offset]? = some x → ys[f.offset]? = some y → cellEq d x y = some b → EqF P xs ys fs b' → EqF P xs ys (f :: fs) (b && b')
section
variable {P:Program} {W:World} {n:Nat} {E:Env} {H:List SP} {t u:TypeId} {x y:Operand} {xs ys:List Value} {fs:Array Field} {b c:Bool}
theorem cellEq_run {d:TypeDesc} {t:TypeId} {v w':Value} {b:Bool} (hu:P.underlying t=some d) (h:cellEq d v w'=some b) (m:Nat) (w:World):(Op.equalIn (m+1) t v w').run P w=.ok b w:=by
 unfold cellEq at h
 split at h
 ·split at h
  ·rename_i k k1 a k2 b' hk
   obtain ⟨rfl,rfl⟩:=hk
   cases h
   rw [run_equalIn_int (w:=w) m t _ _ _ _ hu]
   by_cases e:a=b' <;> simp [e]
  ·cases h
 ·cases h
  rw [run_equalIn_string w m t _ _ hu]
  rename_i a b'
  rw [ByteArray.toList_eq,ByteArray.toList_eq]
  have e:(a.data.toList == b'.data.toList)=decide (a.data.toList=b'.data.toList):=Bool.eq_iff_iff.2 (by simp)
  rw [e]
 ·cases h
  rename_i a b'
  rw [run_equalIn_bool' w m t _ _ hu]
  by_cases e:a=b' <;> simp [e]
 ·cases h
theorem cellEq_sc {d:TypeDesc} {v w':Value} {b:Bool} (h:cellEq d v w'=some b):isAggD d=false:=by
 unfold cellEq at h
 split at h <;> first|rfl|cases h
theorem EqF.run {fs:List Field} (h:EqF P xs ys fs b) (m:Nat) (w:World):(Op.eqFields (m+1) xs.toArray ys.toArray fs).run P w=.ok b w:=by
 induction h with
 |nil=>simp [Op.eqFields]
 |cons hn hu hx hy he _ ih=>
  rename_i f fs d v1 v2 b1 b2 _
  have hn' : f.name ≠ "_" := by simpa using hn
  have hag:=run_isAgg_of (P:=P) hu.h w
  rw [cellEq_sc he] at hag
  have p1:(Go.part f.type xs.toArray f.offset).run P w=.ok v1 w:=by simp [Go.part,hag,hx,Result.andThen]
  have p2:(Go.part f.type ys.toArray f.offset).run P w=.ok v2 w:=by simp [Go.part,hag,hy,Result.andThen]
  have p3:=cellEq_run hu.h he m w
  unfold Op.eqFields
  rw [if_pos hn']
  simp only [Sem.run_bind,p1,p2,p3,Result.andThen_ok]
  cases b1
  ·simp
  ·simp [ih]
theorem run_eqlStruct (hu:P.underlying t=some (.struct fs)) (hst:P.stoodInHeld t=false) (h:EqF P xs ys fs.toList b) (m:Nat) (w:World):(Op.equalIn (m+2) t (.agg xs.toArray) (.agg ys.toArray)).run P w=.ok b w:=by
 have hf:P.fieldsOf t=fs:=by simp [Program.fieldsOf,hu]
 rw [run_equalIn_struct w (m+1) t _ _ (by rw [hf];exact hu) hst,hf]
 exact h.run m w
theorem Ev_neqSt (hx:Env.ev E x=some (.agg xs.toArray)) (hy:Env.ev E y=some (.agg ys.toArray)) [hu:UIs P t (.struct fs)] [hs:StIs P t] (h:EqF P xs ys fs.toList b) (hc:(!b)=c):Ev P W n E H (.binOp .neq t x y u) (.bool c):=by
 subst hc
 refine Ev_bin hx hy (fun w=>run_eqGuard_agg w .neq t x y _ _ hs.h.2) (fun w=>?_)
 rw [run_neq_struct,run_eqlStruct hu.h hs.h.1 h 9998 w];rfl
end
end Go.Proofs.YtgipenahkmbelaaGreatDoor
namespace Go.Proofs.YtgipenahkmbelaaGreatDoor
open Go Go.RowKit Go.MapKept
section
variable {P:Program} {W w:World} {n d:Nat} {E:Env} {H H' R:List SP} {k:KK} {t kt e:TypeId} {x y z:Operand} {dd:Option Tmp}
theorem is_range (h:KJ W n (.oper P (.range t x) dd k) E H):KJ W n (.oper P (.range t x) dd k) E H:=h
theorem is_next {c:Bool} (h:KJ W n (.oper P (.next x c) dd k) E H):KJ W n (.oper P (.next x c) dd k) E H:=h
theorem is_callV {t:Nat} {xs:Array Operand} {ts:Array TypeId} (h:KJ W n (.oper P (.call { callee:=.value (.tmp t),args:=xs,argTypes:=ts }) dd k) E H):KJ W n (.oper P (.call { callee:=.value (.tmp t),args:=xs,argTypes:=ts }) dd k) E H:=h
theorem ek_entry {C:Value→Prop} (h:EK P W n E H (.entry x) C):EK P W n E H (.entry x) C:=h
variable {α β:Type} {kf:α→Value} {vf:β→Value} {b:Nat} {m:List (α × β)}
variable [DecidableEq α]
end
end Go.Proofs.YtgipenahkmbelaaGreatDoor
namespace Go.Proofs.YtgipenahkmbelaaGreatDoor
open Go Go.RowKit
section
variable {α:Type} {enc:α→List Value} {k:Nat}
theorem flatE_length (hk:∀ x,(enc x).length=k):∀ l:List α,(l.flatMap enc).length=l.length*k
 |[]=>by simp
 |x::l=>by rw [List.flatMap_cons,List.length_append,hk,flatE_length hk l,List.length_cons,Nat.add_mul];omega
theorem flatE_get (hk:∀ x,(enc x).length=k):∀ (l:List α) (i c:Nat),c<k→(l.flatMap enc)[i*k+c]? = (l[i]?).bind (fun x=>(enc x)[c]?)
 |[],_,_,_=>by simp
 |x::l,0,c,h=>by rw [List.flatMap_cons,List.getElem?_append_left (by rw [hk];omega)];simp
 |x::l,i+1,c,h=>by
  rw [List.flatMap_cons,List.getElem?_append_right (by rw [hk,Nat.add_mul];omega),hk,show (i+1)*k+c-k=i*k+c by rw [Nat.add_mul];omega]
  simpa using flatE_get hk l i c h
end
end Go.Proofs.YtgipenahkmbelaaGreatDoor
namespace Go.Proofs.YtgipenahkmbelaaGreatDoor
open Go Go.RowKit
structure Hold (A:Prop):Prop where
 go:A
theorem hold {A:Prop} (h:Hold A):A:=h.go
section
variable {P:Program} {W:World} {n d:Nat} {E:Env} {H H' R:List SP} {k:KK} {t u e:TypeId} {x y z:Operand} {b off:Nat}
theorem nilrow_star {e sz:Nat}:∀ g,zAj H g→zAj (rowP (.slice none 0 0) e sz 0 []::H) g:=
 fun g q=>⟨fun _=>none,g,(fun _ _ q=>by cases q),(fun _ _ q=>by cases q),.rfl,⟨by simp,.inl ⟨rfl,rfl⟩⟩,q⟩
theorem KJ.nilrow (e sz:Nat) (h:KJ W n k E (rowP (.slice none 0 0) e sz 0 []::H)):KJ W n k E H:=⟨fun a w q s=>h.go a w q (s.mono nilrow_star)⟩
theorem KJ.packs {α:Type} {tag key:Nat} {F:α→List SP} (a:α) (p:Pick (F a) H R) (h:KJ W n k E (packP tag key F::R)):KJ W n k E H:=
 ⟨fun ac w q s=>h.go ac w q ((s.perm (p.perm.append_right _)).mono (star_app (fun g hg=>pack_star a g hg) _))⟩
theorem Ev_mkFunc {f:Fn} {xs ys:List Operand} {us vs:List Value} (hx:Evs E xs us) (hy:Evs E ys vs) (hc:(Instr.makeFunc f us.toArray vs.toArray)=pure (.func f us.toArray vs.toArray)):Ev P W n E H (.makeFunc f xs.toArray ys.toArray) (.func f us.toArray vs.toArray):=
 Ev.mk fun o ho a w p _=>by
  have h1:=p.evs hx
  have h2:=p.evs hy
  simp [execOp,ho,h1,h2,hc]
theorem Ev_lssS_q {a c:List UInt8} {q:Bool} (hx:Env.ev E x=some (strV a)) (hy:Env.ev E y=some (strV c)) (h:Op.bytesLess a c=q):Ev P W n E H (.binOp .lss t x y u) (.bool q):=by
 subst h;exact Ev_lssS hx hy
theorem Ev_leqS_q {a c:List UInt8} {q:Bool} (hx:Env.ev E x=some (strV a)) (hy:Env.ev E y=some (strV c)) (h:(Op.bytesLess a c || decide (a=c))=q):Ev P W n E H (.binOp .leq t x y u) (.bool q):=by
 subst h;exact Ev_leqS hx hy
theorem Ev_gtrS_q {a c:List UInt8} {q:Bool} (hx:Env.ev E x=some (strV a)) (hy:Env.ev E y=some (strV c)) (h:(!(Op.bytesLess a c || decide (a=c)))=q):Ev P W n E H (.binOp .gtr t x y u) (.bool q):=by
 subst h;exact Ev_gtrS hx hy
theorem Ev_geqS_q {a c:List UInt8} {q:Bool} (hx:Env.ev E x=some (strV a)) (hy:Env.ev E y=some (strV c)) (h:(!Op.bytesLess a c)=q):Ev P W n E H (.binOp .geq t x y u) (.bool q):=by
 subst h;exact Ev_geqS hx hy
theorem Ev_eqlBw {a c r:Bool} (hx:Env.ev E x=some (.bool a)) (hy:Env.ev E y=some (.bool c)) [hu:UIs P t .bool] (h:(a == c)=r):Ev P W n E H (.binOp .eql t x y u) (.bool r):=by
 subst h;exact Ev_eqlO hx hy rfl (fun _=>rfl)
theorem zAr {kd:IntKind} {i j:Int} {q:Bool} (hx:Env.ev E x=some (.int kd i)) (hy:Env.ev E y=some (.int kd j)) (h:decide (i=j)=q):Ev P W n E H (.binOp .eql t x y u) (.bool q):=by
 subst h;exact Ev_eqlI hx hy
theorem Ev_neqI_q {kd:IntKind} {i j:Int} {q:Bool} (hx:Env.ev E x=some (.int kd i)) (hy:Env.ev E y=some (.int kd j)) (h:decide (i≠j)=q):Ev P W n E H (.binOp .neq t x y u) (.bool q):=by
 subst h;exact Ev_neqI hx hy
end
abbrev lsP {α:Type} (enc:α→List Value) (e sz:Nat) (v:Value) (l:List α):SP:=rowP v e sz l.length (l.flatMap enc)
structure EncOk {α:Type} (enc:α→List Value) (sz:Nat):Prop where
 len:∀ x,(enc x).length=sz
 ones:∀ x,Ones (enc x)
 pos:0<sz
section
variable {P:Program} {W:World} {n d:Nat} {E:Env} {H H' R R':List SP} {k:KK} {t u e:TypeId} {x y z:Operand} {b off c:Nat} {α:Type} {enc:α→List Value} {sz:Nat}
theorem EncOk.flat (K:EncOk enc sz) (l:List α):(l.flatMap enc).length=l.length*sz:=flatE_length K.len l
theorem EncOk.all (K:EncOk enc sz):∀ l:List α,Ones (l.flatMap enc)
 |[]=>Ones.nil
 |a::l=>by
  rw [List.flatMap_cons]
  refine Ones.of fun v hv=>?_
  rcases List.mem_append.1 hv with h|h
  ·exact (K.ones a).all v h
  ·exact (K.all l).all v h
theorem EncOk.at_ (K:EncOk enc sz) {l:List α} {i:Nat} {a:α} (h:l[i]? = some a) {j:Nat} {v:Value} (hv:(enc a)[j]? = some v):(l.flatMap enc)[i*sz+j]? = some v:=by
 have hj:=(List.getElem?_eq_some_iff.1 hv).1
 rw [K.len] at hj
 rw [flatE_get K.len l i j hj,h]
 exact hv
theorem zCe {v:Value} {l:List α} {a:α} {bytes g:Nat} {T:TypeId} (K:EncOk enc sz) (hx:Env.ev E x=some v) (hy:Env.ev E y=some (.slice (some ⟨g,0,none⟩) 1 1)) [hu:UIs P t (.slice e)] [hs:SzIs P e sz] [hb:ByIs P e bytes] {zs:List Value} [hz:ZcIs P e zs] (hzs:zs.length=sz)
 (hsel:Sel (lsP enc e sz v l) H R) (hsrc:Sel (zAh g (enc a) T) H R') (hbd:(l.length+1)*bytes≤140737488355328) (hbl:l.length+1≤9223372036854775807) (hn:Nat.blt d n=true)
 (h:∀ g' c',KJ W n k ((d,.slice (some ⟨g',0,none⟩) (l++[a]).length c')::E) (lsP enc e sz (.slice (some ⟨g',0,none⟩) (l++[a]).length c') (l++[a])::R)):KJ W n (.oper P (.call { callee:=.builtin .append,args:=#[x,y],argTypes:=#[t,t] }) (some d) k) E H:=by
 have e1:(l++[a]).length=l.length+1:=by simp
 have e2:(l++[a]).flatMap enc=l.flatMap enc++enc a:=by simp
 have hcut:Cut (enc a) 0 sz (enc a):=by
  have:=Cut.of (cs:=enc a) (k:=0) (m:=sz) (by rw [K.len];omega)
  rwa [List.drop_zero,List.take_of_length_le (by rw [K.len];omega)] at this
 refine KJ_append (hs:=hs) (hb:=hb) (hz:=hz) (l:=1) (news:=enc a) (a2:=0) hx hy hzs K.pos hsel (Src.cells hsrc hcut) (by rw [K.len];omega) (by omega) (K.ones a) hbd hbl hn rfl (fun g' c'=>?_)
 have:=h g' c'
 rw [show lsP enc e sz (.slice (some ⟨g',0,none⟩) (l++[a]).length c') (l++[a])=rowP (.slice (some ⟨g',0,none⟩) (l.length+1) c') e sz (l.length+1) (l.flatMap enc++enc a) by unfold lsP;rw [e1,e2],e1] at this
 exact this
theorem St.lsShape {w:World} {v:Value} {l:List α} (s:St W H w) (hsel:Sel (lsP enc e sz v l) H R):∃ a c,v=.slice a l.length c∧l.length≤c:=by
 rcases (s.row hsel).2 with ⟨hv,h0⟩|⟨g,cap,cur,hv,_,_,h1,_⟩
 ·exact ⟨none,0,by rw [hv,h0],by omega⟩
 ·exact ⟨_,cap,hv,h1⟩
theorem KJ.lsOpen {v:Value} {l:List α} (hsel:Sel (lsP enc e sz v l) H R) (h:∀ a c,v=.slice a l.length c→l.length≤c→KJ W n k E H):KJ W n k E H:=
 ⟨fun ac w q s=>by obtain ⟨a,c,hv,hc⟩:=s.lsShape (hsel.app _);exact (h a c hv hc).go ac w q s⟩
theorem Ev_loadLsF {g m c i j:Nat} {l:List α} {a:α} {v:Value} (K:EncOk enc sz) (hx:Env.ev E x=some (.pointer (some ⟨g,off,none⟩))) [hu:ScIs P t] (hs:Sel (lsP enc e sz (.slice (some ⟨g,0,none⟩) m c) l) H R) (hm:m=l.length) (ho:off=i*sz+j) (ha:l[i]? = some a) (hv:(enc a)[j]? = some v):Ev P W n E H (.load t x) v:=by
 subst hm
 subst ho
 exact Ev_loadRow hx hs (K.at_ ha hv)
theorem KJ_appAll {v:Value} {l l2:List α} {bytes c2 m:Nat} {xa:Option Addr} (K:EncOk enc sz) (hx:Env.ev E x=some v) (hy:Env.ev E y=some (.slice xa m c2)) (hm:m=l2.length) [hu:UIs P t (.slice e)] [hs:SzIs P e sz] [hb:ByIs P e bytes] {zs:List Value} [hz:ZcIs P e zs] (hzs:zs.length=sz)
 (hsel:Sel (lsP enc e sz v l) H R) (hsrc:Src W H xa (l2.flatMap enc)) (hbd:(l.length+l2.length)*bytes≤140737488355328) (hbl:l.length+l2.length≤9223372036854775807) (hn:Nat.blt d n=true)
 (h:∀ a' c',KJ W n k ((d,.slice a' (l++l2).length c')::E) (lsP enc e sz (.slice a' (l++l2).length c') (l++l2)::R)):KJ W n (.oper P (.call { callee:=.builtin .append,args:=#[x,y],argTypes:=#[t,t] }) (some d) k) E H:=by
 subst hm
 cases l2 with
 |nil=>
  refine KJ.lsOpen hsel (fun a c hv hc=>?_)
  subst hv
  have e1:(l++([]:List α)).length=l.length:=by simp
  have e2:l++([]:List α)=l:=by simp
  have h3:=h a c
  rw [e1] at h3
  rw [show lsP enc e sz (.slice a l.length c) (l++[])=lsP enc e sz (.slice a l.length c) l by rw [e2]] at h3
  refine ⟨fun ac w p s o ho hd=>?_⟩
  have hs:=hs.h
  cases hq:P.info? e with
  |none=>simp [hq] at hs
  |some it=>
   have hsr:Go.Src P it.size t (.slice xa 0 c2) 0 [] w:=by
    cases xa with
    |none=>exact Go.Src.ofNil w hu.h c2
    |some a=>exact Go.Src.ofSlice w hu.h a 0 c2 [] (by simp) (fun j u hj=>by simp at hj) (fun u hj=>by cases hj)
   have hrun:=run_append_nothing (P:=P) w t t o.type e it hu.h hq a l.length c hc _ hsr
   show uponP P o ac _ ((execOp ac.eval o).run P w)
   have hr2:(execOp ac.eval o).run P w=.ok (.value (.slice a l.length c)) w:=by
    simp only [execOp,ho,resolve,invoke,builtin,Sem.run_bind,Sem.run_pure,Result.andThen_ok,List.map_toArray,List.map_cons,List.map_nil,p.ev hx,p.ev hy,List.length_nil,hrun]
   rw [hr2]
   have:=h3.go _ w (p.put (d:=some d) hn _) (by show St W _ w;rw [put_defers];exact s.perm (hsel.app _).perm)
   rw [← hd] at this
   exact this
 |cons b r=>
  have e1:(l++b::r).length=l.length+(b::r).length:=by simp
  have e2:(l++b::r).flatMap enc=l.flatMap enc++(b::r).flatMap enc:=by simp
  refine KJ_append (hs:=hs) (hb:=hb) (hz:=hz) (l:=(b::r).length) (news:=(b::r).flatMap enc) (a2:=0) hx hy hzs K.pos hsel hsrc (K.flat _) (by simp) (K.all _) hbd hbl hn rfl (fun g' c'=>?_)
  have:=h (some ⟨g',0,none⟩) c'
  rw [show lsP enc e sz (.slice (some ⟨g',0,none⟩) (l++b::r).length c') (l++b::r)=rowP (.slice (some ⟨g',0,none⟩) (l.length+(b::r).length) c') e sz (l.length+(b::r).length) (l.flatMap enc++(b::r).flatMap enc) by unfold lsP;rw [e2,e1],e1] at this
  exact this
theorem Ct_packs {f:FuncId} {args:List Value} {Hpre:List SP} {X:Type} {r:X→Value} {β:Type} {tag:Nat} {key:X→Nat} {F:X→β→List SP} {Hs:X→List SP} (a:X→β)
 (h:Ct P W f args Hpre r (fun x=>F x (a x)++Hs x)):Ct P W f args Hpre r (fun x=>packP tag (key x) (F x)::Hs x):=
 ⟨fun R w s=>(h.go R w s).mono fun _ _ ⟨x,he,s⟩=>⟨x,he,by
  rw [List.append_assoc] at s
  exact s.mono (pack_star (a x))⟩⟩
theorem KJ.lsSome {a:Option Addr} {m c:Nat} {l:List α} (hsel:Sel (lsP enc e sz (.slice a m c) l) H R) (hm:0<l.length) (h:∀ g,a=some ⟨g,0,none⟩→KJ W n k E H):KJ W n k E H:=
 ⟨fun ac w q s=>by
  rcases (s.row (hsel.app _)).2 with ⟨_,h0⟩|⟨g,cap,cur,hv,_⟩
  ·omega
  ·cases hv
   exact (h g rfl).go ac w q s⟩
theorem EncOk.take_at (_:EncOk enc sz) {l:List α} {i j:Nat} {v:Value} (h:((l.take i).flatMap enc)[j]? = some v):(l.flatMap enc)[j]? = some v:=by
 have e:l.flatMap enc=(l.take i).flatMap enc++(l.drop i).flatMap enc:=by rw [← List.flatMap_append,List.take_append_drop]
 rw [e,List.getElem?_append_left (List.getElem?_eq_some_iff.1 h).1]
 exact h
theorem EncOk.drop_at (K:EncOk enc sz) {l:List α} {i j:Nat} {v:Value} (hi:i≤l.length) (h:((l.drop i).flatMap enc)[j]? = some v):(l.flatMap enc)[i*sz+j]? = some v:=by
 have e:l.flatMap enc=(l.take i).flatMap enc++(l.drop i).flatMap enc:=by rw [← List.flatMap_append,List.take_append_drop]
 have hl:((l.take i).flatMap enc).length=i*sz:=by rw [K.flat,List.length_take,Nat.min_eq_left hi]
 rw [e,List.getElem?_append_right (by rw [hl];omega),hl,Nat.add_sub_cancel_left]
 exact h
def LsAt (w:World) (enc:α→List Value) (sz:Nat) (v:Value) (l:List α):Prop:=
 ∃ a c,v=.slice a l.length c∧(l≠[]→∃ b o,a=some ⟨b,o,none⟩∧b<w.heap.size∧∀ i x,l[i]? = some x→w.rangeAt b (o+sz*i) (enc x))
end
end Go.Proofs.YtgipenahkmbelaaGreatDoor
