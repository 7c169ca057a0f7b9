/-
  Ends, OpenG.
-/
import Derived.Test.YtgipenahkmbelaaGreatDoorTie
import Derived.Test.YtgipenahkmbelaaGreatDoorCards
import Derived.Test.YtgipenahkmbelaaGreatDoorTBB
import Derived.WalkKit
import Derived.ProofKit
import Derived.OpenShut
import Derived.Lay
import Derived.LaidLaws
import Derived.MakeChecks
import Derived.Carry
import Derived.Below
import Derived.Deep.DeepHandedRow
import Derived.Deep.Slices
import Derived.Deep.Fields
import Derived.Deep.Grids
import Derived.Lib.SmallJoins
import Derived.SizedLaws
set_option maxHeartbeats 64000000
namespace Go.Proofs.YtgipenahkmbelaaGreatDoor
open Go Go.RowKit Go.ChangeShapes Go.WideShapes Go.Deep
theorem own:ownKnob Tryz.prog.godebug=none:=by kernel_rfl
theorem laidOut:laidOutB Tryz.prog=true:=by kernel_rfl
theorem laidVars_at {P:Program} {w:World}:∀ {laid:List (String × DataW Unit)} {ps:List MemPlace},DataW.LaidVars P w laid ps→ps.Nodup→
 ∃ pl:Nat→List MemPlace,(∀ i n d,laid[i]? = some (n,d)→∃ g t cs fuel,P.globalNamed n=some g∧(P.globals[g]?).map (·.type)=some t∧w.var? P n=some cs∧
  DataW.trod (fun _=>()) P w 0 (fun _=>true) false fuel t cs.toList=some (d,pl i)∧(∀ x ∈ MemPlace.row ⟨g,0,none⟩ cs.size,x ∈ ps)∧∀ x ∈ pl i,x ∈ ps)∧
  ∀ i j,i<j→j<laid.length→∀ x ∈ pl i,x ∉ pl j
 |[],ps,_,_=>⟨fun _=>[],fun i n d h=>by simp at h,fun i j _ h=>by simp at h⟩
 |(n,d)::r,ps,h,hn=>by
  obtain ⟨g,t,cs,fuel,p,q,h1,h2,h3,h4,h5,rfl⟩:=h
  have hq:q.Nodup:=(List.nodup_append.1 hn).2.1
  obtain ⟨pl,hp1,hp2⟩:=laidVars_at h5 hq
  refine ⟨fun i=>match i with|0=>p|i+1=>pl i,fun i n' d' hi=>?_,fun i j hij hj x hx=>?_⟩
  ·cases i with
   |zero=>
    simp only [List.getElem?_cons_zero,Option.some.injEq,Prod.mk.injEq] at hi
    obtain ⟨rfl,rfl⟩:=hi
    exact ⟨g,t,cs,fuel,h1,h2,h3,h4,fun x hx=>by simp [hx],fun x hx=>by simp at hx ⊢;simp [hx]⟩
   |succ i=>
    obtain ⟨g',t',cs',f',a1,a2,a3,a4,a5,a6⟩:=hp1 i n' d' (by simpa using hi)
    exact ⟨g',t',cs',f',a1,a2,a3,a4,fun x hx=>List.mem_append_right _ (a5 x hx),fun x hx=>List.mem_append_right _ (a6 x hx)⟩
  ·cases j with
   |zero=>omega
   |succ j=>
    have hj':j<r.length:=by simpa using hj
    cases i with
    |zero=>
     intro hxj
     have hxq:x ∈ q:=by
      obtain ⟨y,hy⟩:∃ y,r[j]? = some y:=⟨_,List.getElem?_eq_getElem hj'⟩
      obtain ⟨n',d'⟩:=y
      obtain ⟨_,_,_,_,_,_,_,_,_,a6⟩:=hp1 j n' d' hy
      exact a6 x hxj
     exact (List.nodup_append.1 hn).2.2 x (List.mem_append_right _ hx) x hxq rfl
    |succ i=>exact hp2 i j (by omega) hj' x hx
def errIn (x : DataW Unit) : Bool := match x with | .iface "*errors.errorString" (.ptr (.agg [.lit (.string _)])) => true | _ => false
noncomputable def opens (laid:List (String × DataW Unit)):Bool:=(List.range 37).all fun i=>match laid[i]? with
 |some (n,d)=>(Tryz.prog.globalNamed n == some (errG (i+1))) && ((Tryz.prog.globals[errG (i+1)]?).map (·.type) == some 40) && errIn d
 |none=>false
theorem errIn_is {x : DataW Unit} (h : errIn x = true) : ∃ s, x = .iface "*errors.errorString" (.ptr (.agg [.lit (.string s)])) := by
 unfold errIn at h
 split at h
 ·exact ⟨_,rfl⟩
 ·cases h
theorem rowErr (u : TypeId) (h : Tryz.prog.typeName? 3 u = some "*errors.errorString") : u = 256 :=
 typeName_ptr_named (nm := "errors.errorString") (by rw [show "*" ++ "errors.errorString" = "*errors.errorString" from by decide]; kernel_rfl) (by kernel_rfl) (by decide) u (by rw [show "*" ++ "errors.errorString" = "*errors.errorString" from by decide]; exact h)
theorem cellsErr:Tryz.prog.cellsOf 272=1:=by kernel_rfl
theorem cellsStr:Tryz.prog.cellsOf 9=1:=by kernel_rfl
set_option maxRecDepth 100000 in
theorem errs_of_laid {laid:List (String × DataW Unit)} {W:World} (hp:(laid.all fun x=>x.2.handleName?.isNone)=true) (ho:opens laid=true) (h:laidMetH Tryz.prog laid W):∃ E,ErrsAt W E:=by
 rw [MakeChecks.laidMetH_plain _ _ _ hp] at h
 obtain ⟨ps,hL,hnd,hrows⟩:=h
 obtain ⟨pl,h1,h2⟩:=laidVars_at hL hnd
 have hlen:37≤laid.length:=by
  have:=List.all_eq_true.1 ho 36 (by simp)
  cases hx:laid[36]? with
  |none=>rw [hx] at this;cases this
  |some y=>have:=(List.getElem?_eq_some_iff.1 hx).1;omega
 have key:∀ k:Nat,∃ a:Addr,1≤k→k≤37→W.cell? ⟨errG k,0,none⟩=some (.iface 256 (.pointer (some a)))∧(∃ c t,W.heap[a.block]? = some (.cells c t (0,0)))∧a.spot=none∧pl (k-1)=MemPlace.row a 1:=by
  intro k
  by_cases hk:1≤k∧k≤37
  ·have hi:=List.all_eq_true.1 ho (k-1) (by simp;omega)
   cases hx:laid[k-1]? with
   |none=>rw [hx] at hi;cases hi
   |some y=>
    obtain ⟨n,d⟩:=y
    rw [hx] at hi
    simp only [Bool.and_eq_true,beq_iff_eq] at hi
    obtain ⟨⟨e1,e2⟩,e3⟩:=hi
    obtain ⟨text,rfl⟩:=errIn_is e3
    rw [show k-1+1=k from by omega] at e1 e2
    obtain ⟨g,t,cs,fuel,a1,a2,a3,a4,a5,a6⟩:=h1 _ _ _ hx
    obtain rfl:=Option.some.inj (e1.symm.trans a1)
    obtain rfl:=Option.some.inj (e2.symm.trans a2)
    obtain ⟨l⟩:=cs
    have ok:∀ u v,l=[.iface u v]→Value.okWide Tryz.prog W .any 0 u v:=fun u v e=>by
     subst e
     exact (hrows (errG k) 0 (a5 _ (by simp [MemPlace.row]))).2 u v (by simpa using World.var?_cell a1 a3 0)
    obtain ⟨a,s,rfl,hc0,hs0,hz0,hpl⟩:=errorString_of_trod Tryz.underlying40 rowErr Tryz.underlying256 Tryz.underlying272 rfl rfl Tryz.underlying9 cellsErr cellsStr a4 ok
    have hokv:=ok _ _ rfl
    refine ⟨a,fun _ _=>⟨by simpa using World.var?_cell a1 a3 0,(hrows a.block a.off (a6 _ (by rw [hpl];simp [MemPlace.row]))).1,?_,hpl⟩⟩
    unfold Value.okWide at hokv
    simp only [Tryz.underlying256] at hokv
    unfold Cell.okWide at hokv
    simp only [Cell.ok,Tryz.underlying256] at hokv
    exact hokv.2.1
  ·exact ⟨⟨0,0,none⟩,fun h h'=>absurd ⟨h,h'⟩ hk⟩
 obtain ⟨E,hE⟩:∃ E:Nat→Addr,∀ k,1≤k→k≤37→W.cell? ⟨errG k,0,none⟩=some (.iface 256 (.pointer (some (E k))))∧(∃ c t,W.heap[(E k).block]? = some (.cells c t (0,0)))∧(E k).spot=none∧pl (k-1)=MemPlace.row (E k) 1:=
  ⟨fun k=>Classical.choose (key k),fun k=>Classical.choose_spec (key k)⟩
 refine ⟨E,fun k h1 h2=>?_,fun k h1 h2=>(hE k h1 h2).2.1,fun j k hj1 hj2 hk1 hk2 e=>?_⟩
 ·have:=(hE k h1 h2).1
  unfold ErrAt
  rw [errV_pos _ _ h1]
  exact this
 ·have hj:=(hE j hj1 hj2).2.2.2
  have hk:=(hE k hk1 hk2).2.2.2
  rw [e] at hj
  have hmem:(MemPlace.cell (E k).block (E k).off) ∈ MemPlace.row (E k) 1:=by simp [MemPlace.row]
  rcases Nat.lt_trichotomy (j-1) (k-1) with hlt|heq|hlt
  ·exact absurd (by rw [hk];exact hmem) (h2 (j-1) (k-1) hlt (by omega) _ (by rw [hj];exact hmem))
  ·omega
  ·exact absurd (by rw [hj];exact hmem) (h2 (k-1) (j-1) hlt (by omega) _ (by rw [hk];exact hmem))
theorem lastRow:((((begin Tryz.prog (fun _ _=>0) default).world.heap[gB-1]?).bind Obj.row?).isSome && decide (gB-1<Tryz.prog.globals.size))=true:=by kernel_rfl
theorem gB_le {W:World} (h:W.ShapedOpen Tryz.prog):gB≤W.heap.size:=by
 have hl:=lastRow
 simp only [Bool.and_eq_true,decide_eq_true_eq] at hl
 obtain ⟨h1,h2⟩:=hl
 obtain ⟨⟨z,t⟩,hz⟩:=Option.isSome_iff_exists.1 h1
 obtain ⟨cs,hc,_⟩:=h.1 _ z t h2 hz
 have:=(Array.getElem?_eq_some_iff.1 hc).1
 unfold gB at this ⊢
 omega
section
variable {H:Type} {enc:TypeId × Value→H} {P:Program}
theorem post_of_below {f:Func} {s:ChangeSpec} {apart fresh handsOn again:Bool} {W W':World} {args:Array Value} {v:Value} {ds gs:List (DataW H)} {before pa pv:List MemPlace}
 (hW:DataW.Whole enc P f.params.toList s.vars apart W args.toList ds gs before)
 (hres:∀ (b:Nat) (sp:Nat→Bool) (hd:Bool),DataW.TrodAll enc P W' b sp hd f.resultTypes.toList (v.resultList f.resultTypes.size) (s.fn H (ds++gs)).results [])
 (hargs:∀ sp:Nat→Bool,(∀ p ∈ before,sp p.block=true)→DataW.TrodAll enc P W' 0 sp true f.params.toList args.toList (s.fn H (ds++gs)).args pa)
 (hvars:∀ sp:Nat→Bool,(∀ p ∈ before,sp p.block=true)→DataW.TrodVars enc P W' sp s.vars (s.fn H (ds++gs)).vars pv)
 (hps:before=pa++pv) (hb:Below W.heap.size W W')
 (hok:∀ (j:Nat) (t:TypeId) (r:Value),f.resultTypes[j]? = some t→(v.resultList f.resultTypes.size)[j]? = some r→Value.okWide P W' .any 0 t r) :
 s.post enc P f apart fresh handsOn again W args v W':=by
 have hlt:∀ p ∈ before,p.block<W.heap.size:=fun p hp=>hW.lt p hp
 have hold:∀ p ∈ before,(fun b=>decide (b<W.heap.size)) p.block=true:=fun p hp=>by simpa using hlt p hp
 refine ⟨ds,gs,before,[],pa,pv,hW,hres _ _ _,hargs _ hold,hvars _ hold,World.keptBut_mono (fun p hp=>⟨hp,?_⟩) (hb.frame (· ∈ before)),fun _=>?_⟩
 ·rw [hps,List.mem_append] at hp
  exact Or.inr hp
 ·obtain ⟨_,_,_,_,_,hz,hn⟩:=hW
  refine ⟨hok,_,_,([]++pa)++pv,⟨[]++pa,pv,trodAll_append (hargs _ (fun _ _=>rfl)) (hres _ _ _),hvars _ (fun _ _=>rfl),rfl,?_,?_⟩,?_⟩
  ·intro b off hp
   have hin:MemPlace.cell b off ∈ before:=by rw [hps];simpa using hp
   rw [hb.frozen (hlt _ hin)]
   exact hz b off hin
  ·intro ha
   have:=hn ha
   rw [hps] at this
   simpa using this
  ·intro p hp _
   rw [hps]
   simpa using hp
theorem trodAll_stays (hl:laidOutB P=true) {W W':World} {sp:Nat→Bool} (hb:Below W.heap.size W W'):∀ {ts:List TypeId} {vs:List Value} {ds:List (DataW H)} {ps:List MemPlace},
 (ts.all fun t=>P.readableRec t && decide (t<P.types.size))=true→DataW.TrodAll enc P W 0 (fun _=>true) true ts vs ds ps→(∀ x ∈ ps,x.block<W.heap.size)→(∀ x ∈ ps,sp x.block=true)→DataW.TrodAll enc P W' 0 sp true ts vs ds ps
 |[],[],[],_,_,h,_,_=>h
 |t::ts,v::vs,d::ds,ps,hr,h,hlt,hs=>by
  obtain ⟨p,q,h1,h2,rfl⟩:=h
  simp only [List.all_cons,Bool.and_eq_true,decide_eq_true_eq] at hr
  exact ⟨p,q,WideElems.Trod_stays hl hr.1.1 hr.1.2 h1 (fun x hx=>hb.same (hlt x (List.mem_append_left _ hx))) (fun x hx=>hs x (List.mem_append_left _ hx)),
   trodAll_stays hl hb (by simpa using hr.2) h2 (fun x hx=>hlt x (List.mem_append_right _ hx)) (fun x hx=>hs x (List.mem_append_right _ hx)),rfl⟩
 |[],_::_,_,_,_,h,_,_=>h.elim
 |[],[],_::_,_,_,h,_,_=>h.elim
 |_::_,[],_,_,_,h,_,_=>h.elim
 |_::_,_::_,[],_,_,h,_,_=>h.elim
theorem post_true {f:Func} {s:ChangeSpec} {apart fresh handsOn again:Bool} {W W':World} {args:Array Value} {ds gs:List (DataW H)} {before:List MemPlace} {tb:TypeId}
 (hl:laidOutB P=true) (htb:P.underlying tb=some .bool) (hrt:f.resultTypes=#[tb]) (hr:(f.params.toList.all fun t=>P.readableRec t && decide (t<P.types.size))=true) (hv:s.vars=[])
 (hW:DataW.Whole enc P f.params.toList s.vars apart W args.toList ds gs before) (hfn:s.fn H (ds++gs)={ results:=[.lit (.bool true)],args:=ds }) (hb:Below W.heap.size W W') :
 s.post enc P f apart fresh handsOn again W args (.bool true) W':=by
 have hlt:∀ p ∈ before,p.block<W.heap.size:=fun p hp=>hW.lt p hp
 have hW':=hW
 obtain ⟨p,q,hA,hV,rfl,_,_⟩:=hW
 rw [hv] at hV
 obtain ⟨rfl,rfl⟩:=trodVars_none hV
 refine post_of_below (pa:=p) (pv:=[]) hW' (fun b sp hd=>?_) (fun sp hs=>?_) (fun sp _=>?_) rfl hb (ok_one hrt rfl (okWide_bool_mk htb _))
 ·rw [hfn,hrt]
  exact trodAll_cons_mk (shut_bool htb _) trodAll_mk0
 ·rw [hfn]
  exact trodAll_stays hl hb hr hA (fun x hx=>hlt x (by simp [hx])) (fun x hx=>hs x (by simp [hx]))
 ·rw [hfn,hv]
  exact rfl
theorem witness_laid {C:Checked} {os:Os} {f:FuncId} {fn:Func} {s:OpenSpec} {conds:List PathCond} {apart:Bool} {laid:List (String × DataW Unit)} (modest:Bool) (w0:World) (args:Array Value) (hos:w0.os=os)
 (hsh:(w0.forCall (fun _ _=>0) ⟨#[],args,[]⟩).Shaped C.prog)
 (hok:Input.okWideB C.prog (w0.forCall (fun _ _=>0) ⟨#[],args,[]⟩) f ⟨#[],args,[]⟩=true)
 (hrow:s.preRow enc C.prog fn conds apart laid (w0.forCall (fun _ _=>0) ⟨#[],args,[]⟩).memory args) :
 ∃ (w:World) (tape:Tape) (i:Input),w.os=os∧(w.forCall tape i).Shaped C.prog∧i.vars=[]∧Input.okWide C.prog (w.forCall tape i) .any w.heap.size f i∧
  s.preRow enc C.prog fn conds apart laid (w.forCall tape i).memory i.args∧({ modest:=modest }:Assume).holds C.prog (lone (Frame.enter C.prog f i.args .normal) [] (w.forCall tape i)):=
 ⟨w0,fun _ _=>0,⟨#[],args,[]⟩,hos,hsh,(Input.okWide_of_okWideB (base:=0) hok).1,(Input.okWide_of_okWideB hok).2,hrow,by
  simp only [Assume.holds]
  exact ⟨by simp,by simp,fun _=>Modest.zero,by simp,by simp⟩⟩
theorem one_le (d:DataW H):1≤Rows.uptoBulk d:=by
 cases d with
 |lit l=>cases l <;> simp [Rows.uptoBulk]
 |nil=>simp [Rows.uptoBulk]
 |ptr d=>simp [Rows.uptoBulk]
 |slice elems spare=>simp [Rows.uptoBulk]
 |agg parts=>simp [Rows.uptoBulk]
 |iface t d=>simp [Rows.uptoBulk]
 |map entries=>simp [Rows.uptoBulk]
 |held h=>simp [Rows.uptoBulk]
theorem part_le {d:DataW H} {l:List (DataW H)} (h:d ∈ l):Rows.uptoBulk d≤Rows.uptoBulkAll l:=by
 induction l with
 |nil=>cases h
 |cons x r ih=>
  simp only [Rows.uptoBulkAll]
  cases List.mem_cons.1 h with
  |inl e=>subst e;omega
  |inr e=>have:=ih e;omega
theorem length_le (l:List (DataW H)):l.length≤Rows.uptoBulkAll l:=by
 induction l with
 |nil=>simp [Rows.uptoBulkAll]
 |cons x r ih=>have:=one_le x;simp only [Rows.uptoBulkAll,List.length_cons];omega
theorem slice_le (elems spare:List (DataW H)):elems.length+1≤Rows.uptoBulk (.slice elems spare):=by
 have h1:=length_le elems
 simp only [Rows.uptoBulk]
 omega
theorem slice_elems (elems spare:List (DataW H)):Rows.uptoBulkAll elems+1≤Rows.uptoBulk (.slice elems spare):=by
 simp only [Rows.uptoBulk]
 omega
theorem agg_parts (ps:List (DataW H)):Rows.uptoBulkAll ps≤Rows.uptoBulk (.agg ps):=by
 simp only [Rows.uptoBulk]
 omega
theorem string_eq (bytes:List UInt8):Rows.uptoBulk (DataW.lit (H:=H) (.string bytes))=bytes.length+1:=by
 simp [Rows.uptoBulk]
theorem upto_bound {l:List (DataW H)} (hk:Rows.uptoSmall H l=true):Rows.uptoBulkAll l≤1048576:=of_decide_eq_true hk
end
end Go.Proofs.YtgipenahkmbelaaGreatDoor
namespace Go.Proofs.YtgipenahkmbelaaGreatDoor
open Go Go.RowKit Go.ChangeShapes Go.WideShapes Go.Deep
section
variable {H:Type} {enc:TypeId × Value→H} {W:World} {base:Nat} {held:Bool}
theorem cell_spot {a:Addr} {v:Value} (h:W.cell? a=some v):a.spot=none∧a.block<W.heap.size:=by
 unfold World.cell? at h
 split at h
 ·rename_i c t fr hh
  refine ⟨?_,(Array.getElem?_eq_some_iff.1 hh).1⟩
  split at h
  ·cases h
  ·rename_i hs
   cases hq:a.spot with
   |none=>rfl
   |some _=>rw [hq] at hs;simp at hs
 ·cases h
theorem spot_add {a:Addr} {i:Nat} (hi:i=0) {v:Value} (h:W.cell? (a.add i)=some v):a.spot=none∧a.block<W.heap.size:=by
 subst hi
 have h1:=cell_spot h
 simpa [Addr.add] using h1
theorem add_is {a:Addr} (h:a.spot=none) (i:Nat):a.add i=⟨a.block,a.off+i,none⟩:=by
 cases a;simp at h;subst h
 unfold Addr.add
 simp
theorem addr_is {a:Addr} (h:a.spot=none):a=⟨a.block,a.off,none⟩:=by
 cases a;simp at h;subst h;rfl
theorem cellsInt:Tryz.prog.cellsOf 3=1:=by kernel_rfl
theorem field_of {P:Program} {fs:Array Field} {m:Nat} {cs:List Value} {xs:List (DataW H × List MemPlace)}
 (hf:∀ (i:Nat) (f:Field),fs[i]? = some f→DataW.trod enc P W base (fun _=>true) held m f.type ((cs.drop f.offset).take (P.cellsOf f.type))=xs[i]?)
 (i:Nat) {nm:String} {t o:Nat} {em:Bool} {tg pk:String} {bo:Nat} (h:fs[i]? = some ⟨nm,t,o,em,tg,pk,bo⟩) {k:Nat} (hk:P.cellsOf t=k) :
 DataW.trod enc P W base (fun _=>true) held m t ((cs.drop o).take k)=xs[i]?:=by
 subst hk
 exact hf i _ h
theorem elems_of {α:Type} [Inhabited α] {T eT k:Nat} (hu:Tryz.prog.underlying T=some (.slice eT)) (hk:Tryz.prog.cellsOf eT=k) (hk0:0<k) (Q:α→List Value→DataW H→Prop)
 (hQ:∀ n cs x,DataW.trod enc Tryz.prog W base (fun _=>true) held n eT cs=some x→∃ a,Q a cs x.1) {n:Nat} {cs:List Value} {x:DataW H × List MemPlace} (h:DataW.trod enc Tryz.prog W base (fun _=>true) held n T cs=some x) :
 ∃ (l:List α) (ad:Option Addr) (c:Nat),cs=[.slice ad l.length c]∧l.length≤Rows.uptoBulk x.1∧l.length≤c∧c≤maxLen∧(ad=none→c=0)∧(l≠[]→∃ b o,ad=some ⟨b,o,none⟩∧b<W.heap.size∧
  ∀ i a,l[i]? = some a→∃ cs D,Q a cs D∧Rows.uptoBulk D≤Rows.uptoBulk x.1∧cs.length=k∧W.rangeAt b (o+k*i) cs)∧(l≠[]→∃ es sp,x.1=.slice es sp∧es.length=l.length):=by
 rcases open_slice hu h with ⟨rfl,rfl⟩|⟨a,len,cap,m,n,D,Pl,rfl,_,hl,hm,hmm,rfl,hi⟩
 ·exact ⟨[],none,0,rfl,by simp,by simp,by unfold maxLen;omega,fun _=>rfl,fun h=>absurd rfl h,fun h=>absurd rfl h⟩
 ·simp only [if_true] at hmm
  have hmm':=hmm.symm
  subst hmm'
  obtain ⟨f,hfo⟩:=choose_lt (α:=α) (n:=len) (p:=fun i al=>∃ cs,Q al cs (D i)∧cs.length=k∧∀ j v,cs[j]? = some v→W.cell? (a.add (i*k+j))=some v) (fun i hil=>by
   obtain ⟨cs',hc,ht⟩:=hi i (by omega)
   rw [hk] at hc
   obtain ⟨_,hcl,hat⟩:=World.cells?_some hc
   obtain ⟨al,hq⟩:=hQ _ _ _ ht
   refine ⟨al,cs',hq,hcl,fun j v hj=>?_⟩
   have hjl:j<k:=by
    have:=(List.getElem?_eq_some_iff.1 hj).1
    omega
   rw [← Go.Deep.add_add,hat j hjl,hj])
  have hbulk:∀ i,i<len→Rows.uptoBulk (D i)≤Rows.uptoBulk (DataW.slice ((List.range len).map D) ((List.range (cap-len)).map fun j=>D (len+j))):=fun i hil=>by
   have h1:=part_le (H:=H) (d:=D i) (l:=(List.range len).map D) (List.mem_map.2 ⟨i,List.mem_range.2 hil,rfl⟩)
   have h2:=slice_elems (H:=H) ((List.range len).map D) ((List.range (cap-len)).map fun j=>D (len+j))
   omega
  refine ⟨(List.range len).map f,some a,cap,by simp,?_,by simpa using hl,hm,fun q=>(by cases q),fun hne=>?_,fun _=>⟨_,_,rfl,by simp⟩⟩
  ·have:=slice_le (H:=H) ((List.range len).map D) ((List.range (cap-len)).map fun j=>D (len+j))
   simp only [List.length_map,List.length_range] at this ⊢
   omega
  ·have h0:0<len:=by
    rcases Nat.eq_zero_or_pos len with h|h
    ·subst h;simp at hne
    ·exact h
   obtain ⟨cs0,_,hl0,hc0⟩:=hfo 0 h0
   obtain ⟨v0,hv0⟩:∃ v,cs0[0]? = some v:=⟨_,List.getElem?_eq_getElem (by omega)⟩
   obtain ⟨hs,hb⟩:=spot_add (by simp) (hc0 0 v0 hv0)
   have ha:a=⟨a.block,a.off,none⟩:=addr_is hs
   refine ⟨a.block,a.off,by rw [← ha],hb,fun i al hal=>?_⟩
   simp only [List.getElem?_map,Option.map_eq_some_iff] at hal
   obtain ⟨i',hi',rfl⟩:=hal
   have hij:i'=i∧i<len:=by
    rw [List.getElem?_eq_some_iff] at hi'
    obtain ⟨h1,h2⟩:=hi'
    simp at h1 h2
    exact ⟨h2.symm,h1⟩
   obtain ⟨rfl,hij⟩:=hij
   obtain ⟨cs',hq,hcl,hc⟩:=hfo i' hij
   refine ⟨cs',D i',hq,hbulk i' hij,hcl,fun j v hj=>?_⟩
   have:=hc j v hj
   rw [add_is hs] at this
   rw [Nat.mul_comm k i',Nat.add_assoc]
   exact this
set_option maxRecDepth 100000 in
theorem param_slice {r:Reach} {b0 T eT:Nat} {v:Value} {d:DataW H} {p:List MemPlace} (hu:Tryz.prog.underlying T=some (.slice eT)) (hv:Value.okWide Tryz.prog W r b0 T v) (h:DataW.Trod enc Tryz.prog W base (fun _=>true) held T v d p) :
 ∃ n,DataW.trod enc Tryz.prog W base (fun _=>true) held n T [v]=some (d,p):=by
 obtain ⟨a',len',cap',rfl⟩:=okWide_slice hu hv
 obtain ⟨fuel,hf⟩:=h
 exact ⟨fuel,hf⟩
end
end Go.Proofs.YtgipenahkmbelaaGreatDoor
