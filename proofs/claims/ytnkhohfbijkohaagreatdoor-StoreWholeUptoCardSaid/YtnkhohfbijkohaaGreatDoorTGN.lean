/-
  Open13, OpenF, Open13w.
-/
import Derived.Test.YtnkhohfbijkohaaGreatDoorTBD
import Derived.Test.YtnkhohfbijkohaaGreatDoorTGJ
import Derived.Test.YtnkhohfbijkohaaGreatDoorTFO
import Derived.Test.YtnkhohfbijkohaaGreatDoorTGM
set_option maxHeartbeats 64000000
namespace Go.Proofs.YtnkhohfbijkohaaGreatDoor
open Go Go.RowKit Go.ChangeShapes Go.WideShapes Go.Deep
theorem cellsBool13:Tryz.prog.cellsOf 4=1:=by kernel_rfl
theorem cellsOp13:Tryz.prog.cellsOf 73=3:=by kernel_rfl
theorem cellsOps13:Tryz.prog.cellsOf 22=1:=by kernel_rfl
instance:Inhabited BOp:=⟨⟨false,[],[]⟩⟩
section
variable {H:Type} {enc:TypeId × Value→H} {W:World} {base:Nat} {held:Bool}
set_option maxRecDepth 100000 in
theorem ops13_cells {n:Nat} {cs:List Value} {x:DataW H × List MemPlace} (h:DataW.trod enc Tryz.prog W base (fun _=>true) held n 22 cs=some x) :
 ∃ (l:List BOp) (ad:Option Addr) (c:Nat),cs=[.slice ad l.length c]∧LsAt W opC 3 (.slice ad l.length c) l∧l.length≤Rows.uptoBulk x.1∧l.length≤c∧
  ∀ o ∈ l,o.key.length≤Rows.uptoBulk x.1∧o.val.length≤Rows.uptoBulk x.1:=by
 obtain ⟨l,ad,c,e,hb,hlc,-,-,hx,hz⟩:=elems_of (α:=BOp) Tryz.underlying22 cellsOp13 (by omega) (fun s cs D=>cs=opC s∧s.key.length≤Rows.uptoBulk D∧s.val.length≤Rows.uptoBulk D) (fun n cs x hx=>by
  obtain ⟨xs,m,_,rfl,hl,hxl,hf⟩:=DataW.trod_struct Tryz.underlying73 hx
  rw [cellsOp13] at hl
  match cs,hl with
  |[c0,c1,c2],_=>
   match xs,hxl with
   |[y0,y1,y2],_=>
    have h0:DataW.trod enc Tryz.prog W base (fun _=>true) held m 4 [c0]=some y0:=field_of hf 0 rfl cellsBool13
    have h1:DataW.trod enc Tryz.prog W base (fun _=>true) held m 9 [c1]=some y1:=field_of hf 1 rfl cellsStr14
    have h2:DataW.trod enc Tryz.prog W base (fun _=>true) held m 9 [c2]=some y2:=field_of hf 2 rfl cellsStr14
    obtain ⟨b0,e0,-⟩:=DataW.trod_bool Tryz.underlying4 h0
    obtain ⟨s1,e1,f1⟩:=DataW.trod_string Tryz.underlying9 h1
    obtain ⟨s2,e2,f2⟩:=DataW.trod_string Tryz.underlying9 h2
    simp only [List.cons.injEq,and_true] at e0 e1 e2
    subst e0;subst e1;subst e2
    have pl:=agg_parts (H:=H) [y0.1,y1.1,y2.1]
    have m1:=part_le (H:=H) (d:=y1.1) (l:=[y0.1,y1.1,y2.1]) (by simp)
    have m2:=part_le (H:=H) (d:=y2.1) (l:=[y0.1,y1.1,y2.1]) (by simp)
    have n1:s1.data.toList.length≤Rows.uptoBulk y1.1:=by rw [f1.1,string_eq];omega
    have n2:s2.data.toList.length≤Rows.uptoBulk y2.1:=by rw [f2.1,string_eq];omega
    exact ⟨⟨b0,s1.data.toList,s2.data.toList⟩,rfl,Nat.le_trans n1 (Nat.le_trans m1 pl),Nat.le_trans n2 (Nat.le_trans m2 pl)⟩) h
 refine ⟨l,ad,c,e,⟨ad,c,rfl,fun hne=>?_⟩,hb,hlc,fun o ho=>?_⟩
 ·obtain ⟨b,o,h1,h2,h3⟩:=hx hne
  refine ⟨b,o,h1,h2,fun i x hx=>?_⟩
  obtain ⟨cs,D,⟨rfl,_,_⟩,_,_,h4⟩:=h3 i x hx
  exact h4
 ·obtain ⟨i,hi,he⟩:=List.mem_iff_getElem.1 ho
  obtain ⟨b,o',h1,h2,h3⟩:=hx (by intro e;rw [e] at ho;cases ho)
  obtain ⟨cs,D,⟨_,k1,k2⟩,k3,_,_⟩:=h3 i o (by rw [List.getElem?_eq_getElem hi,he])
  exact ⟨Nat.le_trans k1 k3,Nat.le_trans k2 k3⟩
set_option maxRecDepth 100000 in
theorem ops13_of {r:Reach} {b0:Nat} {v:Value} {d:DataW H} {p:List MemPlace} (hv:Value.okWide Tryz.prog W r b0 22 v) (h:DataW.Trod enc Tryz.prog W base (fun _=>true) held 22 v d p) (hd:Rows.uptoBulk d≤1048576) :
 ∃ (l:List BOp) (ad:Option Addr) (c:Nat),v=.slice ad l.length c∧LsAt W opC 3 (.slice ad l.length c) l∧l.length≤c∧OpsFit l:=by
 obtain ⟨n,hf⟩:=param_slice Tryz.underlying22 hv h
 obtain ⟨l,ad,c,e,h1,h2,h3,h4⟩:=ops13_cells hf
 simp only [List.cons.injEq,and_true] at e
 exact ⟨l,ad,c,e,h1,h3,Nat.le_trans h2 hd,fun o ho=>⟨Nat.le_trans (h4 o ho).1 hd,Nat.le_trans (h4 o ho).2 hd⟩⟩
end
end Go.Proofs.YtnkhohfbijkohaaGreatDoor
namespace Go.Proofs.YtnkhohfbijkohaaGreatDoor
open Go Go.RowKit Go.ChangeShapes Go.WideShapes Go.Deep
theorem cellsFate:Tryz.prog.cellsOf 64=3:=by kernel_rfl
theorem cellsBools:Tryz.prog.cellsOf 62=1:=by kernel_rfl
section
variable {H:Type} {enc:TypeId × Value→H} {W:World} {base:Nat} {held:Bool}
set_option maxRecDepth 100000 in
theorem bools_of {n:Nat} {cs:List Value} {x:DataW H × List MemPlace} (h:DataW.trod enc Tryz.prog W base (fun _=>true) held n 62 cs=some x) :
 ∃ kv l,cs=[kv]∧BoolsAt W kv l∧l.length≤Rows.uptoBulk x.1:=by
 rcases open_bools Tryz.underlying62 Tryz.underlying4 cellsBool13 h with ⟨rfl,rfl⟩|⟨a,len,cap,B,rfl,_,hl,hm,rfl,hB⟩
 ·exact ⟨_,[],rfl,⟨none,0,rfl,fun h=>absurd rfl h,fun _=>rfl,by simp,by unfold maxLen;omega⟩,by simp⟩
 ·refine ⟨_,(List.range len).map B,rfl,⟨some a,cap,by simp,fun hne=>?_,fun h=>(by cases h),by simpa using hl,hm⟩,?_⟩
  ·have h0:0<len:=by
    rcases Nat.eq_zero_or_pos len with h|h
    ·subst h;simp at hne
    ·exact h
   have hc:=hB 0 (by omega)
   obtain ⟨hs,hb⟩:=spot_add rfl hc
   refine ⟨a.block,a.off,by rw [← addr_is hs],hb,fun j v hj=>?_⟩
   simp only [List.map_map,List.getElem?_map,Option.map_eq_some_iff] at hj
   obtain ⟨i,hi,rfl⟩:=hj
   have hij:i=j∧j<len:=by
    rw [List.getElem?_eq_some_iff] at hi
    obtain ⟨h1,h2⟩:=hi
    simp at h1 h2
    exact ⟨h2.symm,h1⟩
   obtain ⟨rfl,hij⟩:=hij
   have:=hB i (by omega)
   rw [add_is hs] at this
   exact this
  ·have:=slice_le (H:=H) ((List.range len).map fun i=>.lit (.bool (B i))) ((List.range (cap-len)).map fun j=>.lit (.bool (B (len+j))))
   simp only [boolRow]
   simp only [List.length_map,List.length_range] at this ⊢
   omega
set_option maxRecDepth 100000 in
theorem fate_cells {n:Nat} {cs:List Value} {x:DataW H × List MemPlace} (h:DataW.trod enc Tryz.prog W base (fun _=>true) held n 64 cs=some x) :
 ∃ kv kept torn bytes,cs=[kv,.int .i64 torn,.int .i64 bytes]∧BoolsAt W kv kept∧kept.length≤Rows.uptoBulk x.1∧(Lit.int .i64 torn).wf=true∧(Lit.int .i64 bytes).wf=true:=by
 obtain ⟨xs,m,_,rfl,hl,hxl,hf⟩:=DataW.trod_struct Tryz.underlying64 h
 rw [cellsFate] at hl
 match cs,hl with
 |[c0,c1,c2],_=>
  match xs,hxl with
  |[y0,y1,y2],_=>
   have h0:DataW.trod enc Tryz.prog W base (fun _=>true) held m 62 [c0]=some y0:=field_of hf 0 rfl cellsBools
   have h1:DataW.trod enc Tryz.prog W base (fun _=>true) held m 3 [c1]=some y1:=field_of hf 1 rfl cellsInt
   have h2:DataW.trod enc Tryz.prog W base (fun _=>true) held m 3 [c2]=some y2:=field_of hf 2 rfl cellsInt
   obtain ⟨kv,l,e0,hb,hbl⟩:=bools_of h0
   obtain ⟨n1,e1,_,w1⟩:=DataW.trod_int Tryz.underlying3 h1
   obtain ⟨n2,e2,_,w2⟩:=DataW.trod_int Tryz.underlying3 h2
   simp only [List.cons.injEq,and_true] at e0 e1 e2
   subst e0;subst e1;subst e2
   refine ⟨_,l,n1,n2,rfl,hb,?_,w1,w2⟩
   have a1:=agg_parts (H:=H) ([y0,y1,y2].map (·.1))
   have a2:=part_le (H:=H) (d:=y0.1) (l:=[y0,y1,y2].map (·.1)) (by simp)
   show l.length≤Rows.uptoBulk (.agg ([y0,y1,y2].map (·.1)))
   omega
end
end Go.Proofs.YtnkhohfbijkohaaGreatDoor
namespace Go.Proofs.YtnkhohfbijkohaaGreatDoor
open Go Go.RowKit Go.ChangeShapes Go.WideShapes Go.Deep
theorem cellsCut13:Tryz.prog.cellsOf 133=4:=by kernel_rfl
theorem cellsCuts13:Tryz.prog.cellsOf 60=1:=by kernel_rfl
theorem cellsOpss13:Tryz.prog.cellsOf 61=1:=by kernel_rfl
theorem cellsLife13:Tryz.prog.cellsOf 66=7:=by kernel_rfl
instance:Inhabited CutT:=⟨⟨0,none,0,[],0,0⟩⟩
instance:Inhabited LifeT:=⟨⟨none,0,[],0,0,none,0,[],0,0,none,0,[]⟩⟩
section
variable {H:Type} {enc:TypeId × Value→H} {W:World} {base:Nat} {held:Bool}
theorem map_sum {α:Type} (w:α→Nat) (f:Nat→α) (D:Nat→DataW H):∀ (k:Nat) (_:∀ i,i<k→w (f i)≤Rows.uptoBulk (D i)),sumW w ((List.range k).map f)≤Rows.uptoBulkAll ((List.range k).map D):=by
 have gen:∀ (l:List Nat),(∀ i ∈ l,w (f i)≤Rows.uptoBulk (D i))→sumW w (l.map f)≤Rows.uptoBulkAll (l.map D):=by
  intro l
  induction l with
  |nil=>intro _;simp [sumW]
  |cons x l ih=>
   intro h
   rw [List.map_cons,List.map_cons,sumW_cons]
   simp only [Rows.uptoBulkAll]
   have h1:=h x (List.mem_cons_self ..)
   have h2:=ih fun i hi=>h i (List.mem_cons_of_mem _ hi)
   omega
 exact fun k h=>gen _ fun i hi=>h i (List.mem_range.1 hi)
theorem elemsW_of {α:Type} [Inhabited α] {T eT k:Nat} (hu:Tryz.prog.underlying T=some (.slice eT)) (hk:Tryz.prog.cellsOf eT=k) (Q:α→List Value→DataW H→Prop) (wt:α→Nat) (hwt:∀ a cs D,Q a cs D→wt a≤Rows.uptoBulk D)
 (hQ:∀ n cs x,DataW.trod enc Tryz.prog W base (fun _=>true) held n eT cs=some x→∃ a,Q a cs x.1) (hk0:0<k) {n:Nat} {cs:List Value} {x:DataW H × List MemPlace} (h:DataW.trod enc Tryz.prog W base (fun _=>true) held n T cs=some x) :
 ∃ (l:List α) (ad:Option Addr) (c:Nat),cs=[.slice ad l.length c]∧sumW wt l≤Rows.uptoBulk x.1∧l.length≤Rows.uptoBulk x.1∧(l≠[]→∃ b o,ad=some ⟨b,o,none⟩∧b<W.heap.size∧
  ∀ i a,l[i]? = some a→∃ cs D,Q a cs D∧Rows.uptoBulk D≤Rows.uptoBulk x.1∧cs.length=k∧W.rangeAt b (o+k*i) cs):=by
 rcases open_slice hu h with ⟨rfl,rfl⟩|⟨a,len,cap,m,n,D,Pl,rfl,_,hl,hm,hmm,rfl,hi⟩
 ·exact ⟨[],none,0,rfl,by simp [sumW],by simp,fun h=>absurd rfl h⟩
 ·simp only [if_true] at hmm
  have hmm':=hmm.symm
  subst hmm'
  obtain ⟨f,hfo⟩:=choose_lt (α:=α) (n:=len) (p:=fun i al=>∃ cs,Q al cs (D i)∧cs.length=k∧∀ j v,cs[j]? = some v→W.cell? (a.add (i*k+j))=some v) (fun i hil=>by
   obtain ⟨cs',hc,ht⟩:=hi i (by omega)
   rw [hk] at hc
   obtain ⟨_,hcl,hat⟩:=World.cells?_some hc
   obtain ⟨al,hq⟩:=hQ _ _ _ ht
   refine ⟨al,cs',hq,hcl,fun j v hj=>?_⟩
   have hjl:j<k:=by
    have:=(List.getElem?_eq_some_iff.1 hj).1
    omega
   rw [← Go.Deep.add_add,hat j hjl,hj])
  have hse:=slice_elems (H:=H) ((List.range len).map D) ((List.range (cap-len)).map fun j=>D (len+j))
  have hbulk:∀ i,i<len→Rows.uptoBulk (D i)≤Rows.uptoBulk (DataW.slice ((List.range len).map D) ((List.range (cap-len)).map fun j=>D (len+j))):=fun i hil=>by
   have h1:=part_le (H:=H) (d:=D i) (l:=(List.range len).map D) (List.mem_map.2 ⟨i,List.mem_range.2 hil,rfl⟩)
   omega
  refine ⟨(List.range len).map f,some a,cap,by simp,?_,?_,fun hne=>?_⟩
  ·have h1:=map_sum (H:=H) wt f D len fun i hil=>by
    obtain ⟨cs',hq,-⟩:=hfo i hil
    exact hwt _ _ _ hq
   dsimp only
   omega
  ·have:=slice_le (H:=H) ((List.range len).map D) ((List.range (cap-len)).map fun j=>D (len+j))
   simp only [List.length_map,List.length_range] at this ⊢
   omega
  ·have h0:0<len:=by
    rcases Nat.eq_zero_or_pos len with h|h
    ·subst h;simp at hne
    ·exact h
   obtain ⟨cs0,_,hl0,hc0⟩:=hfo 0 h0
   obtain ⟨v0,hv0⟩:∃ v,cs0[0]? = some v:=⟨_,List.getElem?_eq_getElem (by omega)⟩
   obtain ⟨hs,hb⟩:=spot_add (by simp) (hc0 0 v0 hv0)
   have ha:a=⟨a.block,a.off,none⟩:=addr_is hs
   refine ⟨a.block,a.off,by rw [← ha],hb,fun i al hal=>?_⟩
   simp only [List.getElem?_map,Option.map_eq_some_iff] at hal
   obtain ⟨i',hi',rfl⟩:=hal
   have hij:i'=i∧i<len:=by
    rw [List.getElem?_eq_some_iff] at hi'
    obtain ⟨h1,h2⟩:=hi'
    simp at h1 h2
    exact ⟨h2.symm,h1⟩
   obtain ⟨rfl,hij⟩:=hij
   obtain ⟨cs',hq,hcl,hc⟩:=hfo i' hij
   refine ⟨cs',D i',hq,hbulk i' hij,hcl,fun j v hj=>?_⟩
   have:=hc j v hj
   rw [add_is hs] at this
   rw [Nat.mul_comm k i',Nat.add_assoc]
   exact this
set_option maxRecDepth 100000 in
theorem cuts13_cells {n:Nat} {cs:List Value} {x:DataW H × List MemPlace} (h:DataW.trod enc Tryz.prog W base (fun _=>true) held n 60 cs=some x) :
 ∃ (l:List CutT) (ad:Option Addr) (c:Nat),cs=[.slice ad l.length c]∧LsAt W cutC 4 (.slice ad l.length c) l∧l.length≤Rows.uptoBulk x.1∧
  ∀ t ∈ l,BoolsAt W (.slice t.ka t.kept.length t.kc) t.kept∧t.arm≤9223372036854775807:=by
 obtain ⟨l,ad,c,e,hb,hl,hx⟩:=elemsW_of (α:=CutT) Tryz.underlying60 cellsCut13 (fun s cs D=>cs=cutC s∧BoolsAt W (.slice s.ka s.kept.length s.kc) s.kept∧s.arm≤9223372036854775807) (fun _=>0) (fun _ _ _ _=>Nat.zero_le _) (fun n cs x hx=>by
  obtain ⟨xs,m,_,rfl,hl,hxl,hf⟩:=DataW.trod_struct Tryz.underlying133 hx
  rw [cellsCut13] at hl
  match cs,hl with
  |[c0,c1,c2,c3],_=>
   match xs,hxl with
   |[y0,y1],_=>
    have h0:DataW.trod enc Tryz.prog W base (fun _=>true) held m 3 [c0]=some y0:=field_of hf 0 rfl cellsInt
    have h1:DataW.trod enc Tryz.prog W base (fun _=>true) held m 64 [c1,c2,c3]=some y1:=field_of hf 1 rfl cellsFate
    obtain ⟨n1,e1,_,w1⟩:=DataW.trod_int Tryz.underlying3 h0
    obtain ⟨kv,kept,torn,bytes,e2,hk,-⟩:=fate_cells h1
    have hk':=hk
    obtain ⟨ka,kc,rfl,-⟩:=hk'
    simp only [List.cons.injEq,and_true] at e1 e2
    obtain ⟨rfl,rfl,rfl⟩:=e2
    subst e1
    exact ⟨⟨n1,ka,kc,kept,torn,bytes⟩,rfl,hk,(i64_both14 w1).2⟩) (by omega) h
 refine ⟨l,ad,c,e,⟨ad,c,rfl,fun hne=>?_⟩,hl,fun t ht=>?_⟩
 ·obtain ⟨b,o,h1,h2,h3⟩:=hx hne
  refine ⟨b,o,h1,h2,fun i x hx=>?_⟩
  obtain ⟨cs,D,⟨rfl,_⟩,_,_,h4⟩:=h3 i x hx
  exact h4
 ·obtain ⟨i,hi,he⟩:=List.mem_iff_getElem.1 ht
  obtain ⟨b,o',h1,h2,h3⟩:=hx (by intro e;rw [e] at ht;cases ht)
  obtain ⟨cs,D,⟨_,k1,k2⟩,-⟩:=h3 i t (by rw [List.getElem?_eq_getElem hi,he])
  exact ⟨k1,k2⟩
set_option maxRecDepth 100000 in
theorem opss13_cells {n:Nat} {cs:List Value} {x:DataW H × List MemPlace} (h:DataW.trod enc Tryz.prog W base (fun _=>true) held n 61 cs=some x) :
 ∃ (ls:List OL) (ad:Option Addr) (c:Nat),cs=[.slice ad ls.length c]∧LsAt W opsC 1 (.slice ad ls.length c) ls∧ls.length≤Rows.uptoBulk x.1∧
  (Rows.uptoBulk x.1≤1048576→∀ x ∈ ls,OpsFit x.2.2∧LsAt W opC 3 (.slice x.1 x.2.2.length x.2.1) x.2.2):=by
 obtain ⟨l,ad,c,e,hb,hlc,-,-,hx,hz⟩:=elems_of (α:=OL) Tryz.underlying61 cellsOps13 (by omega) (fun s cs D=>cs=opsC s∧LsAt W opC 3 (.slice s.1 s.2.2.length s.2.1) s.2.2∧(Rows.uptoBulk D≤1048576→OpsFit s.2.2)) (fun n cs x hx=>by
  obtain ⟨l,ad,c,e,h1,h2,-,h4⟩:=ops13_cells hx
  exact ⟨(ad,c,l),e,h1,fun hd=>⟨Nat.le_trans h2 hd,fun o ho=>⟨Nat.le_trans (h4 o ho).1 hd,Nat.le_trans (h4 o ho).2 hd⟩⟩⟩) h
 refine ⟨l,ad,c,e,⟨ad,c,rfl,fun hne=>?_⟩,hb,fun hd o ho=>?_⟩
 ·obtain ⟨b,o,h1,h2,h3⟩:=hx hne
  refine ⟨b,o,h1,h2,fun i x hx=>?_⟩
  obtain ⟨cs,D,⟨rfl,_⟩,_,_,h4⟩:=h3 i x hx
  exact h4
 ·obtain ⟨i,hi,he⟩:=List.mem_iff_getElem.1 ho
  obtain ⟨b,o',h1,h2,h3⟩:=hx (by intro e;rw [e] at ho;cases ho)
  obtain ⟨cs,D,⟨_,k1,k2⟩,k3,_,_⟩:=h3 i o (by rw [List.getElem?_eq_getElem hi,he])
  exact ⟨k2 (Nat.le_trans k3 hd),k1⟩
set_option maxRecDepth 100000 in
theorem lives13_of {r:Reach} {b0:Nat} {v:Value} {d:DataW H} {p:List MemPlace} (hv:Value.okWide Tryz.prog W r b0 56 v) (h:DataW.Trod enc Tryz.prog W base (fun _=>true) held 56 v d p) (hd:Rows.uptoBulk d≤1048576) :
 ∃ (ls:List LifeT) (ad:Option Addr) (c:Nat),v=.slice ad ls.length c∧LsAt W lifeC 7 (.slice ad ls.length c) ls∧ls.length≤1048576∧sumW lifeW ls≤1048576∧∀ x ∈ ls,LifeOk W x:=by
 obtain ⟨n,hf⟩:=param_slice Tryz.underlying56 hv h
 obtain ⟨l,ad,c,e,hw,hl,hx⟩:=elemsW_of (α:=LifeT) Tryz.underlying56 cellsLife13 (fun s cs D=>cs=lifeC s∧lifeW s≤Rows.uptoBulk D∧(Rows.uptoBulk D≤1048576→LifeOk W s)) lifeW (fun _ _ _ h=>h.2.1) (fun n cs x hx=>by
  obtain ⟨xs,m,_,rfl,hl,hxl,hf⟩:=DataW.trod_struct Tryz.underlying66 hx
  rw [cellsLife13] at hl
  match cs,hl with
  |[c0,c1,c2,c3,c4,c5,c6],_=>
   match xs,hxl with
   |[y0,y1,y2,y3,y4],_=>
    have h0:DataW.trod enc Tryz.prog W base (fun _=>true) held m 61 [c0]=some y0:=field_of hf 0 rfl cellsOpss13
    have h1:DataW.trod enc Tryz.prog W base (fun _=>true) held m 3 [c1]=some y1:=field_of hf 1 rfl cellsInt
    have h2:DataW.trod enc Tryz.prog W base (fun _=>true) held m 3 [c2]=some y2:=field_of hf 2 rfl cellsInt
    have h3:DataW.trod enc Tryz.prog W base (fun _=>true) held m 64 [c3,c4,c5]=some y3:=field_of hf 3 rfl cellsFate
    have h4:DataW.trod enc Tryz.prog W base (fun _=>true) held m 60 [c6]=some y4:=field_of hf 4 rfl cellsCuts13
    obtain ⟨ls,ca,cc,e0,a1,a2,a3⟩:=opss13_cells h0
    obtain ⟨n1,e1,_,w1⟩:=DataW.trod_int Tryz.underlying3 h1
    obtain ⟨n2,e2,_,w2⟩:=DataW.trod_int Tryz.underlying3 h2
    obtain ⟨kv,kept,torn,bytes,e3,hk,-⟩:=fate_cells h3
    obtain ⟨us,ua,uc,e4,u1,u2,u3⟩:=cuts13_cells h4
    have hk':=hk
    obtain ⟨ka,kc,rfl,-⟩:=hk'
    simp only [List.cons.injEq,and_true] at e0 e1 e2 e3 e4
    obtain ⟨rfl,rfl,rfl⟩:=e3
    subst e0;subst e1;subst e2;subst e4
    have pl:=agg_parts (H:=H) ([y0,y1,y2,y3,y4].map (·.1))
    have q1:=one_le (H:=H) y1.1
    have q2:=one_le (H:=H) y2.1
    have pa:Rows.uptoBulk y0.1+Rows.uptoBulk y1.1+Rows.uptoBulk y2.1+Rows.uptoBulk y4.1≤Rows.uptoBulkAll ([y0,y1,y2,y3,y4].map (·.1)):=by
     simp only [List.map_cons,List.map_nil,Rows.uptoBulkAll]
     omega
    refine ⟨⟨ca,cc,ls,n1,n2,ka,kc,kept,torn,bytes,ua,uc,us⟩,rfl,?_,fun hd=>?_⟩
    ·show ls.length+us.length+2≤Rows.uptoBulk (.agg ([y0,y1,y2,y3,y4].map (·.1)))
     omega
    ·have hd:Rows.uptoBulk (.agg ([y0,y1,y2,y3,y4].map (·.1)))≤1048576:=hd
     exact ⟨a1,a3 (by omega),(i64_both14 w2).2,hk,u1,u3⟩) (by omega) hf
 simp only [List.cons.injEq,and_true] at e
 refine ⟨l,ad,c,e,⟨ad,c,rfl,fun hne=>?_⟩,Nat.le_trans hl hd,Nat.le_trans hw hd,fun t ht=>?_⟩
 ·obtain ⟨b,o,h1,h2,h3⟩:=hx hne
  refine ⟨b,o,h1,h2,fun i x hx=>?_⟩
  obtain ⟨cs,D,⟨rfl,_⟩,_,_,h4⟩:=h3 i x hx
  exact h4
 ·obtain ⟨i,hi,he⟩:=List.mem_iff_getElem.1 ht
  obtain ⟨b,o',h1,h2,h3⟩:=hx (by intro e;rw [e] at ht;cases ht)
  obtain ⟨cs,D,⟨_,_,k1⟩,k3,-⟩:=h3 i t (by rw [List.getElem?_eq_getElem hi,he])
  exact k1 (Nat.le_trans k3 hd)
end
end Go.Proofs.YtnkhohfbijkohaaGreatDoor
