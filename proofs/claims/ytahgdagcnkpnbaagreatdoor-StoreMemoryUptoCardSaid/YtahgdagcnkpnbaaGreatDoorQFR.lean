/-
  StR0, Open13.
-/
import Derived.Test.YtahgdagcnkpnbaaGreatDoorQEU
import Derived.Test.YtahgdagcnkpnbaaGreatDoorQFJ
import Derived.Test.YtahgdagcnkpnbaaGreatDoorQBD
import Derived.Test.YtahgdagcnkpnbaaGreatDoorQFK
import Derived.Test.YtahgdagcnkpnbaaGreatDoorQFQ
set_option maxHeartbeats 64000000
namespace Go.Proofs.YtahgdagcnkpnbaaGreatDoor
open Go Go.RowKit
theorem sumW_max {γ:Type} {w:γ→Nat} {c:Nat} {l:List γ} (h:∀ x ∈ l,w x≤c):sumW w l≤l.length*c:=by
 induction l with
 |nil=>simp [sumW]
 |cons y l ih=>
  rw [sumW_cons,List.length_cons,Nat.succ_mul]
  have h1:=h y (List.mem_cons_self ..)
  have h2:=ih fun x hx=>h x (List.mem_cons_of_mem _ hx)
  omega
structure OpsFit (ops:List BOp):Prop where
 len:ops.length≤1048576
 each:∀ o ∈ ops,o.key.length≤1048576∧o.val.length≤1048576
theorem opW_le (o:BOp):opW o≤o.key.length+o.val.length+21:=by
 have h1:=vu_len o.key.length
 have h2:=vu_len o.val.length
 unfold opW encOp tx
 split
 ·rw [List.length_cons,List.length_append];omega
 ·rw [List.length_cons,List.length_append,List.length_append,List.length_append];omega
theorem OpsFit.sum {ops:List BOp} (h:OpsFit ops):sumW opW ops≤2300000000000:=by
 have h1:sumW opW ops≤ops.length*2097173:=sumW_max fun o ho=>by
  have:=opW_le o
  have:=h.each o ho
  omega
 have h2:=h.len
 omega
theorem OpsFit.enc {ops:List BOp} (h:OpsFit ops):(encAll (zBf ops)).length≤100000000000000:=by
 have h1:=enc_sum (zBf ops)
 have h2:=sum_norm ops
 have h3:=h.sum
 have h4:=vu_len (zBf ops).length
 omega
theorem OpsFit.snap {ops:List BOp} (h:OpsFit ops) {r:Rows} (hr:RisR r) (hs:(zAr r).length≤1000000000000):(zAr (zAw r ops)).length≤4611686018427387904:=by
 have h1:=snap_sum (zAw r ops)
 have h2:=sum_applyB hr ops
 have h3:=h.sum
 have h4:=vu_len (zAw r ops).length
 have h5:=snap_sum r
 omega
theorem OpsFit.nil:OpsFit []:=⟨Nat.zero_le _,fun _ h=>by cases h⟩
theorem rows_room {r:Rows} {n:Nat} (h:(zAr r).length≤234*layA n) (h2:n≤65536):r.length≤10000000∧(zAr r).length≤10000000:=by
 have h1:=rows_snap r
 have h3:(zAr r).length=(vu r.length).length+(r.flatMap rowB).length:=by unfold zAr;rw [List.length_append]
 have h4:layA n≤32768:=by unfold layA;omega
 omega
end Go.Proofs.YtahgdagcnkpnbaaGreatDoor
namespace Go.Proofs.YtahgdagcnkpnbaaGreatDoor
open Go Go.RowKit Go.ChangeShapes Go.WideShapes Go.Deep
theorem cellsBool13:Tryz.prog.cellsOf 4=1:=by kernel_rfl
theorem cellsOp13:Tryz.prog.cellsOf 43=3:=by kernel_rfl
instance:Inhabited BOp:=⟨⟨false,[],[]⟩⟩
section
variable {H:Type} {enc:TypeId × Value→H} {W:World} {base:Nat} {held:Bool}
set_option maxRecDepth 100000 in
theorem ops13_cells {n:Nat} {cs:List Value} {x:DataW H × List MemPlace} (h:DataW.trod enc Tryz.prog W base (fun _=>true) held n 37 cs=some x) :
 ∃ (l:List BOp) (ad:Option Addr) (c:Nat),cs=[.slice ad l.length c]∧LsAt W opC 3 (.slice ad l.length c) l∧l.length≤Rows.uptoBulk x.1∧l.length≤c∧
  ∀ o ∈ l,o.key.length≤Rows.uptoBulk x.1∧o.val.length≤Rows.uptoBulk x.1:=by
 obtain ⟨l,ad,c,e,hb,hlc,-,-,hx,hz⟩:=elems_of (α:=BOp) Tryz.underlying37 cellsOp13 (by omega) (fun s cs D=>cs=opC s∧s.key.length≤Rows.uptoBulk D∧s.val.length≤Rows.uptoBulk D) (fun n cs x hx=>by
  obtain ⟨xs,m,_,rfl,hl,hxl,hf⟩:=DataW.trod_struct Tryz.underlying43 hx
  rw [cellsOp13] at hl
  match cs,hl with
  |[c0,c1,c2],_=>
   match xs,hxl with
   |[y0,y1,y2],_=>
    have h0:DataW.trod enc Tryz.prog W base (fun _=>true) held m 4 [c0]=some y0:=field_of hf 0 rfl cellsBool13
    have h1:DataW.trod enc Tryz.prog W base (fun _=>true) held m 9 [c1]=some y1:=field_of hf 1 rfl cellsStr14
    have h2:DataW.trod enc Tryz.prog W base (fun _=>true) held m 9 [c2]=some y2:=field_of hf 2 rfl cellsStr14
    obtain ⟨b0,e0,-⟩:=DataW.trod_bool Tryz.underlying4 h0
    obtain ⟨s1,e1,f1⟩:=DataW.trod_string Tryz.underlying9 h1
    obtain ⟨s2,e2,f2⟩:=DataW.trod_string Tryz.underlying9 h2
    simp only [List.cons.injEq,and_true] at e0 e1 e2
    subst e0;subst e1;subst e2
    have pl:=agg_parts (H:=H) [y0.1,y1.1,y2.1]
    have m1:=part_le (H:=H) (d:=y1.1) (l:=[y0.1,y1.1,y2.1]) (by simp)
    have m2:=part_le (H:=H) (d:=y2.1) (l:=[y0.1,y1.1,y2.1]) (by simp)
    have n1:s1.data.toList.length≤Rows.uptoBulk y1.1:=by rw [f1.1,string_eq];omega
    have n2:s2.data.toList.length≤Rows.uptoBulk y2.1:=by rw [f2.1,string_eq];omega
    exact ⟨⟨b0,s1.data.toList,s2.data.toList⟩,rfl,Nat.le_trans n1 (Nat.le_trans m1 pl),Nat.le_trans n2 (Nat.le_trans m2 pl)⟩) h
 refine ⟨l,ad,c,e,⟨ad,c,rfl,fun hne=>?_⟩,hb,hlc,fun o ho=>?_⟩
 ·obtain ⟨b,o,h1,h2,h3⟩:=hx hne
  refine ⟨b,o,h1,h2,fun i x hx=>?_⟩
  obtain ⟨cs,D,⟨rfl,_,_⟩,_,_,h4⟩:=h3 i x hx
  exact h4
 ·obtain ⟨i,hi,he⟩:=List.mem_iff_getElem.1 ho
  obtain ⟨b,o',h1,h2,h3⟩:=hx (by intro e;rw [e] at ho;cases ho)
  obtain ⟨cs,D,⟨_,k1,k2⟩,k3,_,_⟩:=h3 i o (by rw [List.getElem?_eq_getElem hi,he])
  exact ⟨Nat.le_trans k1 k3,Nat.le_trans k2 k3⟩
set_option maxRecDepth 100000 in
theorem ops13_of {r:Reach} {b0:Nat} {v:Value} {d:DataW H} {p:List MemPlace} (hv:Value.okWide Tryz.prog W r b0 37 v) (h:DataW.Trod enc Tryz.prog W base (fun _=>true) held 37 v d p) (hd:Rows.uptoBulk d≤1048576) :
 ∃ (l:List BOp) (ad:Option Addr) (c:Nat),v=.slice ad l.length c∧LsAt W opC 3 (.slice ad l.length c) l∧l.length≤c∧OpsFit l:=by
 obtain ⟨n,hf⟩:=param_slice Tryz.underlying37 hv h
 obtain ⟨l,ad,c,e,h1,h2,h3,h4⟩:=ops13_cells hf
 simp only [List.cons.injEq,and_true] at e
 exact ⟨l,ad,c,e,h1,h3,Nat.le_trans h2 hd,fun o ho=>⟨Nat.le_trans (h4 o ho).1 hd,Nat.le_trans (h4 o ho).2 hd⟩⟩
end
end Go.Proofs.YtahgdagcnkpnbaaGreatDoor
