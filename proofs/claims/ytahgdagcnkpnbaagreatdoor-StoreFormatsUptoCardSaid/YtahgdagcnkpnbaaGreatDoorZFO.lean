/-
  StR0, StR1, Open13, OpenF.
-/
import Derived.Test.YtahgdagcnkpnbaaGreatDoorZES
import Derived.Test.YtahgdagcnkpnbaaGreatDoorZEL
import Derived.Test.YtahgdagcnkpnbaaGreatDoorZDN
import Derived.Test.YtahgdagcnkpnbaaGreatDoorZFH
import Derived.Test.YtahgdagcnkpnbaaGreatDoorZFL
import Derived.Test.YtahgdagcnkpnbaaGreatDoorZBD
set_option maxHeartbeats 64000000
namespace Go.Proofs.YtahgdagcnkpnbaaGreatDoor
open Go Go.RowKit
theorem sumW_max {γ:Type} {w:γ→Nat} {c:Nat} {l:List γ} (h:∀ x ∈ l,w x≤c):sumW w l≤l.length*c:=by
 induction l with
 |nil=>simp [sumW]
 |cons y l ih=>
  rw [sumW_cons,List.length_cons,Nat.succ_mul]
  have h1:=h y (List.mem_cons_self ..)
  have h2:=ih fun x hx=>h x (List.mem_cons_of_mem _ hx)
  omega
structure OpsFit (ops:List BOp):Prop where
 len:ops.length≤1048576
 each:∀ o ∈ ops,o.key.length≤1048576∧o.val.length≤1048576
theorem opW_le (o:BOp):opW o≤o.key.length+o.val.length+21:=by
 have h1:=vu_len o.key.length
 have h2:=vu_len o.val.length
 unfold opW encOp tx
 split
 ·rw [List.length_cons,List.length_append];omega
 ·rw [List.length_cons,List.length_append,List.length_append,List.length_append];omega
theorem OpsFit.sum {ops:List BOp} (h:OpsFit ops):sumW opW ops≤2300000000000:=by
 have h1:sumW opW ops≤ops.length*2097173:=sumW_max fun o ho=>by
  have:=opW_le o
  have:=h.each o ho
  omega
 have h2:=h.len
 omega
theorem OpsFit.enc {ops:List BOp} (h:OpsFit ops):(encAll (zBj ops)).length≤100000000000000:=by
 have h1:=enc_sum (zBj ops)
 have h2:=sum_norm ops
 have h3:=h.sum
 have h4:=vu_len (zBj ops).length
 omega
theorem OpsFit.snap {ops:List BOp} (h:OpsFit ops) {r:Rows} (hr:RisR r) (hs:(zAp r).length≤1000000000000):(zAp (zAx r ops)).length≤4611686018427387904:=by
 have h1:=snap_sum (zAx r ops)
 have h2:=sum_applyB hr ops
 have h3:=h.sum
 have h4:=vu_len (zAx r ops).length
 have h5:=snap_sum r
 omega
theorem OpsFit.nil:OpsFit []:=⟨Nat.zero_le _,fun _ h=>by cases h⟩
theorem rows_room {r:Rows} {n:Nat} (h:(zAp r).length≤234*layA n) (h2:n≤65536):r.length≤10000000∧(zAp r).length≤10000000:=by
 have h1:=rows_snap r
 have h3:(zAp r).length=(vu r.length).length+(r.flatMap rowB).length:=by unfold zAp;rw [List.length_append]
 have h4:layA n≤32768:=by unfold layA;omega
 omega
end Go.Proofs.YtahgdagcnkpnbaaGreatDoor
namespace Go.Proofs.YtahgdagcnkpnbaaGreatDoor
open Go Go.RowKit
abbrev copP (x:Option Addr × Nat) (l:List BOp):SP:=lsP opC 43 3 (.slice x.1 l.length x.2) l
section
variable {W:World} {F:Nat→Addr} {s d q n:Nat} {r:Rows} {N:List Nd} {a:Option Addr} {b:Int}
instance fn_copied13:FnIs Tryz.prog 40:=⟨by kernel_rfl⟩
theorem copied13_ct (A:SP) (a:Option Addr) (c:Nat) (l:List BOp) (hL:Lv W opC 3 A a l) (hl:l.length≤2000000) :
 Ct Tryz.prog W 40 [.slice a l.length c] [A] (fun x:Option Addr × Nat=>.slice x.1 l.length x.2) (fun x=>[A,copP x l]):=by
 have b1:(([]:List BOp).length+l.length)*40≤140737488355328:=by simp;omega
 have b2:([]:List BOp).length+l.length≤9223372036854775807:=by simp;omega
 refine Ct.enter Tryz.func40 rfl Tryz.ntmps40 (by simp) (fun R=>?_)
 refine KJ.lvOpen hL xS (fun b0 o0 hab=>?_)
 repeat' (first|(refine zCb ?_;refine KJ_appAll (l:=([]:List BOp)) (l2:=l) enc_op rfl rfl rfl rfl xS (Src.lv hL hab xS) b1 b2 rfl (fun a1 c1=>?_))|(refine zBy ?_;refine KJ_bslice0 rfl (fun g0=>?_))|refine xst ?_|(refine xsa ?_;intro _)|(refine xsb ?_ ?_ <;>intro _<;>try (exfalso;omega))|refine xsc ?_|fail)
 all_goals (obtain ⟨L2,hL2⟩:∃ L2,L2=([]++l:List BOp):=⟨_,rfl⟩)
 all_goals (simp only [List.nil_append,List.length_nil,Nat.zero_add] at *)
 all_goals (exact xdn (a1,c1))
end
end Go.Proofs.YtahgdagcnkpnbaaGreatDoor
namespace Go.Proofs.YtahgdagcnkpnbaaGreatDoor
open Go Go.RowKit Go.ChangeShapes Go.WideShapes Go.Deep
theorem cellsBool13:Tryz.prog.cellsOf 4=1:=by kernel_rfl
theorem cellsOp13:Tryz.prog.cellsOf 43=3:=by kernel_rfl
instance:Inhabited BOp:=⟨⟨false,[],[]⟩⟩
section
variable {H:Type} {enc:TypeId × Value→H} {W:World} {base:Nat} {held:Bool}
set_option maxRecDepth 100000 in
theorem ops13_cells {n:Nat} {cs:List Value} {x:DataW H × List MemPlace} (h:DataW.trod enc Tryz.prog W base (fun _=>true) held n 37 cs=some x) :
 ∃ (l:List BOp) (ad:Option Addr) (c:Nat),cs=[.slice ad l.length c]∧LsAt W opC 3 (.slice ad l.length c) l∧l.length≤Rows.uptoBulk x.1∧l.length≤c∧
  ∀ o ∈ l,o.key.length≤Rows.uptoBulk x.1∧o.val.length≤Rows.uptoBulk x.1:=by
 obtain ⟨l,ad,c,e,hb,hlc,-,-,hx,hz⟩:=elems_of (α:=BOp) Tryz.underlying37 cellsOp13 (by omega) (fun s cs D=>cs=opC s∧s.key.length≤Rows.uptoBulk D∧s.val.length≤Rows.uptoBulk D) (fun n cs x hx=>by
  obtain ⟨xs,m,_,rfl,hl,hxl,hf⟩:=DataW.trod_struct Tryz.underlying43 hx
  rw [cellsOp13] at hl
  match cs,hl with
  |[c0,c1,c2],_=>
   match xs,hxl with
   |[y0,y1,y2],_=>
    have h0:DataW.trod enc Tryz.prog W base (fun _=>true) held m 4 [c0]=some y0:=field_of hf 0 rfl cellsBool13
    have h1:DataW.trod enc Tryz.prog W base (fun _=>true) held m 9 [c1]=some y1:=field_of hf 1 rfl cellsStr14
    have h2:DataW.trod enc Tryz.prog W base (fun _=>true) held m 9 [c2]=some y2:=field_of hf 2 rfl cellsStr14
    obtain ⟨b0,e0,-⟩:=DataW.trod_bool Tryz.underlying4 h0
    obtain ⟨s1,e1,f1⟩:=DataW.trod_string Tryz.underlying9 h1
    obtain ⟨s2,e2,f2⟩:=DataW.trod_string Tryz.underlying9 h2
    simp only [List.cons.injEq,and_true] at e0 e1 e2
    subst e0;subst e1;subst e2
    have pl:=agg_parts (H:=H) [y0.1,y1.1,y2.1]
    have m1:=part_le (H:=H) (d:=y1.1) (l:=[y0.1,y1.1,y2.1]) (by simp)
    have m2:=part_le (H:=H) (d:=y2.1) (l:=[y0.1,y1.1,y2.1]) (by simp)
    have n1:s1.data.toList.length≤Rows.uptoBulk y1.1:=by rw [f1.1,string_eq];omega
    have n2:s2.data.toList.length≤Rows.uptoBulk y2.1:=by rw [f2.1,string_eq];omega
    exact ⟨⟨b0,s1.data.toList,s2.data.toList⟩,rfl,Nat.le_trans n1 (Nat.le_trans m1 pl),Nat.le_trans n2 (Nat.le_trans m2 pl)⟩) h
 refine ⟨l,ad,c,e,⟨ad,c,rfl,fun hne=>?_⟩,hb,hlc,fun o ho=>?_⟩
 ·obtain ⟨b,o,h1,h2,h3⟩:=hx hne
  refine ⟨b,o,h1,h2,fun i x hx=>?_⟩
  obtain ⟨cs,D,⟨rfl,_,_⟩,_,_,h4⟩:=h3 i x hx
  exact h4
 ·obtain ⟨i,hi,he⟩:=List.mem_iff_getElem.1 ho
  obtain ⟨b,o',h1,h2,h3⟩:=hx (by intro e;rw [e] at ho;cases ho)
  obtain ⟨cs,D,⟨_,k1,k2⟩,k3,_,_⟩:=h3 i o (by rw [List.getElem?_eq_getElem hi,he])
  exact ⟨Nat.le_trans k1 k3,Nat.le_trans k2 k3⟩
set_option maxRecDepth 100000 in
theorem ops13_of {r:Reach} {b0:Nat} {v:Value} {d:DataW H} {p:List MemPlace} (hv:Value.okWide Tryz.prog W r b0 37 v) (h:DataW.Trod enc Tryz.prog W base (fun _=>true) held 37 v d p) (hd:Rows.uptoBulk d≤1048576) :
 ∃ (l:List BOp) (ad:Option Addr) (c:Nat),v=.slice ad l.length c∧LsAt W opC 3 (.slice ad l.length c) l∧l.length≤c∧OpsFit l:=by
 obtain ⟨n,hf⟩:=param_slice Tryz.underlying37 hv h
 obtain ⟨l,ad,c,e,h1,h2,h3,h4⟩:=ops13_cells hf
 simp only [List.cons.injEq,and_true] at e
 exact ⟨l,ad,c,e,h1,h3,Nat.le_trans h2 hd,fun o ho=>⟨Nat.le_trans (h4 o ho).1 hd,Nat.le_trans (h4 o ho).2 hd⟩⟩
end
end Go.Proofs.YtahgdagcnkpnbaaGreatDoor
namespace Go.Proofs.YtahgdagcnkpnbaaGreatDoor
open Go Go.RowKit Go.ChangeShapes Go.WideShapes Go.Deep
theorem cellsFate:Tryz.prog.cellsOf 101=3:=by kernel_rfl
theorem cellsBools:Tryz.prog.cellsOf 99=1:=by kernel_rfl
section
variable {H:Type} {enc:TypeId × Value→H} {W:World} {base:Nat} {held:Bool}
set_option maxRecDepth 100000 in
theorem bools_of {n:Nat} {cs:List Value} {x:DataW H × List MemPlace} (h:DataW.trod enc Tryz.prog W base (fun _=>true) held n 99 cs=some x) :
 ∃ kv l,cs=[kv]∧BoolsAt W kv l∧l.length≤Rows.uptoBulk x.1:=by
 rcases open_bools Tryz.underlying99 Tryz.underlying4 cellsBool13 h with ⟨rfl,rfl⟩|⟨a,len,cap,B,rfl,_,hl,hm,rfl,hB⟩
 ·exact ⟨_,[],rfl,⟨none,0,rfl,fun h=>absurd rfl h,fun _=>rfl,by simp,by unfold maxLen;omega⟩,by simp⟩
 ·refine ⟨_,(List.range len).map B,rfl,⟨some a,cap,by simp,fun hne=>?_,fun h=>(by cases h),by simpa using hl,hm⟩,?_⟩
  ·have h0:0<len:=by
    rcases Nat.eq_zero_or_pos len with h|h
    ·subst h;simp at hne
    ·exact h
   have hc:=hB 0 (by omega)
   obtain ⟨hs,hb⟩:=spot_add rfl hc
   refine ⟨a.block,a.off,by rw [← addr_is hs],hb,fun j v hj=>?_⟩
   simp only [List.map_map,List.getElem?_map,Option.map_eq_some_iff] at hj
   obtain ⟨i,hi,rfl⟩:=hj
   have hij:i=j∧j<len:=by
    rw [List.getElem?_eq_some_iff] at hi
    obtain ⟨h1,h2⟩:=hi
    simp at h1 h2
    exact ⟨h2.symm,h1⟩
   obtain ⟨rfl,hij⟩:=hij
   have:=hB i (by omega)
   rw [add_is hs] at this
   exact this
  ·have:=slice_le (H:=H) ((List.range len).map fun i=>.lit (.bool (B i))) ((List.range (cap-len)).map fun j=>.lit (.bool (B (len+j))))
   simp only [boolRow]
   simp only [List.length_map,List.length_range] at this ⊢
   omega
set_option maxRecDepth 100000 in
theorem fate_cells {n:Nat} {cs:List Value} {x:DataW H × List MemPlace} (h:DataW.trod enc Tryz.prog W base (fun _=>true) held n 101 cs=some x) :
 ∃ kv kept torn bytes,cs=[kv,.int .i64 torn,.int .i64 bytes]∧BoolsAt W kv kept∧kept.length≤Rows.uptoBulk x.1∧(Lit.int .i64 torn).wf=true∧(Lit.int .i64 bytes).wf=true:=by
 obtain ⟨xs,m,_,rfl,hl,hxl,hf⟩:=DataW.trod_struct Tryz.underlying101 h
 rw [cellsFate] at hl
 match cs,hl with
 |[c0,c1,c2],_=>
  match xs,hxl with
  |[y0,y1,y2],_=>
   have h0:DataW.trod enc Tryz.prog W base (fun _=>true) held m 99 [c0]=some y0:=field_of hf 0 rfl cellsBools
   have h1:DataW.trod enc Tryz.prog W base (fun _=>true) held m 3 [c1]=some y1:=field_of hf 1 rfl cellsInt
   have h2:DataW.trod enc Tryz.prog W base (fun _=>true) held m 3 [c2]=some y2:=field_of hf 2 rfl cellsInt
   obtain ⟨kv,l,e0,hb,hbl⟩:=bools_of h0
   obtain ⟨n1,e1,_,w1⟩:=DataW.trod_int Tryz.underlying3 h1
   obtain ⟨n2,e2,_,w2⟩:=DataW.trod_int Tryz.underlying3 h2
   simp only [List.cons.injEq,and_true] at e0 e1 e2
   subst e0;subst e1;subst e2
   refine ⟨_,l,n1,n2,rfl,hb,?_,w1,w2⟩
   have a1:=agg_parts (H:=H) ([y0,y1,y2].map (·.1))
   have a2:=part_le (H:=H) (d:=y0.1) (l:=[y0,y1,y2].map (·.1)) (by simp)
   show l.length≤Rows.uptoBulk (.agg ([y0,y1,y2].map (·.1)))
   omega
set_option maxRecDepth 100000 in
theorem fate_of {r:Reach} {b0:Nat} {v:Value} {d:DataW H} {p:List MemPlace} (hv:Value.okWide Tryz.prog W r b0 101 v) (h:DataW.Trod enc Tryz.prog W base (fun _=>true) held 101 v d p) :
 ∃ kv kept torn bytes,v=.agg #[kv,.int .i64 torn,.int .i64 bytes]∧BoolsAt W kv kept∧kept.length≤Rows.uptoBulk d∧(Lit.int .i64 torn).wf=true∧(Lit.int .i64 bytes).wf=true:=by
 obtain ⟨cs,rfl,hsz⟩:=okWide_struct Tryz.underlying101 hv
 obtain ⟨fuel,hf⟩:=h
 obtain ⟨kv,kept,torn,bytes,e,h1,h2,h3,h4⟩:=fate_cells hf
 obtain ⟨l⟩:=cs
 have e':l=[kv,.int .i64 torn,.int .i64 bytes]:=e
 subst e'
 exact ⟨kv,kept,torn,bytes,rfl,h1,h2,h3,h4⟩
end
end Go.Proofs.YtahgdagcnkpnbaaGreatDoor
