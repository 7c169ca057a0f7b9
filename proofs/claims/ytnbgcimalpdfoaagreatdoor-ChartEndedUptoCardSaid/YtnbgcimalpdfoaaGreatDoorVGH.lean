/-
  Open15, Open15c.
-/
import Derived.Test.YtnbgcimalpdfoaaGreatDoorVGF
import Derived.Test.YtnbgcimalpdfoaaGreatDoorVFB
import Derived.Test.YtnbgcimalpdfoaaGreatDoorVGC
set_option maxHeartbeats 64000000
namespace Go.Proofs.YtnbgcimalpdfoaaGreatDoor
open Go Go.RowKit Go.ChangeShapes Go.WideShapes Go.Deep
theorem cellsI64y:Tryz.prog.cellsOf 2=1:=by kernel_rfl
theorem cellsStry:Tryz.prog.cellsOf 9=1:=by kernel_rfl
theorem cellsBoolw:Tryz.prog.cellsOf 4=1:=by kernel_rfl
theorem cellsAcct:Tryz.prog.cellsOf 51=6:=by kernel_rfl
theorem i64_both {n:Int} (h:(Lit.int .i64 n).wf=true):-9223372036854775808≤n∧n≤9223372036854775807:=by
 have h':(decide (-9223372036854775808≤n) && decide (n≤9223372036854775807))=true:=h
 simpa only [Bool.and_eq_true,decide_eq_true_eq] using h'
end Go.Proofs.YtnbgcimalpdfoaaGreatDoor
namespace Go.Proofs.YtnbgcimalpdfoaaGreatDoor
open Go Go.RowKit Go.ChangeShapes Go.WideShapes Go.Deep
instance:Inhabited COp:=⟨⟨0,⟨[],[],0,false,0,0⟩,false,[]⟩⟩
theorem cellsCop:Tryz.prog.cellsOf 67=9:=by kernel_rfl
section
variable {H:Type} {enc:TypeId × Value→H} {W:World} {base:Nat} {held:Bool}
set_option maxRecDepth 100000 in
theorem acct_trod {n:Nat} {cl:List Value} {x:DataW H × List MemPlace} (h:DataW.trod enc Tryz.prog W base (fun _=>true) held n 51 cl=some x) :
 ∃ a:Acct,cl=acC a∧a.id.length≤Rows.uptoBulk x.1∧a.cur.length≤Rows.uptoBulk x.1∧(-9223372036854775808≤a.bal∧a.bal≤9223372036854775807):=by
 obtain ⟨xs,m,_,rfl,hl,hxl,hf⟩:=DataW.trod_struct Tryz.underlying51 h
 rw [cellsAcct] at hl
 match cl,hl with
 |[c0,c1,c2,c3,c4,c5],_=>
  match xs,hxl with
  |[y0,y1,y2,y3,y4,y5],_=>
   have h0:DataW.trod enc Tryz.prog W base (fun _=>true) held m 9 [c0]=some y0:=field_of hf 0 rfl cellsStry
   have h1:DataW.trod enc Tryz.prog W base (fun _=>true) held m 9 [c1]=some y1:=field_of hf 1 rfl cellsStry
   have h2:DataW.trod enc Tryz.prog W base (fun _=>true) held m 3 [c2]=some y2:=field_of hf 2 rfl cellsInt
   have h3:DataW.trod enc Tryz.prog W base (fun _=>true) held m 4 [c3]=some y3:=field_of hf 3 rfl cellsBoolw
   have h4:DataW.trod enc Tryz.prog W base (fun _=>true) held m 2 [c4]=some y4:=field_of hf 4 rfl cellsI64y
   have h5:DataW.trod enc Tryz.prog W base (fun _=>true) held m 2 [c5]=some y5:=field_of hf 5 rfl cellsI64y
   obtain ⟨s0,e0,f0⟩:=DataW.trod_string Tryz.underlying9 h0
   obtain ⟨s1,e1,f1⟩:=DataW.trod_string Tryz.underlying9 h1
   obtain ⟨n2,e2,f2,w2⟩:=DataW.trod_int Tryz.underlying3 h2
   obtain ⟨b3,e3,f3⟩:=DataW.trod_bool Tryz.underlying4 h3
   obtain ⟨n4,e4,f4,w4⟩:=DataW.trod_int Tryz.underlying2 h4
   obtain ⟨n5,e5,f5,w5⟩:=DataW.trod_int Tryz.underlying2 h5
   simp only [List.cons.injEq,and_true] at e0 e1 e2 e3 e4 e5
   subst e0;subst e1;subst e2;subst e3;subst e4;subst e5
   have pl:=agg_parts (H:=H) [y0.1,y1.1,y2.1,y3.1,y4.1,y5.1]
   have m0:=part_le (H:=H) (d:=y0.1) (l:=[y0.1,y1.1,y2.1,y3.1,y4.1,y5.1]) (by simp)
   have m1:=part_le (H:=H) (d:=y1.1) (l:=[y0.1,y1.1,y2.1,y3.1,y4.1,y5.1]) (by simp)
   have k0:s0.data.toList.length≤Rows.uptoBulk y0.1:=by rw [f0.1,string_eq];omega
   have k1:s1.data.toList.length≤Rows.uptoBulk y1.1:=by rw [f1.1,string_eq];omega
   exact ⟨⟨s0.data.toList,s1.data.toList,n2,b3,n4,n5⟩,rfl,Nat.le_trans k0 (Nat.le_trans m0 pl),Nat.le_trans k1 (Nat.le_trans m1 pl),i64_both w4⟩
set_option maxRecDepth 100000 in
theorem cops_of {r:Reach} {b0:Nat} {v:Value} {d:DataW H} {p:List MemPlace} (hv:Value.okWide Tryz.prog W r b0 61 v) (h:DataW.Trod enc Tryz.prog W base (fun _=>true) held 61 v d p) :
 ∃ (l:List COp) (ad:Option Addr) (c:Nat),v=.slice ad l.length c∧LsAt W copC 9 (.slice ad l.length c) l∧l.length≤Rows.uptoBulk d∧∀ o ∈ l,o.ac.id.length≤Rows.uptoBulk d∧o.row.length≤Rows.uptoBulk d∧o.ac.cur.length≤Rows.uptoBulk d∧-9223372036854775808≤o.ac.bal∧o.ac.bal≤9223372036854775807:=by
 obtain ⟨n,hf⟩:=param_slice Tryz.underlying61 hv h
 obtain ⟨l,ad,c,e,hb,-,-,-,hx,hz⟩:=elems_of (α:=COp) Tryz.underlying61 cellsCop (by omega) (fun s cs D=>cs=copC s∧s.ac.id.length≤Rows.uptoBulk D∧s.row.length≤Rows.uptoBulk D∧s.ac.cur.length≤Rows.uptoBulk D∧-9223372036854775808≤s.ac.bal∧s.ac.bal≤9223372036854775807) (fun n cs x hx=>by
  obtain ⟨xs,m,_,rfl,hl,hxl,hf⟩:=DataW.trod_struct Tryz.underlying67 hx
  rw [cellsCop] at hl
  match cs,hl with
  |[c0,c1,c2,c3,c4,c5,c6,c7,c8],_=>
   match xs,hxl with
   |[y0,y1,y2,y3],_=>
    have h0:DataW.trod enc Tryz.prog W base (fun _=>true) held m 3 [c0]=some y0:=field_of hf 0 rfl cellsInt
    have h1:DataW.trod enc Tryz.prog W base (fun _=>true) held m 51 [c1,c2,c3,c4,c5,c6]=some y1:=field_of hf 1 rfl cellsAcct
    have h2:DataW.trod enc Tryz.prog W base (fun _=>true) held m 4 [c7]=some y2:=field_of hf 2 rfl cellsBoolw
    have h3:DataW.trod enc Tryz.prog W base (fun _=>true) held m 9 [c8]=some y3:=field_of hf 3 rfl cellsStry
    obtain ⟨n0,e0,f0,w0⟩:=DataW.trod_int Tryz.underlying3 h0
    obtain ⟨ac,e1,k1,k2,k3⟩:=acct_trod h1
    obtain ⟨b2,e2,f2⟩:=DataW.trod_bool Tryz.underlying4 h2
    obtain ⟨s3,e3,f3⟩:=DataW.trod_string Tryz.underlying9 h3
    unfold acC at e1
    simp only [List.cons.injEq,and_true] at e0 e1 e2 e3
    obtain ⟨rfl,rfl,rfl,rfl,rfl,rfl⟩:=e1
    subst e0;subst e2;subst e3
    have pl:=agg_parts (H:=H) [y0.1,y1.1,y2.1,y3.1]
    have m1:=part_le (H:=H) (d:=y1.1) (l:=[y0.1,y1.1,y2.1,y3.1]) (by simp)
    have m3:=part_le (H:=H) (d:=y3.1) (l:=[y0.1,y1.1,y2.1,y3.1]) (by simp)
    have k4:s3.data.toList.length≤Rows.uptoBulk y3.1:=by rw [f3.1,string_eq];omega
    exact ⟨⟨n0,ac,b2,s3.data.toList⟩,rfl,Nat.le_trans k1 (Nat.le_trans m1 pl),Nat.le_trans k4 (Nat.le_trans m3 pl),Nat.le_trans k2 (Nat.le_trans m1 pl),k3.1,k3.2⟩) hf
 simp only [List.cons.injEq,and_true] at e
 refine ⟨l,ad,c,e,⟨ad,c,rfl,fun hne=>?_⟩,hb,fun o ho=>?_⟩
 ·obtain ⟨b,o,h1,h2,h3⟩:=hx hne
  refine ⟨b,o,h1,h2,fun i x hx=>?_⟩
  obtain ⟨cs,D,⟨rfl,_⟩,_,_,h4⟩:=h3 i x hx
  exact h4
 ·obtain ⟨i,hi,he⟩:=List.mem_iff_getElem.1 ho
  obtain ⟨b,o',h1,h2,h3⟩:=hx (by intro e;rw [e] at ho;cases ho)
  obtain ⟨cs,D,⟨_,q1,q2,q3,q4,q5⟩,k3,_,_⟩:=h3 i o (by rw [List.getElem?_eq_getElem hi,he])
  exact ⟨Nat.le_trans q1 k3,Nat.le_trans q2 k3,Nat.le_trans q3 k3,q4,q5⟩
end
end Go.Proofs.YtnbgcimalpdfoaaGreatDoor
