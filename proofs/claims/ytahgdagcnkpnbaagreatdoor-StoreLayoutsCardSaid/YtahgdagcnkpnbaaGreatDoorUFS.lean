/-
  SlX, TxM, Open14, TxH1, TxS1, TxH2.
-/
import Derived.Test.YtahgdagcnkpnbaaGreatDoorUFB
import Derived.Laws.OwnMore
import Derived.Test.YtahgdagcnkpnbaaGreatDoorUEV
import Derived.Test.YtahgdagcnkpnbaaGreatDoorUFA
import Derived.Test.YtahgdagcnkpnbaaGreatDoorUFE
import Derived.Test.YtahgdagcnkpnbaaGreatDoorUEW
import Derived.Test.YtahgdagcnkpnbaaGreatDoorUCO
import Derived.Test.YtahgdagcnkpnbaaGreatDoorUBX
import Derived.Test.YtahgdagcnkpnbaaGreatDoorUFI
import Derived.Test.YtahgdagcnkpnbaaGreatDoorUFM
set_option maxHeartbeats 64000000
namespace Go.Proofs.YtahgdagcnkpnbaaGreatDoor
open Go Go.RowKit
abbrev plUFS0:Pl:=(.op 0 (.op 1 (.op 2 (.op 3 (.op 4 (.op 5 (.op 6 (.op 7 (.op 8 .nil)))))))))
def subB (a:Option Addr) (i c s:Nat):Option Addr:=a.map fun A=>if c-i=0 then A else A.add (i*s)
section
variable {P:Program} {W:World} {n d:Nat} {E:Env} {H H' R:List SP} {k:KK} {t u e:TypeId} {x y z:Operand} {α:Type} {enc:α→List Value} {sz:Nat}
theorem Ev_sliceFromB {a:Option Addr} {i m c s:Nat} {ki:IntKind} (hx:Env.ev E x=some (.slice a m c)) (hy:Env.ev E y=some (.int ki ((i:Nat):Int))) [hu:UIs P t (.slice e)] [hi:SzIs P e s] (ha:a=none→c=0) (hb:i≤m) (hc:m≤c):Ev P W n E H (.slice t x (some y) none none) (.slice (subB a i c s) (m-i) (c-i)):=
 Ev.mk fun o ho ac w p _=>by
  have hi:=hi.h
  cases hq:P.info? e with
  |none=>simp [hq] at hi
  |some q=>
   have hi:q.size=s:=by simpa [hq] using hi
   cases a with
   |none=>
    have:=ha rfl
    have h1:m=0:=by omega
    have h2:i=0:=by omega
    subst this h1 h2
    simp [execOp,ho,p.ev hx,p.ev hy,Instr.sliceAt,Instr.slice,run_underlying hu.h,Instr.sliceBounds,Instr.sliceBound,asIntOf,sizeOf,typeInfo,hq,Result.andThen,subB]
   |some A=>
    by_cases h3:c-i=0
    ·have h3':c≤i:=by omega
     have h4:c=i:=by omega
     simp [execOp,ho,p.ev hx,p.ev hy,Instr.sliceAt,Instr.slice,run_underlying hu.h,Instr.sliceBounds,Instr.sliceBound,asIntOf,hb,sizeOf,typeInfo,hq,subB,h4]
    ·have h4:¬ c≤i:=by omega
     have h5:¬ c=i:=by omega
     simp [execOp,ho,p.ev hx,p.ev hy,Instr.sliceAt,Instr.slice,run_underlying hu.h,Instr.sliceBounds,Instr.sliceBound,asIntOf,hb,sizeOf,typeInfo,hq,hi,subB,h3,h5]
theorem Ev_sliceToB {a:Option Addr} {j m c s:Nat} {kj:IntKind} (hx:Env.ev E x=some (.slice a m c)) (hz:Env.ev E z=some (.int kj ((j:Nat):Int))) [hu:UIs P t (.slice e)] [hi:SzIs P e s] (ha:a=none→c=0) (hb:j≤c):Ev P W n E H (.slice t x none (some z) none) (.slice a j c):=
 Ev.mk fun o ho ac w p _=>by
  have hi:=hi.h
  cases hq:P.info? e with
  |none=>simp [hq] at hi
  |some q=>
   cases a with
   |none=>
    have:=ha rfl
    have h2:j=0:=by omega
    subst this h2
    simp [execOp,ho,p.ev hx,p.ev hz,Instr.sliceAt,Instr.slice,run_underlying hu.h,Instr.sliceBounds,Instr.sliceBound,asIntOf,sizeOf,typeInfo,hq,Result.andThen]
   |some A=>
    simp [execOp,ho,p.ev hx,p.ev hz,Instr.sliceAt,Instr.slice,run_underlying hu.h,Instr.sliceBounds,Instr.sliceBound,asIntOf,hb,sizeOf,typeInfo,hq,Addr.add]
theorem Lv.dropB (K:EncOk enc sz) {A:SP} {a:Option Addr} {l:List α} (h:Lv W enc sz A a l) {i c:Nat} (hi:i≤l.length) (hc:l.length≤c):Lv W enc sz A (subB a i c sz) (l.drop i):=
 ⟨fun w H R hs s hne=>by
  obtain ⟨b,o,ha,hr⟩:=h.go w H R hs s (by intro q;subst q;simp at hne)
  subst ha
  have hlt:i<l.length:=by
   refine Nat.lt_of_not_le fun q=>hne (List.drop_of_length_le q)
  have h0:¬ c-i=0:=by omega
  refine ⟨b,o+i*sz,?_,fun j v hj=>?_⟩
  ·unfold subB Addr.add
   simp only [Option.map_some,if_neg h0]
   by_cases hz:i*sz=0
   ·rw [if_pos hz,hz];simp
   ·rw [if_neg hz]
  ·have:=hr _ v (K.drop_at hi hj)
   rwa [← Nat.add_assoc] at this⟩
theorem Lv.takeB (K:EncOk enc sz) {A:SP} {a:Option Addr} {l:List α} (h:Lv W enc sz A a l) (i:Nat):Lv W enc sz A a (l.take i):=
 ⟨fun w H R hs s hne=>by
  obtain ⟨b,o,ha,hr⟩:=h.go w H R hs s (by intro q;subst q;simp at hne)
  exact ⟨b,o,ha,fun j v hj=>hr j v (K.take_at hj)⟩⟩
structure SlOk (a:Option Addr) (c n:Nat):Prop where
 nil:a=none→c=0
 le:n≤c
theorem SlOk.zero:SlOk none 0 0:=⟨fun _=>rfl,Nat.le_refl _⟩
theorem SlOk.some {g:Addr} {c n:Nat} (h:n≤c):SlOk (some g) c n:=⟨fun e=>(by cases e),h⟩
theorem SlOk.from_ {a:Option Addr} {c n i:Nat} (s:Nat) (h:SlOk a c n):SlOk (subB a i c s) (c-i) (n-i):=by
 have h1:=h.le
 refine ⟨fun e=>?_,by omega⟩
 cases ha:a with
 |none=>have:=h.nil ha;omega
 |some A=>rw [ha] at e;cases e
theorem KJ.slOk {a:Option Addr} {c m:Nat} {l:List α} (hsel:Sel (lsP enc e sz (.slice a m c) l) H R) (h:SlOk a c l.length→KJ W n k E H):KJ W n k E H:=
 ⟨fun ac w q s=>by
  rcases (s.row (hsel.app _)).2 with ⟨hv,h0⟩|⟨g,cap,cur,hv,_,_,h1,_⟩
  ·cases hv
   rw [h0] at h
   exact (h SlOk.zero).go ac w q s
  ·cases hv
   exact (h (SlOk.some h1)).go ac w q s⟩
end
end Go.Proofs.YtahgdagcnkpnbaaGreatDoor
namespace Go.Proofs.YtahgdagcnkpnbaaGreatDoor
open Go Go.RowKit
section
variable {W:World} {F:Nat→Addr} {r0 r:Rows} {Rs:List Rows} {t s m n k:Nat} {K:List (List UInt8 × Bool)} {U:List UE}
instance fn_txmark:FnIs Tryz.prog 31:=⟨by kernel_rfl⟩
theorem txmarkP:Ct Tryz.prog W 31 [.pointer (some ⟨t,0,none⟩)] [TxP t s r K U false] (fun _:Unit=>.int .i64 (U.length:Nat)) (fun _=>[TxP t s r K U false]):=by
 refine Ct.enter Tryz.func31 rfl Tryz.ntmps31 (by simp) (fun R=>?_)
 refine KJ.txOpen xS (fun x hT=>?_)
 repeat' (first|refine xst ?_|(refine xsa ?_;intro _)|(refine xsb ?_ ?_ <;>intro _<;>try (exfalso;omega))|refine xsc ?_|fail)
 all_goals refine KJ.txShut (s:=s) (K:=K) (U:=U) (ended:=false) x hT xP ?_
 all_goals (exact xdn ())
theorem txmarkB:Ct Tryz.prog W 31 [.pointer (some ⟨t,0,none⟩)] [TxB t s r0 Rs r m] (fun _:Unit=>.int .i64 (Rs.length:Nat)) (fun _=>[TxB t s r0 Rs r m]):=by
 refine Ct_unpack (Hs:=[]) fun ⟨(K,U),hU⟩=>?_
 have e:=hU.ul
 rw [← e]
 exact (txmarkP (W:=W)).to id (fun _=>rfl) (fun _ R g q=>TxB.star hU g q)
end
end Go.Proofs.YtahgdagcnkpnbaaGreatDoor
namespace Go.Proofs.YtahgdagcnkpnbaaGreatDoor
open Go Go.RowKit Go.ChangeShapes Go.WideShapes Go.Deep
instance:Inhabited TOp:=⟨⟨0,[],[],0,0⟩⟩
def topC (o:TOp):List Value:=[.int .i64 o.kind,strV o.key,strV o.val,.int .i64 o.n,.int .i64 o.i]
theorem top_ok:EncOk topC 5:=⟨fun _=>rfl,fun x=>by unfold topC;exact xO,by omega⟩
theorem cellsRow14:Tryz.prog.cellsOf 51=2:=by kernel_rfl
theorem cellsTop:Tryz.prog.cellsOf 32=5:=by kernel_rfl
theorem cellsStr14:Tryz.prog.cellsOf 9=1:=by kernel_rfl
theorem i64_both14 {n:Int} (h:(Lit.int .i64 n).wf=true):-9223372036854775808≤n∧n≤9223372036854775807:=by
 have h':(decide (-9223372036854775808≤n) && decide (n≤9223372036854775807))=true:=h
 simpa only [Bool.and_eq_true,decide_eq_true_eq] using h'
structure Args14 (l:Rows) (S:List TOp):Prop where
 ll:l.length≤1048576
 ls:S.length≤1048576
 row:∀ p ∈ l,p.1.length≤1048576∧p.2.length≤1048576
 op:∀ o ∈ S,o.key.length≤1048576∧o.val.length≤1048576∧(-9223372036854775808≤o.n∧o.n≤9223372036854775807)∧(-9223372036854775808≤o.i∧o.i≤9223372036854775807)
section
variable {H:Type} {enc:TypeId × Value→H} {W:World} {base:Nat} {held:Bool}
set_option maxRecDepth 100000 in
theorem rows14_of {r:Reach} {b0:Nat} {v:Value} {d:DataW H} {p:List MemPlace} (hv:Value.okWide Tryz.prog W r b0 22 v) (h:DataW.Trod enc Tryz.prog W base (fun _=>true) held 22 v d p) :
 ∃ (l:Rows) (ad:Option Addr) (c:Nat),v=.slice ad l.length c∧LsAt W rC 2 (.slice ad l.length c) l∧l.length≤Rows.uptoBulk d∧∀ o ∈ l,o.1.length≤Rows.uptoBulk d∧o.2.length≤Rows.uptoBulk d:=by
 obtain ⟨n,hf⟩:=param_slice Tryz.underlying22 hv h
 obtain ⟨l,ad,c,e,hb,-,-,-,hx,hz⟩:=elems_of (α:=List UInt8 × List UInt8) Tryz.underlying22 cellsRow14 (by omega) (fun s cs D=>cs=rC s∧s.1.length≤Rows.uptoBulk D∧s.2.length≤Rows.uptoBulk D) (fun n cs x hx=>by
  obtain ⟨xs,m,_,rfl,hl,hxl,hf⟩:=DataW.trod_struct Tryz.underlying51 hx
  rw [cellsRow14] at hl
  match cs,hl with
  |[c0,c1],_=>
   match xs,hxl with
   |[y0,y1],_=>
    have h0:DataW.trod enc Tryz.prog W base (fun _=>true) held m 9 [c0]=some y0:=field_of hf 0 rfl cellsStr14
    have h1:DataW.trod enc Tryz.prog W base (fun _=>true) held m 9 [c1]=some y1:=field_of hf 1 rfl cellsStr14
    obtain ⟨s0,e0,f0⟩:=DataW.trod_string Tryz.underlying9 h0
    obtain ⟨s1,e1,f1⟩:=DataW.trod_string Tryz.underlying9 h1
    simp only [List.cons.injEq,and_true] at e0 e1
    subst e0;subst e1
    have pl:=agg_parts (H:=H) [y0.1,y1.1]
    have m0:=part_le (H:=H) (d:=y0.1) (l:=[y0.1,y1.1]) (by simp)
    have m1:=part_le (H:=H) (d:=y1.1) (l:=[y0.1,y1.1]) (by simp)
    have k0:s0.data.toList.length≤Rows.uptoBulk y0.1:=by rw [f0.1,string_eq];omega
    have k1:s1.data.toList.length≤Rows.uptoBulk y1.1:=by rw [f1.1,string_eq];omega
    exact ⟨(s0.data.toList,s1.data.toList),rfl,Nat.le_trans k0 (Nat.le_trans m0 pl),Nat.le_trans k1 (Nat.le_trans m1 pl)⟩) hf
 simp only [List.cons.injEq,and_true] at e
 refine ⟨l,ad,c,e,⟨ad,c,rfl,fun hne=>?_⟩,hb,fun o ho=>?_⟩
 ·obtain ⟨b,o,h1,h2,h3⟩:=hx hne
  refine ⟨b,o,h1,h2,fun i x hx=>?_⟩
  obtain ⟨cs,D,⟨rfl,_⟩,_,_,h4⟩:=h3 i x hx
  exact h4
 ·obtain ⟨i,hi,he⟩:=List.mem_iff_getElem.1 ho
  obtain ⟨b,o',h1,h2,h3⟩:=hx (by intro e;rw [e] at ho;cases ho)
  obtain ⟨cs,D,⟨_,k1,k2⟩,k3,_,_⟩:=h3 i o (by rw [List.getElem?_eq_getElem hi,he])
  exact ⟨Nat.le_trans k1 k3,Nat.le_trans k2 k3⟩
set_option maxRecDepth 100000 in
theorem tops_of {r:Reach} {b0:Nat} {v:Value} {d:DataW H} {p:List MemPlace} (hv:Value.okWide Tryz.prog W r b0 23 v) (h:DataW.Trod enc Tryz.prog W base (fun _=>true) held 23 v d p) :
 ∃ (l:List TOp) (ad:Option Addr) (c:Nat),v=.slice ad l.length c∧LsAt W topC 5 (.slice ad l.length c) l∧l.length≤Rows.uptoBulk d∧∀ o ∈ l,o.key.length≤Rows.uptoBulk d∧o.val.length≤Rows.uptoBulk d∧(-9223372036854775808≤o.n∧o.n≤9223372036854775807)∧(-9223372036854775808≤o.i∧o.i≤9223372036854775807):=by
 obtain ⟨n,hf⟩:=param_slice Tryz.underlying23 hv h
 obtain ⟨l,ad,c,e,hb,-,-,-,hx,hz⟩:=elems_of (α:=TOp) Tryz.underlying23 cellsTop (by omega) (fun s cs D=>cs=topC s∧s.key.length≤Rows.uptoBulk D∧s.val.length≤Rows.uptoBulk D∧(-9223372036854775808≤s.n∧s.n≤9223372036854775807)∧(-9223372036854775808≤s.i∧s.i≤9223372036854775807)) (fun n cs x hx=>by
  obtain ⟨xs,m,_,rfl,hl,hxl,hf⟩:=DataW.trod_struct Tryz.underlying32 hx
  rw [cellsTop] at hl
  match cs,hl with
  |[c0,c1,c2,c3,c4],_=>
   match xs,hxl with
   |[y0,y1,y2,y3,y4],_=>
    have h0:DataW.trod enc Tryz.prog W base (fun _=>true) held m 3 [c0]=some y0:=field_of hf 0 rfl cellsInt
    have h1:DataW.trod enc Tryz.prog W base (fun _=>true) held m 9 [c1]=some y1:=field_of hf 1 rfl cellsStr14
    have h2:DataW.trod enc Tryz.prog W base (fun _=>true) held m 9 [c2]=some y2:=field_of hf 2 rfl cellsStr14
    have h3:DataW.trod enc Tryz.prog W base (fun _=>true) held m 3 [c3]=some y3:=field_of hf 3 rfl cellsInt
    have h4:DataW.trod enc Tryz.prog W base (fun _=>true) held m 3 [c4]=some y4:=field_of hf 4 rfl cellsInt
    obtain ⟨n0,e0,f0,w0⟩:=DataW.trod_int Tryz.underlying3 h0
    obtain ⟨s1,e1,f1⟩:=DataW.trod_string Tryz.underlying9 h1
    obtain ⟨s2,e2,f2⟩:=DataW.trod_string Tryz.underlying9 h2
    obtain ⟨n3,e3,f3,w3⟩:=DataW.trod_int Tryz.underlying3 h3
    obtain ⟨n4,e4,f4,w4⟩:=DataW.trod_int Tryz.underlying3 h4
    simp only [List.cons.injEq,and_true] at e0 e1 e2 e3 e4
    subst e0;subst e1;subst e2;subst e3;subst e4
    have pl:=agg_parts (H:=H) [y0.1,y1.1,y2.1,y3.1,y4.1]
    have m1:=part_le (H:=H) (d:=y1.1) (l:=[y0.1,y1.1,y2.1,y3.1,y4.1]) (by simp)
    have m2:=part_le (H:=H) (d:=y2.1) (l:=[y0.1,y1.1,y2.1,y3.1,y4.1]) (by simp)
    have k1:s1.data.toList.length≤Rows.uptoBulk y1.1:=by rw [f1.1,string_eq];omega
    have k2:s2.data.toList.length≤Rows.uptoBulk y2.1:=by rw [f2.1,string_eq];omega
    exact ⟨⟨n0,s1.data.toList,s2.data.toList,n3,n4⟩,rfl,Nat.le_trans k1 (Nat.le_trans m1 pl),Nat.le_trans k2 (Nat.le_trans m2 pl),i64_both14 w3,i64_both14 w4⟩) hf
 simp only [List.cons.injEq,and_true] at e
 refine ⟨l,ad,c,e,⟨ad,c,rfl,fun hne=>?_⟩,hb,fun o ho=>?_⟩
 ·obtain ⟨b,o,h1,h2,h3⟩:=hx hne
  refine ⟨b,o,h1,h2,fun i x hx=>?_⟩
  obtain ⟨cs,D,⟨rfl,_⟩,_,_,h4⟩:=h3 i x hx
  exact h4
 ·obtain ⟨i,hi,he⟩:=List.mem_iff_getElem.1 ho
  obtain ⟨b,o',h1,h2,h3⟩:=hx (by intro e;rw [e] at ho;cases ho)
  obtain ⟨cs,D,⟨_,q1,q2,q3,q4⟩,k3,_,_⟩:=h3 i o (by rw [List.getElem?_eq_getElem hi,he])
  exact ⟨Nat.le_trans q1 k3,Nat.le_trans q2 k3,q3,q4⟩
end
end Go.Proofs.YtahgdagcnkpnbaaGreatDoor
namespace Go.Proofs.YtahgdagcnkpnbaaGreatDoor
open Go Go.RowKit
instance st_row14:StIs Tryz.prog 51:=⟨by kernel_rfl,by kernel_rfl⟩
instance st_op14:StIs Tryz.prog 43:=⟨by kernel_rfl,by kernel_rfl⟩
theorem row14_eqF (x y:List UInt8 × List UInt8) {fs:Array Field} (hu:Tryz.prog.underlying 51=some (.struct fs)):EqF Tryz.prog (rC x) (rC y) fs.toList (decide (x=y)):=by
 have e:=Tryz.underlying51.symm.trans hu
 simp only [Option.some.injEq,TypeDesc.struct.injEq] at e
 subst e
 have e2:decide (x=y)=(decide (x.1=y.1) && (decide (x.2=y.2) && true)):=by
  rw [Bool.eq_iff_iff]
  cases x;cases y
  simp
 rw [e2]
 refine EqF.cons rfl inferInstance rfl rfl ?_ (EqF.cons rfl inferInstance rfl rfl ?_ EqF.nil)
 all_goals (unfold cellEq;simp)
theorem op14_eqF (x y:BOp) {fs:Array Field} (hu:Tryz.prog.underlying 43=some (.struct fs)):EqF Tryz.prog (opC x) (opC y) fs.toList (decide (x=y)):=by
 have e:=Tryz.underlying43.symm.trans hu
 simp only [Option.some.injEq,TypeDesc.struct.injEq] at e
 subst e
 have e2:decide (x=y)=(decide (x.del=y.del) && (decide (x.key=y.key) && (decide (x.val=y.val) && true))):=by
  rw [Bool.eq_iff_iff]
  cases x;cases y
  simp
 rw [e2]
 refine EqF.cons rfl inferInstance rfl rfl ?_ (EqF.cons rfl inferInstance rfl rfl ?_ (EqF.cons rfl inferInstance rfl rfl ?_ EqF.nil))
 all_goals (unfold cellEq;simp)
section
variable {W:World} {F:Nat→Addr}
instance fn_hlight:FnIs Tryz.prog 15:=⟨by kernel_rfl⟩
instance fn_hrows:FnIs Tryz.prog 26:=⟨by kernel_rfl⟩
instance fn_hops:FnIs Tryz.prog 36:=⟨by kernel_rfl⟩
theorem srows14_ct (A B:SP) (a b:Option Addr) (c d:Nat) (l:Rows) (hA:Lv W rC 2 A a l) (hB:Lv W rC 2 B b l) (h1:l.length≤4611686018427387904) :
 Ct Tryz.prog W 26 [.slice a l.length c,.slice b l.length d] [A,B] (fun _:Unit=>.bool true) (fun _=>[A,B]):=by
 have q:((l.length:Nat):Int)=(l.length:Nat):=rfl
 refine Ct.enter Tryz.func26 rfl Tryz.ntmps26 (by simp) (fun R=>?_)
 repeat' (first|(refine zBi ?_;refine zAb (zBz rfl rfl q) ?_)|refine xst ?_|(refine xsa ?_;intro _)|(refine xsb ?_ ?_ <;>intro _<;>try (exfalso;omega))|refine xsc ?_|(refine zAa (id:=6) plUFS0 (by kernel_rfl) (by kernel_rfl) ?_)|refine zAj ?_ ?_|refine zAi rfl rfl rfl rfl rfl ?_ ?_|refine zAg ?_ ?_|exact Rech.nil|fail)
 refine zBk (fun i:{i:Nat//i≤l.length}=>[(0,.slice a l.length c),(1,.slice b l.length d),(12,.int .i64 (l.length:Nat)),(13,.int .i64 (i.1:Nat))])
  (fun _=>[A,B]++R) (fun i=>l.length-i.1) ⟨0,Nat.zero_le _⟩ xB (xN) (fun ⟨i,hi⟩=>?_)
 dsimp only
 by_cases hlt:i<l.length
 rotate_left
 ·have ql:decide ((i:Int)<(l.length:Nat))=false:=decide_eq_false (by omega)
  repeat' (first|(refine zAn ?_;refine zAb (zAe rfl rfl ql) ?_)|refine xst ?_|(refine xsa ?_;intro _)|(refine xsb ?_ ?_ <;>intro _<;>try (exfalso;omega))|refine xsc ?_|(refine zAa (id:=6) plUFS0 (by kernel_rfl) (by kernel_rfl) ?_)|refine zAj ?_ ?_|refine zAi rfl rfl rfl rfl rfl ?_ ?_|refine zAg ?_ ?_|exact Rech.nil|fail)
  all_goals (exact xdn ())
 have ql:decide ((i:Int)<(l.length:Nat))=true:=decide_eq_true (by omega)
 obtain ⟨x,hx⟩:∃ s,l[i]? = some s:=⟨_,List.getElem?_eq_getElem hlt⟩
 refine KJ.lvSome hA xS (by omega) (fun ba oa hab=>?_)
 subst hab
 refine KJ.lvSome hB xS (by omega) (fun bb ob hab=>?_)
 subst hab
 have ho1:oa+Int.toNat (i:Int)*2=oa+i*2:=by rw [Int.toNat_natCast]
 have ho2:ob+Int.toNat (i:Int)*2=ob+i*2:=by rw [Int.toNat_natCast]
 have hq:(!decide (x=x))=false:=by simp
 repeat' (first|(refine zAm ?_;first|refine zAb (zBe zCg hA rfl rfl xS ho1 hx) ?_|refine zAb (zBe zCg hB rfl rfl xS ho2 hx) ?_)|(refine zAz ?_;refine zAb (zAf (r:=((i+1:Nat):Int)) rfl rfl (by omega) (by omega)) ?_)|(refine zBi ?_;refine zAb (Ev_neqSt rfl rfl (row14_eqF x x Tryz.underlying51) hq) ?_)|(refine zAn ?_;refine zAb (zAe rfl rfl ql) ?_)|refine xst ?_|(refine xsa ?_;intro _)|(refine xsb ?_ ?_ <;>intro _<;>try (exfalso;omega))|refine xsc ?_|(refine zAa (id:=6) plUFS0 (by kernel_rfl) (by kernel_rfl) ?_)|refine zAj ?_ ?_|refine zAi rfl rfl rfl rfl rfl ?_ ?_|refine zAg ?_ ?_|exact Rech.nil|fail)
 all_goals refine zAu ⟨i+1,hlt⟩ (by show l.length-(i+1)<l.length-i;omega) xB (xN)
theorem sops14_ct (A B:SP) (a b:Option Addr) (c d:Nat) (l:List BOp) (hA:Lv W opC 3 A a l) (hB:Lv W opC 3 B b l) (h1:l.length≤4611686018427387904) :
 Ct Tryz.prog W 36 [.slice a l.length c,.slice b l.length d] [A,B] (fun _:Unit=>.bool true) (fun _=>[A,B]):=by
 have q:((l.length:Nat):Int)=(l.length:Nat):=rfl
 refine Ct.enter Tryz.func36 rfl Tryz.ntmps36 (by simp) (fun R=>?_)
 repeat' (first|(refine zBi ?_;refine zAb (zBz rfl rfl q) ?_)|refine xst ?_|(refine xsa ?_;intro _)|(refine xsb ?_ ?_ <;>intro _<;>try (exfalso;omega))|refine xsc ?_|(refine zAa (id:=6) plUFS0 (by kernel_rfl) (by kernel_rfl) ?_)|refine zAj ?_ ?_|refine zAi rfl rfl rfl rfl rfl ?_ ?_|refine zAg ?_ ?_|exact Rech.nil|fail)
 refine zBk (fun i:{i:Nat//i≤l.length}=>[(0,.slice a l.length c),(1,.slice b l.length d),(12,.int .i64 (l.length:Nat)),(13,.int .i64 (i.1:Nat))])
  (fun _=>[A,B]++R) (fun i=>l.length-i.1) ⟨0,Nat.zero_le _⟩ xB (xN) (fun ⟨i,hi⟩=>?_)
 dsimp only
 by_cases hlt:i<l.length
 rotate_left
 ·have ql:decide ((i:Int)<(l.length:Nat))=false:=decide_eq_false (by omega)
  repeat' (first|(refine zAn ?_;refine zAb (zAe rfl rfl ql) ?_)|refine xst ?_|(refine xsa ?_;intro _)|(refine xsb ?_ ?_ <;>intro _<;>try (exfalso;omega))|refine xsc ?_|(refine zAa (id:=6) plUFS0 (by kernel_rfl) (by kernel_rfl) ?_)|refine zAj ?_ ?_|refine zAi rfl rfl rfl rfl rfl ?_ ?_|refine zAg ?_ ?_|exact Rech.nil|fail)
  all_goals (exact xdn ())
 have ql:decide ((i:Int)<(l.length:Nat))=true:=decide_eq_true (by omega)
 obtain ⟨x,hx⟩:∃ s,l[i]? = some s:=⟨_,List.getElem?_eq_getElem hlt⟩
 refine KJ.lvSome hA xS (by omega) (fun ba oa hab=>?_)
 subst hab
 refine KJ.lvSome hB xS (by omega) (fun bb ob hab=>?_)
 subst hab
 have ho1:oa+Int.toNat (i:Int)*3=oa+i*3:=by rw [Int.toNat_natCast]
 have ho2:ob+Int.toNat (i:Int)*3=ob+i*3:=by rw [Int.toNat_natCast]
 have hq:(!decide (x=x))=false:=by simp
 repeat' (first|(refine zAm ?_;first|refine zAb (zBe zBu hA rfl rfl xS ho1 hx) ?_|refine zAb (zBe zBu hB rfl rfl xS ho2 hx) ?_)|(refine zAz ?_;refine zAb (zAf (r:=((i+1:Nat):Int)) rfl rfl (by omega) (by omega)) ?_)|(refine zBi ?_;refine zAb (Ev_neqSt rfl rfl (op14_eqF x x Tryz.underlying43) hq) ?_)|(refine zAn ?_;refine zAb (zAe rfl rfl ql) ?_)|refine xst ?_|(refine xsa ?_;intro _)|(refine xsb ?_ ?_ <;>intro _<;>try (exfalso;omega))|refine xsc ?_|(refine zAa (id:=6) plUFS0 (by kernel_rfl) (by kernel_rfl) ?_)|refine zAj ?_ ?_|refine zAi rfl rfl rfl rfl rfl ?_ ?_|refine zAg ?_ ?_|exact Rech.nil|fail)
 all_goals refine zAu ⟨i+1,hlt⟩ (by show l.length-(i+1)<l.length-i;omega) xB (xN)
theorem light_next {l:Rows} {i:Nat} {p:List UInt8 × List UInt8} (h:l[i]? = some p):lightN (l.take (i+1))=lightN (l.take i)+(8+min p.1.length 16384+min p.2.length 16384):=sumW_next lightW h
theorem light_take (l:Rows) (i:Nat):lightN (l.take i)≤lightN l:=sumW_take lightW l i
theorem hlight_ct (A:SP) (a:Option Addr) (c:Nat) (l:Rows) (hA:Lv W rC 2 A a l) (h1:l.length≤1000000000) :
 Ct Tryz.prog W 15 [.slice a l.length c] [A] (fun _:Unit=>.bool (decide (lightN l≤8192))) (fun _=>[A]):=by
 obtain ⟨V,hV⟩:∃ V,V=decide (lightN l≤8192):=⟨_,rfl⟩
 rw [← hV]
 refine Ct.enter Tryz.func15 rfl Tryz.ntmps15 (by simp) (fun R=>?_)
 repeat' (first|refine xst ?_|(refine xsa ?_;intro _)|(refine xsb ?_ ?_ <;>intro _<;>try (exfalso;omega))|refine xsc ?_|fail)
 refine zBk (fun i:{i:Nat//i≤l.length∧lightN (l.take i)≤8192}=>[(3,.int .i64 (lightN (l.take i.1):Nat)),(6,.slice a l.length c),(7,.int .i64 (l.length:Nat)),(8,.int .i64 (i.1:Nat))])
  (fun _=>[A]++R) (fun i=>l.length-i.1) ⟨0,Nat.zero_le _,Nat.zero_le _⟩ xB (xN) (fun ⟨i,hi,ht⟩=>?_)
 dsimp only at hi ht ⊢
 by_cases hlt:i<l.length
 rotate_left
 ·have ql:decide ((i:Int)<(l.length:Nat))=false:=decide_eq_false (by omega)
  rw [List.take_of_length_le (by omega)] at ht
  rw [hV,decide_eq_true ht]
  repeat' (first|(refine zAn ?_;refine zAb (zAe rfl rfl ql) ?_)|refine xst ?_|(refine xsa ?_;intro _)|(refine xsb ?_ ?_ <;>intro _<;>try (exfalso;omega))|refine xsc ?_|fail)
  all_goals (exact xdn ())
 have ql:decide ((i:Int)<(l.length:Nat))=true:=decide_eq_true (by omega)
 obtain ⟨x,hx⟩:∃ s,l[i]? = some s:=⟨_,List.getElem?_eq_getElem hlt⟩
 have hnx:=light_next hx
 have hle:=light_take l (i+1)
 refine KJ.lvSome hA xS (by omega) (fun ba oa hab=>?_)
 subst hab
 have ho1:oa+Int.toNat (i:Int)*2=oa+i*2:=by rw [Int.toNat_natCast]
 by_cases hg:lightN (l.take (i+1))≤8192
 ·have qg:decide ((8192:Int)<((lightN (l.take (i+1)):Nat):Int))=false:=decide_eq_false (by omega)
  repeat' (first|(refine zAv ?_;refine zAt rfl (fun g=>?_))|(refine zAm ?_;refine zAb (zBe zCg hA rfl rfl xS ho1 hx) ?_)|(refine zAz ?_;first|refine zAb (zAf (r:=((i+1:Nat):Int)) rfl rfl (by omega) (by omega)) ?_|refine zAb (zAf (r:=((8+min x.1.length 16384:Nat):Int)) rfl rfl (by omega) (by omega)) ?_|refine zAb (zAf (r:=((8+min x.1.length 16384+min x.2.length 16384:Nat):Int)) rfl rfl (by omega) (by omega)) ?_|refine zAb (zAf (r:=((lightN (l.take (i+1)):Nat):Int)) rfl rfl (by omega) (by omega)) ?_)|(refine zAn ?_;refine zAb (zAe rfl rfl ql) ?_)|(refine zBa ?_;refine zAb (zAh rfl rfl qg) ?_)|refine xst ?_|(refine xsa ?_;intro _)|(refine xsb ?_ ?_ <;>intro _<;>try (exfalso;omega))|refine xsc ?_|fail)
  all_goals refine zAu ⟨i+1,hlt,hg⟩ (by show l.length-(i+1)<l.length-i;omega) xB (xN)
 ·have qg:decide ((8192:Int)<((lightN (l.take (i+1)):Nat):Int))=true:=decide_eq_true (by omega)
  rw [hV,decide_eq_false (by omega)]
  repeat' (first|(refine zAv ?_;refine zAt rfl (fun g=>?_))|(refine zAm ?_;refine zAb (zBe zCg hA rfl rfl xS ho1 hx) ?_)|(refine zAz ?_;first|refine zAb (zAf (r:=((i+1:Nat):Int)) rfl rfl (by omega) (by omega)) ?_|refine zAb (zAf (r:=((8+min x.1.length 16384:Nat):Int)) rfl rfl (by omega) (by omega)) ?_|refine zAb (zAf (r:=((8+min x.1.length 16384+min x.2.length 16384:Nat):Int)) rfl rfl (by omega) (by omega)) ?_|refine zAb (zAf (r:=((lightN (l.take (i+1)):Nat):Int)) rfl rfl (by omega) (by omega)) ?_)|(refine zAn ?_;refine zAb (zAe rfl rfl ql) ?_)|(refine zBa ?_;refine zAb (zAh rfl rfl qg) ?_)|refine xst ?_|(refine xsa ?_;intro _)|(refine xsb ?_ ?_ <;>intro _<;>try (exfalso;omega))|refine xsc ?_|fail)
  all_goals (exact xdn ())
end
end Go.Proofs.YtahgdagcnkpnbaaGreatDoor
namespace Go.Proofs.YtahgdagcnkpnbaaGreatDoor
open Go Go.RowKit
abbrev roP (x:Option Addr × Nat) (l:Rows):SP:=lsP rC 51 2 (.slice x.1 l.length x.2) l
theorem Ct.noP14 {P:Program} {W:World} {f:FuncId} {args:List Value} {X:Type} {r:X→Value} (h:Ct P W f args [noP,noP] r (fun _=>[noP,noP])):Ct P W f args [] r (fun _=>[]):=
 ⟨fun R w s=>(h.go R w ((s.mono noP_star).mono noP_star)).mono fun _ _ ⟨x,he,hs⟩=>⟨x,he,hs.right (A:=[noP,noP])⟩⟩
abbrev opP (x:Option Addr × Nat) (l:List BOp):SP:=lsP opC 43 3 (.slice x.1 l.length x.2) l
theorem Lv.all {W:World} {α:Type} {enc:α→List Value} {sz key:Nat} {A:SP} {L L':List SP} {a:Option Addr} {l:List α} (h:Lv W enc sz A a l) (hx:Sel A L L'):Lv W enc sz (allP key L) a l:=
 ⟨fun w _ R hs s hne=>h.go w (L++R) (L'++R) (hx.app R) ((s.perm hs.perm).mono (fun _ q=>all_open q)) hne⟩
end Go.Proofs.YtahgdagcnkpnbaaGreatDoor
namespace Go.Proofs.YtahgdagcnkpnbaaGreatDoor
open Go Go.RowKit
def putO (p:List UInt8 × List UInt8):BOp:=⟨false,p.1,p.2⟩
theorem apply_puts (l r:Rows):zAp r (l.map putO)=l.foldl (fun r p=>putR r p.1 p.2) r:=by
 unfold zAp
 rw [List.foldl_map]
 rfl
theorem apply_ofR (l:Rows):zAp [] (l.map putO)=ofR l:=apply_puts l []
theorem heavy_next {S:List TOp} {i:Nat} {o:TOp} (h:S[i]? = some o):heavyN (S.take (i+1))=heavyN (S.take i)+(16+min o.key.length 65536+min o.val.length 65536+(if o.kind=13 then 400 else 0)+(if o.kind=11 then 400 else 0)):=sumW_next heavyW h
theorem heavyW_le (o:TOp):heavyW o≤200000:=by unfold heavyW;split <;> split <;> omega
theorem heavyN_le (S:List TOp):heavyN S≤S.length*200000:=by
 induction S with
 |nil=>exact Nat.le_refl _
 |cons o S ih=>
  have h1:=heavyW_le o
  have h2:heavyN (o::S)=heavyW o+heavyN S:=zCi ..
  rw [h2,List.length_cons,Nat.succ_mul]
  omega
section
variable {W:World} {F:Nat→Addr}
instance fn_hstore:FnIs Tryz.prog 17:=⟨by kernel_rfl⟩
instance fn_heavy14:FnIs Tryz.prog 16:=⟨by kernel_rfl⟩
instance fn_lives14:FnIs Tryz.prog 14:=⟨by kernel_rfl⟩
theorem hstore_ct (hE:ErrsOn L16 W F) (hN:NibAt W) (hg:gB≤W.heap.size) (A:SP) (a:Option Addr) (c:Nat) (l:Rows) (hA:Lv W rC 2 A a l) (hl:LightI l) :
 Ct Tryz.prog W 17 [.slice a l.length c] [A] (fun s:Nat=>.pointer (some ⟨s,0,none⟩)) (fun s=>[A,StQ s 400 2 (ofR l)]):=by
 have cn:Ct Tryz.prog W 38 [.int .i64 400] [] (fun p:Nat=>.tuple #[.pointer (some ⟨p,0,none⟩),.nilIface]) (fun p=>[DiskP p (Dsk.blank 400)]):=new_ct 400 (by omega) (by omega) hg
 have hsn:(zAy (ofR l)).length≤234*layA 400:=by rw [room400];have:=hl.snap.1;omega
 have hll:=hl.len
 have hE8:ErrsOn L8 W F:=hE.to8
 have cf:=fun (d:Nat) (xa:Option Addr) (xc:Nat)=>snewF_ct (W:=W) (F:=F) (d:=d) hE hE8 hN (n:=400) (by omega) (by omega) (opP (xa,xc) (l.map putO)) xa xc (l.map putO) (Lv.own (e:=43) (c:=xc) zBu rfl) (by rw [List.length_map];omega) (apply_ofR l) hsn
 have co:=fun (d:Nat)=>snewO_ct (W:=W) (F:=F) (d:=d) hE hE8 hN (n:=400) (by omega) (by omega) (sum_ofR l).2 hsn
 obtain ⟨r,hr⟩:∃ r,r=ofR l:=⟨_,rfl⟩
 rw [← hr] at cf co ⊢
 refine Ct.enter Tryz.func17 rfl Tryz.ntmps17 (by simp) (fun R=>?_)
 repeat' (first|(refine zAd ?_;refine zAc xE cn xP rfl (fun d=>?_))|(refine zBj ?_;refine KJ_bslice0 rfl (fun gm=>?_))|refine xst ?_|(refine xsa ?_;intro _)|(refine xsb ?_ ?_ <;>intro _<;>try (exfalso;omega))|refine xsc ?_|fail)
 refine zBk (fun x:{x:Nat × Option Addr × Nat//x.1≤l.length}=>[(3,.pointer (some ⟨d,0,none⟩)),(5,.slice x.1.2.1 ((l.take x.1.1).map putO).length x.1.2.2),(20,.slice a l.length c),(21,.int .i64 (l.length:Nat)),(22,.int .i64 (x.1.1:Nat))])
  (fun x=>[A,DiskP d (Dsk.blank 400),opP x.1.2 ((l.take x.1.1).map putO)]++R) (fun x=>l.length-x.1.1) ⟨(0,some ⟨gm,0,none⟩,0),Nat.zero_le _⟩ xB (xN) (fun ⟨(i,xa,xc),hi⟩=>?_)
 dsimp only at hi ⊢
 by_cases hlt:i<l.length
 rotate_left
 ·have ql:decide ((i:Int)<(l.length:Nat))=false:=decide_eq_false (by omega)
  obtain rfl:i=l.length:=by omega
  rw [List.take_length]
  repeat' (first|(refine zAd ?_;first|(refine zAc xE (co _) xP rfl (fun s=>?_))|(refine zAc xE (cf _ _ _) xP rfl (fun _=>?_)))|(refine zAn ?_;refine zAb (zAe rfl rfl ql) ?_)|refine xst ?_|(refine xsa ?_;intro _)|(refine xsb ?_ ?_ <;>intro _<;>try (exfalso;omega))|refine xsc ?_|fail)
  all_goals (exact xdn s)
 have ql:decide ((i:Int)<(l.length:Nat))=true:=decide_eq_true (by omega)
 obtain ⟨x,hx⟩:∃ s,l[i]? = some s:=⟨_,List.getElem?_eq_getElem hlt⟩
 have em:(l.take i).map putO++[putO x]=(l.take (i+1)).map putO:=by rw [List.take_add_one,hx,List.map_append];rfl
 have eT:((l.take i).map putO).length≤i:=by rw [List.length_map];exact List.length_take_le ..
 obtain ⟨T,hTT⟩:∃ T,T=(l.take i).map putO:=⟨_,rfl⟩
 rw [← hTT] at em eT ⊢
 have m1:(T.length+1)*40≤140737488355328:=by omega
 have m2:T.length+1≤9223372036854775807:=by omega
 refine KJ.lvSome hA xS (by omega) (fun ba oa hab=>?_)
 subst hab
 have ho1:oa+Int.toNat (i:Int)*2=oa+i*2:=by rw [Int.toNat_natCast]
 repeat' (first|(refine zAv ?_;refine zAt rfl (fun g=>?_))|(refine zBn ?_;refine zCe (l:=T) (a:=putO x) zBu rfl rfl rfl xS xS m1 m2 rfl (fun g' c'=>?_))|(refine zBj ?_;refine zBs rfl xF (by rfl) (by omega) rfl (fun gb=>?_))|(refine zAm ?_;refine zAb (zBe zCg hA rfl rfl xS ho1 hx) ?_)|(refine zBc ?_;refine zAb (zBd xV xW) ?_)|(refine zAz ?_;refine zAb (zAf (r:=((i+1:Nat):Int)) rfl rfl (by omega) (by omega)) ?_)|(refine zAn ?_;refine zAb (zAe rfl rfl ql) ?_)|refine xst ?_|(refine xsa ?_;intro _)|(refine xsb ?_ ?_ <;>intro _<;>try (exfalso;omega))|refine xsc ?_|fail)
 all_goals rw [em]
 all_goals refine zAu ⟨(i+1,some ⟨g',0,none⟩,c'),hlt⟩ (by show l.length-(i+1)<l.length-i;omega) xB (xN)
theorem heavy14_ct (B:SP) (b:Option Addr) (d:Nat) (S:List TOp) (hB:Lv W topC 5 B b S) (h1:S.length≤1000000000) :
 Ct Tryz.prog W 16 [.slice b S.length d] [B] (fun _:Unit=>.bool (decide (16384<heavyN S))) (fun _=>[B]):=by
 have hb:=heavyN_le S
 refine Ct.enter Tryz.func16 rfl Tryz.ntmps16 (by simp) (fun R=>?_)
 repeat' (first|refine xst ?_|(refine xsa ?_;intro _)|(refine xsb ?_ ?_ <;>intro _<;>try (exfalso;omega))|refine xsc ?_|fail)
 refine zBk (fun i:{i:Nat//i≤S.length}=>[(3,.int .i64 (heavyN (S.take i.1):Nat)),(6,.slice b S.length d),(7,.int .i64 (S.length:Nat)),(8,.int .i64 (i.1:Nat))])
  (fun _=>[B]++R) (fun i=>S.length-i.1) ⟨0,Nat.zero_le _⟩ xB (xN) (fun ⟨i,hi⟩=>?_)
 dsimp only at hi ⊢
 by_cases hlt:i<S.length
 rotate_left
 ·have ql:decide ((i:Int)<(S.length:Nat))=false:=decide_eq_false (by omega)
  obtain rfl:i=S.length:=by omega
  rw [List.take_length]
  have qg:decide ((16384:Int)<((heavyN S:Nat):Int))=decide (16384<heavyN S):=decide_eq_decide.2 (by omega)
  repeat' (first|(refine zAn ?_;refine zAb (zAe rfl rfl ql) ?_)|(refine zBa ?_;refine zAb (zAh rfl rfl qg) ?_)|refine xst ?_|(refine xsa ?_;intro _)|(refine xsb ?_ ?_ <;>intro _<;>try (exfalso;omega))|refine xsc ?_|fail)
  all_goals (exact xdn ())
 have ql:decide ((i:Int)<(S.length:Nat))=true:=decide_eq_true (by omega)
 obtain ⟨o,ho⟩:∃ s,S[i]? = some s:=⟨_,List.getElem?_eq_getElem hlt⟩
 have hnx:=heavy_next ho
 have hle:heavyN (S.take (i+1))≤heavyN S:=sumW_take heavyW S (i+1)
 refine KJ.lvSome hB xS (by omega) (fun ba oa hab=>?_)
 subst hab
 have ho1:oa+Int.toNat (i:Int)*5=oa+i*5:=by rw [Int.toNat_natCast]
 obtain ⟨M,hM⟩:∃ M:Nat,M=heavyN (S.take i):=⟨_,rfl⟩
 obtain ⟨M2,hM2⟩:∃ M:Nat,M=heavyN (S.take (i+1)):=⟨_,rfl⟩
 rw [← hM,← hM2] at hnx
 rw [← hM2] at hle
 rw [← hM]
 by_cases k13:o.kind=13
 ·have q13:decide (o.kind=13)=true:=decide_eq_true k13
  have q11:decide (o.kind=11)=false:=decide_eq_false (by omega)
  rw [if_pos k13,if_neg (by omega)] at hnx
  repeat' (first|(refine zAv ?_;refine zAt rfl (fun g=>?_))|(refine zAm ?_;refine zAb (zBe top_ok hB rfl rfl xS ho1 ho) ?_)|(refine zAz ?_;first|refine zAb (zAf (r:=((i+1:Nat):Int)) rfl rfl (by omega) (by omega)) ?_|refine zAb (zAf (r:=((16+min o.key.length 65536:Nat):Int)) rfl rfl (by omega) (by omega)) ?_|refine zAb (zAf (r:=((16+min o.key.length 65536+min o.val.length 65536:Nat):Int)) rfl rfl (by omega) (by omega)) ?_|refine zAb (zAf (r:=((M+(16+min o.key.length 65536+min o.val.length 65536):Nat):Int)) rfl rfl (by omega) (by omega)) ?_|refine zAb (zAf (r:=((M2:Nat):Int)) rfl rfl (by omega) (by omega)) ?_)|(refine zBm ?_;first|refine zAb (zAq rfl rfl q11) ?_|refine zAb (zAq rfl rfl q13) ?_)|(refine zAn ?_;refine zAb (zAe rfl rfl ql) ?_)|refine xst ?_|(refine xsa ?_;intro _)|(refine xsb ?_ ?_ <;>intro _<;>try (exfalso;omega))|refine xsc ?_|fail)
  all_goals refine zAu ⟨i+1,hlt⟩ (by show S.length-(i+1)<S.length-i;omega) (by rw [← hM2];exact xB) (xN)
 have q13:decide (o.kind=13)=false:=decide_eq_false k13
 rw [if_neg k13] at hnx
 by_cases k11:o.kind=11
 ·have q11:decide (o.kind=11)=true:=decide_eq_true k11
  rw [if_pos k11] at hnx
  repeat' (first|(refine zAv ?_;refine zAt rfl (fun g=>?_))|(refine zAm ?_;refine zAb (zBe top_ok hB rfl rfl xS ho1 ho) ?_)|(refine zAz ?_;first|refine zAb (zAf (r:=((i+1:Nat):Int)) rfl rfl (by omega) (by omega)) ?_|refine zAb (zAf (r:=((16+min o.key.length 65536:Nat):Int)) rfl rfl (by omega) (by omega)) ?_|refine zAb (zAf (r:=((16+min o.key.length 65536+min o.val.length 65536:Nat):Int)) rfl rfl (by omega) (by omega)) ?_|refine zAb (zAf (r:=((M+(16+min o.key.length 65536+min o.val.length 65536):Nat):Int)) rfl rfl (by omega) (by omega)) ?_|refine zAb (zAf (r:=((M2:Nat):Int)) rfl rfl (by omega) (by omega)) ?_)|(refine zBm ?_;first|refine zAb (zAq rfl rfl q11) ?_|refine zAb (zAq rfl rfl q13) ?_)|(refine zAn ?_;refine zAb (zAe rfl rfl ql) ?_)|refine xst ?_|(refine xsa ?_;intro _)|(refine xsb ?_ ?_ <;>intro _<;>try (exfalso;omega))|refine xsc ?_|fail)
  all_goals refine zAu ⟨i+1,hlt⟩ (by show S.length-(i+1)<S.length-i;omega) (by rw [← hM2];exact xB) (xN)
 ·have q11:decide (o.kind=11)=false:=decide_eq_false k11
  rw [if_neg k11] at hnx
  repeat' (first|(refine zAv ?_;refine zAt rfl (fun g=>?_))|(refine zAm ?_;refine zAb (zBe top_ok hB rfl rfl xS ho1 ho) ?_)|(refine zAz ?_;first|refine zAb (zAf (r:=((i+1:Nat):Int)) rfl rfl (by omega) (by omega)) ?_|refine zAb (zAf (r:=((16+min o.key.length 65536:Nat):Int)) rfl rfl (by omega) (by omega)) ?_|refine zAb (zAf (r:=((16+min o.key.length 65536+min o.val.length 65536:Nat):Int)) rfl rfl (by omega) (by omega)) ?_|refine zAb (zAf (r:=((M2:Nat):Int)) rfl rfl (by omega) (by omega)) ?_)|(refine zBm ?_;first|refine zAb (zAq rfl rfl q11) ?_|refine zAb (zAq rfl rfl q13) ?_)|(refine zAn ?_;refine zAb (zAe rfl rfl ql) ?_)|refine xst ?_|(refine xsa ?_;intro _)|(refine xsb ?_ ?_ <;>intro _<;>try (exfalso;omega))|refine xsc ?_|fail)
  all_goals refine zAu ⟨i+1,hlt⟩ (by show S.length-(i+1)<S.length-i;omega) (by rw [← hM2];exact xB) (xN)
theorem lives14_ct (hE:ErrsOn L16 W F) (hN:NibAt W) (hg:gB≤W.heap.size):Ct Tryz.prog W 14 [] [] (fun _:Unit=>.bool true) (fun _=>[]):=by
 obtain ⟨l,hl⟩:∃ l:Rows,l=[([97],[49]),([98],[50])]:=⟨_,rfl⟩
 have hcells:l.flatMap rC=[strV [97],strV [49],strV [98],strV [50]]:=by rw [hl];rfl
 have hlen:l.length=2:=by rw [hl];rfl
 have hI:LightI l:=light_in (by rw [hl];decide)
 have cs:=fun gb=>hstore_ct (W:=W) (F:=F) hE hN hg (zAk gb [strV [97],strV [49],strV [98],strV [50]] 51) (some ⟨gb,0,none⟩) 2 l (Lv.cells hcells) hI
 rw [hlen] at cs
 have hr0:RisR (ofR l):=(sum_ofR l).2
 have e0:ofR l=[([97],[49]),([98],[50])]:=by rw [hl];decide
 obtain ⟨r0,h0⟩:∃ r,r=ofR l:=⟨_,rfl⟩
 rw [← h0] at cs hr0 e0
 have cb:=fun s=>txbeginB (W:=W) (s:=s) (n:=400) (k:=2) (r:=r0) (by omega) hr0
 obtain ⟨r1,h1⟩:∃ r,r=putR r0 [99] [51]:=⟨_,rfl⟩
 obtain ⟨r2,h2⟩:∃ r,r=mdel r1 [98]:=⟨_,rfl⟩
 obtain ⟨r3,h3⟩:∃ r,r=putR r2 [97] [49]:=⟨_,rfl⟩
 have f1:r1=[([97],[49]),([98],[50]),([99],[51])]:=by rw [h1,e0];decide
 have f2:r2=[([97],[49]),([99],[51])]:=by rw [h2,f1];decide
 have f3:r3=[([97],[49]),([99],[51])]:=by rw [h3,f2];decide
 have c1:=fun s t=>txputB (W:=W) (t:=t) (s:=s) (m:=0) (r0:=r0) (Rs:=[]) (r:=r0) [99] [51] (by rw [e0];decide) (by omega)
 have c2:=fun s t=>txdelB (W:=W) (t:=t) (s:=s) (m:=1) (r0:=r0) (Rs:=[r0]) (r:=r1) [98] (by rw [f1];decide) (by omega)
 have c3:=fun s t=>txputB (W:=W) (t:=t) (s:=s) (m:=2) (r0:=r0) (Rs:=[r0,r1]) (r:=r2) [97] [49] (by rw [f2];decide) (by omega)
 rw [← h1] at c1
 rw [← h2] at c2
 rw [← h3] at c3
 have co:=fun s t=>txopsB (W:=W) (t:=t) (s:=s) (n:=400) (k:=2) (r0:=r0) (Rs:=[r0,r1,r2]) (r:=r3) (m:=3) (by omega)
 have eb:zAr r0 r3=[⟨true,[98],[]⟩,⟨false,[99],[51]⟩]:=by rw [e0,f3];decide
 rw [eb] at co
 have cg:=fun s t=>txgetB (W:=W) (t:=t) (s:=s) (r0:=r0) (Rs:=[r0,r1,r2]) (r:=r3) (m:=3) [98]
 have el:lk r3 [98]=none:=by rw [f3];decide
 rw [el] at cg
 have cm:=fun s t=>txmarkB (W:=W) (t:=t) (s:=s) (r0:=r0) (Rs:=[r0,r1,r2]) (r:=r3) (m:=3)
 clear h0 h1 h2 h3 f1 f2 f3 eb el e0 hl
 obtain ⟨os,hos⟩:∃ os:List BOp,os=[⟨true,[98],[]⟩,⟨false,[99],[51]⟩]:=⟨_,rfl⟩
 have o0:os[0]? = some ⟨true,[98],[]⟩:=by rw [hos];rfl
 have o1:os[1]? = some ⟨false,[99],[51]⟩:=by rw [hos];rfl
 have ol:os.length=2:=by rw [hos];rfl
 rw [← hos] at co
 refine Ct.enter Tryz.func14 rfl Tryz.ntmps14 (by simp) (fun R=>?_)
 repeat' (first|(refine zAd ?_;first|(refine zAc xE (cm _ _) xP rfl (fun _=>?_))|(refine zAc xE (cg _ _) xP rfl (fun _=>?_))|(refine zAc xE (co _ _) xP rfl (fun x=>?_);obtain ⟨xa,xc⟩:=x;refine KJ.lsSome (l:=os) (a:=xa) (c:=xc) (m:=os.length) xS (by omega) (fun gx hgx=>?_);subst hgx)|(refine zAc xE (c1 _ _) xP rfl (fun _=>?_))|(refine zAc xE (c2 _ _) xP rfl (fun _=>?_))|(refine zAc xE (c3 _ _) xP rfl (fun _=>?_))|(refine zAc xE (cb _) xP rfl (fun t=>?_))|(refine zAc xE (cs _) xP rfl (fun s=>?_)))|(refine zBj ?_;refine KJ_bsliceN (len:=2) (places:=[(0,2),(2,2)]) (base:=[strV [],strV [],strV [],strV []]) xV (by rfl) (by rfl) xW (by omega) rfl (fun gb=>?_))|(refine zAm ?_;first|refine zAb (Ev_loadLsF (j:=2) zBu rfl xS rfl (by rfl) o1 rfl) ?_|refine zAb (Ev_loadLsF (j:=0) zBu rfl xS rfl (by rfl) o0 rfl) ?_|refine zAb (Ev_loadLsF (j:=1) zBu rfl xS rfl (by rfl) o0 rfl) ?_)|(refine zBc ?_;refine zAb (zBd xV xW) ?_)|(refine zBm ?_;first|refine zAb (Ev_eqlS_t rfl rfl rfl) ?_|refine zAb (Ev_eqlI_t rfl rfl (show ((os.length:Nat):Int)=2 by omega)) ?_|refine zAb (zAq (q:=true) rfl rfl rfl) ?_)|refine xst ?_|(refine xsa ?_;intro _)|(refine xsb ?_ ?_ <;>intro _<;>try (exfalso;omega))|refine xsc ?_|fail)
 all_goals (exact xdn ())
end
end Go.Proofs.YtahgdagcnkpnbaaGreatDoor
