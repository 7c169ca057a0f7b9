/-
  TxN9, TxNC.
-/
import Derived.Test.YtgipenahkmbelaaGreatDoorTGJ
import Derived.Test.YtgipenahkmbelaaGreatDoorTFZ
set_option maxHeartbeats 64000000
namespace Go.Proofs.YtgipenahkmbelaaGreatDoor
open Go Go.RowKit
section
variable {W:World} {F:Nat→Addr} {w s n:Nat}
theorem slOk_star {α:Type} {enc:α→List Value} {e sz:Nat} {a:Option Addr} {c m:Nat} {l:List α} {H:List SP} {g:Hl} (q:zAj (lsP enc e sz (.slice a m c) l::H) g):SlOk a c l.length:=by
 obtain ⟨_,_,_,_,_,⟨_,s1⟩,_⟩:=q
 rcases s1 with ⟨hv,h0⟩|⟨g,cap,cur,hv,_,h1,_⟩
 ·cases hv
  rw [h0]
  exact SlOk.zero
 ·cases hv
  exact SlOk.some h1
theorem plstart_ct (hE:ErrsOn L16 W F) (hN:NibAt W) (hg:gB≤W.heap.size) (A:SP) (a:Option Addr) (c:Nat) {l:Rows} (hA:Lv W rC 2 A a l) (hl:LightI l) :
 Ct Tryz.prog W 7 [.slice a l.length c] [A] (fun z:Nat × Nat=>.pointer (some ⟨z.1,0,none⟩)) (fun z=>[A,PlP W z.1 z.2 0]):=by
 refine (start14_ct hE hN hg A a c hA hl).to (fun z=>(z.1,z.2.1)) (fun _=>rfl) (fun z R g q=>?_)
 obtain ⟨w,s,t,ba,bc⟩:=z
 have hI:=PlI.start hl
 have q1:=nilrow_star (e:=49) (sz:=3) g q
 have q2:=all_shut (key:=98) (L:=[roP (none,0) []]) (nilrow_star (e:=36) (sz:=2) g q1)
 have q3:=all_shut (key:=99) (L:=[roP (none,0) []]) (nilrow_star (e:=36) (sz:=2) g q2)
 have e:∀ g,zAj ([allP 99 [roP (none,0) []],allP 98 [roP (none,0) []],opP (none,0) [],A,wP w s t ba (ofR l).length bc none 0 0 false .nilFunc .nilFunc (.slice none 0 0) (.slice none 0 0),TxB t s (ofR l) [] (ofR l) 0,StQ s 400 2 (ofR l),roP (ba,bc) (ofR l)]++R) g→zAj ([roP (ba,bc) (ofR l),wP w s t ba (ofR l).length bc none 0 0 false .nilFunc .nilFunc (.slice none 0 0) (.slice none 0 0),TxB t s (ofR l) [] (ofR l) 0,StQ s 400 2 (ofR l),opP (none,0) [],allP 98 [roP (none,0) []],allP 99 [roP (none,0) []],A]++R) g:=(xN)
 have q4:=e g q3
 have hs:=slOk_star q4
 have e2:∀ g,zAj ([roP (ba,bc) (ofR l),wP w s t ba (ofR l).length bc none 0 0 false .nilFunc .nilFunc (.slice none 0 0) (.slice none 0 0),TxB t s (ofR l) [] (ofR l) 0,StQ s 400 2 (ofR l),opP (none,0) [],allP 98 [roP (none,0) []],allP 99 [roP (none,0) []],A]++R) g→zAj ([wP w s t ba (ofR l).length bc none 0 0 false .nilFunc .nilFunc (.slice none 0 0) (.slice none 0 0),TxB t s (ofR l) [] (ofR l) 0,StQ s 400 2 (ofR l),roP (ba,bc) (ofR l),opP (none,0) [],allP 98 [roP (none,0) []],allP 99 [roP (none,0) []],A]++R) g:=(xN)
 exact starL_swap g (pl_in (n:=0) (x:=⟨t,[],roP (ba,bc) (ofR l),ba,bc,none,0,ofR l,[],false,0,2,itNo,itNo⟩) (R:=A::R) ⟨Lv.own (e:=36) (c:=bc) zCc rfl,hs,hI,Nat.le_refl _,Nat.le_refl _,ItOk.no _,ItOk.no _⟩ g (e2 g q4))
theorem pl_do (hE:ErrsAt W F) (hN:NibAt W) (hg:gB≤W.heap.size) (o:TOp) (hn:n+zBa o≤20000) (hw:zBa o≤16384) (hon:-9223372036854775808≤o.n∧o.n≤9223372036854775807) (_hoi:-9223372036854775808≤o.i∧o.i≤9223372036854775807) :
 Ct Tryz.prog W 8 [.pointer (some ⟨w,0,none⟩),.agg (topC o).toArray] [PlP W w s n] (fun _:Unit=>.bool true) (fun _=>[PlP W w s (n+zBa o)]):=by
 have hE16:ErrsOn L16 W F:=hE.to16
 refine zBm (Hs:=[]) fun ⟨x,hx⟩=>?_
 dsimp only
 by_cases k1:o.kind=1
 ·exact pl_begin hx o k1 hn hw
 by_cases k2:o.kind=2
 ·exact pl_put hx o k2 hn hw hE16
 by_cases k3:o.kind=3
 ·exact pl_del hx o k3 hn hw hE16
 by_cases k4:o.kind=4
 ·exact pl_get hx o k4 hn hw
 by_cases k5:o.kind=5
 ·exact pl_range hx o k5 hn hw
 by_cases k6:o.kind=6
 ·exact pl_go hx o k6 hn hw hon
 by_cases k7:o.kind=7
 ·exact pl_mark hx o k7 hn hw
 by_cases k8:o.kind=8
 ·by_cases hj:o.n<0∨(x.st.length:Int)<o.n
  ·exact pl_back_bad hx o k8 hn hw hE16 hj
  ·exact pl_back hx o k8 hn hw hE16 (j:=o.n.toNat) (by omega) (by omega)
 by_cases k9:o.kind=9
 ·exact pl_ops hx o k9 hn hw
 by_cases k10:o.kind=10
 ·exact pl_size hx o k10 hn hw
 by_cases k11:o.kind=11
 ·exact pl_com hx o k11 hn hw hE hN hg
 by_cases k12:o.kind=12
 ·exact pl_drop hx o k12 hn hw
 by_cases k13:o.kind=13
 ·exact pl_big hx o k13 hn hw hE16 hon
 exact pl_none hx o k1 k2 k3 k4 k5 k6 k7 k8 k9 k10 k11 k12 k13 hn
end
end Go.Proofs.YtgipenahkmbelaaGreatDoor
namespace Go.Proofs.YtgipenahkmbelaaGreatDoor
open Go Go.RowKit
section
variable {W:World} {F:Nat→Addr}
set_option maxRecDepth 100000 in
theorem plays14_ct (hE:ErrsAt W F) (hN:NibAt W) (hg:gB≤W.heap.size) (A B:SP) (a b:Option Addr) (c d:Nat) (l:Rows) (S:List TOp) (hA:Lv W rC 2 A a l) (hB:Lv W topC 5 B b S) (X:Args14 l S) :
 Ct Tryz.prog W 3 [.slice a l.length c,.slice b S.length d] [A,B] (fun _:Unit=>.bool true) (fun _=>[A,B]):=by
 have x1:=X.ll
 have x2:=X.ls
 have hE16:ErrsOn L16 W F:=hE.to16
 have cL:=lives14_ct hE16 hN hg
 have cW:=hlight_ct A a c l hA (by omega)
 have cH:=heavy14_ct B b d S hB (by omega)
 by_cases hl0:lightN l≤8192
 rotate_left
 ·rw [decide_eq_false hl0] at cW
  refine Ct.enter Tryz.func3 rfl Tryz.ntmps3 (by simp) (fun R=>?_)
  repeat' (first|(refine zAd ?_;first|(refine zAc xE cW xP rfl (fun _=>?_))|(refine zAc xE cL xP rfl (fun _=>?_)))|refine xst ?_|(refine xsa ?_;intro _)|(refine xsb ?_ ?_ <;>intro _<;>try (exfalso;omega))|refine xsc ?_|fail)
  all_goals (exact xdn ())
 rw [decide_eq_true hl0] at cW
 by_cases hh0:16384<heavyN S
 ·rw [decide_eq_true hh0] at cH
  refine Ct.enter Tryz.func3 rfl Tryz.ntmps3 (by simp) (fun R=>?_)
  repeat' (first|(refine zAd ?_;first|(refine zAc xE cH xP rfl (fun _=>?_))|(refine zAc xE cW xP rfl (fun _=>?_))|(refine zAc xE cL xP rfl (fun _=>?_)))|refine xst ?_|(refine xsa ?_;intro _)|(refine xsb ?_ ?_ <;>intro _<;>try (exfalso;omega))|refine xsc ?_|fail)
  all_goals (exact xdn ())
 rw [decide_eq_false hh0] at cH
 have hl:=light_in hl0
 clear hl0
 have cS:=plstart_ct hE16 hN hg A a c hA hl
 have hn0:heavyN S≤16384:=by omega
 have w9:zBa (⟨9,[],[],0,0⟩:TOp)=16:=rfl
 have w10:zBa (⟨10,[],[],0,0⟩:TOp)=16:=rfl
 have w7:zBa (⟨7,[],[],0,0⟩:TOp)=16:=rfl
 have w11:zBa (⟨11,[],[],0,0⟩:TOp)=416:=rfl
 have w4:zBa (⟨4,[],[],0,0⟩:TOp)=16:=rfl
 have z0:(-9223372036854775808:Int)≤0∧(0:Int)≤9223372036854775807:=by omega
 obtain ⟨m0,hm0⟩:∃ m,m=heavyN S:=⟨_,rfl⟩
 have hm:m0≤16384:=by omega
 have d1:=fun (w s:Nat)=>pl_do (w:=w) (s:=s) (n:=m0) hE hN hg ⟨9,[],[],0,0⟩ (by omega) (by omega) z0 z0
 rw [w9] at d1
 have d2:=fun (w s:Nat)=>pl_do (w:=w) (s:=s) (n:=m0+16) hE hN hg ⟨10,[],[],0,0⟩ (by omega) (by omega) z0 z0
 rw [w10] at d2
 have d3:=fun (w s:Nat)=>pl_do (w:=w) (s:=s) (n:=m0+16+16) hE hN hg ⟨7,[],[],0,0⟩ (by omega) (by omega) z0 z0
 rw [w7] at d3
 have d4:=fun (w s:Nat)=>pl_do (w:=w) (s:=s) (n:=m0+16+16+16) hE hN hg ⟨11,[],[],0,0⟩ (by omega) (by omega) z0 z0
 rw [w11] at d4
 have d5:=fun (w s:Nat)=>pl_do (w:=w) (s:=s) (n:=m0+16+16+16+416) hE hN hg ⟨4,[],[],0,0⟩ (by omega) (by omega) z0 z0
 rw [w4] at d5
 have d6:=fun (w s:Nat)=>pl_do (w:=w) (s:=s) (n:=m0+16+16+16+416+16) hE hN hg ⟨9,[],[],0,0⟩ (by omega) (by omega) z0 z0
 rw [w9] at d6
 clear w9 w10 w7 w11 w4
 refine Ct.enter Tryz.func3 rfl Tryz.ntmps3 (by simp) (fun R=>?_)
 repeat' (first|(refine zAd ?_;first|(refine zAc xE cS xP rfl (fun z=>?_);obtain ⟨w,s⟩:=z)|(refine zAc xE cH xP rfl (fun _=>?_))|(refine zAc xE cW xP rfl (fun _=>?_))|(refine zAc xE cL xP rfl (fun _=>?_)))|refine xst ?_|(refine xsa ?_;intro _)|(refine xsb ?_ ?_ <;>intro _<;>try (exfalso;omega))|refine xsc ?_|fail)
 refine zBv (fun x:{i:Nat//i≤S.length}=>[(5,.bool true),(6,.pointer (some ⟨w,0,none⟩)),(26,.slice b S.length d),(27,.int .i64 (S.length:Nat)),(28,.int .i64 (x.1:Nat))])
  (fun x=>[A,B,PlP W w s (heavyN (S.take x.1))]++R) (fun x=>S.length-x.1) ⟨0,Nat.zero_le _⟩ xB (xN) (fun ⟨i,hi⟩=>?_)
 dsimp only at hi ⊢
 by_cases hlt:i<S.length
 ·have ql:decide ((i:Int)<(S.length:Nat))=true:=decide_eq_true (by omega)
  obtain ⟨o,ho⟩:∃ s,S[i]? = some s:=⟨_,List.getElem?_eq_getElem hlt⟩
  have hnx:heavyN (S.take (i+1))=heavyN (S.take i)+zBa o:=heavy_next ho
  have hle:heavyN (S.take (i+1))≤heavyN S:=sumW_take zBa S (i+1)
  obtain ⟨-,-,ob1,ob2⟩:=X.op o (List.mem_of_getElem? ho)
  have cD:=pl_do (w:=w) (s:=s) (n:=heavyN (S.take i)) hE hN hg o (by omega) (by omega) ob1 ob2
  rw [← hnx] at cD
  refine KJ.lvSome hB xS (by omega) (fun b1 o1 hab=>?_)
  have ho1:o1+Int.toNat (i:Int)*5=o1+i*5:=by rw [Int.toNat_natCast]
  subst hab
  repeat' (first|(refine zBc ?_;refine zAu rfl (fun g=>?_))|(refine zAd ?_;refine zAc xE cD xP rfl (fun _=>?_))|(refine zAm ?_;refine zAb (zBn top_ok hB rfl rfl xS ho1 ho) ?_)|(refine zBh ?_;refine zAb (zAi (r:=((i+1:Nat):Int)) rfl rfl (by omega) (by omega)) ?_)|(refine zAq ?_;refine zAb (zAe rfl rfl ql) ?_)|refine xst ?_|(refine xsa ?_;intro _)|(refine xsb ?_ ?_ <;>intro _<;>try (exfalso;omega))|refine xsc ?_|fail)
  all_goals refine zAv ⟨i+1,hlt⟩ (by show S.length-(i+1)<S.length-i;omega) xB (xN)
 have ql:decide ((i:Int)<(S.length:Nat))=false:=decide_eq_false (by omega)
 obtain rfl:i=S.length:=by omega
 rw [List.take_length,← hm0]
 clear hm0
 repeat' (first|(refine zAd ?_;first|(refine zAc xE (d6 _ _) xP rfl (fun _=>?_))|(refine zAc xE (d5 _ _) xP rfl (fun _=>?_))|(refine zAc xE (d4 _ _) xP rfl (fun _=>?_))|(refine zAc xE (d3 _ _) xP rfl (fun _=>?_))|(refine zAc xE (d2 _ _) xP rfl (fun _=>?_))|(refine zAc xE (d1 _ _) xP rfl (fun _=>?_)))|(refine zAy ?_;refine zAb (zAz xV xW) ?_)|(refine zAq ?_;refine zAb (zAe rfl rfl ql) ?_)|refine xst ?_|(refine xsa ?_;intro _)|(refine xsb ?_ ?_ <;>intro _<;>try (exfalso;omega))|refine xsc ?_|fail)
 all_goals (exact xdn ())
theorem plays14_law (hE:ErrsAt W F) (hN:NibAt W) (hg:gB≤W.heap.size) (a b:Option Addr) (c d:Nat) (l:Rows) (S:List TOp) (hA:Lv W rC 2 noP a l) (hB:Lv W topC 5 noP b S) (X:Args14 l S) :
 Ct Tryz.prog W 3 [.slice a l.length c,.slice b S.length d] [] (fun _:Unit=>.bool true) (fun _=>[]):=(plays14_ct hE hN hg noP noP a b c d l S hA hB X).noP14
end
end Go.Proofs.YtgipenahkmbelaaGreatDoor
