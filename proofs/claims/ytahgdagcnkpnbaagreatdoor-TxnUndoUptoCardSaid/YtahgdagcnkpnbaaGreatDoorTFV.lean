/-
  TxL3.
-/
import Derived.Test.YtahgdagcnkpnbaaGreatDoorTFS
import Derived.Test.YtahgdagcnkpnbaaGreatDoorTBQ
set_option maxHeartbeats 64000000
namespace Go.Proofs.YtahgdagcnkpnbaaGreatDoor
open Go Go.RowKit
abbrev plTFV0:Pl:=(.op 0 (.op 1 (.op 2 (.op 3 (.op 4 (.ef 5 [] (.op 6 (.op 7 (.op 8 (.op 9 (.op 10 (.op 11 (.op 12 (.op 13 (.op 14 (.op 15 (.op 16 (.op 17 (.ef 18 [16,15] (.op 19 (.op 20 .nil)))))))))))))))))))))
abbrev plTFV1:Pl:=(.op 0 (.ef 1 [] (.op 2 (.op 3 (.op 4 (.op 6 (.ef 5 [6] (.ef 7 [] (.op 8 (.op 9 (.op 10 (.op 12 (.ef 11 [12] (.op 13 (.op 14 (.op 15 .nil))))))))))))))))
abbrev visT (r0:Rows) (S:List TOp) (i:Nat):Rows:=(seeT r0 S i).take (visN fffB (seeT r0 S i))
abbrev osT (r0:Rows) (S:List TOp) (i:Nat):List BOp:=zAn r0 (seeT r0 S i)
abbrev szT (r0:Rows) (S:List TOp) (i:Nat):Nat:=(zAv (seeT r0 S i)).length
theorem HeavyI.take {S:List TOp} (h:HeavyI S) (i:Nat):HeavyI (S.take i):=
 ⟨fun o ho=>h.short o (List.mem_of_mem_take ho),by rw [List.map_take];exact Nat.le_trans (sumW_take _ _ _) h.sum,by have:=h.len;rw [List.length_take];omega⟩
section
variable {W:World} {F:Nat→Addr} {r:Rows} {s t m n k:Nat}
theorem txcommitE (hE:ErrsOn L16 W F):Ct Tryz.prog W 27 [.pointer (some ⟨t,0,none⟩)] [TxQ t r true m] (fun _:Unit=>errV F 19) (fun _=>[TxQ t r true m]):=by
 have e19:W.cell? ⟨0,0,none⟩=some (errV F 19):=hE.at_ 19 (by decide)
 refine zBz (Hs:=[]) fun ⟨(s,K,U),hU⟩=>?_
 refine Ct.to (X:=Unit) (H':=fun _=>[TxP t s r K U true]) ?_ id (fun _=>rfl) (fun _ R g q=>TxQ.star hU g q)
 refine Ct.enter Tryz.func27 rfl Tryz.ntmps27 (by simp) (fun R=>?_)
 refine KJ.txOpen xS (fun x hT=>?_)
 repeat' (first|(refine zAm ?_;refine zAc (zAq rfl e19) ?_)|refine xst ?_|(refine xsa ?_;intro _)|(refine xsb ?_ ?_ <;>intro _<;>try (exfalso;omega))|refine xsc ?_|fail)
 all_goals refine KJ.txShut (s:=s) (K:=K) (U:=U) (ended:=true) x hT xP ?_
 all_goals (exact xdn ())
set_option maxRecDepth 100000 in
theorem tundo14_ct (hE:ErrsOn L16 W F) (hN:NibAt W) (hg:gB≤W.heap.size) (A B:SP) (a b:Option Addr) (c d:Nat) (l:Rows) (S:List TOp) (at_:Int) (hA:Lv W rC 2 A a l) (hB:Lv W topC 5 B b S) (X:Args14 l S) (_hat:-9223372036854775808≤at_∧at_≤9223372036854775807) :
 Ct Tryz.prog W 5 [.slice a l.length c,.slice b S.length d,.int .i64 at_] [A,B] (fun _:Unit=>.bool true) (fun _=>[A,B]):=by
 have x1:=X.ll
 have x2:=X.ls
 have cL:=lives14_ct hE hN hg
 have cW:=hlight_ct A a c l hA (by omega)
 have cH:=heavy14_ct B b d S hB (by omega)
 have hE8:ErrsOn L8 W F:=hE.to8
 by_cases hl0:lightN l≤8192
 rotate_left
 ·rw [decide_eq_false hl0] at cW
  refine Ct.enter Tryz.func5 rfl Tryz.ntmps5 (by simp) (fun R=>?_)
  repeat' (first|(refine zAd ?_;first|(refine zAb xE cW xP rfl (fun _=>?_))|(refine zAb xE cL xP rfl (fun _=>?_)))|refine xst ?_|(refine xsa ?_;intro _)|(refine xsb ?_ ?_ <;>intro _<;>try (exfalso;omega))|refine xsc ?_|(refine zAa (id:=27) plTFV0 (by kernel_rfl) (by kernel_rfl) ?_)|(refine zAa (id:=30) plTFV1 (by kernel_rfl) (by kernel_rfl) ?_)|refine zAj ?_ ?_|refine zAi rfl rfl rfl rfl rfl ?_ ?_|refine zAf ?_ ?_|exact Rech.nil|fail)
  all_goals (exact xdn ())
 rw [decide_eq_true hl0] at cW
 by_cases hh0:16384<heavyN S
 ·rw [decide_eq_true hh0] at cH
  refine Ct.enter Tryz.func5 rfl Tryz.ntmps5 (by simp) (fun R=>?_)
  repeat' (first|(refine zAd ?_;first|(refine zAb xE cH xP rfl (fun _=>?_))|(refine zAb xE cW xP rfl (fun _=>?_))|(refine zAb xE cL xP rfl (fun _=>?_)))|refine xst ?_|(refine xsa ?_;intro _)|(refine xsb ?_ ?_ <;>intro _<;>try (exfalso;omega))|refine xsc ?_|(refine zAa (id:=27) plTFV0 (by kernel_rfl) (by kernel_rfl) ?_)|(refine zAa (id:=30) plTFV1 (by kernel_rfl) (by kernel_rfl) ?_)|refine zAj ?_ ?_|refine zAi rfl rfl rfl rfl rfl ?_ ?_|refine zAf ?_ ?_|exact Rech.nil|fail)
  all_goals (exact xdn ())
 rw [decide_eq_false hh0] at cH
 have hl:=light_in hl0
 have hS:=heavy_in (S:=S) (by omega)
 have hll:=hl.len
 have hSl:=hS.len
 clear hl0 hh0
 have h0:RisR (ofR l):=(sum_ofR l).2
 have h0l:=hl.snap.2
 have hfit:∀ i,(zAv (seeT (ofR l) S i)).length≤24600∧(seeT (ofR l) S i).length≤2048∧(osT (ofR l) S i).length≤1024:=fun i=>by
  obtain ⟨_,f2,f3⟩:=comm_fits hl (hS.take i)
  obtain ⟨_,f4⟩:=between_small h0 ((S.take i).map opTx)
  refine ⟨f2,f3,Nat.le_trans f4 ?_⟩
  rw [List.length_map]
  exact (hS.take i).len
 have cS:=hstore_ct hE hN hg A a c l hA hl
 obtain ⟨r0,hr0⟩:∃ x,x=ofR l:=⟨_,rfl⟩
 rw [← hr0] at cS hfit h0 h0l
 clear hr0
 have cB:=fun s=>txbeginB (W:=W) (s:=s) (n:=400) (k:=2) (r:=r0) (by omega) h0
 have cN:∀ (t s i m:Nat),m≤S.length→Ct Tryz.prog W 21 [.pointer (some ⟨t,0,none⟩)] [TxB t s r0 (hisT r0 S i) (seeT r0 S i) m,StQ s 400 2 r0]
  (fun z:(Option Addr × Nat) × (Option Addr × Nat)=>.tuple #[.agg (lookC z.1 z.2 (visT r0 S i) (osT r0 S i) (szT r0 S i) i).toArray,.bool true])
  (fun z=>[TxB t s r0 (hisT r0 S i) (seeT r0 S i) m,StQ s 400 2 r0,roP z.1 (visT r0 S i),opP z.2 (osT r0 S i)]):=fun t s i m hm=>by
  obtain ⟨f1,f2,f3⟩:=hfit i
  have:=seen14_ct (W:=W) (t:=t) (s:=s) (n:=400) (k:=2) (m:=m) (r0:=r0) (Rs:=hisT r0 S i) (r:=seeT r0 S i) (by omega) (by omega) h0 (Nat.le_trans f3 (by omega)) (by omega) (by omega) (visT r0 S i) rfl
  rw [hisT_len] at this
  exact this
 have c0:=fun t s=>cN t s 0 0 (Nat.zero_le _)
 rw [hisT_zero,seeT_zero] at c0
 refine Ct.enter Tryz.func5 rfl Tryz.ntmps5 (by simp) (fun R=>?_)
 repeat' (first|(refine zAx ?_;first|(refine zAw (d:=11) rfl (fun g11=>?_))|(refine zAw (d:=10) rfl (fun g10=>?_)))|(refine zAd ?_;first|(refine zAb xE (c0 _ _) xP rfl (fun z=>?_);obtain ⟨xf,yf⟩:=z)|(refine zAb xE (cB _) xP rfl (fun t=>?_))|(refine zAb xE cS xP rfl (fun s=>?_))|(refine zAb xE cH xP rfl (fun _=>?_))|(refine zAb xE cW xP rfl (fun _=>?_))|(refine zAb xE cL xP rfl (fun _=>?_)))|refine xst ?_|(refine xsa ?_;intro _)|(refine xsb ?_ ?_ <;>intro _<;>try (exfalso;omega))|refine xsc ?_|(refine zAa (id:=27) plTFV0 (by kernel_rfl) (by kernel_rfl) ?_)|(refine zAa (id:=30) plTFV1 (by kernel_rfl) (by kernel_rfl) ?_)|refine zAj ?_ ?_|refine zAi rfl rfl rfl rfl rfl ?_ ?_|refine zAf ?_ ?_|exact Rech.nil|fail)
 have hZ1:Lv W rC 2 (allP 92 [roP xf (visT r0 S 0),opP yf (osT r0 S 0)]) xf.1 (visT r0 S 0):=(Lv.own (e:=51) (c:=xf.2) rC_ok rfl).all Sel.here
 have hZ2:Lv W opC 3 (allP 92 [roP xf (visT r0 S 0),opP yf (osT r0 S 0)]) yf.1 (osT r0 S 0):=(Lv.own (e:=43) (c:=yf.2) zBt rfl).all (Sel.there Sel.here)
 refine KJ.allShut (L:=[roP xf (visT r0 S 0),opP yf (osT r0 S 0)]) 92 xP ?_
 obtain ⟨Z0,hZ0⟩:∃ Z,Z=allP 92 [roP xf (visT r0 S 0),opP yf (osT r0 S 0)]:=⟨_,rfl⟩
 rw [← hZ0] at hZ1 hZ2 ⊢
 clear hZ0
 refine zBp (fun x:{x:(Nat × Nat) × SP × (Option Addr × Nat) × (Option Addr × Nat)//x.1.1≤S.length∧x.1.2≤x.1.1∧Lv W rC 2 x.2.1 xf.1 (visT r0 S 0)∧Lv W opC 3 x.2.1 yf.1 (osT r0 S 0)∧Lv W rC 2 x.2.1 x.2.2.1.1 (visT r0 S x.1.2)∧Lv W opC 3 x.2.1 x.2.2.2.1 (osT r0 S x.1.2)}=>[(1,.slice b S.length d),(2,.int .i64 at_),(7,.bool true),(8,.pointer (some ⟨s,0,none⟩)),(9,.pointer (some ⟨t,0,none⟩)),(10,.pointer (some ⟨g10,0,none⟩)),(11,.pointer (some ⟨g11,0,none⟩)),(12,.bool true),(45,.slice b S.length d),(46,.int .i64 (S.length:Nat)),(47,.int .i64 (x.1.1.1:Nat))])
  (fun x=>[A,B,TxB t s r0 (hisT r0 S x.1.1.1) (seeT r0 S x.1.1.1) x.1.1.1,StQ s 400 2 r0,zAh g10 (lookC xf yf (visT r0 S 0) (osT r0 S 0) (szT r0 S 0) 0) 39,zAh g11 (lookC x.1.2.2.1 x.1.2.2.2 (visT r0 S x.1.1.2) (osT r0 S x.1.1.2) (szT r0 S x.1.1.2) x.1.1.2) 39,x.1.2.1]++R) (fun x=>S.length-x.1.1.1) ⟨((0,0),Z0,xf,yf),Nat.zero_le _,Nat.le_refl _,hZ1,hZ2,hZ1,hZ2⟩ xB (xN) (fun ⟨((i,j),Z,zx,zy),hi,hj,z1,z2,z3,z4⟩=>?_)
 dsimp only at hi hj z1 z2 z3 z4 ⊢
 by_cases hlt:i<S.length
 ·have ql:decide ((i:Int)<(S.length:Nat))=true:=decide_eq_true (by omega)
  obtain ⟨o,ho⟩:∃ s,S[i]? = some s:=⟨_,List.getElem?_eq_getElem hlt⟩
  have hsl:=seeT_len r0 S i
  refine KJ.lvSome hB xS (by omega) (fun ba oa hab=>?_)
  subst hab
  have ho1:oa+Int.toNat (i:Int)*5=oa+i*5:=by rw [Int.toNat_natCast]
  by_cases ka:((i:Nat):Int)=at_
  ·have qa:decide (((i:Nat):Int)=at_)=true:=decide_eq_true ka
   have cI:=cN t s i i hi
   by_cases k3:o.kind=3
   ·have q3:decide (o.kind=3)=true:=decide_eq_true k3
    have cD:=txdelB (W:=W) (t:=t) (s:=s) (m:=i) (r0:=r0) (Rs:=hisT r0 S i) (r:=seeT r0 S i) o.key (by omega) (by omega)
    rw [← hisT_next,← seeT_del r0 ho k3] at cD
    repeat' (first|(refine zAx ?_;refine zAw (d:=14) rfl (fun g=>?_))|(refine zAd ?_;first|(refine zAb xE cD xP rfl (fun _=>?_))|(refine zAb xE cI xP rfl (fun z=>?_);obtain ⟨xn,yn⟩:=z))|(refine zAm ?_;refine zAc (zBk top_ok hB rfl rfl xS ho1 ho) ?_)|(refine zBb ?_;refine zAc (zAg (r:=((i+1:Nat):Int)) rfl rfl (by omega) (by omega)) ?_)|(refine zBf ?_;first|refine zAc (zAr rfl rfl qa) ?_|refine zAc (zAr rfl rfl q3) ?_)|(refine zAp ?_;refine zAc (zAe rfl rfl ql) ?_)|refine xst ?_|(refine xsa ?_;intro _)|(refine xsb ?_ ?_ <;>intro _<;>try (exfalso;omega))|refine xsc ?_|(refine zAa (id:=27) plTFV0 (by kernel_rfl) (by kernel_rfl) ?_)|(refine zAa (id:=30) plTFV1 (by kernel_rfl) (by kernel_rfl) ?_)|refine zAj ?_ ?_|refine zAi rfl rfl rfl rfl rfl ?_ ?_|refine zAf ?_ ?_|exact Rech.nil|fail)
    all_goals refine KJ.allShut (L:=[Z,roP xn (visT r0 S i),opP yn (osT r0 S i)]) 92 xP ?_
    all_goals refine zAu ⟨((i+1,i),allP 92 [Z,roP xn (visT r0 S i),opP yn (osT r0 S i)],xn,yn),hlt,Nat.le_succ i,z1.all Sel.here,z2.all Sel.here,(Lv.own (e:=51) (c:=xn.2) rC_ok rfl).all (Sel.there Sel.here),(Lv.own (e:=43) (c:=yn.2) zBt rfl).all (Sel.there (Sel.there Sel.here))⟩ (by show S.length-(i+1)<S.length-i;omega) xB (xN)
   ·have q3:decide (o.kind=3)=false:=decide_eq_false k3
    have cD:=txputB (W:=W) (t:=t) (s:=s) (m:=i) (r0:=r0) (Rs:=hisT r0 S i) (r:=seeT r0 S i) o.key o.val (by omega) (by omega)
    rw [← hisT_next,← seeT_put r0 ho k3] at cD
    repeat' (first|(refine zAx ?_;refine zAw (d:=14) rfl (fun g=>?_))|(refine zAd ?_;first|(refine zAb xE cD xP rfl (fun _=>?_))|(refine zAb xE cI xP rfl (fun z=>?_);obtain ⟨xn,yn⟩:=z))|(refine zAm ?_;refine zAc (zBk top_ok hB rfl rfl xS ho1 ho) ?_)|(refine zBb ?_;refine zAc (zAg (r:=((i+1:Nat):Int)) rfl rfl (by omega) (by omega)) ?_)|(refine zBf ?_;first|refine zAc (zAr rfl rfl qa) ?_|refine zAc (zAr rfl rfl q3) ?_)|(refine zAp ?_;refine zAc (zAe rfl rfl ql) ?_)|refine xst ?_|(refine xsa ?_;intro _)|(refine xsb ?_ ?_ <;>intro _<;>try (exfalso;omega))|refine xsc ?_|(refine zAa (id:=27) plTFV0 (by kernel_rfl) (by kernel_rfl) ?_)|(refine zAa (id:=30) plTFV1 (by kernel_rfl) (by kernel_rfl) ?_)|refine zAj ?_ ?_|refine zAi rfl rfl rfl rfl rfl ?_ ?_|refine zAf ?_ ?_|exact Rech.nil|fail)
    all_goals refine KJ.allShut (L:=[Z,roP xn (visT r0 S i),opP yn (osT r0 S i)]) 92 xP ?_
    all_goals refine zAu ⟨((i+1,i),allP 92 [Z,roP xn (visT r0 S i),opP yn (osT r0 S i)],xn,yn),hlt,Nat.le_succ i,z1.all Sel.here,z2.all Sel.here,(Lv.own (e:=51) (c:=xn.2) rC_ok rfl).all (Sel.there Sel.here),(Lv.own (e:=43) (c:=yn.2) zBt rfl).all (Sel.there (Sel.there Sel.here))⟩ (by show S.length-(i+1)<S.length-i;omega) xB (xN)
  have qa:decide (((i:Nat):Int)=at_)=false:=decide_eq_false ka
  by_cases k3:o.kind=3
  ·have q3:decide (o.kind=3)=true:=decide_eq_true k3
   have cD:=txdelB (W:=W) (t:=t) (s:=s) (m:=i) (r0:=r0) (Rs:=hisT r0 S i) (r:=seeT r0 S i) o.key (by omega) (by omega)
   rw [← hisT_next,← seeT_del r0 ho k3] at cD
   repeat' (first|(refine zAx ?_;refine zAw (d:=14) rfl (fun g=>?_))|(refine zAd ?_;refine zAb xE cD xP rfl (fun _=>?_))|(refine zAm ?_;refine zAc (zBk top_ok hB rfl rfl xS ho1 ho) ?_)|(refine zBb ?_;refine zAc (zAg (r:=((i+1:Nat):Int)) rfl rfl (by omega) (by omega)) ?_)|(refine zBf ?_;first|refine zAc (zAr rfl rfl qa) ?_|refine zAc (zAr rfl rfl q3) ?_)|(refine zAp ?_;refine zAc (zAe rfl rfl ql) ?_)|refine xst ?_|(refine xsa ?_;intro _)|(refine xsb ?_ ?_ <;>intro _<;>try (exfalso;omega))|refine xsc ?_|(refine zAa (id:=27) plTFV0 (by kernel_rfl) (by kernel_rfl) ?_)|(refine zAa (id:=30) plTFV1 (by kernel_rfl) (by kernel_rfl) ?_)|refine zAj ?_ ?_|refine zAi rfl rfl rfl rfl rfl ?_ ?_|refine zAf ?_ ?_|exact Rech.nil|fail)
   all_goals refine zAu ⟨((i+1,j),Z,zx,zy),hlt,Nat.le_succ_of_le hj,z1,z2,z3,z4⟩ (by show S.length-(i+1)<S.length-i;omega) xB (xN)
  ·have q3:decide (o.kind=3)=false:=decide_eq_false k3
   have cD:=txputB (W:=W) (t:=t) (s:=s) (m:=i) (r0:=r0) (Rs:=hisT r0 S i) (r:=seeT r0 S i) o.key o.val (by omega) (by omega)
   rw [← hisT_next,← seeT_put r0 ho k3] at cD
   repeat' (first|(refine zAx ?_;refine zAw (d:=14) rfl (fun g=>?_))|(refine zAd ?_;refine zAb xE cD xP rfl (fun _=>?_))|(refine zAm ?_;refine zAc (zBk top_ok hB rfl rfl xS ho1 ho) ?_)|(refine zBb ?_;refine zAc (zAg (r:=((i+1:Nat):Int)) rfl rfl (by omega) (by omega)) ?_)|(refine zBf ?_;first|refine zAc (zAr rfl rfl qa) ?_|refine zAc (zAr rfl rfl q3) ?_)|(refine zAp ?_;refine zAc (zAe rfl rfl ql) ?_)|refine xst ?_|(refine xsa ?_;intro _)|(refine xsb ?_ ?_ <;>intro _<;>try (exfalso;omega))|refine xsc ?_|(refine zAa (id:=27) plTFV0 (by kernel_rfl) (by kernel_rfl) ?_)|(refine zAa (id:=30) plTFV1 (by kernel_rfl) (by kernel_rfl) ?_)|refine zAj ?_ ?_|refine zAi rfl rfl rfl rfl rfl ?_ ?_|refine zAf ?_ ?_|exact Rech.nil|fail)
   all_goals refine zAu ⟨((i+1,j),Z,zx,zy),hlt,Nat.le_succ_of_le hj,z1,z2,z3,z4⟩ (by show S.length-(i+1)<S.length-i;omega) xB (xN)
 have ql:decide ((i:Int)<(S.length:Nat))=false:=decide_eq_false (by omega)
 obtain rfl:i=S.length:=by omega
 have hlen:∀ x ∈ hisT r0 S S.length++[seeT r0 S S.length],x.length≤288230376151711744:=fun x hx=>by
  rcases List.mem_append.1 hx with hx|hx
  ·unfold hisT at hx
   obtain ⟨k,_,rfl⟩:=List.mem_map.1 hx
   have:=(hfit k).2.1
   omega
  ·rw [List.mem_singleton.1 hx]
   have:=(hfit S.length).2.1
   omega
 have hlenJ:∀ x ∈ hisT r0 S j++[seeT r0 S j],x.length≤288230376151711744:=fun x hx=>by
  rcases List.mem_append.1 hx with hx|hx
  ·unfold hisT at hx
   obtain ⟨k,_,rfl⟩:=List.mem_map.1 hx
   have:=(hfit k).2.1
   omega
  ·rw [List.mem_singleton.1 hx]
   have:=(hfit j).2.1
   omega
 have cM:=txmarkB (W:=W) (t:=t) (s:=s) (r0:=r0) (Rs:=hisT r0 S S.length) (r:=seeT r0 S S.length) (m:=S.length)
 rw [hisT_len] at cM
 have cK:=txbackB (W:=W) (t:=t) (s:=s) (r0:=r0) (Rs:=hisT r0 S S.length) (r:=seeT r0 S S.length) (m:=S.length) hlen (by omega) (j:=j) (by rw [hisT_len];exact hj)
 rw [hisT_take r0 S hj,rowAt_his r0 S hj] at cK
 have cK0:=txbackB (W:=W) (t:=t) (s:=s) (r0:=r0) (Rs:=hisT r0 S j) (r:=seeT r0 S j) (m:=S.length) hlenJ (by omega) (j:=0) (Nat.zero_le _)
 rw [hisT_take r0 S (Nat.zero_le j),rowAt_his r0 S (Nat.zero_le j)] at cK0
 have cJ:=cN t s j S.length (Nat.le_refl _)
 have cE:=cN t s 0 S.length (Nat.le_refl _)
 have hnil:osT r0 S 0=[]:=between_self h0
 have hf0:=hfit 0
 have hfj:=hfit j
 have cC:=txcommitB (W:=W) (F:=F) (t:=t) (s:=s) (n:=400) (k:=2) (m:=S.length) (r0:=r0) (Rs:=hisT r0 S 0) (r:=seeT r0 S 0) hE hE8 hN (by omega) (by omega) (by omega) (by omega) h0 (by omega) (Nat.le_trans hf0.2.2 (by omega)) (by rw [show zAn r0 (seeT r0 S 0)=[] from hnil];decide) (by omega)
 have e1:commE 400 r0 (zAn r0 (seeT r0 S 0))=0:=by rw [show zAn r0 (seeT r0 S 0)=[] from hnil];rfl
 have e2:commR 400 r0 (zAn r0 (seeT r0 S 0))=r0:=by rw [show zAn r0 (seeT r0 S 0)=[] from hnil];rfl
 rw [e1,e2] at cC
 have cX:=txcommitE (W:=W) (F:=F) (t:=t) (r:=seeT r0 S 0) (m:=S.length) hE
 have cZ:=ssizeQ (W:=W) (s:=s) (n:=400) (k:=2) (r:=r0) (by have:(zAv r0).length≤24600:=hf0.1;omega)
 have cW1:=srowsQ (W:=W) (s:=s) (n:=400) (k:=2) (r:=r0) (by omega)
 have cW2:=srowsQ (W:=W) (s:=s) (n:=400) (k:=2+1) (r:=r0) (by omega)
 have e19:W.cell? ⟨0,0,none⟩=some (errV F 19):=hE.at_ 19 (by decide)
 have qm:decide (((S.length:Nat):Int)≠((S.length:Nat):Int))=false:=by simp
 have lvj:(visT r0 S j).length≤4611686018427387904:=Nat.le_trans (List.length_take_le' ..) (Nat.le_trans hfj.2.1 (by omega))
 have lv0:(visT r0 S 0).length≤4611686018427387904:=Nat.le_trans (List.length_take_le' ..) (Nat.le_trans hf0.2.1 (by omega))
 have loj:(osT r0 S j).length≤4611686018427387904:=Nat.le_trans hfj.2.2 (by omega)
 have lo0:(osT r0 S 0).length≤4611686018427387904:=Nat.le_trans hf0.2.2 (by omega)
 have cQ1:=fun xa ya=>slook14_ct (W:=W) (allP 95 [roP xa (visT r0 S j),opP ya (osT r0 S j)]) Z xa ya zx zy (visT r0 S j) (osT r0 S j) (szT r0 S j) j ((Lv.own (e:=51) (c:=xa.2) rC_ok rfl).all Sel.here) ((Lv.own (e:=43) (c:=ya.2) zBt rfl).all (Sel.there Sel.here)) z3 z4 lvj loj
 have cQ2:=fun xa ya=>slook14_ct (W:=W) (allP 96 [roP xa (visT r0 S 0),opP ya (osT r0 S 0)]) Z xa ya xf yf (visT r0 S 0) (osT r0 S 0) (szT r0 S 0) 0 ((Lv.own (e:=51) (c:=xa.2) rC_ok rfl).all Sel.here) ((Lv.own (e:=43) (c:=ya.2) zBt rfl).all (Sel.there Sel.here)) z1 z2 lv0 lo0
 have qo:decide ((((osT r0 S 0).length:Nat):Int)≠0)=false:=decide_eq_false (by rw [hnil];decide)
 have qz:decide ((((zAv r0).length:Nat):Int)≠(((zAv r0).length:Nat):Int))=false:=by simp
 have hsz0:szT r0 S 0=(zAv r0).length:=rfl
 clear hnil e1 e2 hlen hlenJ hf0 hfj lvj lv0 loj lo0 hfit cN c0
 repeat' (first|(refine zBj (id:=23) ?_;refine hold ?_)|(refine zAd ?_;first|(refine zAb xE cK xP rfl (fun _=>?_))|(refine zAb xE cM xP rfl (fun _=>?_)))|(refine zBg ?_;refine zAc (Ev_neqI_q rfl rfl qm) ?_)|(refine zAp ?_;refine zAc (zAe rfl rfl ql) ?_)|refine xst ?_|(refine xsa ?_;intro _)|(refine xsb ?_ ?_ <;>intro _<;>try (exfalso;omega))|refine xsc ?_|(refine zAa (id:=27) plTFV0 (by kernel_rfl) (by kernel_rfl) ?_)|(refine zAa (id:=30) plTFV1 (by kernel_rfl) (by kernel_rfl) ?_)|refine zAj ?_ ?_|refine zAi rfl rfl rfl rfl rfl ?_ ?_|refine zAf ?_ ?_|exact Rech.nil|fail)
 refine Hold.mk ?_
 repeat' (first|(refine zBj (id:=24) ?_;refine hold ?_)|(refine zAx ?_;refine zAw (d:=15) rfl (fun g15=>?_))|(refine zAd ?_;refine zAb xE cJ xP rfl (fun z=>?_);obtain ⟨xj,yj⟩:=z)|refine xst ?_|(refine xsa ?_;intro _)|(refine xsb ?_ ?_ <;>intro _<;>try (exfalso;omega))|refine xsc ?_|(refine zAa (id:=27) plTFV0 (by kernel_rfl) (by kernel_rfl) ?_)|(refine zAa (id:=30) plTFV1 (by kernel_rfl) (by kernel_rfl) ?_)|refine zAj ?_ ?_|refine zAi rfl rfl rfl rfl rfl ?_ ?_|refine zAf ?_ ?_|exact Rech.nil|fail)
 refine Hold.mk ?_
 refine KJ.allShut (L:=[roP xj (visT r0 S j),opP yj (osT r0 S j)]) 95 xP ?_
 repeat' (first|(refine zBj (id:=26) ?_;refine hold ?_)|(refine zAd ?_;first|(refine zAb xE cK0 xP rfl (fun _=>?_))|(refine zAb xE (cQ1 _ _) xP rfl (fun _=>?_)))|refine xst ?_|(refine xsa ?_;intro _)|(refine xsb ?_ ?_ <;>intro _<;>try (exfalso;omega))|refine xsc ?_|(refine zAa (id:=27) plTFV0 (by kernel_rfl) (by kernel_rfl) ?_)|(refine zAa (id:=30) plTFV1 (by kernel_rfl) (by kernel_rfl) ?_)|refine zAj ?_ ?_|refine zAi rfl rfl rfl rfl rfl ?_ ?_|refine zAf ?_ ?_|exact Rech.nil|fail)
 refine Hold.mk ?_
 repeat' (first|(refine zBj (id:=27) ?_;refine hold ?_)|(refine zAx ?_;refine zAw (d:=16) rfl (fun g16=>?_))|(refine zAd ?_;refine zAb xE cE xP rfl (fun z=>?_);obtain ⟨xe,ye⟩:=z)|refine xst ?_|(refine xsa ?_;intro _)|(refine xsb ?_ ?_ <;>intro _<;>try (exfalso;omega))|refine xsc ?_|(refine zAa (id:=27) plTFV0 (by kernel_rfl) (by kernel_rfl) ?_)|(refine zAa (id:=30) plTFV1 (by kernel_rfl) (by kernel_rfl) ?_)|refine zAj ?_ ?_|refine zAi rfl rfl rfl rfl rfl ?_ ?_|refine zAf ?_ ?_|exact Rech.nil|fail)
 refine Hold.mk ?_
 refine KJ.allShut (L:=[roP xe (visT r0 S 0),opP ye (osT r0 S 0)]) 96 xP ?_
 repeat' (first|(refine zBj (id:=29) ?_;refine hold ?_)|(refine zAd ?_;first|(refine zAb xE cZ xP rfl (fun _=>?_))|(refine zAb xE (cQ2 _ _) xP rfl (fun _=>?_)))|(refine zBg ?_;first|refine zAc (Ev_neqI_q rfl rfl qz) ?_|refine zAc (Ev_neqI_q rfl rfl qo) ?_)|refine xst ?_|(refine xsa ?_;intro _)|(refine xsb ?_ ?_ <;>intro _<;>try (exfalso;omega))|refine xsc ?_|(refine zAa (id:=27) plTFV0 (by kernel_rfl) (by kernel_rfl) ?_)|(refine zAa (id:=30) plTFV1 (by kernel_rfl) (by kernel_rfl) ?_)|refine zAj ?_ ?_|refine zAi rfl rfl rfl rfl rfl ?_ ?_|refine zAf ?_ ?_|exact Rech.nil|fail)
 all_goals refine Hold.mk ?_
 repeat' (first|(refine zBj (id:=30) ?_;refine hold ?_)|(refine zAd ?_;refine zAb xE cW1 xP rfl (fun w=>?_);obtain ⟨wa,wc⟩:=w)|refine xst ?_|(refine xsa ?_;intro _)|(refine xsb ?_ ?_ <;>intro _<;>try (exfalso;omega))|refine xsc ?_|(refine zAa (id:=27) plTFV0 (by kernel_rfl) (by kernel_rfl) ?_)|(refine zAa (id:=30) plTFV1 (by kernel_rfl) (by kernel_rfl) ?_)|refine zAj ?_ ?_|refine zAi rfl rfl rfl rfl rfl ?_ ?_|refine zAf ?_ ?_|exact Rech.nil|fail)
 refine Hold.mk ?_
 have cE1:=fun ya yc=>srows14_ct (W:=W) (roP (ya,yc) r0) (roP (wa,wc) r0) ya wa yc wc r0 (Lv.own (e:=51) (c:=yc) rC_ok rfl) (Lv.own (e:=51) (c:=wc) rC_ok rfl) (by omega)
 repeat' (first|(refine zAd ?_;first|(refine zAb xE (cE1 _ _) xP rfl (fun _=>?_))|(refine zAb xE cW2 xP rfl (fun y=>?_);obtain ⟨ya,yc⟩:=y)|(refine zAb xE cX xP rfl (fun _=>?_))|(refine zAb xE cC xP rfl (fun _=>?_)))|(refine zAm ?_;refine zAc (zAq rfl e19) ?_)|(refine zBf ?_;refine zAc (Ev_eqlE hE rfl rfl (Or.inr (by decide:(19:Nat) ∈ L16)) (by decide:(19:Nat) ∈ L16) (q:=true) rfl) ?_)|refine xst ?_|(refine xsa ?_;intro _)|(refine xsb ?_ ?_ <;>intro _<;>try (exfalso;omega))|refine xsc ?_|(refine zAa (id:=27) plTFV0 (by kernel_rfl) (by kernel_rfl) ?_)|(refine zAa (id:=30) plTFV1 (by kernel_rfl) (by kernel_rfl) ?_)|refine zAj ?_ ?_|refine zAi rfl rfl rfl rfl rfl ?_ ?_|refine zAf ?_ ?_|exact Rech.nil|fail)
 all_goals (exact xdn ())
theorem tundo14_law (hE:ErrsOn L16 W F) (hN:NibAt W) (hg:gB≤W.heap.size) (a b:Option Addr) (c d:Nat) (l:Rows) (S:List TOp) (at_:Int) (hA:Lv W rC 2 noP a l) (hB:Lv W topC 5 noP b S) (X:Args14 l S) (hat:-9223372036854775808≤at_∧at_≤9223372036854775807) :
 Ct Tryz.prog W 5 [.slice a l.length c,.slice b S.length d,.int .i64 at_] [] (fun _:Unit=>.bool true) (fun _=>[]):=(tundo14_ct hE hN hg noP noP a b c d l S at_ hA hB X hat).noP14
end
end Go.Proofs.YtahgdagcnkpnbaaGreatDoor
