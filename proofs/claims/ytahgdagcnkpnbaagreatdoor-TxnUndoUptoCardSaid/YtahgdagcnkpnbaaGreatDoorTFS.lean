/-
  TxL2.
-/
import Derived.Test.YtahgdagcnkpnbaaGreatDoorTFR
set_option maxHeartbeats 64000000
namespace Go.Proofs.YtahgdagcnkpnbaaGreatDoor
open Go Go.RowKit
abbrev plTFS0:Pl:=(.op 0 (.op 1 (.op 2 (.op 3 (.op 4 (.op 5 (.op 6 (.op 7 (.op 8 (.op 9 (.op 10 (.op 11 (.op 12 (.op 13 (.op 14 (.op 15 (.op 16 (.op 17 (.op 18 (.op 19 (.op 20 (.op 21 (.op 22 (.op 23 (.op 24 (.op 25 (.op 26 (.op 27 (.op 28 (.op 29 (.op 30 (.op 31 (.op 32 (.op 33 (.op 34 (.op 35 (.op 36 (.op 37 (.op 38 (.op 39 (.op 40 .nil)))))))))))))))))))))))))))))))))))))))))
abbrev plTFS1:Pl:=(.op 0 (.op 1 (.op 2 (.op 4 (.op 5 (.ef 3 [5,4] (.op 6 (.op 7 (.op 8 (.op 10 (.ef 9 [10] (.ef 11 [] (.op 12 (.op 13 .nil))))))))))))))
abbrev plTFS2:Pl:=(.op 0 (.op 1 (.op 2 (.ef 3 [] (.op 4 (.op 5 (.op 7 (.op 8 (.ef 6 [8,7] (.op 9 (.op 10 (.op 11 .nil))))))))))))
theorem seeT_len (r0:Rows) (S:List TOp) (i:Nat):(seeT r0 S i).length≤r0.length+i:=by
 have h:=applyB_len ((S.take i).map opTx) r0
 rw [List.length_map] at h
 have h2:(S.take i).length≤i:=List.length_take_le ..
 show (zAy r0 _).length≤_
 omega
section
variable {W:World} {F:Nat→Addr} {r:Rows} {s n k:Nat}
instance fn_ssizeM:FnIs Tryz.prog 28:=⟨by kernel_rfl⟩
theorem ssizeQ (hs:(zAv r).length≤4611686018427387904):Ct Tryz.prog W 28 [.pointer (some ⟨s,0,none⟩)] [StQ s n k r] (fun _:Unit=>.int .i64 ((zAv r).length:Nat)) (fun _=>[StQ s n k r]):=by
 refine Ct.enter Tryz.func28 rfl Tryz.ntmps28 (by simp) (fun R=>?_)
 refine KJ.unpack_at (F:=fun x:{x:StH//StI n k r x}=>stL s n x.1) xS (fun ⟨⟨d,q,g,v,used,D,N,a,b⟩,hx⟩=>?_)
 dsimp only
 have cs:=ssize_ct (W:=W) (N:=N) (p:=q) (b:=b) hx.tab hs
 repeat' (first|(refine zAd ?_;refine zAb xE cs xP rfl (fun _=>?_))|refine xst ?_|(refine xsa ?_;intro _)|(refine xsb ?_ ?_ <;>intro _<;>try (exfalso;omega))|refine xsc ?_|fail)
 all_goals refine KJ.packs (tag:=87) (key:=s) (F:=fun x:{x:StH//StI n k r x}=>stL s n x.1) ⟨⟨d,q,g,v,used,D,N,a,b⟩,hx⟩ xP ?_
 all_goals (exact xdn ())
set_option maxRecDepth 100000 in
theorem tbatch14_ct (hE:ErrsOn L16 W F) (hN:NibAt W) (hg:gB≤W.heap.size) (A B:SP) (a b:Option Addr) (c d:Nat) (l:Rows) (S:List TOp) (hA:Lv W rC 2 A a l) (hB:Lv W topC 5 B b S) (X:Args14 l S) :
 Ct Tryz.prog W 3 [.slice a l.length c,.slice b S.length d] [A,B] (fun _:Unit=>.bool true) (fun _=>[A,B]):=by
 have x1:=X.ll
 have x2:=X.ls
 have cL:=lives14_ct hE hN hg
 have cW:=hlight_ct A a c l hA (by omega)
 have cH:=heavy14_ct B b d S hB (by omega)
 have hE8:ErrsOn L8 W F:=hE.to8
 by_cases hl0:lightN l≤8192
 rotate_left
 ·rw [decide_eq_false hl0] at cW
  refine Ct.enter Tryz.func3 rfl Tryz.ntmps3 (by simp) (fun R=>?_)
  repeat' (first|(refine zAd ?_;first|(refine zAb xE cW xP rfl (fun _=>?_))|(refine zAb xE cL xP rfl (fun _=>?_)))|refine xst ?_|(refine xsa ?_;intro _)|(refine xsb ?_ ?_ <;>intro _<;>try (exfalso;omega))|refine xsc ?_|(refine zAa (id:=24) plTFS0 (by kernel_rfl) (by kernel_rfl) ?_)|(refine zAa (id:=31) plTFS1 (by kernel_rfl) (by kernel_rfl) ?_)|(refine zAa (id:=38) plTFS2 (by kernel_rfl) (by kernel_rfl) ?_)|refine zAj ?_ ?_|refine zAi rfl rfl rfl rfl rfl ?_ ?_|refine zAf ?_ ?_|exact Rech.nil|fail)
  all_goals (exact xdn ())
 rw [decide_eq_true hl0] at cW
 by_cases hh0:16384<heavyN S
 ·rw [decide_eq_true hh0] at cH
  refine Ct.enter Tryz.func3 rfl Tryz.ntmps3 (by simp) (fun R=>?_)
  repeat' (first|(refine zAd ?_;first|(refine zAb xE cH xP rfl (fun _=>?_))|(refine zAb xE cW xP rfl (fun _=>?_))|(refine zAb xE cL xP rfl (fun _=>?_)))|refine xst ?_|(refine xsa ?_;intro _)|(refine xsb ?_ ?_ <;>intro _<;>try (exfalso;omega))|refine xsc ?_|(refine zAa (id:=24) plTFS0 (by kernel_rfl) (by kernel_rfl) ?_)|(refine zAa (id:=31) plTFS1 (by kernel_rfl) (by kernel_rfl) ?_)|(refine zAa (id:=38) plTFS2 (by kernel_rfl) (by kernel_rfl) ?_)|refine zAj ?_ ?_|refine zAi rfl rfl rfl rfl rfl ?_ ?_|refine zAf ?_ ?_|exact Rech.nil|fail)
  all_goals (exact xdn ())
 rw [decide_eq_false hh0] at cH
 have hl:=light_in hl0
 have hS:=heavy_in (S:=S) (by omega)
 have hll:=hl.len
 have hSl:=hS.len
 clear hl0 hh0
 obtain ⟨hfit,hsn,hrl⟩:=comm_fits hl hS
 have h0:RisR (ofR l):=(sum_ofR l).2
 have h0l:=hl.snap.2
 have cS:=hstore_ct hE hN hg A a c l hA hl
 obtain ⟨r0,hr0⟩:∃ x,x=ofR l:=⟨_,rfl⟩
 rw [← hr0] at cS hfit hsn hrl h0 h0l
 clear hr0
 have hse:zAy r0 (S.map opTx)=seeT r0 S S.length:=(seeT_end r0 S).symm
 rw [hse] at hfit hsn hrl
 have hris:RisR (seeT r0 S S.length):=seeT_ris h0 S S.length
 have cB:=fun s=>txbeginB (W:=W) (s:=s) (n:=400) (k:=2) (r:=r0) (by omega) h0
 refine Ct.enter Tryz.func3 rfl Tryz.ntmps3 (by simp) (fun R=>?_)
 repeat' (first|(refine zAd ?_;first|(refine zAb xE (cB _) xP rfl (fun t=>?_))|(refine zAb xE cS xP rfl (fun s=>?_))|(refine zAb xE cH xP rfl (fun _=>?_))|(refine zAb xE cW xP rfl (fun _=>?_))|(refine zAb xE cL xP rfl (fun _=>?_)))|refine xst ?_|(refine xsa ?_;intro _)|(refine xsb ?_ ?_ <;>intro _<;>try (exfalso;omega))|refine xsc ?_|(refine zAa (id:=24) plTFS0 (by kernel_rfl) (by kernel_rfl) ?_)|(refine zAa (id:=31) plTFS1 (by kernel_rfl) (by kernel_rfl) ?_)|(refine zAa (id:=38) plTFS2 (by kernel_rfl) (by kernel_rfl) ?_)|refine zAj ?_ ?_|refine zAi rfl rfl rfl rfl rfl ?_ ?_|refine zAf ?_ ?_|exact Rech.nil|fail)
 refine zBp (fun i:{i:Nat//i≤S.length}=>[(5,.bool true),(6,.pointer (some ⟨s,0,none⟩)),(7,.pointer (some ⟨t,0,none⟩)),(41,.slice b S.length d),(42,.int .i64 (S.length:Nat)),(43,.int .i64 (i.1:Nat))])
  (fun i=>[A,B,TxB t s r0 (hisT r0 S i.1) (seeT r0 S i.1) i.1,StQ s 400 2 r0]++R) (fun i=>S.length-i.1) ⟨0,Nat.zero_le _⟩ xB (xN) (fun ⟨i,hi⟩=>?_)
 dsimp only at hi ⊢
 by_cases hlt:i<S.length
 ·have ql:decide ((i:Int)<(S.length:Nat))=true:=decide_eq_true (by omega)
  obtain ⟨o,ho⟩:∃ s,S[i]? = some s:=⟨_,List.getElem?_eq_getElem hlt⟩
  have hsl:=seeT_len r0 S i
  refine KJ.lvSome hB xS (by omega) (fun ba oa hab=>?_)
  subst hab
  have ho1:oa+Int.toNat (i:Int)*5=oa+i*5:=by rw [Int.toNat_natCast]
  by_cases k3:o.kind=3
  ·have q3:decide (o.kind=3)=true:=decide_eq_true k3
   have cD:=txdelB (W:=W) (t:=t) (s:=s) (m:=i) (r0:=r0) (Rs:=hisT r0 S i) (r:=seeT r0 S i) o.key (by omega) (by omega)
   rw [← hisT_next,← seeT_del r0 ho k3] at cD
   repeat' (first|(refine zAx ?_;refine zAw rfl (fun g=>?_))|(refine zAd ?_;refine zAb xE cD xP rfl (fun _=>?_))|(refine zAm ?_;refine zAc (zBk top_ok hB rfl rfl xS ho1 ho) ?_)|(refine zBb ?_;refine zAc (zAg (r:=((i+1:Nat):Int)) rfl rfl (by omega) (by omega)) ?_)|(refine zBf ?_;refine zAc (zAr rfl rfl q3) ?_)|(refine zAp ?_;refine zAc (zAe rfl rfl ql) ?_)|refine xst ?_|(refine xsa ?_;intro _)|(refine xsb ?_ ?_ <;>intro _<;>try (exfalso;omega))|refine xsc ?_|(refine zAa (id:=24) plTFS0 (by kernel_rfl) (by kernel_rfl) ?_)|(refine zAa (id:=31) plTFS1 (by kernel_rfl) (by kernel_rfl) ?_)|(refine zAa (id:=38) plTFS2 (by kernel_rfl) (by kernel_rfl) ?_)|refine zAj ?_ ?_|refine zAi rfl rfl rfl rfl rfl ?_ ?_|refine zAf ?_ ?_|exact Rech.nil|fail)
   all_goals refine zAu ⟨i+1,hlt⟩ (by show S.length-(i+1)<S.length-i;omega) xB (xN)
  ·have q3:decide (o.kind=3)=false:=decide_eq_false k3
   have cD:=txputB (W:=W) (t:=t) (s:=s) (m:=i) (r0:=r0) (Rs:=hisT r0 S i) (r:=seeT r0 S i) o.key o.val (by omega) (by omega)
   rw [← hisT_next,← seeT_put r0 ho k3] at cD
   repeat' (first|(refine zAx ?_;refine zAw rfl (fun g=>?_))|(refine zAd ?_;refine zAb xE cD xP rfl (fun _=>?_))|(refine zAm ?_;refine zAc (zBk top_ok hB rfl rfl xS ho1 ho) ?_)|(refine zBb ?_;refine zAc (zAg (r:=((i+1:Nat):Int)) rfl rfl (by omega) (by omega)) ?_)|(refine zBf ?_;refine zAc (zAr rfl rfl q3) ?_)|(refine zAp ?_;refine zAc (zAe rfl rfl ql) ?_)|refine xst ?_|(refine xsa ?_;intro _)|(refine xsb ?_ ?_ <;>intro _<;>try (exfalso;omega))|refine xsc ?_|(refine zAa (id:=24) plTFS0 (by kernel_rfl) (by kernel_rfl) ?_)|(refine zAa (id:=31) plTFS1 (by kernel_rfl) (by kernel_rfl) ?_)|(refine zAa (id:=38) plTFS2 (by kernel_rfl) (by kernel_rfl) ?_)|refine zAj ?_ ?_|refine zAi rfl rfl rfl rfl rfl ?_ ?_|refine zAf ?_ ?_|exact Rech.nil|fail)
   all_goals refine zAu ⟨i+1,hlt⟩ (by show S.length-(i+1)<S.length-i;omega) xB (xN)
 have ql:decide ((i:Int)<(S.length:Nat))=false:=decide_eq_false (by omega)
 obtain rfl:i=S.length:=by omega
 obtain ⟨r,hr⟩:∃ x,x=seeT r0 S S.length:=⟨_,rfl⟩
 obtain ⟨Rs,hRs⟩:∃ x,x=hisT r0 S S.length:=⟨_,rfl⟩
 obtain ⟨bs1,bs2⟩:=between_small h0 (S.map opTx)
 rw [List.length_map,hse,← hr] at bs2
 rw [hse,← hr] at bs1
 rw [← hr] at hfit hsn hrl hris
 rw [← hr,← hRs]
 clear hr hRs hse
 obtain ⟨vis,hvis⟩:∃ v,v=r.take (visN fffB r):=⟨_,rfl⟩
 have cN:=seen14_ct (W:=W) (t:=t) (s:=s) (n:=400) (k:=2) (m:=S.length) (r0:=r0) (Rs:=Rs) (r:=r) (by omega) (by omega) h0 (by omega) (by omega) (by omega) vis hvis
 have hap:zAy r0 (zAn r0 r)=r:=between_apply h0 hris
 have hoo:∀ o ∈ zAn r0 r,OpOk r0 r o:=fun o ho=>between_ok h0 hris ho
 have hox:∀ i a b,(zAn r0 r)[i]? = some a→(zAn r0 r)[i+1]? = some b→Op.bytesLess a.key b.key=true:=fun i a b h1 h2=>between_next h0 hris h1 h2
 have henc:=(comm14 h0 hris).1
 have hcR:=(comm14 h0 hris).2
 have cC:=txcommitB (W:=W) (F:=F) (t:=t) (s:=s) (n:=400) (k:=2) (m:=S.length) (r0:=r0) (Rs:=Rs) (r:=r) hE hE8 hN (by omega) (by omega) (by omega) (by omega) h0 (by omega) (by omega) (by have e1:=enc_sum (zAn r0 r);have e2:=vu_two (n:=(zAn r0 r).length) (by omega);have e3:=hS.sum;omega) (by omega)
 rw [hcR,hfit,if_pos rfl] at cC
 have cA:=fun oa oc=>safterQ (W:=W) (s:=s) (n:=400) (k:=2) (r:=r0) (by omega) (opP (oa,oc) (zAn r0 r)) oa oc (zAn r0 r) (Lv.own (e:=43) (c:=oc) zBt rfl) (by omega) (by rw [hap];omega)
 rw [hap] at cA
 obtain ⟨os,hos⟩:∃ os,os=zAn r0 r:=⟨_,rfl⟩
 rw [← hos] at cN hoo hox cA bs2
 obtain ⟨sz,hsz⟩:∃ x,x=(zAv r).length:=⟨_,rfl⟩
 have cZ:=fun k=>ssizeQ (W:=W) (s:=s) (n:=400) (k:=k) (r:=r) (by omega)
 rw [← hsz] at cN cA cZ hsn
 clear henc hcR hfit hap bs1
 repeat' (first|(refine zAx ?_;refine zAw rfl (fun gx=>?_))|(refine zAd ?_;refine zAb xE cN xP rfl (fun z=>?_);obtain ⟨⟨xa,xc⟩,⟨oa,oc⟩⟩:=z)|(refine zAp ?_;refine zAc (zAe rfl rfl ql) ?_)|refine xst ?_|(refine xsa ?_;intro _)|(refine xsb ?_ ?_ <;>intro _<;>try (exfalso;omega))|refine xsc ?_|(refine zAa (id:=24) plTFS0 (by kernel_rfl) (by kernel_rfl) ?_)|(refine zAa (id:=31) plTFS1 (by kernel_rfl) (by kernel_rfl) ?_)|(refine zAa (id:=38) plTFS2 (by kernel_rfl) (by kernel_rfl) ?_)|refine zAj ?_ ?_|refine zAi rfl rfl rfl rfl rfl ?_ ?_|refine zAf ?_ ?_|exact Rech.nil|fail)
 refine zBp (fun i:{i:Nat//i≤os.length}=>[(6,.pointer (some ⟨s,0,none⟩)),(7,.pointer (some ⟨t,0,none⟩)),(10,.pointer (some ⟨gx,0,none⟩)),(81,.slice oa os.length oc),(82,.int .i64 (os.length:Nat)),(83,.int .i64 (i.1:Nat))])
  (fun _=>[A,B,TxB t s r0 Rs r S.length,StQ s 400 2 r0,zAh gx (lookC (xa,xc) (oa,oc) vis os sz Rs.length) 39,roP (xa,xc) vis,opP (oa,oc) os]++R) (fun i=>os.length-i.1) ⟨0,Nat.zero_le _⟩ xB (xN) (fun ⟨i,hi⟩=>?_)
 dsimp only at hi ⊢
 by_cases hlt:i<os.length
 ·have ql:decide ((i:Int)<(os.length:Nat))=true:=decide_eq_true (by omega)
  obtain ⟨o,ho⟩:∃ s,os[i]? = some s:=⟨_,List.getElem?_eq_getElem hlt⟩
  have hO:=hoo o (List.mem_of_getElem? ho)
  have hpr:∀ j,i=j+1→∃ b,os[j]? = some b∧(!Op.bytesLess b.key o.key)=false:=fun j hj=>by
   obtain ⟨b,hb⟩:∃ b,os[j]? = some b:=⟨_,List.getElem?_eq_getElem (by omega)⟩
   refine ⟨b,hb,?_⟩
   rw [hox j b o hb (by rw [← hj];exact ho)]
   rfl
  have cG:=sgetQ (W:=W) (s:=s) (n:=400) (k:=2) (r:=r0) o.key
  have cT:=txgetB (W:=W) (t:=t) (s:=s) (m:=S.length) (r0:=r0) (Rs:=Rs) (r:=r) o.key
  obtain ⟨h1,h2,h3,h4⟩:=hO
  rw [h3,h4] at cT
  obtain ⟨odel,okey,oval⟩:=o
  dsimp only at h1 h2 h3 h4 cG cT hpr
  refine KJ.lsSome (l:=os) (a:=oa) (c:=oc) (m:=os.length) xS (by omega) (fun go hgo=>?_)
  subst hgo
  have hoff2:0+Int.toNat ((i:Nat):Int)*3=i*3:=by simp
  cases odel with
  |true=>
   obtain ⟨g1,g2⟩:=h1 rfl
   subst g2
   obtain ⟨v,hv⟩:=Option.isSome_iff_exists.1 g1
   rw [hv] at cG
   by_cases hi0:i=0
   ·have qg:decide (((i:Nat):Int)>0)=false:=decide_eq_false (by omega)
    repeat' (first|(refine zAx ?_;refine zAw rfl (fun g=>?_))|(refine zAd ?_;first|(refine zAb xE cT xP rfl (fun _=>?_))|(refine zAb xE cG xP rfl (fun _=>?_)))|(refine zAm ?_;refine zAc (Ev_loadLs zBt rfl xS rfl hoff2 ho) ?_)|(refine zBb ?_;refine zAc (zAg (r:=((i+1:Nat):Int)) rfl rfl (by omega) (by omega)) ?_)|(refine zBf ?_;refine zAc (Ev_eqlBw (r:=false) rfl rfl rfl) ?_)|(refine zBg ?_;refine zAc (Ev_neqS_f rfl rfl rfl) ?_)|(refine zAp ?_;refine zAc (zAe rfl rfl ql) ?_)|(refine zAz ?_;refine zAc (zAk rfl rfl qg) ?_)|refine xst ?_|(refine xsa ?_;intro _)|(refine xsb ?_ ?_ <;>intro _<;>try (exfalso;omega))|refine xsc ?_|(refine zAa (id:=24) plTFS0 (by kernel_rfl) (by kernel_rfl) ?_)|(refine zAa (id:=31) plTFS1 (by kernel_rfl) (by kernel_rfl) ?_)|(refine zAa (id:=38) plTFS2 (by kernel_rfl) (by kernel_rfl) ?_)|refine zAj ?_ ?_|refine zAi rfl rfl rfl rfl rfl ?_ ?_|refine zAf ?_ ?_|exact Rech.nil|fail)
    all_goals refine zAu ⟨i+1,hlt⟩ (by show os.length-(i+1)<os.length-(i);omega) xB (xN)
   ·obtain ⟨j,rfl⟩:∃ j,i=j+1:=⟨i-1,by omega⟩
    obtain ⟨b0,hb0,qs⟩:=hpr j rfl
    have qg:decide (((j+1:Nat):Int)>0)=true:=decide_eq_true (by omega)
    have hoff:0+Int.toNat ((j:Nat):Int)*3+1=j*3+1:=by simp
    repeat' (first|(refine zAx ?_;refine zAw rfl (fun g=>?_))|(refine zAd ?_;first|(refine zAb xE cT xP rfl (fun _=>?_))|(refine zAb xE cG xP rfl (fun _=>?_)))|(refine zAm ?_;first|refine zAc (Ev_loadLs zBt rfl xS rfl hoff2 ho) ?_|refine zAc (Ev_loadLsF (j:=1) zBt rfl xS rfl hoff hb0 rfl) ?_)|(refine zBb ?_;refine zAc (zAg (r:=((j+1+1:Nat):Int)) rfl rfl (by omega) (by omega)) ?_)|(refine ek_sub ?_;refine zAc (Ev_subI_v (r:=((j:Nat):Int)) rfl rfl (by omega) (by omega)) ?_)|(refine zBf ?_;refine zAc (Ev_eqlBw (r:=false) rfl rfl rfl) ?_)|(refine zBg ?_;refine zAc (Ev_neqS_f rfl rfl rfl) ?_)|(refine zAp ?_;refine zAc (zAe rfl rfl ql) ?_)|(refine zAz ?_;refine zAc (zAk rfl rfl qg) ?_)|(refine ek_geq ?_;refine zAc (Ev_geqS_q rfl rfl qs) ?_)|refine xst ?_|(refine xsa ?_;intro _)|(refine xsb ?_ ?_ <;>intro _<;>try (exfalso;omega))|refine xsc ?_|(refine zAa (id:=24) plTFS0 (by kernel_rfl) (by kernel_rfl) ?_)|(refine zAa (id:=31) plTFS1 (by kernel_rfl) (by kernel_rfl) ?_)|(refine zAa (id:=38) plTFS2 (by kernel_rfl) (by kernel_rfl) ?_)|refine zAj ?_ ?_|refine zAi rfl rfl rfl rfl rfl ?_ ?_|refine zAf ?_ ?_|exact Rech.nil|fail)
    all_goals refine zAu ⟨j+1+1,hlt⟩ (by show os.length-(j+1+1)<os.length-(j+1);omega) xB (xN)
  |false=>
   have h5:=h2 rfl
   cases hv:lk r0 okey with
   |none=>
    rw [hv] at cG
    by_cases hi0:i=0
    ·have qg:decide (((i:Nat):Int)>0)=false:=decide_eq_false (by omega)
     repeat' (first|(refine zAx ?_;refine zAw rfl (fun g=>?_))|(refine zAd ?_;first|(refine zAb xE cT xP rfl (fun _=>?_))|(refine zAb xE cG xP rfl (fun _=>?_)))|(refine zAm ?_;refine zAc (Ev_loadLs zBt rfl xS rfl hoff2 ho) ?_)|(refine zBb ?_;refine zAc (zAg (r:=((i+1:Nat):Int)) rfl rfl (by omega) (by omega)) ?_)|(refine zBf ?_;refine zAc (Ev_eqlBw (r:=false) rfl rfl rfl) ?_)|(refine zBg ?_;refine zAc (Ev_neqS_f rfl rfl rfl) ?_)|(refine zAp ?_;refine zAc (zAe rfl rfl ql) ?_)|(refine zAz ?_;refine zAc (zAk rfl rfl qg) ?_)|refine xst ?_|(refine xsa ?_;intro _)|(refine xsb ?_ ?_ <;>intro _<;>try (exfalso;omega))|refine xsc ?_|(refine zAa (id:=24) plTFS0 (by kernel_rfl) (by kernel_rfl) ?_)|(refine zAa (id:=31) plTFS1 (by kernel_rfl) (by kernel_rfl) ?_)|(refine zAa (id:=38) plTFS2 (by kernel_rfl) (by kernel_rfl) ?_)|refine zAj ?_ ?_|refine zAi rfl rfl rfl rfl rfl ?_ ?_|refine zAf ?_ ?_|exact Rech.nil|fail)
     all_goals refine zAu ⟨i+1,hlt⟩ (by show os.length-(i+1)<os.length-(i);omega) xB (xN)
    ·obtain ⟨j,rfl⟩:∃ j,i=j+1:=⟨i-1,by omega⟩
     obtain ⟨b0,hb0,qs⟩:=hpr j rfl
     have qg:decide (((j+1:Nat):Int)>0)=true:=decide_eq_true (by omega)
     have hoff:0+Int.toNat ((j:Nat):Int)*3+1=j*3+1:=by simp
     repeat' (first|(refine zAx ?_;refine zAw rfl (fun g=>?_))|(refine zAd ?_;first|(refine zAb xE cT xP rfl (fun _=>?_))|(refine zAb xE cG xP rfl (fun _=>?_)))|(refine zAm ?_;first|refine zAc (Ev_loadLs zBt rfl xS rfl hoff2 ho) ?_|refine zAc (Ev_loadLsF (j:=1) zBt rfl xS rfl hoff hb0 rfl) ?_)|(refine zBb ?_;refine zAc (zAg (r:=((j+1+1:Nat):Int)) rfl rfl (by omega) (by omega)) ?_)|(refine ek_sub ?_;refine zAc (Ev_subI_v (r:=((j:Nat):Int)) rfl rfl (by omega) (by omega)) ?_)|(refine zBf ?_;refine zAc (Ev_eqlBw (r:=false) rfl rfl rfl) ?_)|(refine zBg ?_;refine zAc (Ev_neqS_f rfl rfl rfl) ?_)|(refine zAp ?_;refine zAc (zAe rfl rfl ql) ?_)|(refine zAz ?_;refine zAc (zAk rfl rfl qg) ?_)|(refine ek_geq ?_;refine zAc (Ev_geqS_q rfl rfl qs) ?_)|refine xst ?_|(refine xsa ?_;intro _)|(refine xsb ?_ ?_ <;>intro _<;>try (exfalso;omega))|refine xsc ?_|(refine zAa (id:=24) plTFS0 (by kernel_rfl) (by kernel_rfl) ?_)|(refine zAa (id:=31) plTFS1 (by kernel_rfl) (by kernel_rfl) ?_)|(refine zAa (id:=38) plTFS2 (by kernel_rfl) (by kernel_rfl) ?_)|refine zAj ?_ ?_|refine zAi rfl rfl rfl rfl rfl ?_ ?_|refine zAf ?_ ?_|exact Rech.nil|fail)
     all_goals refine zAu ⟨j+1+1,hlt⟩ (by show os.length-(j+1+1)<os.length-(j+1);omega) xB (xN)
   |some v=>
    rw [hv] at cG h5
    have hne:v≠oval:=fun h=>h5 (by rw [h])
    by_cases hi0:i=0
    ·have qg:decide (((i:Nat):Int)>0)=false:=decide_eq_false (by omega)
     repeat' (first|(refine zAx ?_;refine zAw rfl (fun g=>?_))|(refine zAd ?_;first|(refine zAb xE cT xP rfl (fun _=>?_))|(refine zAb xE cG xP rfl (fun _=>?_)))|(refine zAm ?_;refine zAc (Ev_loadLs zBt rfl xS rfl hoff2 ho) ?_)|(refine zBb ?_;refine zAc (zAg (r:=((i+1:Nat):Int)) rfl rfl (by omega) (by omega)) ?_)|(refine zBf ?_;first|refine zAc (Ev_eqlS_f rfl rfl hne) ?_|refine zAc (Ev_eqlBw (r:=false) rfl rfl rfl) ?_)|(refine zBg ?_;refine zAc (Ev_neqS_f rfl rfl rfl) ?_)|(refine zAp ?_;refine zAc (zAe rfl rfl ql) ?_)|(refine zAz ?_;refine zAc (zAk rfl rfl qg) ?_)|refine xst ?_|(refine xsa ?_;intro _)|(refine xsb ?_ ?_ <;>intro _<;>try (exfalso;omega))|refine xsc ?_|(refine zAa (id:=24) plTFS0 (by kernel_rfl) (by kernel_rfl) ?_)|(refine zAa (id:=31) plTFS1 (by kernel_rfl) (by kernel_rfl) ?_)|(refine zAa (id:=38) plTFS2 (by kernel_rfl) (by kernel_rfl) ?_)|refine zAj ?_ ?_|refine zAi rfl rfl rfl rfl rfl ?_ ?_|refine zAf ?_ ?_|exact Rech.nil|fail)
     all_goals refine zAu ⟨i+1,hlt⟩ (by show os.length-(i+1)<os.length-(i);omega) xB (xN)
    ·obtain ⟨j,rfl⟩:∃ j,i=j+1:=⟨i-1,by omega⟩
     obtain ⟨b0,hb0,qs⟩:=hpr j rfl
     have qg:decide (((j+1:Nat):Int)>0)=true:=decide_eq_true (by omega)
     have hoff:0+Int.toNat ((j:Nat):Int)*3+1=j*3+1:=by simp
     repeat' (first|(refine zAx ?_;refine zAw rfl (fun g=>?_))|(refine zAd ?_;first|(refine zAb xE cT xP rfl (fun _=>?_))|(refine zAb xE cG xP rfl (fun _=>?_)))|(refine zAm ?_;first|refine zAc (Ev_loadLs zBt rfl xS rfl hoff2 ho) ?_|refine zAc (Ev_loadLsF (j:=1) zBt rfl xS rfl hoff hb0 rfl) ?_)|(refine zBb ?_;refine zAc (zAg (r:=((j+1+1:Nat):Int)) rfl rfl (by omega) (by omega)) ?_)|(refine ek_sub ?_;refine zAc (Ev_subI_v (r:=((j:Nat):Int)) rfl rfl (by omega) (by omega)) ?_)|(refine zBf ?_;first|refine zAc (Ev_eqlS_f rfl rfl hne) ?_|refine zAc (Ev_eqlBw (r:=false) rfl rfl rfl) ?_)|(refine zBg ?_;refine zAc (Ev_neqS_f rfl rfl rfl) ?_)|(refine zAp ?_;refine zAc (zAe rfl rfl ql) ?_)|(refine zAz ?_;refine zAc (zAk rfl rfl qg) ?_)|(refine ek_geq ?_;refine zAc (Ev_geqS_q rfl rfl qs) ?_)|refine xst ?_|(refine xsa ?_;intro _)|(refine xsb ?_ ?_ <;>intro _<;>try (exfalso;omega))|refine xsc ?_|(refine zAa (id:=24) plTFS0 (by kernel_rfl) (by kernel_rfl) ?_)|(refine zAa (id:=31) plTFS1 (by kernel_rfl) (by kernel_rfl) ?_)|(refine zAa (id:=38) plTFS2 (by kernel_rfl) (by kernel_rfl) ?_)|refine zAj ?_ ?_|refine zAi rfl rfl rfl rfl rfl ?_ ?_|refine zAf ?_ ?_|exact Rech.nil|fail)
     all_goals refine zAu ⟨j+1+1,hlt⟩ (by show os.length-(j+1+1)<os.length-(j+1);omega) xB (xN)
 have ql:decide ((i:Int)<(os.length:Nat))=false:=decide_eq_false (by omega)
 clear hoo hox
 have cW1:=srowsQ (W:=W) (s:=s) (n:=400) (k:=2) (r:=r0) (by omega)
 repeat' (first|(refine zBj (id:=31) ?_;refine hold ?_)|(refine zAd ?_;refine zAb xE cW1 xP rfl (fun w=>?_);obtain ⟨wa,wc⟩:=w)|(refine zAp ?_;refine zAc (zAe rfl rfl ql) ?_)|refine xst ?_|(refine xsa ?_;intro _)|(refine xsb ?_ ?_ <;>intro _<;>try (exfalso;omega))|refine xsc ?_|(refine zAa (id:=24) plTFS0 (by kernel_rfl) (by kernel_rfl) ?_)|(refine zAa (id:=31) plTFS1 (by kernel_rfl) (by kernel_rfl) ?_)|(refine zAa (id:=38) plTFS2 (by kernel_rfl) (by kernel_rfl) ?_)|refine zAj ?_ ?_|refine zAi rfl rfl rfl rfl rfl ?_ ?_|refine zAf ?_ ?_|exact Rech.nil|fail)
 refine Hold.mk ?_
 have cE1:=fun ya yc=>srows14_ct (W:=W) (roP (ya,yc) r0) (roP (wa,wc) r0) ya wa yc wc r0 (Lv.own (e:=51) (c:=yc) rC_ok rfl) (Lv.own (e:=51) (c:=wc) rC_ok rfl) (by omega)
 have qn:decide (((sz:Nat):Int)≠((sz:Nat):Int))=false:=by simp
 repeat' (first|(refine zBj (id:=35) ?_;refine hold ?_)|(refine zAd ?_;first|(refine zAb xE cC xP rfl (fun _=>?_))|(refine zAb xE (cE1 _ _) xP rfl (fun _=>?_))|(refine zAb xE cW1 xP rfl (fun y=>?_);obtain ⟨ya,yc⟩:=y)|(refine zAb xE (cA _ _) xP rfl (fun _=>?_)))|(refine zBg ?_;refine zAc (Ev_neqI_q rfl rfl qn) ?_)|refine xst ?_|(refine xsa ?_;intro _)|(refine xsb ?_ ?_ <;>intro _<;>try (exfalso;omega))|refine xsc ?_|(refine zAa (id:=24) plTFS0 (by kernel_rfl) (by kernel_rfl) ?_)|(refine zAa (id:=31) plTFS1 (by kernel_rfl) (by kernel_rfl) ?_)|(refine zAa (id:=38) plTFS2 (by kernel_rfl) (by kernel_rfl) ?_)|refine zAj ?_ ?_|refine zAi rfl rfl rfl rfl rfl ?_ ?_|refine zAf ?_ ?_|exact Rech.nil|fail)
 refine Hold.mk ?_
 have cW2:=srowsQ (W:=W) (s:=s) (n:=400) (k:=2+1) (r:=r) (by omega)
 repeat' (first|(refine zBj (id:=36) ?_;refine hold ?_)|(refine zAd ?_;refine zAb xE cW2 xP rfl (fun u=>?_);obtain ⟨ua,uc⟩:=u)|refine xst ?_|(refine xsa ?_;intro _)|(refine xsb ?_ ?_ <;>intro _<;>try (exfalso;omega))|refine xsc ?_|(refine zAa (id:=24) plTFS0 (by kernel_rfl) (by kernel_rfl) ?_)|(refine zAa (id:=31) plTFS1 (by kernel_rfl) (by kernel_rfl) ?_)|(refine zAa (id:=38) plTFS2 (by kernel_rfl) (by kernel_rfl) ?_)|refine zAj ?_ ?_|refine zAi rfl rfl rfl rfl rfl ?_ ?_|refine zAf ?_ ?_|exact Rech.nil|fail)
 refine Hold.mk ?_
 have qe:decide (((sz:Nat):Int)=((sz:Nat):Int))=true:=by simp
 have cE2:=srows14_ct (W:=W) (roP (ua,uc) r) (roP (xa,xc) r) ua xa uc xc r (Lv.own (e:=51) (c:=uc) rC_ok rfl) (Lv.own (e:=51) (c:=xc) rC_ok rfl) (by omega)
 have hall:visN fffB r=r.length→vis=r:=fun h=>by rw [hvis,h,List.take_length]
 have hva:=visN_all (hi:=fffB) hris
 clear hvis
 by_cases hz:r=[]
 ·have hvr:vis=r:=hall (hva fun p hp=>by rw [hz] at hp;cases hp)
  rw [hvr]
  have qz:decide (((r.length:Nat):Int)>0)=false:=decide_eq_false (by rw [hz];decide)
  repeat' (first|(refine zAd ?_;first|(refine zAb xE (cZ _) xP rfl (fun _=>?_))|(refine zAb xE cE2 xP rfl (fun _=>?_)))|(refine zBf ?_;refine zAc (zAr rfl rfl qe) ?_)|(refine zAz ?_;refine zAc (zAk rfl rfl qz) ?_)|refine xst ?_|(refine xsa ?_;intro _)|(refine xsb ?_ ?_ <;>intro _<;>try (exfalso;omega))|refine xsc ?_|(refine zAa (id:=24) plTFS0 (by kernel_rfl) (by kernel_rfl) ?_)|(refine zAa (id:=31) plTFS1 (by kernel_rfl) (by kernel_rfl) ?_)|(refine zAa (id:=38) plTFS2 (by kernel_rfl) (by kernel_rfl) ?_)|refine zAj ?_ ?_|refine zAi rfl rfl rfl rfl rfl ?_ ?_|refine zAf ?_ ?_|exact Rech.nil|fail)
  all_goals (exact xdn ())
 have hpos:0<r.length:=List.length_pos_iff.2 hz
 obtain ⟨j,hj⟩:∃ j,r.length=j+1:=⟨r.length-1,by omega⟩
 have qz:decide (((r.length:Nat):Int)>0)=true:=decide_eq_true (by omega)
 obtain ⟨p,hp⟩:∃ p,r[j]? = some p:=⟨_,List.getElem?_eq_getElem (by omega)⟩
 have hoff3:0+Int.toNat ((j:Nat):Int)*2+0=j*2+0:=by simp
 refine KJ.lsSome (l:=r) (a:=ua) (c:=uc) (m:=r.length) xS hpos (fun gu hgu=>?_)
 subst hgu
 cases hb:Op.bytesLess p.1 fffB with
 |true=>
  have hvr:vis=r:=hall (hva fun q hq=>by
   rw [hj,Nat.add_sub_cancel,hp] at hq
   cases hq
   exact hb)
  rw [hvr]
  have qs:(!Op.bytesLess p.1 fffB)=false:=by rw [hb];rfl
  repeat' (first|(refine zAd ?_;first|(refine zAb xE (cZ _) xP rfl (fun _=>?_))|(refine zAb xE cE2 xP rfl (fun _=>?_)))|(refine zAm ?_;refine zAc (Ev_loadLsF (j:=0) rC_ok rfl xS rfl hoff3 hp rfl) ?_)|(refine ek_sub ?_;refine zAc (Ev_subI_v (r:=((j:Nat):Int)) rfl rfl (by omega) (by omega)) ?_)|(refine zBf ?_;refine zAc (zAr rfl rfl qe) ?_)|(refine zAz ?_;refine zAc (zAk rfl rfl qz) ?_)|(refine ek_geq ?_;refine zAc (Ev_geqS_q rfl rfl qs) ?_)|refine xst ?_|(refine xsa ?_;intro _)|(refine xsb ?_ ?_ <;>intro _<;>try (exfalso;omega))|refine xsc ?_|(refine zAa (id:=24) plTFS0 (by kernel_rfl) (by kernel_rfl) ?_)|(refine zAa (id:=31) plTFS1 (by kernel_rfl) (by kernel_rfl) ?_)|(refine zAa (id:=38) plTFS2 (by kernel_rfl) (by kernel_rfl) ?_)|refine zAj ?_ ?_|refine zAi rfl rfl rfl rfl rfl ?_ ?_|refine zAf ?_ ?_|exact Rech.nil|fail)
  all_goals (exact xdn ())
 |false=>
  have qs:(!Op.bytesLess p.1 fffB)=true:=by rw [hb];rfl
  repeat' (first|(refine zAm ?_;refine zAc (Ev_loadLsF (j:=0) rC_ok rfl xS rfl hoff3 hp rfl) ?_)|(refine ek_sub ?_;refine zAc (Ev_subI_v (r:=((j:Nat):Int)) rfl rfl (by omega) (by omega)) ?_)|(refine zAz ?_;refine zAc (zAk rfl rfl qz) ?_)|(refine ek_geq ?_;refine zAc (Ev_geqS_q rfl rfl qs) ?_)|refine xst ?_|(refine xsa ?_;intro _)|(refine xsb ?_ ?_ <;>intro _<;>try (exfalso;omega))|refine xsc ?_|(refine zAa (id:=24) plTFS0 (by kernel_rfl) (by kernel_rfl) ?_)|(refine zAa (id:=31) plTFS1 (by kernel_rfl) (by kernel_rfl) ?_)|(refine zAa (id:=38) plTFS2 (by kernel_rfl) (by kernel_rfl) ?_)|refine zAj ?_ ?_|refine zAi rfl rfl rfl rfl rfl ?_ ?_|refine zAf ?_ ?_|exact Rech.nil|fail)
  all_goals (exact xdn ())
theorem tbatch14_law (hE:ErrsOn L16 W F) (hN:NibAt W) (hg:gB≤W.heap.size) (a b:Option Addr) (c d:Nat) (l:Rows) (S:List TOp) (hA:Lv W rC 2 noP a l) (hB:Lv W topC 5 noP b S) (X:Args14 l S) :
 Ct Tryz.prog W 3 [.slice a l.length c,.slice b S.length d] [] (fun _:Unit=>.bool true) (fun _=>[]):=(tbatch14_ct hE hN hg noP noP a b c d l S hA hB X).noP14
end
end Go.Proofs.YtahgdagcnkpnbaaGreatDoor
