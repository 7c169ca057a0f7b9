/-
  TxD1, TxD2, TxD3.
-/
import Derived.Test.YtgipenahkmbelaaGreatDoorTFZ
import Derived.Test.YtgipenahkmbelaaGreatDoorTFT
set_option maxHeartbeats 64000000
namespace Go.Proofs.YtgipenahkmbelaaGreatDoor
open Go Go.RowKit
abbrev plTFW0:Pl:=(.op 0 (.op 1 (.op 2 (.op 3 (.op 4 (.op 5 (.ef 6 [] (.op 7 (.ef 8 [] .nil)))))))))
abbrev plTFW1:Pl:=(.op 0 (.op 1 (.op 2 (.op 3 (.ef 4 [2,1,0] (.op 5 (.op 6 (.op 7 .nil))))))))
abbrev plTFW2:Pl:=(.op 0 (.op 1 (.op 2 (.op 3 (.op 4 (.op 5 (.op 6 (.op 7 (.op 8 (.op 9 (.op 10 (.op 11 (.op 12 (.op 13 (.op 14 (.op 15 (.op 16 (.op 17 (.op 18 (.op 19 .nil))))))))))))))))))))
abbrev plTFW3:Pl:=(.op 0 (.op 1 (.op 2 (.op 3 (.op 4 (.op 5 (.op 6 (.op 7 (.op 8 (.op 9 (.op 10 (.op 11 (.op 12 (.op 13 (.op 14 .nil)))))))))))))))
abbrev plTFW4:Pl:=(.op 0 (.op 1 (.op 2 (.op 3 (.op 4 (.op 5 (.op 6 (.op 7 (.op 8 (.op 9 (.ef 10 [0] (.ef 11 [] (.ef 12 [] .nil)))))))))))))
abbrev plTFW5:Pl:=(.op 0 (.op 1 (.op 2 (.op 3 (.op 4 (.op 5 (.op 6 (.op 7 (.op 8 .nil)))))))))
abbrev plTFW6:Pl:=(.op 0 (.op 1 (.op 2 (.op 3 (.ef 4 [3,2] (.ef 5 [] .nil))))))
abbrev tblV (a:Option Addr) (n c:Nat):Value:=.agg #[.slice a n c]
theorem mdel_leT (r:Rows) (k:List UInt8):(mdel r k).length≤r.length:=List.length_filter_le ..
section
variable {W:World} {a:Option Addr} {c:Nat} {l:Rows} {A:SP} {key val:List UInt8}
instance fn_eplace:FnIs Tryz.prog 46:=⟨by kernel_rfl⟩
instance fn_eget:FnIs Tryz.prog 20:=⟨by kernel_rfl⟩
instance fn_edel:FnIs Tryz.prog 47:=⟨by kernel_rfl⟩
instance fn_eput:FnIs Tryz.prog 45:=⟨by kernel_rfl⟩
instance fn_eof:FnIs Tryz.prog 16:=⟨by kernel_rfl⟩
theorem eplace_ct (hA:Lv W rC 2 A a l) (hr:RisR l) (hl:l.length≤4611686018427387904) (key:List UInt8) :
 Ct Tryz.prog W 46 [tblV a l.length c,strV key] [A] (fun _:Unit=>.int .i64 (placeR l key:Nat)) (fun _=>[A]):=by
 obtain ⟨M,hM⟩:∃ M,M=placeR l key:=⟨_,rfl⟩
 have hend:=fun h=>place_end (r:=l) key h
 have hgo:=fun (i:Nat) (p:List UInt8 × List UInt8) (hp:l[i]? = some p)=>place_go hr hp key
 rw [← hM] at hend hgo ⊢
 clear hM
 refine Ct.enter Tryz.func46 rfl Tryz.ntmps46 (by simp) (fun R=>?_)
 repeat' (first|(refine zBe ?_;refine zBb rfl xF rfl (fun g=>?_))|refine xst ?_|(refine xsa ?_;intro _)|(refine xsb ?_ ?_ <;>intro _<;>try (exfalso;omega))|refine xsc ?_|fail)
 refine zBv (fun i:{i:Nat//i≤l.length∧i≤M}=>[(1,strV key),(2,.pointer (some ⟨g,0,none⟩)),(5,.int .i64 (i.1:Nat))])
  (fun _=>[A,zAh g [.slice a l.length c] 51]++R) (fun i=>l.length-i.1) ⟨0,Nat.zero_le _,Nat.zero_le _⟩ xB (xN) (fun ⟨i,hi,hp⟩=>?_)
 dsimp only at hi hp ⊢
 by_cases hlt:i<l.length
 rotate_left
 ·have ql:decide ((i:Int)<(l.length:Nat))=false:=decide_eq_false (by omega)
  have e:M=i:=by
   have h1:=hend (by omega)
   omega
  repeat' (first|(refine zAq ?_;refine zAb (zAe rfl rfl ql) ?_)|refine xst ?_|(refine xsa ?_;intro _)|(refine xsb ?_ ?_ <;>intro _<;>try (exfalso;omega))|refine xsc ?_|fail)
  all_goals exact xdn () (hc:=by rw [e];rfl)
 have ql:decide ((i:Int)<(l.length:Nat))=true:=decide_eq_true (by omega)
 obtain ⟨x,hx⟩:∃ s,l[i]? = some s:=⟨_,List.getElem?_eq_getElem hlt⟩
 obtain ⟨g1,g2⟩:=hgo i x hx hp
 refine KJ.lvSome hA xS (by omega) (fun ba oa hab=>?_)
 have ho1:oa+Int.toNat (i:Int)*2+0=oa+i*2+0:=by rw [Int.toNat_natCast]
 subst hab
 cases hb:Op.bytesLess x.1 key with
 |true=>
  repeat' (first|(refine zAm ?_;refine zAb (zBj (j:=0) zCc hA rfl rfl xS ho1 hx rfl) ?_)|(refine zBh ?_;refine zAb (zAi (r:=((i+1:Nat):Int)) rfl rfl (by omega) (by omega)) ?_)|(refine zAq ?_;first|refine zAb (zAe rfl rfl ql) ?_|refine zAb (Ev_lssS_q rfl rfl hb) ?_)|refine xst ?_|(refine xsa ?_;intro _)|(refine xsb ?_ ?_ <;>intro _<;>try (exfalso;omega))|refine xsc ?_|fail)
  all_goals refine zAv ⟨i+1,hlt,g1 hb⟩ (by show l.length-(i+1)<l.length-i;omega) xB (xN)
 |false=>
  have e:=g2 hb
  repeat' (first|(refine zAm ?_;refine zAb (zBj (j:=0) zCc hA rfl rfl xS ho1 hx rfl) ?_)|(refine zAq ?_;first|refine zAb (zAe rfl rfl ql) ?_|refine zAb (Ev_lssS_q rfl rfl hb) ?_)|refine xst ?_|(refine xsa ?_;intro _)|(refine xsb ?_ ?_ <;>intro _<;>try (exfalso;omega))|refine xsc ?_|fail)
  all_goals exact xdn () (hc:=by rw [e];rfl)
theorem eget_ct (hA:Lv W rC 2 A a l) (hr:RisR l) (hl:l.length≤4611686018427387904) (key:List UInt8) :
 Ct Tryz.prog W 20 [tblV a l.length c,strV key] [A] (fun _:Unit=>.tuple #[strV ((lk l key).getD []),.bool (lk l key).isSome]) (fun _=>[A]):=by
 have cp:=eplace_ct (W:=W) (c:=c) hA hr hl key
 obtain ⟨p1,p2,p3⟩:=place_get hr key
 have ple:placeR l key≤l.length:=atB_le l key
 obtain ⟨i,hi⟩:∃ i,i=placeR l key:=⟨_,rfl⟩
 rw [← hi] at cp p1 p2 p3 ple
 refine Ct.enter Tryz.func20 rfl Tryz.ntmps20 (by simp) (fun R=>?_)
 by_cases hlt:i<l.length
 rotate_left
 ·have ql:decide ((i:Int)<(l.length:Nat))=false:=decide_eq_false (by omega)
  rw [p3 (List.getElem?_eq_none (by omega))]
  repeat' (first|(refine zBe ?_;refine zBb rfl xF rfl (fun g=>?_))|(refine zAd ?_;refine zAc xE cp xP rfl (fun _=>?_))|(refine zAq ?_;refine zAb (zAe rfl rfl ql) ?_)|refine xst ?_|(refine xsa ?_;intro _)|(refine xsb ?_ ?_ <;>intro _<;>try (exfalso;omega))|refine xsc ?_|fail)
  all_goals (exact xdn ())
 have ql:decide ((i:Int)<(l.length:Nat))=true:=decide_eq_true (by omega)
 obtain ⟨x,hx⟩:∃ s,l[i]? = some s:=⟨_,List.getElem?_eq_getElem hlt⟩
 refine KJ.lvSome hA xS (by omega) (fun ba oa hab=>?_)
 have ho1:oa+Int.toNat (i:Int)*2+0=oa+i*2+0:=by rw [Int.toNat_natCast]
 have ho2:oa+Int.toNat (i:Int)*2+1=oa+i*2+1:=by rw [Int.toNat_natCast]
 subst hab
 by_cases e:x.1=key
 ·rw [p1 x hx e]
  repeat' (first|(refine zBe ?_;refine zBb rfl xF rfl (fun g=>?_))|(refine zAd ?_;refine zAc xE cp xP rfl (fun _=>?_))|(refine zAm ?_;first|refine zAb (zBj (j:=0) zCc hA rfl rfl xS ho1 hx rfl) ?_|refine zAb (zBj (j:=1) zCc hA rfl rfl xS ho2 hx rfl) ?_)|(refine zBg ?_;refine zAb (Ev_eqlS_t rfl rfl e) ?_)|(refine zAq ?_;refine zAb (zAe rfl rfl ql) ?_)|refine xst ?_|(refine xsa ?_;intro _)|(refine xsb ?_ ?_ <;>intro _<;>try (exfalso;omega))|refine xsc ?_|fail)
  all_goals (exact xdn ())
 ·rw [p2 x hx e]
  repeat' (first|(refine zBe ?_;refine zBb rfl xF rfl (fun g=>?_))|(refine zAd ?_;refine zAc xE cp xP rfl (fun _=>?_))|(refine zAm ?_;refine zAb (zBj (j:=0) zCc hA rfl rfl xS ho1 hx rfl) ?_)|(refine zBg ?_;refine zAb (Ev_eqlS_f rfl rfl e) ?_)|(refine zAq ?_;refine zAb (zAe rfl rfl ql) ?_)|refine xst ?_|(refine xsa ?_;intro _)|(refine xsb ?_ ?_ <;>intro _<;>try (exfalso;omega))|refine xsc ?_|fail)
  all_goals (exact xdn ())
abbrev hadB (l:Rows) (key:List UInt8):Bool:=l.any fun p=>decide (p.1=key)
theorem had_next {l:Rows} {i:Nat} {p:List UInt8 × List UInt8} (h:l[i]? = some p) (key:List UInt8):hadB (l.take (i+1)) key=(hadB (l.take i) key || decide (p.1=key)):=by
 show (l.take (i+1)).any _=_
 rw [List.take_add_one,h,List.any_append]
 simp
theorem edel_ct (hA:Lv W rC 2 A a l) (hl:l.length≤1000000000) (key:List UInt8) :
 Ct Tryz.prog W 47 [tblV a l.length c,strV key] [A] (fun x:Option Addr × Nat=>.tuple #[tblV x.1 (mdel l key).length x.2,.bool (hadB l key)]) (fun x=>[A,roP x (mdel l key)]):=by
 refine Ct.enter Tryz.func47 rfl Tryz.ntmps47 (by simp) (fun R=>?_)
 repeat' (first|(refine zBc ?_;first|(refine zAu (d:=6) rfl (fun g6=>?_))|(refine zAu (d:=4) rfl (fun g4=>?_)))|(refine zBe ?_;refine zBb rfl xF rfl (fun g2=>?_))|(refine zAy ?_;refine zAb (zAz xV xW) ?_)|refine xst ?_|(refine xsa ?_;intro _)|(refine xsb ?_ ?_ <;>intro _<;>try (exfalso;omega))|refine xsc ?_|fail)
 refine KJ.nilrow 36 2 ?_
 refine zBv (fun x:{x:Nat × Option Addr × Nat//x.1≤l.length}=>[(1,strV key),(4,.pointer (some ⟨g4,0,none⟩)),(6,.pointer (some ⟨g6,0,none⟩)),(7,.bool (hadB (l.take x.1.1) key)),(12,.slice a l.length c),(13,.int .i64 (l.length:Nat)),(14,.int .i64 (x.1.1:Nat))])
  (fun x=>[A,zAh g4 [.slice none 0 0] 51,zAh g6 [.slice x.1.2.1 (mdel (l.take x.1.1) key).length x.1.2.2] 51,roP x.1.2 (mdel (l.take x.1.1) key)]++R) (fun x=>l.length-x.1.1) ⟨(0,none,0),Nat.zero_le _⟩ xB (xN) (fun ⟨(i,xa,xc),hi⟩=>?_)
 dsimp only at hi ⊢
 by_cases hlt:i<l.length
 rotate_left
 ·have ql:decide ((i:Int)<(l.length:Nat))=false:=decide_eq_false (by omega)
  obtain rfl:i=l.length:=by omega
  rw [List.take_length]
  repeat' (first|(refine zAq ?_;refine zAb (zAe rfl rfl ql) ?_)|refine xst ?_|(refine xsa ?_;intro _)|(refine xsb ?_ ?_ <;>intro _<;>try (exfalso;omega))|refine xsc ?_|fail)
  all_goals (refine is_ex ?_;exact KJ_done (by first|exact Or.inl rfl|exact Or.inr rfl) rfl (Rvs.agg (T:=51) rfl inferInstance inferInstance xS xC (Rvs.tmp rfl Rvs.nil)) (xa,xc) (by rfl) (xN))
 have ql:decide ((i:Int)<(l.length:Nat))=true:=decide_eq_true (by omega)
 obtain ⟨x,hx⟩:∃ s,l[i]? = some s:=⟨_,List.getElem?_eq_getElem hlt⟩
 have hnx:=del_next hx key
 have hwx:=had_next hx key
 have hle:=mdel_leT (l.take i) key
 have hle2:(l.take i).length≤i:=List.length_take_le ..
 refine KJ.lvSome hA xS (by omega) (fun ba oa hab=>?_)
 have ho1:oa+Int.toNat (i:Int)*2=oa+i*2:=by rw [Int.toNat_natCast]
 subst hab
 obtain ⟨T,hT⟩:∃ T,T=mdel (l.take i) key:=⟨_,rfl⟩
 rw [← hT] at hnx hle ⊢
 have m1:(T.length+1)*32≤140737488355328:=by omega
 have m2:T.length+1≤9223372036854775807:=by omega
 by_cases e:x.1=key
 ·rw [if_pos e] at hnx
  rw [decide_eq_true e,Bool.or_true] at hwx
  repeat' (first|(refine zBc ?_;refine zAu rfl (fun g=>?_))|(refine zAm ?_;refine zAb (zBn zCc hA rfl rfl xS ho1 hx) ?_)|(refine zBh ?_;refine zAb (zAi (r:=((i+1:Nat):Int)) rfl rfl (by omega) (by omega)) ?_)|(refine zBg ?_;refine zAb (Ev_eqlS_t rfl rfl e) ?_)|(refine zAq ?_;refine zAb (zAe rfl rfl ql) ?_)|refine xst ?_|(refine xsa ?_;intro _)|(refine xsb ?_ ?_ <;>intro _<;>try (exfalso;omega))|refine xsc ?_|fail)
  all_goals refine zAv ⟨(i+1,xa,xc),hlt⟩ (by show l.length-(i+1)<l.length-i;omega) (by rw [hwx];exact xB) (by rw [hnx];exact (xN))
 ·rw [if_neg e] at hnx
  rw [decide_eq_false e,Bool.or_false] at hwx
  repeat' (first|(refine zBc ?_;refine zAu rfl (fun g=>?_))|(refine zBq ?_;refine zCe (l:=T) (a:=x) zCc rfl rfl rfl xS xS m1 m2 rfl (fun g' c'=>?_))|(refine zBi ?_;refine zBt rfl xF (by rfl) (by omega) rfl (fun gb=>?_);show KJ W _ _ _ (zAh gb (rC x) 36::_))|(refine zAm ?_;refine zAb (zBn zCc hA rfl rfl xS ho1 hx) ?_)|(refine zBh ?_;refine zAb (zAi (r:=((i+1:Nat):Int)) rfl rfl (by omega) (by omega)) ?_)|(refine zBg ?_;refine zAb (Ev_eqlS_f rfl rfl e) ?_)|(refine zAq ?_;refine zAb (zAe rfl rfl ql) ?_)|refine xst ?_|(refine xsa ?_;intro _)|(refine xsb ?_ ?_ <;>intro _<;>try (exfalso;omega))|refine xsc ?_|fail)
  all_goals refine zAv ⟨(i+1,some ⟨g',0,none⟩,c'),hlt⟩ (by show l.length-(i+1)<l.length-i;omega) (by rw [hwx];exact xB) (by rw [hnx];exact (xN))
theorem eput_ct (hA:Lv W rC 2 A a l) (hr:RisR l) (hl:l.length≤1000000000) (key val:List UInt8) :
 Ct Tryz.prog W 45 [tblV a l.length c,strV key,strV val] [A] (fun x:Option Addr × Nat=>.tuple #[tblV x.1 (putR l key val).length x.2,.bool (hadB l key)]) (fun x=>[A,roP x (putR l key val)]):=by
 have cd:=edel_ct (W:=W) (c:=c) hA hl key
 have hpp:=place_put hr key val
 have hmd:=mdel_ris hr key
 have hle:=mdel_leT l key
 have cp:=fun (x:Option Addr × Nat)=>eplace_ct (W:=W) (c:=x.2) (A:=roP x (mdel l key)) (a:=x.1) (l:=mdel l key) (Lv.own (e:=36) (c:=x.2) zCc rfl) hmd (by omega) key
 have ple:placeR (mdel l key) key≤(mdel l key).length:=atB_le _ key
 obtain ⟨m,hm⟩:∃ m,m=mdel l key:=⟨_,rfl⟩
 rw [← hm] at cd hpp hle cp ple
 obtain ⟨i,hi⟩:∃ i,i=placeR m key:=⟨_,rfl⟩
 rw [← hi] at hpp cp ple
 rw [hpp]
 clear hpp hi hm hmd
 have l1:(m.take i).length=i:=by rw [List.length_take];omega
 have l2:(m.drop i).length=m.length-i:=List.length_drop ..
 refine Ct.enter Tryz.func45 rfl Tryz.ntmps45 (by simp) (fun R=>?_)
 repeat' (first|(refine at_seq_region (id:=4) ?_;refine hold ?_)|(refine zBc ?_;first|(refine zAu (d:=11) rfl (fun g11=>?_))|(refine zAu (d:=8) rfl (fun g8=>?_))|(refine zAu (d:=6) rfl (fun g6=>?_)))|(refine zBe ?_;refine zBb rfl xF rfl (fun g3=>?_))|(refine zAd ?_;first|(refine zAc xE (cp _) xP rfl (fun _=>?_))|(refine zAc xE cd xP rfl (fun x=>?_)))|(refine zAy ?_;refine zAb (zAz xV xW) ?_)|refine xst ?_|(refine xsa ?_;intro _)|(refine xsb ?_ ?_ <;>intro _<;>try (exfalso;omega))|refine xsc ?_|(refine zAa (id:=4) plTFW0 (by kernel_rfl) (by kernel_rfl) ?_)|(refine zAa (id:=6) plTFW0 (by kernel_rfl) (by kernel_rfl) ?_)|refine zAp ?_ ?_|refine zAn rfl rfl rfl rfl rfl ?_ ?_|refine zAg ?_ ?_|exact Rech.nil|fail)
 refine Hold.mk ?_
 refine KJ.slOk (l:=m) (a:=x.1) (c:=x.2) (m:=m.length) xS (fun hs=>?_)
 have hL:Lv W rC 2 (roP x m) x.1 m:=Lv.own (e:=36) (c:=x.2) zCc rfl
 have hL1:=hL.takeB zCc i
 have hL2:=hL.dropB zCc ple hs.le
 have hcap:=hs.le
 obtain ⟨xa,xc⟩:=x
 dsimp only at hL hL1 hL2 hs hcap ⊢
 refine KJ.nilrow 36 2 ?_
 refine KJ.lvOpen hL1 xS (fun b1 o1 hb1=>?_)
 refine KJ.lvOpen hL2 xS (fun b2 o2 hb2=>?_)
 obtain ⟨M,hM⟩:∃ M,M=roP (xa,xc) m:=⟨_,rfl⟩
 rw [← hM] at hL1 hL2 ⊢
 have a1:([]++m.take i:Rows)=m.take i:=List.nil_append _
 repeat' (first|(refine at_seq_region (id:=5) ?_;refine hold ?_)|(refine zBq ?_;refine KJ_appAll (l:=[]) (l2:=m.take i) zCc rfl rfl l1.symm rfl xS (Src.lv hL1 hb1 xS) (by rw [l1];simp;omega) (by rw [l1];simp;omega) rfl (fun a' c'=>?_))|(refine zCg ?_;refine zAb (Ev_sliceToB rfl rfl hs.nil (by omega)) ?_)|refine xst ?_|(refine xsa ?_;intro _)|(refine xsb ?_ ?_ <;>intro _<;>try (exfalso;omega))|refine xsc ?_|(refine zAa (id:=4) plTFW0 (by kernel_rfl) (by kernel_rfl) ?_)|(refine zAa (id:=6) plTFW0 (by kernel_rfl) (by kernel_rfl) ?_)|refine zAp ?_ ?_|refine zAn rfl rfl rfl rfl rfl ?_ ?_|refine zAg ?_ ?_|exact Rech.nil|fail)
 refine Hold.mk ?_
 rw [a1]
 repeat' (first|(refine at_seq_region (id:=6) ?_;refine hold ?_)|(refine zBq ?_;refine zCe (l:=m.take i) (a:=(key,val)) zCc rfl rfl rfl xS xS (by rw [l1];omega) (by rw [l1];omega) rfl (fun g' c''=>?_))|(refine zBi ?_;refine zBt rfl xF (by rfl) (by omega) rfl (fun gb=>?_))|(refine zAy ?_;refine zAb (zAz xV xW) ?_)|refine xst ?_|(refine xsa ?_;intro _)|(refine xsb ?_ ?_ <;>intro _<;>try (exfalso;omega))|refine xsc ?_|(refine zAa (id:=4) plTFW0 (by kernel_rfl) (by kernel_rfl) ?_)|(refine zAa (id:=6) plTFW0 (by kernel_rfl) (by kernel_rfl) ?_)|refine zAp ?_ ?_|refine zAn rfl rfl rfl rfl rfl ?_ ?_|refine zAg ?_ ?_|exact Rech.nil|fail)
 refine Hold.mk ?_
 have l3:(m.take i++[(key,val)]).length=i+1:=by rw [List.length_append,l1];rfl
 repeat' (first|(refine zBq ?_;refine KJ_appAll (l:=m.take i++[(key,val)]) (l2:=m.drop i) zCc rfl rfl l2.symm rfl xS (Src.lv hL2 hb2 xS) (by rw [l2,l3];omega) (by rw [l2,l3];omega) rfl (fun a3 c3=>?_))|(refine zCg ?_;refine zAb (Ev_sliceFromB rfl rfl hs.nil ple hcap) ?_)|refine xst ?_|(refine xsa ?_;intro _)|(refine xsb ?_ ?_ <;>intro _<;>try (exfalso;omega))|refine xsc ?_|(refine zAa (id:=4) plTFW0 (by kernel_rfl) (by kernel_rfl) ?_)|(refine zAa (id:=6) plTFW0 (by kernel_rfl) (by kernel_rfl) ?_)|refine zAp ?_ ?_|refine zAn rfl rfl rfl rfl rfl ?_ ?_|refine zAg ?_ ?_|exact Rech.nil|fail)
 all_goals (refine is_ex ?_;exact KJ_done (by first|exact Or.inl rfl|exact Or.inr rfl) rfl (Rvs.agg (T:=51) rfl inferInstance inferInstance xS xC (Rvs.tmp rfl Rvs.nil)) (a3,c3) (by rfl) (xN))
theorem eof_ct (hA:Lv W rC 2 A a l) (hl:l.length≤100000000) :
 Ct Tryz.prog W 16 [.slice a l.length c] [A] (fun x:Option Addr × Nat=>tblV x.1 (ofR l).length x.2) (fun x=>[A,roP x (ofR l)]):=by
 refine Ct.enter Tryz.func16 rfl Tryz.ntmps16 (by simp) (fun R=>?_)
 repeat' (first|(refine zBc ?_;first|(refine zAu (d:=3) rfl (fun g3=>?_))|(refine zAu (d:=2) rfl (fun g2=>?_)))|(refine zAy ?_;refine zAb (zAz xV xW) ?_)|refine xst ?_|(refine xsa ?_;intro _)|(refine xsb ?_ ?_ <;>intro _<;>try (exfalso;omega))|refine xsc ?_|fail)
 refine KJ.nilrow 36 2 ?_
 refine zBv (fun x:{x:(Nat × Rows) × Option Addr × Nat//x.1.1≤l.length∧x.1.2=ofR (l.take x.1.1)}=>[(2,.pointer (some ⟨g2,0,none⟩)),(3,.pointer (some ⟨g3,0,none⟩)),(7,.slice a l.length c),(8,.int .i64 (l.length:Nat)),(9,.int .i64 (x.1.1.1:Nat))])
  (fun x=>[A,zAh g2 [.slice none 0 0] 51,zAh g3 [.slice x.1.2.1 x.1.1.2.length x.1.2.2] 51,roP x.1.2 x.1.1.2]++R) (fun x=>l.length-x.1.1.1) ⟨((0,[]),none,0),Nat.zero_le _,rfl⟩ xB (xN) (fun ⟨((i,r),xa,xc),hi,hr⟩=>?_)
 dsimp only at hi hr ⊢
 by_cases hlt:i<l.length
 rotate_left
 ·have ql:decide ((i:Int)<(l.length:Nat))=false:=decide_eq_false (by omega)
  rw [List.take_of_length_le (by omega)] at hr
  rw [← hr]
  repeat' (first|(refine zAq ?_;refine zAb (zAe rfl rfl ql) ?_)|refine xst ?_|(refine xsa ?_;intro _)|(refine xsb ?_ ?_ <;>intro _<;>try (exfalso;omega))|refine xsc ?_|fail)
  all_goals (refine is_ex ?_;exact KJ_done (by first|exact Or.inl rfl|exact Or.inr rfl) rfl (Rvs.agg (T:=51) rfl inferInstance inferInstance xS xC Rvs.nil) (xa,xc) (by rfl) (xN))
 have ql:decide ((i:Int)<(l.length:Nat))=true:=decide_eq_true (by omega)
 obtain ⟨x,hx⟩:∃ s,l[i]? = some s:=⟨_,List.getElem?_eq_getElem hlt⟩
 have hris:RisR r:=by rw [hr];exact (sum_ofR _).2
 have hrl:r.length≤i:=by
  have h1:=ofR_len (l.take i) []
  have h2:(l.take i).length≤i:=List.length_take_le ..
  rw [hr]
  show ((l.take i).foldl _ []).length≤_
  have:([]:Rows).length=0:=rfl
  omega
 have hnx:putR r x.1 x.2=ofR (l.take (i+1)):=by rw [hr];exact (ofR_next hx).symm
 have cP:=eput_ct (W:=W) (A:=roP (xa,xc) r) (a:=xa) (c:=xc) (l:=r) (Lv.own (e:=36) (c:=xc) zCc rfl) hris (by omega) x.1 x.2
 refine KJ.lvSome hA xS (by omega) (fun ba oa hab=>?_)
 have ho1:oa+Int.toNat (i:Int)*2=oa+i*2:=by rw [Int.toNat_natCast]
 subst hab
 repeat' (first|(refine zBc ?_;refine zAu rfl (fun g=>?_))|(refine zAd ?_;refine zAc xE cP xP rfl (fun y=>?_);obtain ⟨ya,yc⟩:=y)|(refine zAm ?_;refine zAb (zBn zCc hA rfl rfl xS ho1 hx) ?_)|(refine zBh ?_;refine zAb (zAi (r:=((i+1:Nat):Int)) rfl rfl (by omega) (by omega)) ?_)|(refine zAq ?_;refine zAb (zAe rfl rfl ql) ?_)|refine xst ?_|(refine xsa ?_;intro _)|(refine xsb ?_ ?_ <;>intro _<;>try (exfalso;omega))|refine xsc ?_|fail)
 all_goals refine zAv ⟨((i+1,putR r x.1 x.2),ya,yc),hlt,hnx⟩ (by show l.length-(i+1)<l.length-i;omega) xB (xN)
end
end Go.Proofs.YtgipenahkmbelaaGreatDoor
namespace Go.Proofs.YtgipenahkmbelaaGreatDoor
open Go Go.RowKit
abbrev dtxC (ba:Option Addr) (bn bc:Nat) (sa:Option Addr) (sn sc:Nat) (ended:Bool):List Value:=[.slice ba bn bc,.slice sa sn sc,.bool ended]
theorem starL_two {A:SP} {H:List SP}:∀ g,zAj (A::H) g→zAj (allP 94 [A,noP]::H) g:=fun g q=>all_shut (L:=[A,noP]) (starL_swap g (noP_star g q))
section
variable {W:World} {n:Nat} {k:KK} {E:Env} {H R R':List SP}
theorem KJ.addNo {A:SP} (q:Sel A H R) (h:KJ W n k E (allP 94 [A,factP True]::R)):KJ W n k E H:=
 ⟨fun a w pp s=>h.go a w pp ((s.perm (q.perm.append_right _)).mono starL_two)⟩
theorem KJ.addZ {A Z Y:SP} (q:Pick [allP 94 [A,Z],Y] H R) (h:KJ W n k E (allP 94 [A,Y]::R)):KJ W n k E H:=
 ⟨fun a w pp s=>h.go a w pp ((s.perm (q.perm.append_right _)).mono (fun g hg=>by
  have h1:zAj ([A,Z]++(Y::(R++dm a.defers))) g:=all_open (L:=[A,Z]) hg
  have h2:∀ g,zAj ([A,Z,Y]++(R++dm a.defers)) g→zAj ([A,Y]++(R++dm a.defers)) g:=(xN)
  exact all_shut (L:=[A,Y]) (h2 g h1)))⟩
end
section
variable {W:World} {A B:SP} {ba sa:Option Addr} {bc sc:Nat} {l:Rows} {S:List BOp}
instance fn_sees14:FnIs Tryz.prog 21:=⟨by kernel_rfl⟩
instance fn_rops14:FnIs Tryz.prog 27:=⟨by kernel_rfl⟩
abbrev SeeX (W:World) (A:SP) (r:Rows):Type:={z:SP × Option Addr × Nat//Lv W rC 2 (allP 94 [A,z.1]) z.2.1 r∧SlOk z.2.1 z.2.2 r.length}
theorem sees14_ct (hA:Lv W rC 2 A ba l) (hB:Lv W opC 3 B sa S) (hs:SlOk ba bc l.length) (hr:RisR l) (hl:l.length≤100000000) (hS:S.length≤100000000) :
 Ct Tryz.prog W 21 [.agg (dtxC ba l.length bc sa S.length sc false).toArray] [A,B] (fun z:SeeX W A (zAf l S)=>tblV z.1.2.1 (zAf l S).length z.1.2.2) (fun z=>[allP 94 [A,z.1.1],B]):=by
 refine Ct.enter Tryz.func21 rfl Tryz.ntmps21 (by simp) (fun R=>?_)
 repeat' (first|(refine zBc ?_;first|(refine zAu (d:=3) rfl (fun g3=>?_))|(refine zAu (d:=2) rfl (fun g2=>?_)))|(refine zBe ?_;refine zBb rfl xF rfl (fun g1=>?_))|refine xst ?_|(refine xsa ?_;intro _)|(refine xsb ?_ ?_ <;>intro _<;>try (exfalso;omega))|refine xsc ?_|fail)
 refine KJ.addNo (A:=A) xS ?_
 refine zBv (fun x:{x:(Nat × Rows) × SP × Option Addr × Nat//x.1.1≤S.length∧x.1.2=zAf l (S.take x.1.1)∧Lv W rC 2 (allP 94 [A,x.2.1]) x.2.2.1 x.1.2∧SlOk x.2.2.1 x.2.2.2 x.1.2.length}=>[(2,.pointer (some ⟨g2,0,none⟩)),(3,.pointer (some ⟨g3,0,none⟩)),(12,.slice sa S.length sc),(13,.int .i64 (S.length:Nat)),(14,.int .i64 (x.1.1.1:Nat))])
  (fun x=>[allP 94 [A,x.1.2.1],B,zAh g2 [.slice none 0 0] 51,zAh g3 [.slice x.1.2.2.1 x.1.1.2.length x.1.2.2.2] 51]++R) (fun x=>S.length-x.1.1.1) ⟨((0,l),noP,ba,bc),Nat.zero_le _,rfl,hA.all Sel.here,hs⟩ xB (xN) (fun ⟨((i,r),Z,ra,rc),hi,hrr,hL,hsr⟩=>?_)
 dsimp only at hi hrr hL hsr ⊢
 by_cases hlt:i<S.length
 rotate_left
 ·have ql:decide ((i:Int)<(S.length:Nat))=false:=decide_eq_false (by omega)
  rw [List.take_of_length_le (by omega)] at hrr
  subst hrr
  repeat' (first|(refine zAq ?_;refine zAb (zAe rfl rfl ql) ?_)|refine xst ?_|(refine xsa ?_;intro _)|(refine xsb ?_ ?_ <;>intro _<;>try (exfalso;omega))|refine xsc ?_|fail)
  all_goals (refine is_ex ?_;exact KJ_done (by first|exact Or.inl rfl|exact Or.inr rfl) rfl (Rvs.agg (T:=51) rfl inferInstance inferInstance xS xC Rvs.nil) ⟨(Z,ra,rc),hL,hsr⟩ (by rfl) (xN))
 have ql:decide ((i:Int)<(S.length:Nat))=true:=decide_eq_true (by omega)
 obtain ⟨o,ho⟩:∃ s,S[i]? = some s:=⟨_,List.getElem?_eq_getElem hlt⟩
 have hnx:=seen_next (b:=l) ho
 have hris:RisR r:=by rw [hrr];exact applyB_ris hr _
 have hrl:r.length≤l.length+i:=by
  have h1:=applyB_len (S.take i) l
  have h2:(S.take i).length≤i:=List.length_take_le ..
  rw [hrr]
  omega
 rw [← hrr] at hnx
 refine KJ.lvSome hB xS (by omega) (fun b2 o2 hab=>?_)
 have ho1:o2+Int.toNat (i:Int)*3=o2+i*3:=by rw [Int.toNat_natCast]
 subst hab
 obtain ⟨odel,okey,oval⟩:=o
 cases odel with
 |true=>
  have cD:=edel_ct (W:=W) (A:=allP 94 [A,Z]) (a:=ra) (c:=rc) (l:=r) hL (by omega) okey
  have e:apply1 r ⟨true,okey,oval⟩=mdel r okey:=rfl
  repeat' (first|(refine zBc ?_;refine zAu rfl (fun g=>?_))|(refine zAd ?_;refine zAc xE cD xP rfl (fun y=>?_);refine KJ.slOk (l:=mdel r okey) (a:=y.1) (c:=y.2) (m:=(mdel r okey).length) xS (fun hsy=>?_))|(refine zAm ?_;refine zAb (zBn zCa hB rfl rfl xS ho1 ho) ?_)|(refine zBh ?_;refine zAb (zAi (r:=((i+1:Nat):Int)) rfl rfl (by omega) (by omega)) ?_)|(refine zAq ?_;refine zAb (zAe rfl rfl ql) ?_)|refine xst ?_|(refine xsa ?_;intro _)|(refine xsb ?_ ?_ <;>intro _<;>try (exfalso;omega))|refine xsc ?_|fail)
  all_goals refine KJ.addZ (A:=A) (Z:=Z) (Y:=roP y (mdel r okey)) xP ?_
  all_goals refine zAv ⟨((i+1,mdel r okey),roP y (mdel r okey),y.1,y.2),hlt,by rw [hnx,e],(Lv.own (e:=36) (c:=y.2) zCc rfl).all (Sel.there Sel.here),hsy⟩ (by show S.length-(i+1)<S.length-i;omega) xB (xN)
 |false=>
  have cD:=eput_ct (W:=W) (A:=allP 94 [A,Z]) (a:=ra) (c:=rc) (l:=r) hL hris (by omega) okey oval
  have e:apply1 r ⟨false,okey,oval⟩=putR r okey oval:=rfl
  repeat' (first|(refine zBc ?_;refine zAu rfl (fun g=>?_))|(refine zAd ?_;refine zAc xE cD xP rfl (fun y=>?_);refine KJ.slOk (l:=putR r okey oval) (a:=y.1) (c:=y.2) (m:=(putR r okey oval).length) xS (fun hsy=>?_))|(refine zAm ?_;refine zAb (zBn zCa hB rfl rfl xS ho1 ho) ?_)|(refine zBh ?_;refine zAb (zAi (r:=((i+1:Nat):Int)) rfl rfl (by omega) (by omega)) ?_)|(refine zAq ?_;refine zAb (zAe rfl rfl ql) ?_)|refine xst ?_|(refine xsa ?_;intro _)|(refine xsb ?_ ?_ <;>intro _<;>try (exfalso;omega))|refine xsc ?_|fail)
  all_goals refine KJ.addZ (A:=A) (Z:=Z) (Y:=roP y (putR r okey oval)) xP ?_
  all_goals refine zAv ⟨((i+1,putR r okey oval),roP y (putR r okey oval),y.1,y.2),hlt,by rw [hnx,e],(Lv.own (e:=36) (c:=y.2) zCc rfl).all (Sel.there Sel.here),hsy⟩ (by show S.length-(i+1)<S.length-i;omega) xB (xN)
theorem sees14_end (l:Nat) (sn:Nat) :
 Ct Tryz.prog W 21 [.agg (dtxC ba l bc sa sn sc true).toArray] [] (fun _:Unit=>tblV none 0 0) (fun _=>[]):=by
 refine Ct.enter Tryz.func21 rfl Tryz.ntmps21 (by simp) (fun R=>?_)
 repeat' (first|(refine zBc ?_;first|(refine zAu (d:=3) rfl (fun g3=>?_))|(refine zAu (d:=2) rfl (fun g2=>?_)))|(refine zBe ?_;refine zBb rfl xF rfl (fun g1=>?_))|(refine zAy ?_;refine zAb (zAz xV xW) ?_)|refine xst ?_|(refine xsa ?_;intro _)|(refine xsb ?_ ?_ <;>intro _<;>try (exfalso;omega))|refine xsc ?_|fail)
 all_goals (refine is_ex ?_;exact KJ_done (by first|exact Or.inl rfl|exact Or.inr rfl) rfl (Rvs.agg (T:=51) rfl inferInstance inferInstance xS xC Rvs.nil) () (by rfl) (xN))
end
end Go.Proofs.YtgipenahkmbelaaGreatDoor
namespace Go.Proofs.YtgipenahkmbelaaGreatDoor
open Go Go.RowKit
section
variable {W:World} {A B:SP} {ba sa:Option Addr} {bc sc:Nat} {l:Rows} {S:List BOp}
structure OpsI (W:World) (C:SP) (l r:Rows) (i j:Nat) (x y:Option Addr × Nat) (os:List BOp):Prop where
 il:i≤l.length
 jl:j≤r.length
 lx:Lv W rC 2 C x.1 (l.drop i)
 ly:Lv W rC 2 C y.1 (r.drop j)
 sx:SlOk x.1 x.2 (l.drop i).length
 sy:SlOk y.1 y.2 (r.drop j).length
 os:os++btr l r i j=zAs l r
theorem OpsI.a {C:SP} {r:Rows} {i j:Nat} {x y:Option Addr × Nat} {os:List BOp} (h:OpsI W C l r i j x y os) {p:List UInt8 × List UInt8} (hp:l[i]? = some p) (o:BOp) (ho:btr l r i j=o::btr l r (i+1) j):OpsI W C l r (i+1) j (subB x.1 1 x.2 2,x.2-1) y (os++[o]):=by
 have h1:=(List.getElem?_eq_some_iff.1 hp).1
 have h2:(l.drop i).drop 1=l.drop (i+1):=by rw [List.drop_drop]
 have h3:(l.drop i).length-1=(l.drop (i+1)).length:=by rw [List.length_drop,List.length_drop];omega
 have h4:1≤(l.drop i).length:=by rw [List.length_drop];omega
 refine ⟨by omega,h.jl,?_,h.ly,?_,h.sy,by rw [← h.os,ho];simp⟩
 ·rw [← h2];exact h.lx.dropB zCc h4 h.sx.le
 ·rw [← h3];exact h.sx.from_ 2
theorem OpsI.b {C:SP} {r:Rows} {i j:Nat} {x y:Option Addr × Nat} {os:List BOp} (h:OpsI W C l r i j x y os) {q:List UInt8 × List UInt8} (hq:r[j]? = some q) (o:BOp) (ho:btr l r i j=o::btr l r i (j+1)):OpsI W C l r i (j+1) x (subB y.1 1 y.2 2,y.2-1) (os++[o]):=by
 have h1:=(List.getElem?_eq_some_iff.1 hq).1
 have h2:(r.drop j).drop 1=r.drop (j+1):=by rw [List.drop_drop]
 have h3:(r.drop j).length-1=(r.drop (j+1)).length:=by rw [List.length_drop,List.length_drop];omega
 have h4:1≤(r.drop j).length:=by rw [List.length_drop];omega
 refine ⟨h.il,by omega,h.lx,?_,h.sx,?_,by rw [← h.os,ho];simp⟩
 ·rw [← h2];exact h.ly.dropB zCc h4 h.sy.le
 ·rw [← h3];exact h.sy.from_ 2
theorem OpsI.ab {C:SP} {r:Rows} {i j:Nat} {x y:Option Addr × Nat} {os:List BOp} (h:OpsI W C l r i j x y os) {p q:List UInt8 × List UInt8} (hp:l[i]? = some p) (hq:r[j]? = some q) (o:List BOp) (ho:btr l r i j=o++btr l r (i+1) (j+1)):OpsI W C l r (i+1) (j+1) (subB x.1 1 x.2 2,x.2-1) (subB y.1 1 y.2 2,y.2-1) (os++o):=by
 have g1:=(List.getElem?_eq_some_iff.1 hp).1
 have g2:(l.drop i).drop 1=l.drop (i+1):=by rw [List.drop_drop]
 have g3:(l.drop i).length-1=(l.drop (i+1)).length:=by rw [List.length_drop,List.length_drop];omega
 have g4:1≤(l.drop i).length:=by rw [List.length_drop];omega
 have h1:=(List.getElem?_eq_some_iff.1 hq).1
 have h2:(r.drop j).drop 1=r.drop (j+1):=by rw [List.drop_drop]
 have h3:(r.drop j).length-1=(r.drop (j+1)).length:=by rw [List.length_drop,List.length_drop];omega
 have h4:1≤(r.drop j).length:=by rw [List.length_drop];omega
 refine ⟨by omega,by omega,?_,?_,?_,?_,by rw [← h.os,ho];simp⟩
 ·rw [← g2];exact h.lx.dropB zCc g4 h.sx.le
 ·rw [← h2];exact h.ly.dropB zCc h4 h.sy.le
 ·rw [← g3];exact h.sx.from_ 2
 ·rw [← h3];exact h.sy.from_ 2
theorem drop_at {α:Type} {l:List α} {i:Nat} {p:α} (h:l[i]? = some p):(l.drop i)[0]? = some p:=by rw [List.getElem?_drop];exact h
theorem btw_len:∀ (n:Nat) (a b:Rows),(btw n a b).length≤a.length+b.length:=by
 intro n
 induction n with
 |zero=>intro a b;exact Nat.zero_le _
 |succ n ih=>
  intro a b
  match a,b with
  |[],[]=>exact Nat.zero_le _
  |p::a,[]=>rw [btw];have:=ih a [];simp only [List.length_cons] at this ⊢;omega
  |[],q::b=>rw [btw];have:=ih [] b;simp only [List.length_cons] at this ⊢;omega
  |p::a,q::b=>
   have h1:=ih a (q::b)
   have h2:=ih (p::a) b
   have h3:=ih a b
   rw [btw]
   simp only [List.length_cons] at h1 h2 h3 ⊢
   split
   ·simp only [List.length_cons];omega
   ·split
    ·simp only [List.length_cons];omega
    ·split
     ·omega
     ·simp only [List.length_cons];omega
theorem between_len (l r:Rows):(zAs l r).length≤l.length+r.length:=btw_len _ l r
theorem Ev_sliceFromV {P:Program} {n:Nat} {E:Env} {H:List SP} {t e:TypeId} {x y:Operand} {a:Option Addr} {i m m' c s:Nat} {ki:IntKind} (hx:Env.ev E x=some (.slice a m c)) (hy:Env.ev E y=some (.int ki ((i:Nat):Int))) [hu:UIs P t (.slice e)] [hi:SzIs P e s] (ha:a=none→c=0) (hb:i≤m) (hc:m≤c) (hm:m-i=m'):Ev P W n E H (.slice t x (some y) none none) (.slice (subB a i c s) m' (c-i)):=by
 subst hm
 exact Ev_sliceFromB hx hy ha hb hc
set_option maxRecDepth 100000 in
theorem rops14_ct (hA:Lv W rC 2 A ba l) (hB:Lv W opC 3 B sa S) (hs:SlOk ba bc l.length) (hr:RisR l) (hl:l.length≤100000000) (hS:S.length≤100000000) :
 Ct Tryz.prog W 27 [.agg (dtxC ba l.length bc sa S.length sc false).toArray] [A,B] (fun z:Option Addr × Nat=>.slice z.1 (zAs l (zAf l S)).length z.2) (fun z=>[A,B,opP z (zAs l (zAf l S))]):=by
 have cS:=sees14_ct (W:=W) (sc:=sc) hA hB hs hr hl hS
 have hrl:=applyB_len S l
 have hris:=applyB_ris hr S
 obtain ⟨r,hrr⟩:∃ r,r=zAf l S:=⟨_,rfl⟩
 rw [← hrr] at cS hrl hris ⊢
 clear hrr
 obtain ⟨bt,hbt⟩:∃ b,b=zAs l r:=⟨_,rfl⟩
 have hI0:∀ C:SP,Lv W rC 2 C ba l→∀ ya yc,Lv W rC 2 C ya r→SlOk ya yc r.length→OpsI W C l r 0 0 (ba,bc) (ya,yc) []:=fun C h1 ya yc h2 h3=>⟨Nat.zero_le _,Nat.zero_le _,h1,h2,hs,h3,rfl⟩
 refine Ct.enter Tryz.func27 rfl Tryz.ntmps27 (by simp) (fun R=>?_)
 repeat' (first|(refine zBe ?_;refine zBb (d:=1) rfl xF rfl (fun g1=>?_))|(refine zAd ?_;refine zAc xE cS xP rfl (fun z=>?_);obtain ⟨⟨Z,za,zc⟩,hzL,hzs⟩:=z;dsimp only at hzL hzs ⊢)|(refine zBi ?_;refine KJ_bslice0 rfl (fun gm=>?_))|refine xst ?_|(refine xsa ?_;intro _)|(refine xsb ?_ ?_ <;>intro _<;>try (exfalso;omega))|refine xsc ?_|(refine zAa (id:=4) plTFW1 (by kernel_rfl) (by kernel_rfl) ?_)|(refine zAa (id:=9) plTFW2 (by kernel_rfl) (by kernel_rfl) ?_)|(refine zAa (id:=12) plTFW3 (by kernel_rfl) (by kernel_rfl) ?_)|(refine zAa (id:=13) plTFW4 (by kernel_rfl) (by kernel_rfl) ?_)|(refine zAa (id:=6) plTFW5 (by kernel_rfl) (by kernel_rfl) ?_)|(refine zAa (id:=7) plTFW4 (by kernel_rfl) (by kernel_rfl) ?_)|(refine zAa (id:=8) plTFW6 (by kernel_rfl) (by kernel_rfl) ?_)|refine zAp ?_ ?_|refine zAn rfl rfl rfl rfl rfl ?_ ?_|refine zAg ?_ ?_|exact Rech.nil|fail)
 obtain ⟨C,hC⟩:∃ C,C=allP 94 [A,Z]:=⟨_,rfl⟩
 have hAC:Lv W rC 2 C ba l:=by rw [hC];exact hA.all Sel.here
 rw [← hC] at hzL
 refine zBv (fun x:{x:(Nat × Nat) × ((Option Addr × Nat) × (Option Addr × Nat)) × (List BOp × Option Addr × Nat)//OpsI W C l r x.1.1 x.1.2 x.2.1.1 x.2.1.2 x.2.2.1}=>[(3,.slice x.1.2.2.2.1 x.1.2.2.1.length x.1.2.2.2.2),(4,.slice x.1.2.1.1.1 (l.drop x.1.1.1).length x.1.2.1.1.2),(5,.slice x.1.2.1.2.1 (r.drop x.1.1.2).length x.1.2.1.2.2)])
  (fun x=>[allP 94 [A,Z],B,opP x.1.2.2.2 x.1.2.2.1]++R) (fun x=>(l.length-x.1.1.1)+(r.length-x.1.1.2)) ⟨((0,0),((ba,bc),(za,zc)),([],some ⟨gm,0,none⟩,0)),hI0 C hAC za zc hzL hzs⟩ xB (xN) (fun ⟨((i,j),((xa,xc),(ya,yc)),(os,oa,oc)),I⟩=>?_)
 dsimp only at I ⊢
 have il:=I.il
 have jl:=I.jl
 have dl:(l.drop i).length=l.length-i:=List.length_drop ..
 have dr:(r.drop j).length=r.length-j:=List.length_drop ..
 have hox:os.length≤l.length+r.length:=by
  have h1:=congrArg List.length I.os
  have h2:=between_len l r
  rw [List.length_append] at h1
  omega
 have m1:(os.length+1)*40≤140737488355328:=by omega
 have m2:os.length+1≤9223372036854775807:=by omega
 have Lx:=I.lx
 have Ly:=I.ly
 rw [hC] at Lx Ly
 have xn:=I.sx.nil
 have yn:=I.sy.nil
 have xl:=I.sx.le
 have yl:=I.sy.le
 dsimp only at Lx Ly xn yn xl yl
 have tot:(((l.drop i).length:Nat):Int)+(((r.drop j).length:Nat):Int)=(((l.drop i).length+(r.drop j).length:Nat):Int):=by omega
 have hmx:(l.drop i).length-1=(l.drop (i+1)).length:=by rw [List.length_drop,List.length_drop];omega
 have hmy:(r.drop j).length-1=(r.drop (j+1)).length:=by rw [List.length_drop,List.length_drop];omega
 by_cases hi0:l.length=i
 ·have qx:decide ((((l.drop i).length:Nat):Int)=0)=true:=decide_eq_true (by omega)
  have qx2:decide ((((l.drop i).length:Nat):Int)>0)=false:=decide_eq_false (by omega)
  by_cases hj0:r.length=j
  ·have e1:btr l r i j=[]:=btr_end (by omega) (by omega)
   have e2:zAs l r=os:=by
    have:=I.os
    rw [e1,List.append_nil] at this
    exact this.symm
   have qg:decide ((((l.drop i).length+(r.drop j).length:Nat):Int)>0)=false:=decide_eq_false (by omega)
   refine KJ.allOpen (L:=[A,Z]) xS ?_
   repeat' (first|(refine zBh ?_;refine zAb (zAi rfl rfl tot (by omega)) ?_)|(refine zBf ?_;refine zAb (zAk rfl rfl qg) ?_)|refine xst ?_|(refine xsa ?_;intro _)|(refine xsb ?_ ?_ <;>intro _<;>try (exfalso;omega))|refine xsc ?_|(refine zAa (id:=4) plTFW1 (by kernel_rfl) (by kernel_rfl) ?_)|(refine zAa (id:=9) plTFW2 (by kernel_rfl) (by kernel_rfl) ?_)|(refine zAa (id:=12) plTFW3 (by kernel_rfl) (by kernel_rfl) ?_)|(refine zAa (id:=13) plTFW4 (by kernel_rfl) (by kernel_rfl) ?_)|(refine zAa (id:=6) plTFW5 (by kernel_rfl) (by kernel_rfl) ?_)|(refine zAa (id:=7) plTFW4 (by kernel_rfl) (by kernel_rfl) ?_)|(refine zAa (id:=8) plTFW6 (by kernel_rfl) (by kernel_rfl) ?_)|refine zAp ?_ ?_|refine zAn rfl rfl rfl rfl rfl ?_ ?_|refine zAg ?_ ?_|exact Rech.nil|fail)
   all_goals exact xdn (oa,oc) (hc:=by rw [e2];rfl) (hE:=by rw [e2];exact (xN))
  have qg:decide ((((l.drop i).length+(r.drop j).length:Nat):Int)>0)=true:=decide_eq_true (by omega)
  have qy:decide ((((r.drop j).length:Nat):Int)=0)=false:=decide_eq_false (by omega)
  obtain ⟨q,hq⟩:∃ q,r[j]? = some q:=⟨_,List.getElem?_eq_getElem (by omega)⟩
  have hq0:=drop_at hq
  have I2:=I.b hq ⟨false,q.1,q.2⟩ (btr_b (by omega) hq)
  refine KJ.lvSome Ly xS (by omega) (fun by_ oy hab=>?_)
  subst hab
  have ky:1≤(r.drop j).length:=by omega
  repeat' (first|(refine zBq ?_;refine zCe (l:=os) (a:=(⟨false,q.1,q.2⟩:BOp)) zCa rfl rfl rfl xS xS m1 m2 rfl (fun g' c'=>?_))|(refine zBi ?_;refine zBt rfl xF (by rfl) (by omega) rfl (fun gb=>?_))|(refine zAm ?_;first|refine zAb (zBj (i:=0) (j:=0) zCc Ly rfl rfl xS (by rfl) hq0 rfl) ?_|refine zAb (zBj (i:=0) (j:=1) zCc Ly rfl rfl xS (by rfl) hq0 rfl) ?_)|(refine zCg ?_;refine zAb (Ev_sliceFromV (i:=1) rfl rfl yn ky yl hmy) ?_)|(refine zAy ?_;refine zAb (zAz xV xW) ?_)|(refine zBh ?_;refine zAb (zAi rfl rfl tot (by omega)) ?_)|(refine zBg ?_;first|refine zAb (zAr rfl rfl qy) ?_|refine zAb (zAr rfl rfl qx) ?_)|(refine zBf ?_;first|refine zAb (zAk rfl rfl qg) ?_|refine zAb (zAk rfl rfl qx2) ?_)|refine xst ?_|(refine xsa ?_;intro _)|(refine xsb ?_ ?_ <;>intro _<;>try (exfalso;omega))|refine xsc ?_|(refine zAa (id:=4) plTFW1 (by kernel_rfl) (by kernel_rfl) ?_)|(refine zAa (id:=9) plTFW2 (by kernel_rfl) (by kernel_rfl) ?_)|(refine zAa (id:=12) plTFW3 (by kernel_rfl) (by kernel_rfl) ?_)|(refine zAa (id:=13) plTFW4 (by kernel_rfl) (by kernel_rfl) ?_)|(refine zAa (id:=6) plTFW5 (by kernel_rfl) (by kernel_rfl) ?_)|(refine zAa (id:=7) plTFW4 (by kernel_rfl) (by kernel_rfl) ?_)|(refine zAa (id:=8) plTFW6 (by kernel_rfl) (by kernel_rfl) ?_)|refine zAp ?_ ?_|refine zAn rfl rfl rfl rfl rfl ?_ ?_|refine zAg ?_ ?_|exact Rech.nil|fail)
  all_goals refine zAv ⟨((i,j+1),((xa,xc),(subB (some ⟨by_,oy,none⟩) 1 yc 2,yc-1)),(os++[⟨false,q.1,q.2⟩],some ⟨g',0,none⟩,c')),I2⟩ (by show (l.length-(i))+(r.length-(j+1))<(l.length-i)+(r.length-j);omega) xB (xN)
 have qx:decide ((((l.drop i).length:Nat):Int)=0)=false:=decide_eq_false (by omega)
 have qx2:decide ((((l.drop i).length:Nat):Int)>0)=true:=decide_eq_true (by omega)
 have qg:decide ((((l.drop i).length+(r.drop j).length:Nat):Int)>0)=true:=decide_eq_true (by omega)
 obtain ⟨p,hp⟩:∃ p,l[i]? = some p:=⟨_,List.getElem?_eq_getElem (by omega)⟩
 have hp0:=drop_at hp
 refine KJ.lvSome Lx xS (by omega) (fun bx ox hab=>?_)
 subst hab
 have kx:1≤(l.drop i).length:=by omega
 by_cases hj0:r.length=j
 ·have qy:decide ((((r.drop j).length:Nat):Int)=0)=true:=decide_eq_true (by omega)
  have I2:=I.a hp ⟨true,p.1,[]⟩ (btr_a hp (by omega))
  repeat' (first|(refine zBq ?_;refine zCe (l:=os) (a:=(⟨true,p.1,[]⟩:BOp)) zCa rfl rfl rfl xS xS m1 m2 rfl (fun g' c'=>?_))|(refine zBi ?_;refine zBt rfl xF (by rfl) (by omega) rfl (fun gb=>?_))|(refine zAm ?_;first|refine zAb (zBj (i:=0) (j:=0) zCc Lx rfl rfl xS (by rfl) hp0 rfl) ?_|refine zAb (zBj (i:=0) (j:=1) zCc Lx rfl rfl xS (by rfl) hp0 rfl) ?_)|(refine zCg ?_;refine zAb (Ev_sliceFromV (i:=1) rfl rfl xn kx xl hmx) ?_)|(refine zAy ?_;refine zAb (zAz xV xW) ?_)|(refine zBh ?_;refine zAb (zAi rfl rfl tot (by omega)) ?_)|(refine zBg ?_;first|refine zAb (zAr rfl rfl qy) ?_|refine zAb (zAr rfl rfl qx) ?_)|(refine zBf ?_;first|refine zAb (zAk rfl rfl qg) ?_|refine zAb (zAk rfl rfl qx2) ?_)|refine xst ?_|(refine xsa ?_;intro _)|(refine xsb ?_ ?_ <;>intro _<;>try (exfalso;omega))|refine xsc ?_|(refine zAa (id:=4) plTFW1 (by kernel_rfl) (by kernel_rfl) ?_)|(refine zAa (id:=9) plTFW2 (by kernel_rfl) (by kernel_rfl) ?_)|(refine zAa (id:=12) plTFW3 (by kernel_rfl) (by kernel_rfl) ?_)|(refine zAa (id:=13) plTFW4 (by kernel_rfl) (by kernel_rfl) ?_)|(refine zAa (id:=6) plTFW5 (by kernel_rfl) (by kernel_rfl) ?_)|(refine zAa (id:=7) plTFW4 (by kernel_rfl) (by kernel_rfl) ?_)|(refine zAa (id:=8) plTFW6 (by kernel_rfl) (by kernel_rfl) ?_)|refine zAp ?_ ?_|refine zAn rfl rfl rfl rfl rfl ?_ ?_|refine zAg ?_ ?_|exact Rech.nil|fail)
  all_goals refine zAv ⟨((i+1,j),((subB (some ⟨bx,ox,none⟩) 1 xc 2,xc-1),(ya,yc)),(os++[⟨true,p.1,[]⟩],some ⟨g',0,none⟩,c')),I2⟩ (by show (l.length-(i+1))+(r.length-(j))<(l.length-i)+(r.length-j);omega) xB (xN)
 have qy:decide ((((r.drop j).length:Nat):Int)=0)=false:=decide_eq_false (by omega)
 obtain ⟨q,hq⟩:∃ q,r[j]? = some q:=⟨_,List.getElem?_eq_getElem (by omega)⟩
 have hq0:=drop_at hq
 have ky:1≤(r.drop j).length:=by omega
 refine KJ.lvSome Ly xS (by omega) (fun by_ oy hab=>?_)
 subst hab
 cases hb:Op.bytesLess p.1 q.1 with
 |true=>
  have I2:=I.a hp ⟨true,p.1,[]⟩ (btr_lt hp hq hb)
  repeat' (first|(refine zBq ?_;refine zCe (l:=os) (a:=(⟨true,p.1,[]⟩:BOp)) zCa rfl rfl rfl xS xS m1 m2 rfl (fun g' c'=>?_))|(refine zBi ?_;refine zBt rfl xF (by rfl) (by omega) rfl (fun gb=>?_))|(refine zAm ?_;first|refine zAb (zBj (i:=0) (j:=0) zCc Ly rfl rfl xS (by rfl) hq0 rfl) ?_|refine zAb (zBj (i:=0) (j:=1) zCc Ly rfl rfl xS (by rfl) hq0 rfl) ?_|refine zAb (zBj (i:=0) (j:=0) zCc Lx rfl rfl xS (by rfl) hp0 rfl) ?_|refine zAb (zBj (i:=0) (j:=1) zCc Lx rfl rfl xS (by rfl) hp0 rfl) ?_)|(refine zCg ?_;refine zAb (Ev_sliceFromV (i:=1) rfl rfl xn kx xl hmx) ?_)|(refine zAy ?_;refine zAb (zAz xV xW) ?_)|(refine zBh ?_;refine zAb (zAi rfl rfl tot (by omega)) ?_)|(refine zBg ?_;first|refine zAb (zAr rfl rfl qy) ?_|refine zAb (zAr rfl rfl qx) ?_)|(refine zAq ?_;refine zAb (Ev_lssS_q rfl rfl hb) ?_)|(refine zBf ?_;first|refine zAb (zAk rfl rfl qg) ?_|refine zAb (zAk rfl rfl qx2) ?_)|refine xst ?_|(refine xsa ?_;intro _)|(refine xsb ?_ ?_ <;>intro _<;>try (exfalso;omega))|refine xsc ?_|(refine zAa (id:=4) plTFW1 (by kernel_rfl) (by kernel_rfl) ?_)|(refine zAa (id:=9) plTFW2 (by kernel_rfl) (by kernel_rfl) ?_)|(refine zAa (id:=12) plTFW3 (by kernel_rfl) (by kernel_rfl) ?_)|(refine zAa (id:=13) plTFW4 (by kernel_rfl) (by kernel_rfl) ?_)|(refine zAa (id:=6) plTFW5 (by kernel_rfl) (by kernel_rfl) ?_)|(refine zAa (id:=7) plTFW4 (by kernel_rfl) (by kernel_rfl) ?_)|(refine zAa (id:=8) plTFW6 (by kernel_rfl) (by kernel_rfl) ?_)|refine zAp ?_ ?_|refine zAn rfl rfl rfl rfl rfl ?_ ?_|refine zAg ?_ ?_|exact Rech.nil|fail)
  all_goals refine zAv ⟨((i+1,j),((subB (some ⟨bx,ox,none⟩) 1 xc 2,xc-1),(some ⟨by_,oy,none⟩,yc)),(os++[⟨true,p.1,[]⟩],some ⟨g',0,none⟩,c')),I2⟩ (by show (l.length-(i+1))+(r.length-(j))<(l.length-i)+(r.length-j);omega) xB (xN)
 |false=>
  cases hb2:Op.bytesLess q.1 p.1 with
  |true=>
   have I2:=I.b hq ⟨false,q.1,q.2⟩ (btr_gt hp hq hb hb2)
   repeat' (first|(refine zBq ?_;refine zCe (l:=os) (a:=(⟨false,q.1,q.2⟩:BOp)) zCa rfl rfl rfl xS xS m1 m2 rfl (fun g' c'=>?_))|(refine zBi ?_;refine zBt rfl xF (by rfl) (by omega) rfl (fun gb=>?_))|(refine zAm ?_;first|refine zAb (zBj (i:=0) (j:=0) zCc Ly rfl rfl xS (by rfl) hq0 rfl) ?_|refine zAb (zBj (i:=0) (j:=1) zCc Ly rfl rfl xS (by rfl) hq0 rfl) ?_|refine zAb (zBj (i:=0) (j:=0) zCc Lx rfl rfl xS (by rfl) hp0 rfl) ?_|refine zAb (zBj (i:=0) (j:=1) zCc Lx rfl rfl xS (by rfl) hp0 rfl) ?_)|(refine zCg ?_;refine zAb (Ev_sliceFromV (i:=1) rfl rfl yn ky yl hmy) ?_)|(refine zAy ?_;refine zAb (zAz xV xW) ?_)|(refine zBh ?_;refine zAb (zAi rfl rfl tot (by omega)) ?_)|(refine zBg ?_;first|refine zAb (zAr rfl rfl qy) ?_|refine zAb (zAr rfl rfl qx) ?_)|(refine zAq ?_;first|refine zAb (Ev_lssS_q rfl rfl hb2) ?_|refine zAb (Ev_lssS_q rfl rfl hb) ?_)|(refine zBf ?_;first|refine zAb (zAk rfl rfl qg) ?_|refine zAb (zAk rfl rfl qx2) ?_)|refine xst ?_|(refine xsa ?_;intro _)|(refine xsb ?_ ?_ <;>intro _<;>try (exfalso;omega))|refine xsc ?_|(refine zAa (id:=4) plTFW1 (by kernel_rfl) (by kernel_rfl) ?_)|(refine zAa (id:=9) plTFW2 (by kernel_rfl) (by kernel_rfl) ?_)|(refine zAa (id:=12) plTFW3 (by kernel_rfl) (by kernel_rfl) ?_)|(refine zAa (id:=13) plTFW4 (by kernel_rfl) (by kernel_rfl) ?_)|(refine zAa (id:=6) plTFW5 (by kernel_rfl) (by kernel_rfl) ?_)|(refine zAa (id:=7) plTFW4 (by kernel_rfl) (by kernel_rfl) ?_)|(refine zAa (id:=8) plTFW6 (by kernel_rfl) (by kernel_rfl) ?_)|refine zAp ?_ ?_|refine zAn rfl rfl rfl rfl rfl ?_ ?_|refine zAg ?_ ?_|exact Rech.nil|fail)
   all_goals refine zAv ⟨((i,j+1),((some ⟨bx,ox,none⟩,xc),(subB (some ⟨by_,oy,none⟩) 1 yc 2,yc-1)),(os++[⟨false,q.1,q.2⟩],some ⟨g',0,none⟩,c')),I2⟩ (by show (l.length-(i))+(r.length-(j+1))<(l.length-i)+(r.length-j);omega) xB (xN)
  |false=>
   by_cases hv:p.2=q.2
   ·have I2:=I.ab hp hq [] (by rw [List.nil_append];exact btr_eq hp hq hb hb2 hv)
    rw [List.append_nil] at I2
    repeat' (first|(refine zAm ?_;first|refine zAb (zBj (i:=0) (j:=0) zCc Ly rfl rfl xS (by rfl) hq0 rfl) ?_|refine zAb (zBj (i:=0) (j:=1) zCc Ly rfl rfl xS (by rfl) hq0 rfl) ?_|refine zAb (zBj (i:=0) (j:=0) zCc Lx rfl rfl xS (by rfl) hp0 rfl) ?_|refine zAb (zBj (i:=0) (j:=1) zCc Lx rfl rfl xS (by rfl) hp0 rfl) ?_)|(refine zCg ?_;first|refine zAb (Ev_sliceFromV (i:=1) rfl rfl yn ky yl hmy) ?_|refine zAb (Ev_sliceFromV (i:=1) rfl rfl xn kx xl hmx) ?_)|(refine zBh ?_;refine zAb (zAi rfl rfl tot (by omega)) ?_)|(refine zBg ?_;first|refine zAb (zAr rfl rfl qy) ?_|refine zAb (zAr rfl rfl qx) ?_)|(refine zBz ?_;refine zAb (Ev_neqS_f rfl rfl hv) ?_)|(refine zAq ?_;first|refine zAb (Ev_lssS_q rfl rfl hb2) ?_|refine zAb (Ev_lssS_q rfl rfl hb) ?_)|(refine zBf ?_;first|refine zAb (zAk rfl rfl qg) ?_|refine zAb (zAk rfl rfl qx2) ?_)|refine xst ?_|(refine xsa ?_;intro _)|(refine xsb ?_ ?_ <;>intro _<;>try (exfalso;omega))|refine xsc ?_|(refine zAa (id:=4) plTFW1 (by kernel_rfl) (by kernel_rfl) ?_)|(refine zAa (id:=9) plTFW2 (by kernel_rfl) (by kernel_rfl) ?_)|(refine zAa (id:=12) plTFW3 (by kernel_rfl) (by kernel_rfl) ?_)|(refine zAa (id:=13) plTFW4 (by kernel_rfl) (by kernel_rfl) ?_)|(refine zAa (id:=6) plTFW5 (by kernel_rfl) (by kernel_rfl) ?_)|(refine zAa (id:=7) plTFW4 (by kernel_rfl) (by kernel_rfl) ?_)|(refine zAa (id:=8) plTFW6 (by kernel_rfl) (by kernel_rfl) ?_)|refine zAp ?_ ?_|refine zAn rfl rfl rfl rfl rfl ?_ ?_|refine zAg ?_ ?_|exact Rech.nil|fail)
    all_goals refine zAv ⟨((i+1,j+1),((subB (some ⟨bx,ox,none⟩) 1 xc 2,xc-1),(subB (some ⟨by_,oy,none⟩) 1 yc 2,yc-1)),(os,oa,oc)),I2⟩ (by show (l.length-(i+1))+(r.length-(j+1))<(l.length-i)+(r.length-j);omega) xB (xN)
   ·have I2:=I.ab hp hq [⟨false,q.1,q.2⟩] (btr_ne hp hq hb hb2 hv)
    repeat' (first|(refine zBq ?_;refine zCe (l:=os) (a:=(⟨false,q.1,q.2⟩:BOp)) zCa rfl rfl rfl xS xS m1 m2 rfl (fun g' c'=>?_))|(refine zBi ?_;refine zBt rfl xF (by rfl) (by omega) rfl (fun gb=>?_))|(refine zAm ?_;first|refine zAb (zBj (i:=0) (j:=0) zCc Ly rfl rfl xS (by rfl) hq0 rfl) ?_|refine zAb (zBj (i:=0) (j:=1) zCc Ly rfl rfl xS (by rfl) hq0 rfl) ?_|refine zAb (zBj (i:=0) (j:=0) zCc Lx rfl rfl xS (by rfl) hp0 rfl) ?_|refine zAb (zBj (i:=0) (j:=1) zCc Lx rfl rfl xS (by rfl) hp0 rfl) ?_)|(refine zCg ?_;first|refine zAb (Ev_sliceFromV (i:=1) rfl rfl yn ky yl hmy) ?_|refine zAb (Ev_sliceFromV (i:=1) rfl rfl xn kx xl hmx) ?_)|(refine zAy ?_;refine zAb (zAz xV xW) ?_)|(refine zBh ?_;refine zAb (zAi rfl rfl tot (by omega)) ?_)|(refine zBg ?_;first|refine zAb (zAr rfl rfl qy) ?_|refine zAb (zAr rfl rfl qx) ?_)|(refine zBz ?_;refine zAb (Ev_neqS_t rfl rfl hv) ?_)|(refine zAq ?_;first|refine zAb (Ev_lssS_q rfl rfl hb2) ?_|refine zAb (Ev_lssS_q rfl rfl hb) ?_)|(refine zBf ?_;first|refine zAb (zAk rfl rfl qg) ?_|refine zAb (zAk rfl rfl qx2) ?_)|refine xst ?_|(refine xsa ?_;intro _)|(refine xsb ?_ ?_ <;>intro _<;>try (exfalso;omega))|refine xsc ?_|(refine zAa (id:=4) plTFW1 (by kernel_rfl) (by kernel_rfl) ?_)|(refine zAa (id:=9) plTFW2 (by kernel_rfl) (by kernel_rfl) ?_)|(refine zAa (id:=12) plTFW3 (by kernel_rfl) (by kernel_rfl) ?_)|(refine zAa (id:=13) plTFW4 (by kernel_rfl) (by kernel_rfl) ?_)|(refine zAa (id:=6) plTFW5 (by kernel_rfl) (by kernel_rfl) ?_)|(refine zAa (id:=7) plTFW4 (by kernel_rfl) (by kernel_rfl) ?_)|(refine zAa (id:=8) plTFW6 (by kernel_rfl) (by kernel_rfl) ?_)|refine zAp ?_ ?_|refine zAn rfl rfl rfl rfl rfl ?_ ?_|refine zAg ?_ ?_|exact Rech.nil|fail)
    all_goals refine zAv ⟨((i+1,j+1),((subB (some ⟨bx,ox,none⟩) 1 xc 2,xc-1),(subB (some ⟨by_,oy,none⟩) 1 yc 2,yc-1)),(os++[⟨false,q.1,q.2⟩],some ⟨g',0,none⟩,c')),I2⟩ (by show (l.length-(i+1))+(r.length-(j+1))<(l.length-i)+(r.length-j);omega) xB (xN)
end
end Go.Proofs.YtgipenahkmbelaaGreatDoor
