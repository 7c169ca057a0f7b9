/-
  TxD4, TxD5.
-/
import Derived.Test.YtgipenahkmbelaaGreatDoorTFW
set_option maxHeartbeats 64000000
namespace Go.Proofs.YtgipenahkmbelaaGreatDoor
open Go Go.RowKit
abbrev plTFY0:Pl:=(.op 0 (.op 1 (.op 2 (.op 4 (.op 5 (.ef 3 [5,4,0] (.ef 6 [0] (.op 7 (.op 8 (.ef 9 [] .nil))))))))))
abbrev plTFY1:Pl:=(.op 0 (.op 1 (.op 2 (.op 3 (.ef 4 [2,1,0] (.op 5 (.op 6 (.op 7 .nil))))))))
abbrev plTFY2:Pl:=(.op 0 (.op 1 (.op 2 (.op 3 (.op 4 (.op 5 (.op 6 (.op 7 (.op 8 (.op 9 (.op 10 (.op 11 (.op 12 (.op 13 (.op 14 (.op 15 (.op 16 (.op 17 (.op 18 (.op 19 .nil))))))))))))))))))))
abbrev plTFY3:Pl:=(.op 0 (.op 1 (.op 2 (.op 3 (.op 4 (.op 5 (.op 6 (.op 7 (.op 8 (.op 9 (.op 10 (.op 11 (.op 12 (.op 13 (.op 14 .nil)))))))))))))))
abbrev plTFY4:Pl:=(.op 0 (.op 1 (.op 2 (.op 3 (.op 4 (.op 5 (.op 6 (.op 7 (.op 8 (.op 9 (.ef 10 [0] (.ef 11 [] (.ef 12 [] .nil)))))))))))))
abbrev plTFY5:Pl:=(.op 0 (.op 1 (.op 2 (.op 3 (.op 4 (.op 5 (.op 6 (.op 7 (.op 8 .nil)))))))))
abbrev plTFY6:Pl:=(.op 0 (.op 1 (.op 2 (.op 3 (.ef 4 [3,2] (.ef 5 [] .nil))))))
section
variable {W:World} {A B:SP} {a ba sa:Option Addr} {c bc sc:Nat} {l:Rows} {S:List BOp}
instance fn_varint14:FnIs Tryz.prog 81:=⟨by kernel_rfl⟩
instance fn_text14:FnIs Tryz.prog 82:=⟨by kernel_rfl⟩
instance fn_sizeof14:FnIs Tryz.prog 53:=⟨by kernel_rfl⟩
instance fn_length14:FnIs Tryz.prog 83:=⟨by kernel_rfl⟩
instance fn_size14:FnIs Tryz.prog 29:=⟨by kernel_rfl⟩
instance fn_rcommit14:FnIs Tryz.prog 54:=⟨by kernel_rfl⟩
theorem varint14_ct (x:Nat) (hx:x<9223372036854775808):Ct Tryz.prog W 81 [.int .i64 (x:Nat)] [] (fun _:Unit=>.int .i64 ((vu x).length:Nat)) (fun _=>[]):=by
 have hle:=vuF_le 10 x
 have hle2:(vu x).length≤10:=hle
 obtain ⟨v,hv⟩:∃ v,v=(vu x).length:=⟨_,rfl⟩
 rw [← hv] at hle2 ⊢
 refine Ct.enter Tryz.func81 rfl Tryz.ntmps81 (by simp) (fun R=>?_)
 repeat' (first|refine xst ?_|(refine xsa ?_;intro _)|(refine xsb ?_ ?_ <;>intro _<;>try (exfalso;omega))|refine xsc ?_|fail)
 refine zBv (fun i:{i:Nat × Nat//i.1<9223372036854775808∧i.2+(vu i.1).length=v+1}=>[(0,.int .i64 (i.1.1:Nat)),(3,.int .i64 (i.1.2:Nat))])
  (fun _=>[]++R) (fun i=>i.1.1) ⟨(x,1),hx,by rw [hv];exact Nat.add_comm _ _⟩ xB (xN) (fun ⟨(y,k),hy,hk⟩=>?_)
 dsimp only at hy hk ⊢
 by_cases h:128≤y
 ·have qg:decide ((128:Int)≤((y:Nat):Int))=true:=decide_eq_true (by omega)
  have hst:=vu_step h hy
  have hq:((y:Nat):Int) / 128=((y / 128:Nat):Int):=by omega
  repeat' (first|(refine zBh ?_;refine zAb (zAi (r:=((k+1:Nat):Int)) rfl rfl (by omega) (by omega)) ?_)|(refine ek_quo ?_;refine zAb (Ev_quo_w rfl rfl (by omega) hq) ?_)|(refine ek_geq ?_;refine zAb (zBk rfl rfl qg) ?_)|refine xst ?_|(refine xsa ?_;intro _)|(refine xsb ?_ ?_ <;>intro _<;>try (exfalso;omega))|refine xsc ?_|fail)
  all_goals refine zAv ⟨(y / 128,k+1),by dsimp only;omega,by dsimp only;omega⟩ (by show y / 128<y;omega) xB (xN)
 ·have qg:decide ((128:Int)≤((y:Nat):Int))=false:=decide_eq_false (by omega)
  have hst:=vu_last (x:=y) (by omega)
  have e:v=k:=by omega
  repeat' (first|(refine ek_geq ?_;refine zAb (zBk rfl rfl qg) ?_)|refine xst ?_|(refine xsa ?_;intro _)|(refine xsb ?_ ?_ <;>intro _<;>try (exfalso;omega))|refine xsc ?_|fail)
  all_goals exact xdn () (hc:=by rw [e];rfl)
theorem text14_ct (s:List UInt8) (hs:s.length≤4611686018427387904):Ct Tryz.prog W 82 [strV s] [] (fun _:Unit=>.int .i64 ((vu s.length).length+s.length:Nat)) (fun _=>[]):=by
 have cv:=varint14_ct (W:=W) s.length (by omega)
 have hle:(vu s.length).length≤10:=vuF_le 10 s.length
 obtain ⟨v,hv⟩:∃ v,v=(vu s.length).length:=⟨_,rfl⟩
 rw [← hv] at hle cv ⊢
 refine Ct.enter Tryz.func82 rfl Tryz.ntmps82 (by simp) (fun R=>?_)
 repeat' (first|(refine zAd ?_;refine zAc xE cv xP rfl (fun _=>?_))|(refine zBh ?_;refine zAb (zAi (r:=((v+s.length:Nat):Int)) rfl rfl (by omega) (by omega)) ?_)|refine xst ?_|(refine xsa ?_;intro _)|(refine xsb ?_ ?_ <;>intro _<;>try (exfalso;omega))|refine xsc ?_|fail)
 all_goals (exact xdn ())
theorem sumZ_take (r:Rows) (i:Nat):sumW rowZ (r.take i)≤sumW rowZ r:=sumW_take rowZ r i
theorem sizeof14_ct (hA:Lv W rC 2 A a l) (hl:l.length≤1000000000) (hs:(zBd l).length≤4611686018427387904) :
 Ct Tryz.prog W 53 [.slice a l.length c] [A] (fun _:Unit=>.int .i64 ((zBd l).length:Nat)) (fun _=>[A]):=by
 have cv:=varint14_ct (W:=W) l.length (by omega)
 have hss:=snap_sum l
 obtain ⟨T,hT⟩:∃ T,T=(zBd l).length:=⟨_,rfl⟩
 obtain ⟨v,hv⟩:∃ v,v=(vu l.length).length:=⟨_,rfl⟩
 rw [← hv,← hT] at hss
 rw [← hv] at cv
 rw [← hT] at hs ⊢
 refine Ct.enter Tryz.func53 rfl Tryz.ntmps53 (by simp) (fun R=>?_)
 repeat' (first|(refine zAd ?_;refine zAc xE cv xP rfl (fun _=>?_))|refine xst ?_|(refine xsa ?_;intro _)|(refine xsb ?_ ?_ <;>intro _<;>try (exfalso;omega))|refine xsc ?_|(refine zAa (id:=5) plTFY0 (by kernel_rfl) (by kernel_rfl) ?_)|refine zAp ?_ ?_|refine zAn rfl rfl rfl rfl rfl ?_ ?_|refine zAg ?_ ?_|exact Rech.nil|fail)
 refine zBv (fun i:{i:Nat × Nat//i.1≤l.length∧i.2=v+sumW rowZ (l.take i.1)}=>[(3,.int .i64 (i.1.2:Nat)),(9,.slice a l.length c),(10,.int .i64 (l.length:Nat)),(11,.int .i64 (i.1.1:Nat))])
  (fun _=>[A]++R) (fun i=>l.length-i.1.1) ⟨(0,v),Nat.zero_le _,rfl⟩ xB (xN) (fun ⟨(i,k),hi,hk⟩=>?_)
 dsimp only at hi hk ⊢
 by_cases hlt:i<l.length
 rotate_left
 ·have ql:decide ((i:Int)<(l.length:Nat))=false:=decide_eq_false (by omega)
  rw [List.take_of_length_le (by omega)] at hk
  have e:T=k:=by omega
  repeat' (first|(refine zAq ?_;refine zAb (zAe rfl rfl ql) ?_)|refine xst ?_|(refine xsa ?_;intro _)|(refine xsb ?_ ?_ <;>intro _<;>try (exfalso;omega))|refine xsc ?_|(refine zAa (id:=5) plTFY0 (by kernel_rfl) (by kernel_rfl) ?_)|refine zAp ?_ ?_|refine zAn rfl rfl rfl rfl rfl ?_ ?_|refine zAg ?_ ?_|exact Rech.nil|fail)
  all_goals exact xdn () (hc:=by rw [e];rfl)
 have ql:decide ((i:Int)<(l.length:Nat))=true:=decide_eq_true (by omega)
 obtain ⟨x,hx⟩:∃ s,l[i]? = some s:=⟨_,List.getElem?_eq_getElem hlt⟩
 have hnx:=snap_next hx
 have hle:=sumZ_take l (i+1)
 have b1:x.1.length≤4611686018427387904:=by omega
 have b2:x.2.length≤4611686018427387904:=by omega
 have c1:=text14_ct (W:=W) x.1 b1
 have c2:=text14_ct (W:=W) x.2 b2
 obtain ⟨n1,hn1⟩:∃ n,n=(vu x.1.length).length+x.1.length:=⟨_,rfl⟩
 obtain ⟨n2,hn2⟩:∃ n,n=(vu x.2.length).length+x.2.length:=⟨_,rfl⟩
 rw [← hn1] at c1 hnx
 rw [← hn2] at c2 hnx
 refine KJ.lvSome hA xS (by omega) (fun ba oa hab=>?_)
 have ho1:oa+Int.toNat (i:Int)*2=oa+i*2:=by rw [Int.toNat_natCast]
 subst hab
 repeat' (first|(refine zBc ?_;refine zAu rfl (fun g=>?_))|(refine zAd ?_;first|(refine zAc xE c1 xP rfl (fun _=>?_))|(refine zAc xE c2 xP rfl (fun _=>?_)))|(refine zAm ?_;refine zAb (zBn zCc hA rfl rfl xS ho1 hx) ?_)|(refine zBh ?_;first|refine zAb (zAi (r:=((i+1:Nat):Int)) rfl rfl (by omega) (by omega)) ?_|refine zAb (zAi (r:=((n1+n2:Nat):Int)) rfl rfl (by omega) (by omega)) ?_|refine zAb (zAi (r:=((k+(n1+n2):Nat):Int)) rfl rfl (by omega) (by omega)) ?_)|(refine zAq ?_;refine zAb (zAe rfl rfl ql) ?_)|refine xst ?_|(refine xsa ?_;intro _)|(refine xsb ?_ ?_ <;>intro _<;>try (exfalso;omega))|refine xsc ?_|(refine zAa (id:=5) plTFY0 (by kernel_rfl) (by kernel_rfl) ?_)|refine zAp ?_ ?_|refine zAn rfl rfl rfl rfl rfl ?_ ?_|refine zAg ?_ ?_|exact Rech.nil|fail)
 all_goals refine zAv ⟨(i+1,k+(n1+n2)),hlt,by dsimp only;omega⟩ (by show l.length-(i+1)<l.length-i;omega) xB (xN)
theorem length14_ct {os:List BOp} (hA:Lv W opC 3 A a os) (hl:os.length≤1000000000) (hs:(encAll os).length≤4611686018427387904) :
 Ct Tryz.prog W 83 [.slice a os.length c] [A] (fun _:Unit=>.int .i64 ((encAll os).length:Nat)) (fun _=>[A]):=by
 have cv:=varint14_ct (W:=W) os.length (by omega)
 have hss:=enc_sum os
 obtain ⟨T,hT⟩:∃ T,T=(encAll os).length:=⟨_,rfl⟩
 obtain ⟨v,hv⟩:∃ v,v=(vu os.length).length:=⟨_,rfl⟩
 rw [← hv,← hT] at hss
 rw [← hv] at cv
 rw [← hT] at hs ⊢
 refine Ct.enter Tryz.func83 rfl Tryz.ntmps83 (by simp) (fun R=>?_)
 repeat' (first|(refine zAd ?_;refine zAc xE cv xP rfl (fun _=>?_))|refine xst ?_|(refine xsa ?_;intro _)|(refine xsb ?_ ?_ <;>intro _<;>try (exfalso;omega))|refine xsc ?_|fail)
 refine zBv (fun i:{i:Nat × Nat//i.1≤os.length∧i.2=v+sumW opW (os.take i.1)}=>[(3,.int .i64 (i.1.2:Nat)),(9,.slice a os.length c),(10,.int .i64 (os.length:Nat)),(11,.int .i64 (i.1.1:Nat))])
  (fun _=>[A]++R) (fun i=>os.length-i.1.1) ⟨(0,v),Nat.zero_le _,rfl⟩ xB (xN) (fun ⟨(i,k),hi,hk⟩=>?_)
 dsimp only at hi hk ⊢
 by_cases hlt:i<os.length
 rotate_left
 ·have ql:decide ((i:Int)<(os.length:Nat))=false:=decide_eq_false (by omega)
  rw [List.take_of_length_le (by omega)] at hk
  have e:T=k:=by omega
  repeat' (first|(refine zAq ?_;refine zAb (zAe rfl rfl ql) ?_)|refine xst ?_|(refine xsa ?_;intro _)|(refine xsb ?_ ?_ <;>intro _<;>try (exfalso;omega))|refine xsc ?_|fail)
  all_goals exact xdn () (hc:=by rw [e];rfl)
 have ql:decide ((i:Int)<(os.length:Nat))=true:=decide_eq_true (by omega)
 obtain ⟨o,ho⟩:∃ s,os[i]? = some s:=⟨_,List.getElem?_eq_getElem hlt⟩
 have hnx:=enc_next ho
 have hle:sumW opW (os.take (i+1))≤sumW opW os:=sumW_take opW os (i+1)
 refine KJ.lvSome hA xS (by omega) (fun ba oa hab=>?_)
 have ho1:oa+Int.toNat (i:Int)*3=oa+i*3:=by rw [Int.toNat_natCast]
 subst hab
 have b1:o.key.length≤4611686018427387904:=by omega
 have c1:=text14_ct (W:=W) o.key b1
 obtain ⟨n1,hn1⟩:∃ n,n=(vu o.key.length).length+o.key.length:=⟨_,rfl⟩
 rw [← hn1] at c1 hnx
 obtain ⟨odel,okey,oval⟩:=o
 cases odel with
 |true=>
  rw [if_pos rfl] at hnx
  repeat' (first|(refine zBc ?_;refine zAu rfl (fun g=>?_))|(refine zAd ?_;refine zAc xE c1 xP rfl (fun _=>?_))|(refine zAm ?_;refine zAb (zBn zCa hA rfl rfl xS ho1 ho) ?_)|(refine zBh ?_;first|refine zAb (zAi (r:=((i+1:Nat):Int)) rfl rfl (by omega) (by omega)) ?_|refine zAb (zAi (r:=((1+n1:Nat):Int)) rfl rfl (by omega) (by omega)) ?_|refine zAb (zAi (r:=((k+(1+n1):Nat):Int)) rfl rfl (by omega) (by omega)) ?_)|(refine zAq ?_;refine zAb (zAe rfl rfl ql) ?_)|refine xst ?_|(refine xsa ?_;intro _)|(refine xsb ?_ ?_ <;>intro _<;>try (exfalso;omega))|refine xsc ?_|fail)
  all_goals refine zAv ⟨(i+1,k+(1+n1)),hlt,by dsimp only;omega⟩ (by show os.length-(i+1)<os.length-i;omega) xB (xN)
 |false=>
  rw [if_neg (by simp)] at hnx
  have b2:oval.length≤4611686018427387904:=by dsimp only at hnx;omega
  have c2:=text14_ct (W:=W) oval b2
  obtain ⟨n2,hn2⟩:∃ n,n=(vu oval.length).length+oval.length:=⟨_,rfl⟩
  dsimp only at hnx
  rw [← hn2] at c2 hnx
  repeat' (first|(refine zBc ?_;refine zAu rfl (fun g=>?_))|(refine zAd ?_;first|(refine zAc xE c1 xP rfl (fun _=>?_))|(refine zAc xE c2 xP rfl (fun _=>?_)))|(refine zAm ?_;refine zAb (zBn zCa hA rfl rfl xS ho1 ho) ?_)|(refine zBh ?_;first|refine zAb (zAi (r:=((i+1:Nat):Int)) rfl rfl (by omega) (by omega)) ?_|refine zAb (zAi (r:=((1+n1:Nat):Int)) rfl rfl (by omega) (by omega)) ?_|refine zAb (zAi (r:=((k+(1+n1):Nat):Int)) rfl rfl (by omega) (by omega)) ?_|refine zAb (zAi (r:=((k+(1+n1)+n2:Nat):Int)) rfl rfl (by omega) (by omega)) ?_)|(refine zAq ?_;refine zAb (zAe rfl rfl ql) ?_)|refine xst ?_|(refine xsa ?_;intro _)|(refine xsb ?_ ?_ <;>intro _<;>try (exfalso;omega))|refine xsc ?_|fail)
  all_goals refine zAv ⟨(i+1,k+(1+n1)+n2),hlt,by dsimp only;omega⟩ (by show os.length-(i+1)<os.length-i;omega) xB (xN)
end
end Go.Proofs.YtgipenahkmbelaaGreatDoor
namespace Go.Proofs.YtgipenahkmbelaaGreatDoor
open Go Go.RowKit
section
variable {W:World} {A B:SP} {a ba sa:Option Addr} {c bc sc:Nat} {l:Rows} {S:List BOp}
theorem dsize14_ct (hA:Lv W rC 2 A ba l) (hB:Lv W opC 3 B sa S) (hs:SlOk ba bc l.length) (hr:RisR l) (hl:l.length≤100000000) (hS:S.length≤100000000) (hz:(zBd (zAf l S)).length≤4611686018427387904) :
 Ct Tryz.prog W 29 [.agg (dtxC ba l.length bc sa S.length sc false).toArray] [A,B] (fun _:Unit=>.int .i64 ((zBd (zAf l S)).length:Nat)) (fun _=>[A,B]):=by
 have cS:=sees14_ct (W:=W) (sc:=sc) hA hB hs hr hl hS
 have hrl:=applyB_len S l
 have cZ:=fun (Z:SP) (za:Option Addr) (zc:Nat) (hL:Lv W rC 2 (allP 94 [A,Z]) za (zAf l S))=>sizeof14_ct (W:=W) (A:=allP 94 [A,Z]) (a:=za) (c:=zc) (l:=zAf l S) hL (by omega) hz
 obtain ⟨r,hrr⟩:∃ r,r=zAf l S:=⟨_,rfl⟩
 rw [← hrr] at cS cZ ⊢
 clear hrr
 refine Ct.enter Tryz.func29 rfl Tryz.ntmps29 (by simp) (fun R=>?_)
 repeat' (first|(refine zBe ?_;refine zBb (d:=1) rfl xF rfl (fun g1=>?_))|(refine zAd ?_;first|(refine zAc xE (cZ _ _ _ hzL) xP rfl (fun _=>?_))|(refine zAc xE cS xP rfl (fun z=>?_);obtain ⟨⟨Z,za,zc⟩,hzL,hzs⟩:=z;dsimp only at hzL hzs ⊢))|refine xst ?_|(refine xsa ?_;intro _)|(refine xsb ?_ ?_ <;>intro _<;>try (exfalso;omega))|refine xsc ?_|fail)
 all_goals refine KJ.allOpen (L:=[A,Z]) xS ?_
 all_goals (exact xdn ())
theorem dsize14_end (l:Nat) (sn:Nat) :
 Ct Tryz.prog W 29 [.agg (dtxC ba l bc sa sn sc true).toArray] [] (fun _:Unit=>.int .i64 0) (fun _=>[]):=by
 refine Ct.enter Tryz.func29 rfl Tryz.ntmps29 (by simp) (fun R=>?_)
 repeat' (first|(refine zBe ?_;refine zBb (d:=1) rfl xF rfl (fun g1=>?_))|refine xst ?_|(refine xsa ?_;intro _)|(refine xsb ?_ ?_ <;>intro _<;>try (exfalso;omega))|refine xsc ?_|fail)
 all_goals (exact xdn ())
theorem rops14_end (l:Nat) (sn:Nat) :
 Ct Tryz.prog W 27 [.agg (dtxC ba l bc sa sn sc true).toArray] [] (fun g:Nat=>.slice (some ⟨g,0,none⟩) 0 0) (fun g=>[opP (some ⟨g,0,none⟩,0) []]):=by
 refine Ct.enter Tryz.func27 rfl Tryz.ntmps27 (by simp) (fun R=>?_)
 repeat' (first|(refine zBe ?_;refine zBb (d:=1) rfl xF rfl (fun g1=>?_))|(refine zBi ?_;refine KJ_bslice0 rfl (fun gm=>?_))|refine xst ?_|(refine xsa ?_;intro _)|(refine xsb ?_ ?_ <;>intro _<;>try (exfalso;omega))|refine xsc ?_|(refine zAa (id:=4) plTFY1 (by kernel_rfl) (by kernel_rfl) ?_)|(refine zAa (id:=9) plTFY2 (by kernel_rfl) (by kernel_rfl) ?_)|(refine zAa (id:=12) plTFY3 (by kernel_rfl) (by kernel_rfl) ?_)|(refine zAa (id:=13) plTFY4 (by kernel_rfl) (by kernel_rfl) ?_)|(refine zAa (id:=6) plTFY5 (by kernel_rfl) (by kernel_rfl) ?_)|(refine zAa (id:=7) plTFY4 (by kernel_rfl) (by kernel_rfl) ?_)|(refine zAa (id:=8) plTFY6 (by kernel_rfl) (by kernel_rfl) ?_)|refine zAp ?_ ?_|refine zAn rfl rfl rfl rfl rfl ?_ ?_|refine zAg ?_ ?_|exact Rech.nil|fail)
 all_goals (exact xdn gm)
theorem dcommit14_end (l:Nat) (sn:Nat) (room largest:Int) :
 Ct Tryz.prog W 54 [.agg (dtxC ba l bc sa sn sc true).toArray,.int .i64 room,.int .i64 largest] [] (fun _:Unit=>.tuple #[tblV ba l bc,.int .i64 19]) (fun _=>[]):=by
 refine Ct.enter Tryz.func54 rfl Tryz.ntmps54 (by simp) (fun R=>?_)
 repeat' (first|(refine zBc ?_;refine zAu (d:=6) rfl (fun g6=>?_))|(refine zBe ?_;refine zBb (d:=3) rfl xF rfl (fun g3=>?_))|refine xst ?_|(refine xsa ?_;intro _)|(refine xsb ?_ ?_ <;>intro _<;>try (exfalso;omega))|refine xsc ?_|fail)
 all_goals (refine is_ex ?_;exact KJ_done (by first|exact Or.inl rfl|exact Or.inr rfl) rfl (Rvs.agg (T:=51) rfl inferInstance inferInstance xS xC (Rvs.tmp rfl Rvs.nil)) () (by rfl) (xN))
theorem dcommit14_ct (hA:Lv W rC 2 A ba l) (hB:Lv W opC 3 B sa S) (hs:SlOk ba bc l.length) (hr:RisR l) (hl:l.length≤100000000) (hS:S.length≤100000000) (hz:(zBd (zAf l S)).length≤4611686018427387904) (hb:(encAll (zAs l (zAf l S))).length≤4611686018427387904)
 (e:Nat) (he:e=commE 400 l (zAs l (zAf l S))) (m:Rows) (hm:m=commR 400 l (zAs l (zAf l S))) :
 Ct Tryz.prog W 54 [.agg (dtxC ba l.length bc sa S.length sc false).toArray,.int .i64 30888,.int .i64 31218] [A,B] (fun z:SeeX W A m=>.tuple #[tblV z.1.2.1 m.length z.1.2.2,.int .i64 (e:Nat)]) (fun z=>[allP 94 [A,z.1.1],B]):=by
 have cS:=sees14_ct (W:=W) (sc:=sc) hA hB hs hr hl hS
 have cO:=rops14_ct (W:=W) (sc:=sc) hA hB hs hr hl hS
 have hrl:=applyB_len S l
 have hris:=applyB_ris hr S
 obtain ⟨e1,e2⟩:=comm14 hr hris
 have hbl:=between_len l (zAf l S)
 have hap:zAf l (zAs l (zAf l S))=zAf l S:=between_apply hr hris
 have cZ:=fun (Z:SP) (za:Option Addr) (zc:Nat) (hL:Lv W rC 2 (allP 94 [A,Z]) za (zAf l S))=>sizeof14_ct (W:=W) (A:=allP 94 [A,Z]) (a:=za) (c:=zc) (l:=zAf l S) hL (by omega) hz
 have cL:=fun xa xc=>length14_ct (W:=W) (A:=opP (xa,xc) (zAs l (zAf l S))) (a:=xa) (c:=xc) (os:=zAs l (zAf l S)) (Lv.own (e:=49) (c:=xc) zCa rfl) (by omega) hb
 obtain ⟨r,hrr⟩:∃ r,r=zAf l S:=⟨_,rfl⟩
 rw [← hrr] at cS cO cZ cL e1 e2 he hm hap
 clear hrr
 obtain ⟨os,hos⟩:∃ os,os=zAs l r:=⟨_,rfl⟩
 rw [← hos] at cO cL e1 e2 he hm hap
 rw [← he] at e1 e2
 rw [← hm] at e2
 obtain ⟨sz,hsz⟩:∃ x,x=(zBd r).length:=⟨_,rfl⟩
 obtain ⟨ez,hez⟩:∃ x,x=(encAll os).length:=⟨_,rfl⟩
 rw [← hsz] at cZ e1
 rw [← hez] at cL e1
 have hAl:Lv W rC 2 (allP 94 [A,factP True]) ba l:=hA.all Sel.here
 clear hos hsz hez he hm
 by_cases h1:os=[]
 ·rw [if_pos h1] at e1
  rw [if_pos e1] at e2
  have e3:m=l:=by rw [e2,← hap,h1];rfl
  subst e1 e3
  have q1:decide (((os.length:Nat):Int)=0)=true:=decide_eq_true (by rw [h1];rfl)
  refine Ct.enter Tryz.func54 rfl Tryz.ntmps54 (by simp) (fun R=>?_)
  repeat' (first|(refine zBc ?_;refine zAu (d:=6) rfl (fun g6=>?_))|(refine zBe ?_;refine zBb (d:=3) rfl xF rfl (fun g3=>?_))|(refine zAd ?_;refine zAc xE cO xP rfl (fun x=>?_))|(refine zBg ?_;refine zAb (zAr rfl rfl q1) ?_)|refine xst ?_|(refine xsa ?_;intro _)|(refine xsb ?_ ?_ <;>intro _<;>try (exfalso;omega))|refine xsc ?_|fail)
  all_goals refine KJ.addNo (A:=A) xS ?_
  all_goals (refine is_ex ?_;exact KJ_done (by first|exact Or.inl rfl|exact Or.inr rfl) rfl (Rvs.agg (T:=51) rfl inferInstance inferInstance xS xC (Rvs.tmp rfl Rvs.nil)) ⟨(factP True,ba,bc),hAl,hs⟩ (by rfl) (xN))
 rw [if_neg h1] at e1
 have q1:decide (((os.length:Nat):Int)=0)=false:=decide_eq_false (by
  have:=List.length_pos_iff.2 h1
  omega)
 by_cases h2:31218<ez
 ·rw [if_pos h2] at e1
  rw [if_neg (by omega)] at e2
  subst e1 e2
  have q2:decide (((ez:Nat):Int)>31218)=true:=decide_eq_true (by omega)
  refine Ct.enter Tryz.func54 rfl Tryz.ntmps54 (by simp) (fun R=>?_)
  repeat' (first|(refine zBc ?_;refine zAu (d:=6) rfl (fun g6=>?_))|(refine zBe ?_;refine zBb (d:=3) rfl xF rfl (fun g3=>?_))|(refine zAd ?_;first|(refine zAc xE (cL _ _) xP rfl (fun _=>?_))|(refine zAc xE cO xP rfl (fun x=>?_);obtain ⟨xa,xc⟩:=x))|(refine zBg ?_;refine zAb (zAr rfl rfl q1) ?_)|(refine zBf ?_;refine zAb (zAk rfl rfl q2) ?_)|refine xst ?_|(refine xsa ?_;intro _)|(refine xsb ?_ ?_ <;>intro _<;>try (exfalso;omega))|refine xsc ?_|fail)
  all_goals refine KJ.addNo (A:=A) xS ?_
  all_goals (refine is_ex ?_;exact KJ_done (by first|exact Or.inl rfl|exact Or.inr rfl) rfl (Rvs.agg (T:=51) rfl inferInstance inferInstance xS xC (Rvs.tmp rfl Rvs.nil)) ⟨(factP True,ba,bc),hAl,hs⟩ (by rfl) (xN))
 rw [if_neg h2] at e1
 have q2:decide (((ez:Nat):Int)>31218)=false:=decide_eq_false (by omega)
 by_cases h3:30888<sz
 ·rw [if_pos h3] at e1
  rw [if_neg (by omega)] at e2
  subst e1 e2
  have q3:decide (((sz:Nat):Int)>30888)=true:=decide_eq_true (by omega)
  refine Ct.enter Tryz.func54 rfl Tryz.ntmps54 (by simp) (fun R=>?_)
  repeat' (first|(refine zBc ?_;first|(refine zAu (d:=9) rfl (fun g9=>?_))|(refine zAu (d:=6) rfl (fun g6=>?_)))|(refine zBe ?_;refine zBb (d:=3) rfl xF rfl (fun g3=>?_))|(refine zAd ?_;first|(refine zAc xE (cZ _ _ _ hzL) xP rfl (fun _=>?_))|(refine zAc xE cS xP rfl (fun z=>?_);obtain ⟨⟨Z,za,zc⟩,hzL,hzs⟩:=z;dsimp only at hzL hzs ⊢)|(refine zAc xE (cL _ _) xP rfl (fun _=>?_))|(refine zAc xE cO xP rfl (fun x=>?_);obtain ⟨xa,xc⟩:=x))|(refine zBg ?_;refine zAb (zAr rfl rfl q1) ?_)|(refine zBf ?_;first|refine zAb (zAk rfl rfl q2) ?_|refine zAb (zAk rfl rfl q3) ?_)|refine xst ?_|(refine xsa ?_;intro _)|(refine xsb ?_ ?_ <;>intro _<;>try (exfalso;omega))|refine xsc ?_|fail)
  all_goals (refine is_ex ?_;exact KJ_done (by first|exact Or.inl rfl|exact Or.inr rfl) rfl (Rvs.agg (T:=51) rfl inferInstance inferInstance xS xC (Rvs.tmp rfl Rvs.nil)) ⟨(Z,ba,bc),hA.all Sel.here,hs⟩ (by rfl) (xN))
 rw [if_neg h3] at e1
 rw [if_pos e1] at e2
 subst e1 e2
 have q3:decide (((sz:Nat):Int)>30888)=false:=decide_eq_false (by omega)
 refine Ct.enter Tryz.func54 rfl Tryz.ntmps54 (by simp) (fun R=>?_)
 repeat' (first|(refine zBc ?_;first|(refine zAu (d:=9) rfl (fun g9=>?_))|(refine zAu (d:=6) rfl (fun g6=>?_)))|(refine zBe ?_;refine zBb (d:=3) rfl xF rfl (fun g3=>?_))|(refine zAd ?_;first|(refine zAc xE (cZ _ _ _ hzL) xP rfl (fun _=>?_))|(refine zAc xE cS xP rfl (fun z=>?_);obtain ⟨⟨Z,za,zc⟩,hzL,hzs⟩:=z;dsimp only at hzL hzs ⊢)|(refine zAc xE (cL _ _) xP rfl (fun _=>?_))|(refine zAc xE cO xP rfl (fun x=>?_);obtain ⟨xa,xc⟩:=x))|(refine zBg ?_;refine zAb (zAr rfl rfl q1) ?_)|(refine zBf ?_;first|refine zAb (zAk rfl rfl q2) ?_|refine zAb (zAk rfl rfl q3) ?_)|refine xst ?_|(refine xsa ?_;intro _)|(refine xsb ?_ ?_ <;>intro _<;>try (exfalso;omega))|refine xsc ?_|fail)
 all_goals (refine is_ex ?_;exact KJ_done (by first|exact Or.inl rfl|exact Or.inr rfl) rfl (Rvs.agg (T:=51) rfl inferInstance inferInstance xS xC (Rvs.tmp rfl Rvs.nil)) ⟨(Z,za,zc),hzL,hzs⟩ (by rfl) (xN))
end
end Go.Proofs.YtgipenahkmbelaaGreatDoor
