/-
  TxN3, TxN4.
-/
import Derived.Test.YtgipenahkmbelaaGreatDoorTFM
import Derived.Test.YtgipenahkmbelaaGreatDoorTGB
import Derived.Test.YtgipenahkmbelaaGreatDoorTDX
import Derived.Test.YtgipenahkmbelaaGreatDoorTFY
set_option maxHeartbeats 64000000
namespace Go.Proofs.YtgipenahkmbelaaGreatDoor
open Go Go.RowKit
abbrev plTGD0:Pl:=(.op 0 (.op 1 (.op 2 (.op 3 (.op 4 (.op 5 (.op 6 (.op 7 (.op 8 (.op 9 (.op 10 (.op 11 (.op 12 (.op 13 (.ef 14 [5,4,3,2,1,0] (.ef 15 [] (.op 16 .nil)))))))))))))))))
abbrev plTGD1:Pl:=(.op 0 (.op 1 (.op 2 (.op 3 (.op 4 (.op 7 (.op 8 (.op 9 (.op 10 (.op 11 (.op 12 (.op 13 (.op 14 (.ef 5 [14,13,12,11,10,9,8,7,2,1,0] (.op 6 (.ef 15 [6,12,11,10,9,8,7,2,1,0] (.ef 16 [6,2,1,0] (.ef 17 [] (.op 18 .nil)))))))))))))))))))
abbrev plTGD2:Pl:=(.op 0 (.op 1 (.op 2 (.op 3 (.op 4 (.op 5 (.op 6 (.op 7 (.op 8 (.op 9 (.ef 10 [3,2,1,0] (.ef 11 [] (.op 12 .nil)))))))))))))
abbrev plTGD3:Pl:=(.op 0 (.op 1 (.op 2 (.op 3 (.op 4 (.op 5 (.ef 6 [] (.op 7 (.op 8 (.op 9 (.op 10 (.op 11 .nil))))))))))))
abbrev plTGD4:Pl:=(.op 0 (.op 1 (.op 2 (.op 3 (.op 5 (.op 6 (.ef 4 [6,5] (.ef 7 [] (.op 8 (.op 9 (.op 10 (.op 11 (.op 12 .nil)))))))))))))
abbrev plTGD5:Pl:=(.op 0 (.op 1 (.op 2 (.op 3 (.op 4 (.op 5 (.op 6 (.op 7 (.op 8 (.op 9 (.op 11 (.op 12 (.ef 10 [12,11,1,0] (.op 13 (.ef 14 [] .nil)))))))))))))))
abbrev plTGD6:Pl:=(.op 0 (.op 1 (.op 2 (.op 3 (.op 4 (.op 5 (.op 7 (.op 8 (.op 9 (.op 10 (.op 12 (.op 13 (.ef 6 [13,12,10,9,8,7,1,0] (.ef 11 [13,12,1,0] (.op 14 (.ef 15 [] .nil))))))))))))))))
abbrev plTGD7:Pl:=(.op 0 (.op 1 (.op 2 (.op 3 (.op 4 (.op 5 (.op 6 (.op 7 (.op 8 (.op 9 (.op 10 (.op 11 (.op 12 (.op 13 (.op 14 (.op 15 (.op 16 (.op 17 (.op 18 (.op 19 (.op 20 (.op 21 (.ef 22 [] (.op 23 (.op 24 .nil)))))))))))))))))))))))))
abbrev plTGD8:Pl:=(.op 0 (.op 1 (.op 2 (.op 3 (.op 5 (.op 6 (.op 7 (.op 8 (.ef 4 [8,7,6,5] (.ef 9 [] (.ef 10 [] (.op 11 .nil))))))))))))
abbrev plTGD9:Pl:=(.op 0 (.op 1 (.op 2 (.op 3 (.op 5 (.op 6 (.op 7 (.op 8 (.ef 4 [8,7,6,5] (.ef 9 [] (.op 10 (.op 11 .nil))))))))))))
abbrev plTGD10:Pl:=(.op 0 (.op 1 (.op 2 (.op 3 (.op 5 (.op 6 (.op 7 (.op 8 (.op 9 (.op 10 (.ef 4 [10,9,8,7,6,5] (.ef 11 [] (.op 12 .nil)))))))))))))
abbrev plTGD11:Pl:=(.op 0 (.op 1 (.op 2 (.op 3 (.op 5 (.op 6 (.ef 4 [6,5] (.ef 7 [] (.op 8 .nil)))))))))
section
variable {W:World} {F:Nat→Addr} {T T1 T' Q Q' BP:SP} {w s t:Nat} {ba sa:Option Addr} {bn sn bc sc:Nat} {e:Bool} {l:Rows} {st:List BOp} {q0 q1 r0 r1:Value}
theorem Lv.empty {α:Type} {enc:α→List Value} {sz:Nat} {A:SP} {a:Option Addr}:Lv W enc sz A a ([]:List α):=⟨fun _ _ _ _ _ hne=>absurd rfl hne⟩
theorem dbegin14_ct (o:TOp) (hk:o.kind=1)
 {T':Nat→SP} (cD:Ct Tryz.prog W 17 [.pointer (some ⟨t,0,none⟩)] [T] (fun _:Unit=>.tuple #[]) (fun _=>[T1]))
 (cB:Ct Tryz.prog W 10 [.pointer (some ⟨s,0,none⟩)] [Q] (fun u:Nat=>.pointer (some ⟨u,0,none⟩)) (fun u=>[Q,T' u])) :
 Ct Tryz.prog W 8 [.pointer (some ⟨w,0,none⟩),.agg (topC o).toArray] [wP w s t ba bn bc sa sn sc e q0 q1 r0 r1,T,Q] (fun _:Nat=>.bool true)
  (fun u=>[wP w s u ba bn bc none 0 0 false q0 q1 r0 r1,T1,Q,T' u]):=by
 obtain ⟨okind,okey,oval,on_,oi⟩:=o
 dsimp only at *
 subst hk
 unfold topC
 dsimp only
 refine Ct.enter Tryz.func8 rfl Tryz.ntmps8 (by simp) (fun R=>?_)
 repeat' (first|(refine zBe ?_;refine zBb rfl xF rfl (fun g3=>?_))|(refine zAd ?_;first|(refine zAc xE cB xP rfl (fun u=>?_))|(refine zAc xE cD xP rfl (fun _=>?_)))|(refine zAy ?_;refine zAb (zAz xV xW) ?_)|refine xst ?_|(refine xsa ?_;intro _)|(refine xsb ?_ ?_ <;>intro _<;>try (exfalso;omega))|refine xsc ?_|(refine zAa (id:=9) plTGD0 (by kernel_rfl) (by kernel_rfl) ?_)|(refine zAa (id:=11) plTGD1 (by kernel_rfl) (by kernel_rfl) ?_)|(refine zAa (id:=13) plTGD2 (by kernel_rfl) (by kernel_rfl) ?_)|(refine zAa (id:=15) plTGD3 (by kernel_rfl) (by kernel_rfl) ?_)|(refine zAa (id:=16) plTGD4 (by kernel_rfl) (by kernel_rfl) ?_)|(refine zAa (id:=19) plTGD5 (by kernel_rfl) (by kernel_rfl) ?_)|(refine zAa (id:=20) plTGD6 (by kernel_rfl) (by kernel_rfl) ?_)|(refine zAa (id:=23) plTGD7 (by kernel_rfl) (by kernel_rfl) ?_)|(refine zAa (id:=32) plTGD8 (by kernel_rfl) (by kernel_rfl) ?_)|(refine zAa (id:=34) plTGD9 (by kernel_rfl) (by kernel_rfl) ?_)|(refine zAa (id:=40) plTGD10 (by kernel_rfl) (by kernel_rfl) ?_)|refine zAp ?_ ?_|refine zAn rfl rfl rfl rfl rfl ?_ ?_|refine zAg ?_ ?_|exact Rech.nil|fail)
 all_goals (exact xdn u)
theorem wstep14_end (hE:ErrsOn L16 W F) (o:BOp) :
 Ct Tryz.prog W 18 [.pointer (some ⟨w,0,none⟩),.agg (opC o).toArray,errV F 19] [wP w s t ba bn bc sa sn sc true q0 q1 r0 r1] (fun _:Unit=>.bool true) (fun _=>[wP w s t ba bn bc sa sn sc true q0 q1 r0 r1]):=by
 have e19:W.cell? ⟨0,0,none⟩=some (errV F 19):=hE.at_ 19 (by decide)
 refine Ct.enter Tryz.func18 rfl Tryz.ntmps18 (by simp) (fun R=>?_)
 repeat' (first|(refine zBe ?_;refine zBb rfl xF rfl (fun g4=>?_))|(refine zAm ?_;refine zAb (zAt rfl e19) ?_)|(refine zBg ?_;refine zAb (Ev_eqlE hE rfl rfl (Or.inr (by decide:(19:Nat) ∈ L16)) (by decide:(19:Nat) ∈ L16) (q:=true) rfl) ?_)|refine xst ?_|(refine xsa ?_;intro _)|(refine xsb ?_ ?_ <;>intro _<;>try (exfalso;omega))|refine xsc ?_|fail)
 all_goals (exact xdn ())
theorem dput14_end (o:TOp) (hk:o.kind=2) (hE:ErrsOn L16 W F)
 (cP:Ct Tryz.prog W 11 [.pointer (some ⟨t,0,none⟩),strV o.key,strV o.val] [T] (fun _:Unit=>errV F 19) (fun _=>[T])) :
 Ct Tryz.prog W 8 [.pointer (some ⟨w,0,none⟩),.agg (topC o).toArray] [wP w s t ba bn bc sa sn sc true q0 q1 r0 r1,T] (fun _:Unit=>.bool true)
  (fun _=>[wP w s t ba bn bc sa sn sc true q0 q1 r0 r1,T]):=by
 have cS:=wstep14_end (W:=W) (F:=F) (w:=w) (s:=s) (t:=t) (ba:=ba) (sa:=sa) (bn:=bn) (bc:=bc) (sn:=sn) (sc:=sc) (q0:=q0) (q1:=q1) (r0:=r0) (r1:=r1) hE ⟨false,o.key,o.val⟩
 obtain ⟨okind,okey,oval,on_,oi⟩:=o
 dsimp only at *
 subst hk
 unfold topC
 dsimp only
 refine Ct.enter Tryz.func8 rfl Tryz.ntmps8 (by simp) (fun R=>?_)
 repeat' (first|(refine zBe ?_;refine zBb rfl xF rfl (fun g3=>?_))|(refine zAd ?_;first|(refine zAc xE cP xP rfl (fun _=>?_))|(refine zAc xE cS xP rfl (fun _=>?_)))|(refine zAy ?_;refine zAb (zAz xV xW) ?_)|refine xst ?_|(refine xsa ?_;intro _)|(refine xsb ?_ ?_ <;>intro _<;>try (exfalso;omega))|refine xsc ?_|(refine zAa (id:=9) plTGD0 (by kernel_rfl) (by kernel_rfl) ?_)|(refine zAa (id:=11) plTGD1 (by kernel_rfl) (by kernel_rfl) ?_)|(refine zAa (id:=13) plTGD2 (by kernel_rfl) (by kernel_rfl) ?_)|(refine zAa (id:=15) plTGD3 (by kernel_rfl) (by kernel_rfl) ?_)|(refine zAa (id:=16) plTGD4 (by kernel_rfl) (by kernel_rfl) ?_)|(refine zAa (id:=19) plTGD5 (by kernel_rfl) (by kernel_rfl) ?_)|(refine zAa (id:=20) plTGD6 (by kernel_rfl) (by kernel_rfl) ?_)|(refine zAa (id:=23) plTGD7 (by kernel_rfl) (by kernel_rfl) ?_)|(refine zAa (id:=32) plTGD8 (by kernel_rfl) (by kernel_rfl) ?_)|(refine zAa (id:=34) plTGD9 (by kernel_rfl) (by kernel_rfl) ?_)|(refine zAa (id:=40) plTGD10 (by kernel_rfl) (by kernel_rfl) ?_)|refine zAp ?_ ?_|refine zAn rfl rfl rfl rfl rfl ?_ ?_|refine zAg ?_ ?_|exact Rech.nil|fail)
 all_goals (exact xdn ())
theorem ddel14_end (o:TOp) (hk:o.kind=3) (hE:ErrsOn L16 W F)
 (cP:Ct Tryz.prog W 12 [.pointer (some ⟨t,0,none⟩),strV o.key] [T] (fun _:Unit=>errV F 19) (fun _=>[T])) :
 Ct Tryz.prog W 8 [.pointer (some ⟨w,0,none⟩),.agg (topC o).toArray] [wP w s t ba bn bc sa sn sc true q0 q1 r0 r1,T] (fun _:Unit=>.bool true)
  (fun _=>[wP w s t ba bn bc sa sn sc true q0 q1 r0 r1,T]):=by
 have cS:=wstep14_end (W:=W) (F:=F) (w:=w) (s:=s) (t:=t) (ba:=ba) (sa:=sa) (bn:=bn) (bc:=bc) (sn:=sn) (sc:=sc) (q0:=q0) (q1:=q1) (r0:=r0) (r1:=r1) hE ⟨true,o.key,[]⟩
 obtain ⟨okind,okey,oval,on_,oi⟩:=o
 dsimp only at *
 subst hk
 unfold topC
 dsimp only
 refine Ct.enter Tryz.func8 rfl Tryz.ntmps8 (by simp) (fun R=>?_)
 repeat' (first|(refine zBe ?_;refine zBb rfl xF rfl (fun g3=>?_))|(refine zAd ?_;first|(refine zAc xE cP xP rfl (fun _=>?_))|(refine zAc xE cS xP rfl (fun _=>?_)))|(refine zAy ?_;refine zAb (zAz xV xW) ?_)|refine xst ?_|(refine xsa ?_;intro _)|(refine xsb ?_ ?_ <;>intro _<;>try (exfalso;omega))|refine xsc ?_|(refine zAa (id:=9) plTGD0 (by kernel_rfl) (by kernel_rfl) ?_)|(refine zAa (id:=11) plTGD1 (by kernel_rfl) (by kernel_rfl) ?_)|(refine zAa (id:=13) plTGD2 (by kernel_rfl) (by kernel_rfl) ?_)|(refine zAa (id:=15) plTGD3 (by kernel_rfl) (by kernel_rfl) ?_)|(refine zAa (id:=16) plTGD4 (by kernel_rfl) (by kernel_rfl) ?_)|(refine zAa (id:=19) plTGD5 (by kernel_rfl) (by kernel_rfl) ?_)|(refine zAa (id:=20) plTGD6 (by kernel_rfl) (by kernel_rfl) ?_)|(refine zAa (id:=23) plTGD7 (by kernel_rfl) (by kernel_rfl) ?_)|(refine zAa (id:=32) plTGD8 (by kernel_rfl) (by kernel_rfl) ?_)|(refine zAa (id:=34) plTGD9 (by kernel_rfl) (by kernel_rfl) ?_)|(refine zAa (id:=40) plTGD10 (by kernel_rfl) (by kernel_rfl) ?_)|refine zAp ?_ ?_|refine zAn rfl rfl rfl rfl rfl ?_ ?_|refine zAg ?_ ?_|exact Rech.nil|fail)
 all_goals (exact xdn ())
theorem dget14_ct (o:TOp) (hk:o.kind=4)
 (hA:Lv W rC 2 BP ba l) (hs:SlOk ba bc l.length) (hr:RisR l) (hl:l.length≤100000000) (hS:st.length≤100000000)
 (cG:Ct Tryz.prog W 14 [.pointer (some ⟨t,0,none⟩),strV o.key] [T] (fun _:Unit=>.tuple #[strV ((lk (zAf l st) o.key).getD []),.bool (lk (zAf l st) o.key).isSome]) (fun _=>[T])) :
 Ct Tryz.prog W 8 [.pointer (some ⟨w,0,none⟩),.agg (topC o).toArray] [wP w s t ba l.length bc sa st.length sc false q0 q1 r0 r1,T,BP,opP (sa,sc) st] (fun _:Unit=>.bool true)
  (fun _=>[wP w s t ba l.length bc sa st.length sc false q0 q1 r0 r1,T,BP,opP (sa,sc) st]):=by
 have cS:=sees14_ct (W:=W) (B:=opP (sa,sc) st) (sc:=sc) hA (Lv.own (e:=49) (c:=sc) zCa rfl) hs hr hl hS
 have hrl:=applyB_len st l
 have hris:=applyB_ris hr st
 obtain ⟨r,hrr⟩:∃ r,r=zAf l st:=⟨_,rfl⟩
 rw [← hrr] at cS cG hrl hris
 clear hrr
 have cZ:=fun (Z:SP) (za:Option Addr) (zc:Nat) (hL:Lv W rC 2 (allP 94 [BP,Z]) za r)=>eget_ct (W:=W) (A:=allP 94 [BP,Z]) (a:=za) (c:=zc) (l:=r) hL hris (by omega) o.key
 obtain ⟨v,hv⟩:∃ v,v=(lk r o.key).getD []:=⟨_,rfl⟩
 obtain ⟨b,hb⟩:∃ b,b=(lk r o.key).isSome:=⟨_,rfl⟩
 rw [← hv,← hb] at cG
 have cZ:∀ (Z:SP) (za:Option Addr) (zc:Nat),Lv W rC 2 (allP 94 [BP,Z]) za r→Ct Tryz.prog W 20 [tblV za r.length zc,strV o.key] [allP 94 [BP,Z]] (fun _:Unit=>.tuple #[strV v,.bool b]) (fun _=>[allP 94 [BP,Z]]):=fun Z za zc hL=>by rw [hv,hb];exact cZ Z za zc hL
 clear hv hb
 obtain ⟨okind,okey,oval,on_,oi⟩:=o
 dsimp only at *
 subst hk
 unfold topC
 dsimp only
 refine Ct.enter Tryz.func8 rfl Tryz.ntmps8 (by simp) (fun R=>?_)
 repeat' (first|(refine zBe ?_;refine zBb rfl xF rfl (fun g3=>?_))|(refine zAd ?_;first|(refine zAc xE (cZ _ _ _ hzL) xP rfl (fun _=>?_))|(refine zAc xE cS xP rfl (fun z=>?_);obtain ⟨⟨Z,za,zc⟩,hzL,hzs⟩:=z;dsimp only at hzL hzs ⊢)|(refine zAc xE cG xP rfl (fun _=>?_)))|(refine zAy ?_;refine zAb (zAz xV xW) ?_)|(refine zBg ?_;first|refine zAb (Ev_eqlBw (r:=true) rfl rfl (by simp)) ?_|refine zAb (Ev_eqlS_t rfl rfl rfl) ?_)|refine xst ?_|(refine xsa ?_;intro _)|(refine xsb ?_ ?_ <;>intro _<;>try (exfalso;omega))|refine xsc ?_|(refine zAa (id:=9) plTGD0 (by kernel_rfl) (by kernel_rfl) ?_)|(refine zAa (id:=11) plTGD1 (by kernel_rfl) (by kernel_rfl) ?_)|(refine zAa (id:=13) plTGD2 (by kernel_rfl) (by kernel_rfl) ?_)|(refine zAa (id:=15) plTGD3 (by kernel_rfl) (by kernel_rfl) ?_)|(refine zAa (id:=16) plTGD4 (by kernel_rfl) (by kernel_rfl) ?_)|(refine zAa (id:=19) plTGD5 (by kernel_rfl) (by kernel_rfl) ?_)|(refine zAa (id:=20) plTGD6 (by kernel_rfl) (by kernel_rfl) ?_)|(refine zAa (id:=23) plTGD7 (by kernel_rfl) (by kernel_rfl) ?_)|(refine zAa (id:=32) plTGD8 (by kernel_rfl) (by kernel_rfl) ?_)|(refine zAa (id:=34) plTGD9 (by kernel_rfl) (by kernel_rfl) ?_)|(refine zAa (id:=40) plTGD10 (by kernel_rfl) (by kernel_rfl) ?_)|refine zAp ?_ ?_|refine zAn rfl rfl rfl rfl rfl ?_ ?_|refine zAg ?_ ?_|exact Rech.nil|fail)
 all_goals refine KJ.allOpen (L:=[BP,Z]) xS ?_
 all_goals (exact xdn ())
theorem dget14_end (o:TOp) (hk:o.kind=4)
 (cG:Ct Tryz.prog W 14 [.pointer (some ⟨t,0,none⟩),strV o.key] [T] (fun _:Unit=>.tuple #[strV [],.bool false]) (fun _=>[T])) :
 Ct Tryz.prog W 8 [.pointer (some ⟨w,0,none⟩),.agg (topC o).toArray] [wP w s t ba bn bc sa sn sc true q0 q1 r0 r1,T] (fun _:Unit=>.bool true)
  (fun _=>[wP w s t ba bn bc sa sn sc true q0 q1 r0 r1,T]):=by
 have cS:=sees14_end (W:=W) (ba:=ba) (bc:=bc) (sa:=sa) (sc:=sc) bn sn
 have cZ:Ct Tryz.prog W 20 [tblV none 0 0,strV o.key] [T] (fun _:Unit=>.tuple #[strV [],.bool false]) (fun _=>[T]):=eget_ct (W:=W) (A:=T) (a:=none) (c:=0) (l:=[]) Lv.empty List.Pairwise.nil (by decide) o.key
 obtain ⟨okind,okey,oval,on_,oi⟩:=o
 dsimp only at *
 subst hk
 unfold topC
 dsimp only
 refine Ct.enter Tryz.func8 rfl Tryz.ntmps8 (by simp) (fun R=>?_)
 repeat' (first|(refine zBe ?_;refine zBb rfl xF rfl (fun g3=>?_))|(refine zAd ?_;first|(refine zAc xE cZ xP rfl (fun _=>?_))|(refine zAc xE cS xP rfl (fun _=>?_))|(refine zAc xE cG xP rfl (fun _=>?_)))|(refine zAy ?_;refine zAb (zAz xV xW) ?_)|(refine zBg ?_;first|refine zAb (Ev_eqlBw (r:=true) rfl rfl (by simp)) ?_|refine zAb (Ev_eqlS_t rfl rfl rfl) ?_)|refine xst ?_|(refine xsa ?_;intro _)|(refine xsb ?_ ?_ <;>intro _<;>try (exfalso;omega))|refine xsc ?_|(refine zAa (id:=9) plTGD0 (by kernel_rfl) (by kernel_rfl) ?_)|(refine zAa (id:=11) plTGD1 (by kernel_rfl) (by kernel_rfl) ?_)|(refine zAa (id:=13) plTGD2 (by kernel_rfl) (by kernel_rfl) ?_)|(refine zAa (id:=15) plTGD3 (by kernel_rfl) (by kernel_rfl) ?_)|(refine zAa (id:=16) plTGD4 (by kernel_rfl) (by kernel_rfl) ?_)|(refine zAa (id:=19) plTGD5 (by kernel_rfl) (by kernel_rfl) ?_)|(refine zAa (id:=20) plTGD6 (by kernel_rfl) (by kernel_rfl) ?_)|(refine zAa (id:=23) plTGD7 (by kernel_rfl) (by kernel_rfl) ?_)|(refine zAa (id:=32) plTGD8 (by kernel_rfl) (by kernel_rfl) ?_)|(refine zAa (id:=34) plTGD9 (by kernel_rfl) (by kernel_rfl) ?_)|(refine zAa (id:=40) plTGD10 (by kernel_rfl) (by kernel_rfl) ?_)|refine zAp ?_ ?_|refine zAn rfl rfl rfl rfl rfl ?_ ?_|refine zAg ?_ ?_|exact Rech.nil|fail)
 all_goals (exact xdn ())
theorem dmark14_ct (o:TOp) (hk:o.kind=7)
 (cM:Ct Tryz.prog W 15 [.pointer (some ⟨t,0,none⟩)] [T] (fun _:Unit=>.int .i64 (st.length:Nat)) (fun _=>[T])) :
 Ct Tryz.prog W 8 [.pointer (some ⟨w,0,none⟩),.agg (topC o).toArray] [wP w s t ba bn bc sa st.length sc false q0 q1 r0 r1,T] (fun _:Unit=>.bool true)
  (fun _=>[wP w s t ba bn bc sa st.length sc false q0 q1 r0 r1,T]):=by
 have qm:decide (((st.length:Nat):Int)=((st.length:Nat):Int))=true:=by simp
 obtain ⟨okind,okey,oval,on_,oi⟩:=o
 dsimp only at *
 subst hk
 unfold topC
 dsimp only
 refine Ct.enter Tryz.func8 rfl Tryz.ntmps8 (by simp) (fun R=>?_)
 repeat' (first|(refine zBe ?_;refine zBb rfl xF rfl (fun g3=>?_))|(refine zAd ?_;refine zAc xE cM xP rfl (fun _=>?_))|(refine zAy ?_;refine zAb (zAz xV xW) ?_)|(refine zBg ?_;refine zAb (zAr rfl rfl qm) ?_)|refine xst ?_|(refine xsa ?_;intro _)|(refine xsb ?_ ?_ <;>intro _<;>try (exfalso;omega))|refine xsc ?_|(refine zAa (id:=9) plTGD0 (by kernel_rfl) (by kernel_rfl) ?_)|(refine zAa (id:=11) plTGD1 (by kernel_rfl) (by kernel_rfl) ?_)|(refine zAa (id:=13) plTGD2 (by kernel_rfl) (by kernel_rfl) ?_)|(refine zAa (id:=15) plTGD3 (by kernel_rfl) (by kernel_rfl) ?_)|(refine zAa (id:=16) plTGD4 (by kernel_rfl) (by kernel_rfl) ?_)|(refine zAa (id:=19) plTGD5 (by kernel_rfl) (by kernel_rfl) ?_)|(refine zAa (id:=20) plTGD6 (by kernel_rfl) (by kernel_rfl) ?_)|(refine zAa (id:=23) plTGD7 (by kernel_rfl) (by kernel_rfl) ?_)|(refine zAa (id:=32) plTGD8 (by kernel_rfl) (by kernel_rfl) ?_)|(refine zAa (id:=34) plTGD9 (by kernel_rfl) (by kernel_rfl) ?_)|(refine zAa (id:=40) plTGD10 (by kernel_rfl) (by kernel_rfl) ?_)|refine zAp ?_ ?_|refine zAn rfl rfl rfl rfl rfl ?_ ?_|refine zAg ?_ ?_|exact Rech.nil|fail)
 all_goals (exact xdn ())
theorem dmark14_end (o:TOp) (hk:o.kind=7)
 (cM:Ct Tryz.prog W 15 [.pointer (some ⟨t,0,none⟩)] [T] (fun _:Unit=>.int .i64 0) (fun _=>[T])) :
 Ct Tryz.prog W 8 [.pointer (some ⟨w,0,none⟩),.agg (topC o).toArray] [wP w s t ba bn bc sa sn sc true q0 q1 r0 r1,T] (fun _:Unit=>.bool true)
  (fun _=>[wP w s t ba bn bc sa sn sc true q0 q1 r0 r1,T]):=by
 have qm:decide ((0:Int)=0)=true:=rfl
 obtain ⟨okind,okey,oval,on_,oi⟩:=o
 dsimp only at *
 subst hk
 unfold topC
 dsimp only
 refine Ct.enter Tryz.func8 rfl Tryz.ntmps8 (by simp) (fun R=>?_)
 repeat' (first|(refine zBe ?_;refine zBb rfl xF rfl (fun g3=>?_))|(refine zAd ?_;refine zAc xE cM xP rfl (fun _=>?_))|(refine zAy ?_;refine zAb (zAz xV xW) ?_)|(refine zBg ?_;refine zAb (zAr rfl rfl qm) ?_)|refine xst ?_|(refine xsa ?_;intro _)|(refine xsb ?_ ?_ <;>intro _<;>try (exfalso;omega))|refine xsc ?_|(refine zAa (id:=9) plTGD0 (by kernel_rfl) (by kernel_rfl) ?_)|(refine zAa (id:=11) plTGD1 (by kernel_rfl) (by kernel_rfl) ?_)|(refine zAa (id:=13) plTGD2 (by kernel_rfl) (by kernel_rfl) ?_)|(refine zAa (id:=15) plTGD3 (by kernel_rfl) (by kernel_rfl) ?_)|(refine zAa (id:=16) plTGD4 (by kernel_rfl) (by kernel_rfl) ?_)|(refine zAa (id:=19) plTGD5 (by kernel_rfl) (by kernel_rfl) ?_)|(refine zAa (id:=20) plTGD6 (by kernel_rfl) (by kernel_rfl) ?_)|(refine zAa (id:=23) plTGD7 (by kernel_rfl) (by kernel_rfl) ?_)|(refine zAa (id:=32) plTGD8 (by kernel_rfl) (by kernel_rfl) ?_)|(refine zAa (id:=34) plTGD9 (by kernel_rfl) (by kernel_rfl) ?_)|(refine zAa (id:=40) plTGD10 (by kernel_rfl) (by kernel_rfl) ?_)|refine zAp ?_ ?_|refine zAn rfl rfl rfl rfl rfl ?_ ?_|refine zAg ?_ ?_|exact Rech.nil|fail)
 all_goals (exact xdn ())
theorem dsize14_do (o:TOp) (hk:o.kind=10)
 (hA:Lv W rC 2 BP ba l) (hs:SlOk ba bc l.length) (hr:RisR l) (hl:l.length≤100000000) (hS:st.length≤100000000) (hz:(zBd (zAf l st)).length≤4611686018427387904)
 (cM:Ct Tryz.prog W 28 [.pointer (some ⟨t,0,none⟩)] [T,Q] (fun _:Unit=>.int .i64 ((zBd (zAf l st)).length:Nat)) (fun _=>[T,Q])) :
 Ct Tryz.prog W 8 [.pointer (some ⟨w,0,none⟩),.agg (topC o).toArray] [wP w s t ba l.length bc sa st.length sc false q0 q1 r0 r1,T,Q,BP,opP (sa,sc) st] (fun _:Unit=>.bool true)
  (fun _=>[wP w s t ba l.length bc sa st.length sc false q0 q1 r0 r1,T,Q,BP,opP (sa,sc) st]):=by
 have cD:=dsize14_ct (W:=W) (B:=opP (sa,sc) st) (sa:=sa) (sc:=sc) hA (Lv.own (e:=49) (c:=sc) zCa rfl) hs hr hl hS hz
 have qm:decide ((((zBd (zAf l st)).length:Nat):Int)=(((zBd (zAf l st)).length:Nat):Int))=true:=by simp
 obtain ⟨okind,okey,oval,on_,oi⟩:=o
 dsimp only at *
 subst hk
 unfold topC
 dsimp only
 refine Ct.enter Tryz.func8 rfl Tryz.ntmps8 (by simp) (fun R=>?_)
 repeat' (first|(refine zBe ?_;refine zBb rfl xF rfl (fun g3=>?_))|(refine zAd ?_;first|(refine zAc xE cD xP rfl (fun _=>?_))|(refine zAc xE cM xP rfl (fun _=>?_)))|(refine zAy ?_;refine zAb (zAz xV xW) ?_)|(refine zBg ?_;refine zAb (zAr rfl rfl qm) ?_)|refine xst ?_|(refine xsa ?_;intro _)|(refine xsb ?_ ?_ <;>intro _<;>try (exfalso;omega))|refine xsc ?_|(refine zAa (id:=9) plTGD0 (by kernel_rfl) (by kernel_rfl) ?_)|(refine zAa (id:=11) plTGD1 (by kernel_rfl) (by kernel_rfl) ?_)|(refine zAa (id:=13) plTGD2 (by kernel_rfl) (by kernel_rfl) ?_)|(refine zAa (id:=15) plTGD3 (by kernel_rfl) (by kernel_rfl) ?_)|(refine zAa (id:=16) plTGD4 (by kernel_rfl) (by kernel_rfl) ?_)|(refine zAa (id:=19) plTGD5 (by kernel_rfl) (by kernel_rfl) ?_)|(refine zAa (id:=20) plTGD6 (by kernel_rfl) (by kernel_rfl) ?_)|(refine zAa (id:=23) plTGD7 (by kernel_rfl) (by kernel_rfl) ?_)|(refine zAa (id:=32) plTGD8 (by kernel_rfl) (by kernel_rfl) ?_)|(refine zAa (id:=34) plTGD9 (by kernel_rfl) (by kernel_rfl) ?_)|(refine zAa (id:=40) plTGD10 (by kernel_rfl) (by kernel_rfl) ?_)|refine zAp ?_ ?_|refine zAn rfl rfl rfl rfl rfl ?_ ?_|refine zAg ?_ ?_|exact Rech.nil|fail)
 all_goals (exact xdn ())
theorem dsize14_doE (o:TOp) (hk:o.kind=10)
 (cM:Ct Tryz.prog W 28 [.pointer (some ⟨t,0,none⟩)] [T] (fun _:Unit=>.int .i64 0) (fun _=>[T])) :
 Ct Tryz.prog W 8 [.pointer (some ⟨w,0,none⟩),.agg (topC o).toArray] [wP w s t ba bn bc sa sn sc true q0 q1 r0 r1,T] (fun _:Unit=>.bool true)
  (fun _=>[wP w s t ba bn bc sa sn sc true q0 q1 r0 r1,T]):=by
 have cD:=dsize14_end (W:=W) (ba:=ba) (bc:=bc) (sa:=sa) (sc:=sc) bn sn
 have qm:decide ((0:Int)=0)=true:=rfl
 obtain ⟨okind,okey,oval,on_,oi⟩:=o
 dsimp only at *
 subst hk
 unfold topC
 dsimp only
 refine Ct.enter Tryz.func8 rfl Tryz.ntmps8 (by simp) (fun R=>?_)
 repeat' (first|(refine zBe ?_;refine zBb rfl xF rfl (fun g3=>?_))|(refine zAd ?_;first|(refine zAc xE cD xP rfl (fun _=>?_))|(refine zAc xE cM xP rfl (fun _=>?_)))|(refine zAy ?_;refine zAb (zAz xV xW) ?_)|(refine zBg ?_;refine zAb (zAr rfl rfl qm) ?_)|refine xst ?_|(refine xsa ?_;intro _)|(refine xsb ?_ ?_ <;>intro _<;>try (exfalso;omega))|refine xsc ?_|(refine zAa (id:=9) plTGD0 (by kernel_rfl) (by kernel_rfl) ?_)|(refine zAa (id:=11) plTGD1 (by kernel_rfl) (by kernel_rfl) ?_)|(refine zAa (id:=13) plTGD2 (by kernel_rfl) (by kernel_rfl) ?_)|(refine zAa (id:=15) plTGD3 (by kernel_rfl) (by kernel_rfl) ?_)|(refine zAa (id:=16) plTGD4 (by kernel_rfl) (by kernel_rfl) ?_)|(refine zAa (id:=19) plTGD5 (by kernel_rfl) (by kernel_rfl) ?_)|(refine zAa (id:=20) plTGD6 (by kernel_rfl) (by kernel_rfl) ?_)|(refine zAa (id:=23) plTGD7 (by kernel_rfl) (by kernel_rfl) ?_)|(refine zAa (id:=32) plTGD8 (by kernel_rfl) (by kernel_rfl) ?_)|(refine zAa (id:=34) plTGD9 (by kernel_rfl) (by kernel_rfl) ?_)|(refine zAa (id:=40) plTGD10 (by kernel_rfl) (by kernel_rfl) ?_)|refine zAp ?_ ?_|refine zAn rfl rfl rfl rfl rfl ?_ ?_|refine zAg ?_ ?_|exact Rech.nil|fail)
 all_goals (exact xdn ())
end
end Go.Proofs.YtgipenahkmbelaaGreatDoor
namespace Go.Proofs.YtgipenahkmbelaaGreatDoor
open Go Go.RowKit
section
variable {W:World} {F:Nat→Addr} {T T1 T' Q Q' BP:SP} {w s t:Nat} {ba sa:Option Addr} {bn sn bc sc:Nat} {e:Bool} {l:Rows} {st:List BOp} {q0 q1 r0 r1:Value}
instance fn_wback14:FnIs Tryz.prog 25:=⟨by kernel_rfl⟩
theorem wback14_ct {j:Nat} (hj:j≤st.length)
 (cK:Ct Tryz.prog W 51 [.pointer (some ⟨t,0,none⟩),.int .i64 (j:Nat)] [T] (fun _:Unit=>.nilIface) (fun _=>[T'])) :
 Ct Tryz.prog W 25 [.pointer (some ⟨w,0,none⟩),.int .i64 (j:Nat)] [wP w s t ba bn bc sa st.length sc false q0 q1 r0 r1,T,opP (sa,sc) st] (fun _:Unit=>.bool true) (fun _=>[wP w s t ba bn bc sa (st.take j).length sc false q0 q1 r0 r1,T',opP (sa,sc) (st.take j)]):=by
 have q1':decide (((j:Nat):Int)<0)=false:=decide_eq_false (by omega)
 have q2':decide (((st.length:Nat):Int)<((j:Nat):Int))=false:=decide_eq_false (by omega)
 have el:(st.take j).length=j:=by rw [List.length_take];omega
 rw [el]
 refine Ct.enter Tryz.func25 rfl Tryz.ntmps25 (by simp) (fun R=>?_)
 refine KJ.slOk (l:=st) (a:=sa) (c:=sc) (m:=st.length) xS (fun hs=>?_)
 have hc:=hs.le
 repeat' (first|(refine zAd ?_;refine zAc xE cK xP rfl (fun _=>?_))|(refine zCg ?_;refine zAb (Ev_sliceToB (j:=j) rfl rfl hs.nil (by omega)) ?_)|(refine zAq ?_;refine zAb (zAe rfl rfl q1') ?_)|(refine zBf ?_;refine zAb (zAk rfl rfl q2') ?_)|refine xst ?_|(refine xsa ?_;intro _)|(refine xsb ?_ ?_ <;>intro _<;>try (exfalso;omega))|refine xsc ?_|fail)
 all_goals refine KJ.lsCut (e:=49) (a:=sa) (c:=sc) (m:=st.length) (l:=st) zCa j rfl hj xS ?_
 all_goals (refine is_ex ?_;exact KJ_done (by first|exact Or.inl rfl|exact Or.inr rfl) rfl (Rvs.tmp rfl Rvs.nil) () (by rfl) (by
  show ∀ g,zAj _ g→zAj ([wP w s t ba bn bc sa j sc false q0 q1 r0 r1,T',lsP opC 49 3 (.slice sa (st.take j).length sc) (st.take j)]++R) g
  rw [el]
  exact (xN)))
theorem wback14_bad {j:Int} (hE:ErrsOn L16 W F) (hj:j<0∨(st.length:Int)<j)
 (cK:Ct Tryz.prog W 51 [.pointer (some ⟨t,0,none⟩),.int .i64 j] [T] (fun _:Unit=>errV F 6) (fun _=>[T])) :
 Ct Tryz.prog W 25 [.pointer (some ⟨w,0,none⟩),.int .i64 j] [wP w s t ba bn bc sa st.length sc false q0 q1 r0 r1,T] (fun _:Unit=>.bool true) (fun _=>[wP w s t ba bn bc sa st.length sc false q0 q1 r0 r1,T]):=by
 have e6:W.cell? ⟨1,0,none⟩=some (errV F 6):=hE.at_ 6 (by decide)
 by_cases h0:j<0
 rotate_left
 ·have q1':decide (j<0)=false:=decide_eq_false h0
  have q2':decide (((st.length:Nat):Int)<j)=true:=decide_eq_true (by omega)
  refine Ct.enter Tryz.func25 rfl Tryz.ntmps25 (by simp) (fun R=>?_)
  repeat' (first|(refine zAd ?_;refine zAc xE cK xP rfl (fun _=>?_))|(refine zAm ?_;refine zAb (zAt rfl e6) ?_)|(refine zBg ?_;refine zAb (Ev_eqlE hE rfl rfl (Or.inr (by decide:(6:Nat) ∈ L16)) (by decide:(6:Nat) ∈ L16) (q:=true) rfl) ?_)|(refine zAq ?_;refine zAb (zAe rfl rfl q1') ?_)|(refine zBf ?_;refine zAb (zAk rfl rfl q2') ?_)|refine xst ?_|(refine xsa ?_;intro _)|(refine xsb ?_ ?_ <;>intro _<;>try (exfalso;omega))|refine xsc ?_|fail)
  all_goals (exact xdn ())
 have q1':decide (j<0)=true:=decide_eq_true h0
 refine Ct.enter Tryz.func25 rfl Tryz.ntmps25 (by simp) (fun R=>?_)
 repeat' (first|(refine zAd ?_;refine zAc xE cK xP rfl (fun _=>?_))|(refine zAm ?_;refine zAb (zAt rfl e6) ?_)|(refine zBg ?_;refine zAb (Ev_eqlE hE rfl rfl (Or.inr (by decide:(6:Nat) ∈ L16)) (by decide:(6:Nat) ∈ L16) (q:=true) rfl) ?_)|(refine zAq ?_;refine zAb (zAe rfl rfl q1') ?_)|refine xst ?_|(refine xsa ?_;intro _)|(refine xsb ?_ ?_ <;>intro _<;>try (exfalso;omega))|refine xsc ?_|fail)
 all_goals (exact xdn ())
theorem wback14_end {j:Int} (hE:ErrsOn L16 W F)
 (cK:Ct Tryz.prog W 51 [.pointer (some ⟨t,0,none⟩),.int .i64 j] [T] (fun _:Unit=>errV F 19) (fun _=>[T])) :
 Ct Tryz.prog W 25 [.pointer (some ⟨w,0,none⟩),.int .i64 j] [wP w s t ba bn bc sa sn sc true q0 q1 r0 r1,T] (fun _:Unit=>.bool true) (fun _=>[wP w s t ba bn bc sa sn sc true q0 q1 r0 r1,T]):=by
 have e19:W.cell? ⟨0,0,none⟩=some (errV F 19):=hE.at_ 19 (by decide)
 refine Ct.enter Tryz.func25 rfl Tryz.ntmps25 (by simp) (fun R=>?_)
 repeat' (first|(refine zAd ?_;refine zAc xE cK xP rfl (fun _=>?_))|(refine zAm ?_;refine zAb (zAt rfl e19) ?_)|(refine zBg ?_;refine zAb (Ev_eqlE hE rfl rfl (Or.inr (by decide:(19:Nat) ∈ L16)) (by decide:(19:Nat) ∈ L16) (q:=true) rfl) ?_)|refine xst ?_|(refine xsa ?_;intro _)|(refine xsb ?_ ?_ <;>intro _<;>try (exfalso;omega))|refine xsc ?_|fail)
 all_goals (exact xdn ())
theorem dops14_end (o:TOp) (hk:o.kind=9)
 (cO:Ct Tryz.prog W 13 [.pointer (some ⟨t,0,none⟩)] [T] (fun _:Unit=>.slice none 0 0) (fun _=>[T])) :
 Ct Tryz.prog W 8 [.pointer (some ⟨w,0,none⟩),.agg (topC o).toArray] [wP w s t ba bn bc sa sn sc true q0 q1 r0 r1,T] (fun _:Unit=>.bool true)
  (fun _=>[wP w s t ba bn bc sa sn sc true q0 q1 r0 r1,T]):=by
 have cD:=rops14_end (W:=W) (ba:=ba) (bc:=bc) (sa:=sa) (sc:=sc) bn sn
 have cE:∀ g:Nat,Ct Tryz.prog W 26 [.slice none 0 0,.slice (some ⟨g,0,none⟩) 0 0] [T,opP (some ⟨g,0,none⟩,0) []] (fun _:Unit=>.bool true) (fun _=>[T,opP (some ⟨g,0,none⟩,0) []]):=fun g=>sops14_ct (W:=W) T (opP (some ⟨g,0,none⟩,0) []) none (some ⟨g,0,none⟩) 0 0 [] Lv.empty Lv.empty (by decide)
 obtain ⟨okind,okey,oval,on_,oi⟩:=o
 dsimp only at *
 subst hk
 unfold topC
 dsimp only
 refine Ct.enter Tryz.func8 rfl Tryz.ntmps8 (by simp) (fun R=>?_)
 repeat' (first|(refine zBe ?_;refine zBb rfl xF rfl (fun g3=>?_))|(refine zAd ?_;first|(refine zAc xE cO xP rfl (fun _=>?_))|(refine zAc xE cD xP rfl (fun g=>?_))|(refine zAc xE (cE _) xP rfl (fun _=>?_)))|(refine zAy ?_;refine zAb (zAz xV xW) ?_)|refine xst ?_|(refine xsa ?_;intro _)|(refine xsb ?_ ?_ <;>intro _<;>try (exfalso;omega))|refine xsc ?_|(refine zAa (id:=9) plTGD0 (by kernel_rfl) (by kernel_rfl) ?_)|(refine zAa (id:=11) plTGD1 (by kernel_rfl) (by kernel_rfl) ?_)|(refine zAa (id:=13) plTGD2 (by kernel_rfl) (by kernel_rfl) ?_)|(refine zAa (id:=15) plTGD3 (by kernel_rfl) (by kernel_rfl) ?_)|(refine zAa (id:=16) plTGD4 (by kernel_rfl) (by kernel_rfl) ?_)|(refine zAa (id:=19) plTGD5 (by kernel_rfl) (by kernel_rfl) ?_)|(refine zAa (id:=20) plTGD6 (by kernel_rfl) (by kernel_rfl) ?_)|(refine zAa (id:=23) plTGD7 (by kernel_rfl) (by kernel_rfl) ?_)|(refine zAa (id:=32) plTGD8 (by kernel_rfl) (by kernel_rfl) ?_)|(refine zAa (id:=34) plTGD9 (by kernel_rfl) (by kernel_rfl) ?_)|(refine zAa (id:=40) plTGD10 (by kernel_rfl) (by kernel_rfl) ?_)|refine zAp ?_ ?_|refine zAn rfl rfl rfl rfl rfl ?_ ?_|refine zAg ?_ ?_|exact Rech.nil|fail)
 all_goals (exact xdn ())
theorem ddrop14_ct (o:TOp) (hk:o.kind=12)
 (hA:Lv W rC 2 BP ba l) (hl:l.length≤100000000)
 (cD:Ct Tryz.prog W 17 [.pointer (some ⟨t,0,none⟩)] [T] (fun _:Unit=>.tuple #[]) (fun _=>[T1]))
 (cR:Ct Tryz.prog W 32 [.pointer (some ⟨s,0,none⟩)] [Q] (fun x:Option Addr × Nat=>.slice x.1 l.length x.2) (fun x=>[Q,roP x l])) :
 Ct Tryz.prog W 8 [.pointer (some ⟨w,0,none⟩),.agg (topC o).toArray] [wP w s t ba l.length bc sa sn sc e q0 q1 r0 r1,T,Q,BP] (fun _:Unit=>.bool true)
  (fun _=>[wP w s t ba l.length bc sa sn sc true q0 q1 r0 r1,T1,Q,BP]):=by
 have cE:=fun (xa:Option Addr) (xc:Nat)=>srows14_ct (W:=W) (roP (xa,xc) l) BP xa ba xc bc l (Lv.own (e:=36) (c:=xc) zCc rfl) hA (by omega)
 obtain ⟨okind,okey,oval,on_,oi⟩:=o
 dsimp only at *
 subst hk
 unfold topC
 dsimp only
 refine Ct.enter Tryz.func8 rfl Tryz.ntmps8 (by simp) (fun R=>?_)
 repeat' (first|(refine zBe ?_;refine zBb rfl xF rfl (fun g3=>?_))|(refine zAd ?_;first|(refine zAc xE (cE _ _) xP rfl (fun _=>?_))|(refine zAc xE cR xP rfl (fun x=>?_);obtain ⟨xa,xc⟩:=x)|(refine zAc xE cD xP rfl (fun _=>?_)))|(refine zAy ?_;refine zAb (zAz xV xW) ?_)|refine xst ?_|(refine xsa ?_;intro _)|(refine xsb ?_ ?_ <;>intro _<;>try (exfalso;omega))|refine xsc ?_|(refine zAa (id:=9) plTGD0 (by kernel_rfl) (by kernel_rfl) ?_)|(refine zAa (id:=11) plTGD1 (by kernel_rfl) (by kernel_rfl) ?_)|(refine zAa (id:=13) plTGD2 (by kernel_rfl) (by kernel_rfl) ?_)|(refine zAa (id:=15) plTGD3 (by kernel_rfl) (by kernel_rfl) ?_)|(refine zAa (id:=16) plTGD4 (by kernel_rfl) (by kernel_rfl) ?_)|(refine zAa (id:=19) plTGD5 (by kernel_rfl) (by kernel_rfl) ?_)|(refine zAa (id:=20) plTGD6 (by kernel_rfl) (by kernel_rfl) ?_)|(refine zAa (id:=23) plTGD7 (by kernel_rfl) (by kernel_rfl) ?_)|(refine zAa (id:=32) plTGD8 (by kernel_rfl) (by kernel_rfl) ?_)|(refine zAa (id:=34) plTGD9 (by kernel_rfl) (by kernel_rfl) ?_)|(refine zAa (id:=40) plTGD10 (by kernel_rfl) (by kernel_rfl) ?_)|refine zAp ?_ ?_|refine zAn rfl rfl rfl rfl rfl ?_ ?_|refine zAg ?_ ?_|exact Rech.nil|fail)
 all_goals (exact xdn ())
theorem wcommit14_end (hE:ErrsAt W F) (hg:gB≤W.heap.size) (hA:Lv W rC 2 BP ba l) (hl:l.length≤100000000)
 (cC:Ct Tryz.prog W 55 [.pointer (some ⟨t,0,none⟩)] [T] (fun _:Unit=>errV F 19) (fun _=>[T]))
 (cR:Ct Tryz.prog W 32 [.pointer (some ⟨s,0,none⟩)] [Q] (fun x:Option Addr × Nat=>.slice x.1 l.length x.2) (fun x=>[Q,roP x l])) :
 Ct Tryz.prog W 30 [.pointer (some ⟨w,0,none⟩)] [wP w s t ba l.length bc sa sn sc true q0 q1 r0 r1,T,Q,BP] (fun _:Unit=>.bool true) (fun _=>[wP w s t ba l.length bc sa sn sc true q0 q1 r0 r1,T,Q,BP]):=by
 have cD:=dcommit14_end (W:=W) (ba:=ba) (bc:=bc) (sa:=sa) (sc:=sc) l.length sn 30888 31218
 have cN:=numA_ct hE hg 19 (by omega)
 have cE:=fun (xa:Option Addr) (xc:Nat)=>srows14_ct (W:=W) (roP (xa,xc) l) BP xa ba xc bc l (Lv.own (e:=36) (c:=xc) zCc rfl) hA (by omega)
 refine Ct.enter Tryz.func30 rfl Tryz.ntmps30 (by simp) (fun R=>?_)
 repeat' (first|(refine zBc ?_;refine zAu (d:=3) rfl (fun g3=>?_))|(refine zAd ?_;first|(refine zAc xE (cE _ _) xP rfl (fun _=>?_))|(refine zAc xE cR xP rfl (fun x=>?_);obtain ⟨xa,xc⟩:=x)|(refine zAc xE cN xP rfl (fun _=>?_))|(refine zAc xE cC xP rfl (fun _=>?_))|(refine zAc xE cD xP rfl (fun _=>?_)))|(refine zBz ?_;refine zAb (Ev_neqI_q rfl rfl (q:=false) rfl) ?_)|refine xst ?_|(refine xsa ?_;intro _)|(refine xsb ?_ ?_ <;>intro _<;>try (exfalso;omega))|refine xsc ?_|(refine zAa (id:=6) plTGD11 (by kernel_rfl) (by kernel_rfl) ?_)|refine zAp ?_ ?_|refine zAn rfl rfl rfl rfl rfl ?_ ?_|refine zAg ?_ ?_|exact Rech.nil|fail)
 all_goals (exact xdn ())
theorem dcom14_end (o:TOp) (hk:o.kind=11)
 (cK:Ct Tryz.prog W 30 [.pointer (some ⟨w,0,none⟩)] [wP w s t ba l.length bc sa sn sc true q0 q1 r0 r1,T,Q,BP] (fun _:Unit=>.bool true) (fun _=>[wP w s t ba l.length bc sa sn sc true q0 q1 r0 r1,T,Q,BP])) :
 Ct Tryz.prog W 8 [.pointer (some ⟨w,0,none⟩),.agg (topC o).toArray] [wP w s t ba l.length bc sa sn sc true q0 q1 r0 r1,T,Q,BP] (fun _:Unit=>.bool true)
  (fun _=>[wP w s t ba l.length bc sa sn sc true q0 q1 r0 r1,T,Q,BP]):=by
 obtain ⟨okind,okey,oval,on_,oi⟩:=o
 dsimp only at *
 subst hk
 unfold topC
 dsimp only
 refine Ct.enter Tryz.func8 rfl Tryz.ntmps8 (by simp) (fun R=>?_)
 repeat' (first|(refine zBe ?_;refine zBb rfl xF rfl (fun g3=>?_))|(refine zAd ?_;refine zAc xE cK xP rfl (fun _=>?_))|(refine zAy ?_;refine zAb (zAz xV xW) ?_)|refine xst ?_|(refine xsa ?_;intro _)|(refine xsb ?_ ?_ <;>intro _<;>try (exfalso;omega))|refine xsc ?_|(refine zAa (id:=9) plTGD0 (by kernel_rfl) (by kernel_rfl) ?_)|(refine zAa (id:=11) plTGD1 (by kernel_rfl) (by kernel_rfl) ?_)|(refine zAa (id:=13) plTGD2 (by kernel_rfl) (by kernel_rfl) ?_)|(refine zAa (id:=15) plTGD3 (by kernel_rfl) (by kernel_rfl) ?_)|(refine zAa (id:=16) plTGD4 (by kernel_rfl) (by kernel_rfl) ?_)|(refine zAa (id:=19) plTGD5 (by kernel_rfl) (by kernel_rfl) ?_)|(refine zAa (id:=20) plTGD6 (by kernel_rfl) (by kernel_rfl) ?_)|(refine zAa (id:=23) plTGD7 (by kernel_rfl) (by kernel_rfl) ?_)|(refine zAa (id:=32) plTGD8 (by kernel_rfl) (by kernel_rfl) ?_)|(refine zAa (id:=34) plTGD9 (by kernel_rfl) (by kernel_rfl) ?_)|(refine zAa (id:=40) plTGD10 (by kernel_rfl) (by kernel_rfl) ?_)|refine zAp ?_ ?_|refine zAn rfl rfl rfl rfl rfl ?_ ?_|refine zAg ?_ ?_|exact Rech.nil|fail)
 all_goals (exact xdn ())
theorem dback14_ct (o:TOp) (hk:o.kind=8) {j:Nat}
 (cK:Ct Tryz.prog W 25 [.pointer (some ⟨w,0,none⟩),.int .i64 o.n] [wP w s t ba bn bc sa st.length sc false q0 q1 r0 r1,T,opP (sa,sc) st] (fun _:Unit=>.bool true) (fun _=>[wP w s t ba bn bc sa (st.take j).length sc false q0 q1 r0 r1,T',opP (sa,sc) (st.take j)])) :
 Ct Tryz.prog W 8 [.pointer (some ⟨w,0,none⟩),.agg (topC o).toArray] [wP w s t ba bn bc sa st.length sc false q0 q1 r0 r1,T,opP (sa,sc) st] (fun _:Unit=>.bool true)
  (fun _=>[wP w s t ba bn bc sa (st.take j).length sc false q0 q1 r0 r1,T',opP (sa,sc) (st.take j)]):=by
 obtain ⟨okind,okey,oval,on_,oi⟩:=o
 dsimp only at *
 subst hk
 unfold topC
 dsimp only
 refine Ct.enter Tryz.func8 rfl Tryz.ntmps8 (by simp) (fun R=>?_)
 repeat' (first|(refine zBe ?_;refine zBb rfl xF rfl (fun g3=>?_))|(refine zAd ?_;refine zAc xE cK xP rfl (fun _=>?_))|(refine zAy ?_;refine zAb (zAz xV xW) ?_)|refine xst ?_|(refine xsa ?_;intro _)|(refine xsb ?_ ?_ <;>intro _<;>try (exfalso;omega))|refine xsc ?_|(refine zAa (id:=9) plTGD0 (by kernel_rfl) (by kernel_rfl) ?_)|(refine zAa (id:=11) plTGD1 (by kernel_rfl) (by kernel_rfl) ?_)|(refine zAa (id:=13) plTGD2 (by kernel_rfl) (by kernel_rfl) ?_)|(refine zAa (id:=15) plTGD3 (by kernel_rfl) (by kernel_rfl) ?_)|(refine zAa (id:=16) plTGD4 (by kernel_rfl) (by kernel_rfl) ?_)|(refine zAa (id:=19) plTGD5 (by kernel_rfl) (by kernel_rfl) ?_)|(refine zAa (id:=20) plTGD6 (by kernel_rfl) (by kernel_rfl) ?_)|(refine zAa (id:=23) plTGD7 (by kernel_rfl) (by kernel_rfl) ?_)|(refine zAa (id:=32) plTGD8 (by kernel_rfl) (by kernel_rfl) ?_)|(refine zAa (id:=34) plTGD9 (by kernel_rfl) (by kernel_rfl) ?_)|(refine zAa (id:=40) plTGD10 (by kernel_rfl) (by kernel_rfl) ?_)|refine zAp ?_ ?_|refine zAn rfl rfl rfl rfl rfl ?_ ?_|refine zAg ?_ ?_|exact Rech.nil|fail)
 all_goals (exact xdn ())
theorem dback14_bad (o:TOp) (hk:o.kind=8)
 (cK:Ct Tryz.prog W 25 [.pointer (some ⟨w,0,none⟩),.int .i64 o.n] [wP w s t ba bn bc sa st.length sc false q0 q1 r0 r1,T] (fun _:Unit=>.bool true) (fun _=>[wP w s t ba bn bc sa st.length sc false q0 q1 r0 r1,T])) :
 Ct Tryz.prog W 8 [.pointer (some ⟨w,0,none⟩),.agg (topC o).toArray] [wP w s t ba bn bc sa st.length sc false q0 q1 r0 r1,T] (fun _:Unit=>.bool true)
  (fun _=>[wP w s t ba bn bc sa st.length sc false q0 q1 r0 r1,T]):=by
 obtain ⟨okind,okey,oval,on_,oi⟩:=o
 dsimp only at *
 subst hk
 unfold topC
 dsimp only
 refine Ct.enter Tryz.func8 rfl Tryz.ntmps8 (by simp) (fun R=>?_)
 repeat' (first|(refine zBe ?_;refine zBb rfl xF rfl (fun g3=>?_))|(refine zAd ?_;refine zAc xE cK xP rfl (fun _=>?_))|(refine zAy ?_;refine zAb (zAz xV xW) ?_)|refine xst ?_|(refine xsa ?_;intro _)|(refine xsb ?_ ?_ <;>intro _<;>try (exfalso;omega))|refine xsc ?_|(refine zAa (id:=9) plTGD0 (by kernel_rfl) (by kernel_rfl) ?_)|(refine zAa (id:=11) plTGD1 (by kernel_rfl) (by kernel_rfl) ?_)|(refine zAa (id:=13) plTGD2 (by kernel_rfl) (by kernel_rfl) ?_)|(refine zAa (id:=15) plTGD3 (by kernel_rfl) (by kernel_rfl) ?_)|(refine zAa (id:=16) plTGD4 (by kernel_rfl) (by kernel_rfl) ?_)|(refine zAa (id:=19) plTGD5 (by kernel_rfl) (by kernel_rfl) ?_)|(refine zAa (id:=20) plTGD6 (by kernel_rfl) (by kernel_rfl) ?_)|(refine zAa (id:=23) plTGD7 (by kernel_rfl) (by kernel_rfl) ?_)|(refine zAa (id:=32) plTGD8 (by kernel_rfl) (by kernel_rfl) ?_)|(refine zAa (id:=34) plTGD9 (by kernel_rfl) (by kernel_rfl) ?_)|(refine zAa (id:=40) plTGD10 (by kernel_rfl) (by kernel_rfl) ?_)|refine zAp ?_ ?_|refine zAn rfl rfl rfl rfl rfl ?_ ?_|refine zAg ?_ ?_|exact Rech.nil|fail)
 all_goals (exact xdn ())
theorem dback14_end (o:TOp) (hk:o.kind=8)
 (cK:Ct Tryz.prog W 25 [.pointer (some ⟨w,0,none⟩),.int .i64 o.n] [wP w s t ba bn bc sa sn sc true q0 q1 r0 r1,T] (fun _:Unit=>.bool true) (fun _=>[wP w s t ba bn bc sa sn sc true q0 q1 r0 r1,T])) :
 Ct Tryz.prog W 8 [.pointer (some ⟨w,0,none⟩),.agg (topC o).toArray] [wP w s t ba bn bc sa sn sc true q0 q1 r0 r1,T] (fun _:Unit=>.bool true)
  (fun _=>[wP w s t ba bn bc sa sn sc true q0 q1 r0 r1,T]):=by
 obtain ⟨okind,okey,oval,on_,oi⟩:=o
 dsimp only at *
 subst hk
 unfold topC
 dsimp only
 refine Ct.enter Tryz.func8 rfl Tryz.ntmps8 (by simp) (fun R=>?_)
 repeat' (first|(refine zBe ?_;refine zBb rfl xF rfl (fun g3=>?_))|(refine zAd ?_;refine zAc xE cK xP rfl (fun _=>?_))|(refine zAy ?_;refine zAb (zAz xV xW) ?_)|refine xst ?_|(refine xsa ?_;intro _)|(refine xsb ?_ ?_ <;>intro _<;>try (exfalso;omega))|refine xsc ?_|(refine zAa (id:=9) plTGD0 (by kernel_rfl) (by kernel_rfl) ?_)|(refine zAa (id:=11) plTGD1 (by kernel_rfl) (by kernel_rfl) ?_)|(refine zAa (id:=13) plTGD2 (by kernel_rfl) (by kernel_rfl) ?_)|(refine zAa (id:=15) plTGD3 (by kernel_rfl) (by kernel_rfl) ?_)|(refine zAa (id:=16) plTGD4 (by kernel_rfl) (by kernel_rfl) ?_)|(refine zAa (id:=19) plTGD5 (by kernel_rfl) (by kernel_rfl) ?_)|(refine zAa (id:=20) plTGD6 (by kernel_rfl) (by kernel_rfl) ?_)|(refine zAa (id:=23) plTGD7 (by kernel_rfl) (by kernel_rfl) ?_)|(refine zAa (id:=32) plTGD8 (by kernel_rfl) (by kernel_rfl) ?_)|(refine zAa (id:=34) plTGD9 (by kernel_rfl) (by kernel_rfl) ?_)|(refine zAa (id:=40) plTGD10 (by kernel_rfl) (by kernel_rfl) ?_)|refine zAp ?_ ?_|refine zAn rfl rfl rfl rfl rfl ?_ ?_|refine zAg ?_ ?_|exact Rech.nil|fail)
 all_goals (exact xdn ())
end
end Go.Proofs.YtgipenahkmbelaaGreatDoor
