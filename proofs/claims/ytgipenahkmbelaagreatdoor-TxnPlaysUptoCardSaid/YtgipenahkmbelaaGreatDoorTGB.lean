/-
  TxO1, TxO2.
-/
import Derived.Test.YtgipenahkmbelaaGreatDoorTFY
import Derived.Test.YtgipenahkmbelaaGreatDoorTFZ
set_option maxHeartbeats 64000000
namespace Go.Proofs.YtgipenahkmbelaaGreatDoor
open Go Go.RowKit
abbrev plTGB0:Pl:=(.op 0 (.op 1 (.op 2 (.op 3 (.op 5 (.op 6 (.ef 4 [6,5] (.ef 7 [] (.op 8 .nil)))))))))
abbrev plTGB1:Pl:=(.op 0 (.op 1 (.op 2 (.op 3 (.op 4 (.op 5 (.op 6 (.op 7 (.op 8 (.op 9 (.op 10 (.op 11 (.op 12 (.op 13 (.ef 14 [5,4,3,2,1,0] (.ef 15 [] (.op 16 .nil)))))))))))))))))
abbrev plTGB2:Pl:=(.op 0 (.op 1 (.op 2 (.op 3 (.op 4 (.op 7 (.op 8 (.op 9 (.op 10 (.op 11 (.op 12 (.op 13 (.op 14 (.ef 5 [14,13,12,11,10,9,8,7,2,1,0] (.op 6 (.ef 15 [6,12,11,10,9,8,7,2,1,0] (.ef 16 [6,2,1,0] (.ef 17 [] (.op 18 .nil)))))))))))))))))))
abbrev plTGB3:Pl:=(.op 0 (.op 1 (.op 2 (.op 3 (.op 4 (.op 5 (.op 6 (.op 7 (.op 8 (.op 9 (.ef 10 [3,2,1,0] (.ef 11 [] (.op 12 .nil)))))))))))))
abbrev plTGB4:Pl:=(.op 0 (.op 1 (.op 2 (.op 3 (.op 4 (.op 5 (.ef 6 [] (.op 7 (.op 8 (.op 9 (.op 10 (.op 11 .nil))))))))))))
abbrev plTGB5:Pl:=(.op 0 (.op 1 (.op 2 (.op 3 (.op 5 (.op 6 (.ef 4 [6,5] (.ef 7 [] (.op 8 (.op 9 (.op 10 (.op 11 (.op 12 .nil)))))))))))))
abbrev plTGB6:Pl:=(.op 0 (.op 1 (.op 2 (.op 3 (.op 4 (.op 5 (.op 6 (.op 7 (.op 8 (.op 9 (.op 11 (.op 12 (.ef 10 [12,11,1,0] (.op 13 (.ef 14 [] .nil)))))))))))))))
abbrev plTGB7:Pl:=(.op 0 (.op 1 (.op 2 (.op 3 (.op 4 (.op 5 (.op 7 (.op 8 (.op 9 (.op 10 (.op 12 (.op 13 (.ef 6 [13,12,10,9,8,7,1,0] (.ef 11 [13,12,1,0] (.op 14 (.ef 15 [] .nil))))))))))))))))
abbrev plTGB8:Pl:=(.op 0 (.op 1 (.op 2 (.op 3 (.op 4 (.op 5 (.op 6 (.op 7 (.op 8 (.op 9 (.op 10 (.op 11 (.op 12 (.op 13 (.op 14 (.op 15 (.op 16 (.op 17 (.op 18 (.op 19 (.op 20 (.op 21 (.ef 22 [] (.op 23 (.op 24 .nil)))))))))))))))))))))))))
abbrev plTGB9:Pl:=(.op 0 (.op 1 (.op 2 (.op 3 (.op 5 (.op 6 (.op 7 (.op 8 (.ef 4 [8,7,6,5] (.ef 9 [] (.ef 10 [] (.op 11 .nil))))))))))))
abbrev plTGB10:Pl:=(.op 0 (.op 1 (.op 2 (.op 3 (.op 5 (.op 6 (.op 7 (.op 8 (.ef 4 [8,7,6,5] (.ef 9 [] (.op 10 (.op 11 .nil))))))))))))
abbrev plTGB11:Pl:=(.op 0 (.op 1 (.op 2 (.op 3 (.op 5 (.op 6 (.op 7 (.op 8 (.op 9 (.op 10 (.ef 4 [10,9,8,7,6,5] (.ef 11 [] (.op 12 .nil)))))))))))))
abbrev wC (s t:Nat) (ba:Option Addr) (bn bc:Nat) (sa:Option Addr) (sn sc:Nat) (ended:Bool) (q0 q1 r0 r1:Value):List Value:=
 [.pointer (some ⟨s,0,none⟩),.pointer (some ⟨t,0,none⟩),.slice ba bn bc,.slice sa sn sc,.bool ended,q0,q1,r0,r1]
abbrev wP (w s t:Nat) (ba:Option Addr) (bn bc:Nat) (sa:Option Addr) (sn sc:Nat) (ended:Bool) (q0 q1 r0 r1:Value):SP:=zAh w (wC s t ba bn bc sa sn sc ended q0 q1 r0 r1) 60
section
variable {W:World} {F:Nat→Addr} {T T' Q Q' BP:SP} {w s t:Nat} {ba sa:Option Addr} {bn bc sc:Nat} {l:Rows} {st:List BOp} {q0 q1 r0 r1:Value}
instance fn_start14:FnIs Tryz.prog 7:=⟨by kernel_rfl⟩
instance fn_wstep14:FnIs Tryz.prog 18:=⟨by kernel_rfl⟩
instance fn_wcommit14:FnIs Tryz.prog 30:=⟨by kernel_rfl⟩
instance fn_wdo14:FnIs Tryz.prog 8:=⟨by kernel_rfl⟩
theorem start14_ct (hE:ErrsOn L16 W F) (hN:NibAt W) (hg:gB≤W.heap.size) (A:SP) (a:Option Addr) (c:Nat) (hA:Lv W rC 2 A a l) (hl:LightI l) :
 Ct Tryz.prog W 7 [.slice a l.length c] [A] (fun z:Nat × Nat × Nat × Option Addr × Nat=>.pointer (some ⟨z.1,0,none⟩))
  (fun z=>[A,wP z.1 z.2.1 z.2.2.1 z.2.2.2.1 (ofR l).length z.2.2.2.2 none 0 0 false .nilFunc .nilFunc (.slice none 0 0) (.slice none 0 0),TxB z.2.2.1 z.2.1 (ofR l) [] (ofR l) 0,StQ z.2.1 400 2 (ofR l),roP z.2.2.2 (ofR l)]):=by
 have cS:=hstore_ct hE hN hg A a c l hA hl
 have h0:RisR (ofR l):=(sum_ofR l).2
 have hll:=hl.len
 have cB:=fun s=>txbeginB (W:=W) (s:=s) (n:=400) (k:=2) (r:=ofR l) (by omega) h0
 have cO:=eof_ct (W:=W) (A:=A) (a:=a) (c:=c) hA (by omega)
 obtain ⟨r,hr⟩:∃ r,r=ofR l:=⟨_,rfl⟩
 rw [← hr] at cS cB cO ⊢
 refine Ct.enter Tryz.func7 rfl Tryz.ntmps7 (by simp) (fun R=>?_)
 repeat' (first|(refine zBe ?_;refine zBb rfl xF rfl (fun w=>?_))|(refine zAd ?_;first|(refine zAc xE cO xP rfl (fun x=>?_);obtain ⟨xa,xc⟩:=x)|(refine zAc xE (cB _) xP rfl (fun t=>?_))|(refine zAc xE cS xP rfl (fun s=>?_)))|(refine zAy ?_;refine zAb (zAz xV xW) ?_)|refine xst ?_|(refine xsa ?_;intro _)|(refine xsb ?_ ?_ <;>intro _<;>try (exfalso;omega))|refine xsc ?_|fail)
 all_goals (exact xdn (w,s,t,xa,xc))
theorem wstep14_ct (hst:st.length≤100000000) (o:BOp) :
 Ct Tryz.prog W 18 [.pointer (some ⟨w,0,none⟩),.agg (opC o).toArray,.nilIface] [wP w s t ba bn bc sa st.length sc false q0 q1 r0 r1,opP (sa,sc) st] (fun _:Option Addr × Nat=>.bool true)
  (fun x=>[wP w s t ba bn bc x.1 (st++[o]).length x.2 false q0 q1 r0 r1,opP x (st++[o])]):=by
 refine Ct.enter Tryz.func18 rfl Tryz.ntmps18 (by simp) (fun R=>?_)
 have hL:Lv W opC 3 (opP (sa,sc) st) sa st:=Lv.own (e:=49) (c:=sc) zCa rfl
 refine KJ.lvOpen hL xS (fun b1 o1 hb1=>?_)
 have a1:([]++st:List BOp)=st:=List.nil_append _
 repeat' (first|(refine at_seq_region (id:=4) ?_;refine hold ?_)|(refine zBe ?_;refine zBb rfl xF rfl (fun g4=>?_))|(refine zBq ?_;refine KJ_appAll (l:=[]) (l2:=st) zCa rfl rfl rfl rfl xS (Src.lv hL hb1 xS) (by simp;omega) (by simp;omega) rfl (fun a' c'=>?_))|(refine zBi ?_;refine KJ_bslice0 rfl (fun gm=>?_))|refine xst ?_|(refine xsa ?_;intro _)|(refine xsb ?_ ?_ <;>intro _<;>try (exfalso;omega))|refine xsc ?_|fail)
 refine Hold.mk ?_
 rw [a1]
 have m1:(st.length+1)*40≤140737488355328:=by omega
 have m2:st.length+1≤9223372036854775807:=by omega
 repeat' (first|(refine zBq ?_;refine zCe (l:=st) (a:=o) zCa rfl rfl rfl xS xS m1 m2 rfl (fun g' c''=>?_))|(refine zBi ?_;refine zBt rfl xF (by rfl) (by omega) rfl (fun gb=>?_);show KJ W _ _ _ (zAh gb (opC o) 49::_))|refine xst ?_|(refine xsa ?_;intro _)|(refine xsb ?_ ?_ <;>intro _<;>try (exfalso;omega))|refine xsc ?_|fail)
 all_goals (exact xdn (some ⟨g',0,none⟩,c''))
theorem wcommit14_ct (hE:ErrsAt W F) (hg:gB≤W.heap.size) (hA:Lv W rC 2 BP ba l) (hs:SlOk ba bc l.length) (hr:RisR l) (hl:l.length≤100000000) (hS:st.length≤100000000) (hz:(zBd (zAf l st)).length≤4611686018427387904) (hb:(encAll (zAs l (zAf l st))).length≤4611686018427387904)
 (e:Nat) (he:e=commE 400 l (zAs l (zAf l st))) (he37:e≤37) (m:Rows) (hm:m=commR 400 l (zAs l (zAf l st))) (hml:m.length≤4611686018427387904)
 (cC:Ct Tryz.prog W 55 [.pointer (some ⟨t,0,none⟩)] [T,Q] (fun _:Unit=>errV F e) (fun _=>[T',Q']))
 (cR:Ct Tryz.prog W 32 [.pointer (some ⟨s,0,none⟩)] [Q'] (fun x:Option Addr × Nat=>.slice x.1 m.length x.2) (fun x=>[Q',roP x m])) :
 Ct Tryz.prog W 30 [.pointer (some ⟨w,0,none⟩)] [wP w s t ba l.length bc sa st.length sc false q0 q1 r0 r1,T,Q,BP,opP (sa,sc) st] (fun _:SeeX W BP m=>.bool true)
  (fun z=>[wP w s t z.1.2.1 m.length z.1.2.2 sa st.length sc true q0 q1 r0 r1,T',Q',allP 94 [BP,z.1.1],opP (sa,sc) st]):=by
 have cD:=dcommit14_ct (W:=W) (B:=opP (sa,sc) st) (sa:=sa) (sc:=sc) hA (Lv.own (e:=49) (c:=sc) zCa rfl) hs hr hl hS hz hb e he m hm
 have cN:=numA_ct hE hg e he37
 have qn:decide (((e:Nat):Int)≠((e:Nat):Int))=false:=by simp
 have cE:=fun (Z:SP) (za:Option Addr) (zc:Nat) (hL:Lv W rC 2 (allP 94 [BP,Z]) za m) (xa:Option Addr) (xc:Nat)=>srows14_ct (W:=W) (roP (xa,xc) m) (allP 94 [BP,Z]) xa za xc zc m (Lv.own (e:=36) (c:=xc) zCc rfl) hL hml
 clear he hm
 refine Ct.enter Tryz.func30 rfl Tryz.ntmps30 (by simp) (fun R=>?_)
 repeat' (first|(refine zBc ?_;refine zAu (d:=3) rfl (fun g3=>?_))|(refine zAd ?_;first|(refine zAc xE (cE _ _ _ hzL _ _) xP rfl (fun _=>?_))|(refine zAc xE cR xP rfl (fun x=>?_);obtain ⟨xa,xc⟩:=x)|(refine zAc xE cN xP rfl (fun _=>?_))|(refine zAc xE cC xP rfl (fun _=>?_))|(refine zAc xE cD xP rfl (fun z=>?_);obtain ⟨⟨Z,za,zc⟩,hzL,hzs⟩:=z;dsimp only at hzL hzs ⊢))|(refine zBz ?_;refine zAb (Ev_neqI_q rfl rfl qn) ?_)|refine xst ?_|(refine xsa ?_;intro _)|(refine xsb ?_ ?_ <;>intro _<;>try (exfalso;omega))|refine xsc ?_|(refine zAa (id:=6) plTGB0 (by kernel_rfl) (by kernel_rfl) ?_)|refine zAp ?_ ?_|refine zAn rfl rfl rfl rfl rfl ?_ ?_|refine zAg ?_ ?_|exact Rech.nil|fail)
 all_goals (exact xdn ⟨(Z,za,zc),hzL,hzs⟩)
end
end Go.Proofs.YtgipenahkmbelaaGreatDoor
namespace Go.Proofs.YtgipenahkmbelaaGreatDoor
open Go Go.RowKit
section
variable {W:World} {F:Nat→Addr} {T T' Q Q' BP:SP} {w s t:Nat} {ba sa:Option Addr} {bn bc sc:Nat} {l:Rows} {st:List BOp} {q0 q1 r0 r1:Value}
theorem dput14_ct (hst:st.length≤100000000) (o:TOp) (hk:o.kind=2)
 (cP:Ct Tryz.prog W 11 [.pointer (some ⟨t,0,none⟩),strV o.key,strV o.val] [T] (fun _:Unit=>.nilIface) (fun _=>[T'])) :
 Ct Tryz.prog W 8 [.pointer (some ⟨w,0,none⟩),.agg (topC o).toArray] [wP w s t ba bn bc sa st.length sc false q0 q1 r0 r1,T,opP (sa,sc) st] (fun _:Option Addr × Nat=>.bool true)
  (fun x=>[wP w s t ba bn bc x.1 (st++[(⟨false,o.key,o.val⟩:BOp)]).length x.2 false q0 q1 r0 r1,T',opP x (st++[(⟨false,o.key,o.val⟩:BOp)])]):=by
 have cS:=wstep14_ct (W:=W) (w:=w) (s:=s) (t:=t) (ba:=ba) (sa:=sa) (bn:=bn) (bc:=bc) (sc:=sc) (q0:=q0) (q1:=q1) (r0:=r0) (r1:=r1) hst ⟨false,o.key,o.val⟩
 obtain ⟨okind,okey,oval,on_,oi⟩:=o
 dsimp only at hk cP cS ⊢
 subst hk
 unfold topC
 dsimp only
 refine Ct.enter Tryz.func8 rfl Tryz.ntmps8 (by simp) (fun R=>?_)
 repeat' (first|(refine zBe ?_;refine zBb rfl xF rfl (fun g3=>?_))|(refine zAd ?_;first|(refine zAc xE cP xP rfl (fun _=>?_))|(refine zAc xE cS xP rfl (fun x=>?_)))|(refine zAy ?_;refine zAb (zAz xV xW) ?_)|refine xst ?_|(refine xsa ?_;intro _)|(refine xsb ?_ ?_ <;>intro _<;>try (exfalso;omega))|refine xsc ?_|(refine zAa (id:=9) plTGB1 (by kernel_rfl) (by kernel_rfl) ?_)|(refine zAa (id:=11) plTGB2 (by kernel_rfl) (by kernel_rfl) ?_)|(refine zAa (id:=13) plTGB3 (by kernel_rfl) (by kernel_rfl) ?_)|(refine zAa (id:=15) plTGB4 (by kernel_rfl) (by kernel_rfl) ?_)|(refine zAa (id:=16) plTGB5 (by kernel_rfl) (by kernel_rfl) ?_)|(refine zAa (id:=19) plTGB6 (by kernel_rfl) (by kernel_rfl) ?_)|(refine zAa (id:=20) plTGB7 (by kernel_rfl) (by kernel_rfl) ?_)|(refine zAa (id:=23) plTGB8 (by kernel_rfl) (by kernel_rfl) ?_)|(refine zAa (id:=32) plTGB9 (by kernel_rfl) (by kernel_rfl) ?_)|(refine zAa (id:=34) plTGB10 (by kernel_rfl) (by kernel_rfl) ?_)|(refine zAa (id:=40) plTGB11 (by kernel_rfl) (by kernel_rfl) ?_)|refine zAp ?_ ?_|refine zAn rfl rfl rfl rfl rfl ?_ ?_|refine zAg ?_ ?_|exact Rech.nil|fail)
 all_goals (exact xdn x)
theorem ddel14_ct (hst:st.length≤100000000) (o:TOp) (hk:o.kind=3)
 (cP:Ct Tryz.prog W 12 [.pointer (some ⟨t,0,none⟩),strV o.key] [T] (fun _:Unit=>.nilIface) (fun _=>[T'])) :
 Ct Tryz.prog W 8 [.pointer (some ⟨w,0,none⟩),.agg (topC o).toArray] [wP w s t ba bn bc sa st.length sc false q0 q1 r0 r1,T,opP (sa,sc) st] (fun _:Option Addr × Nat=>.bool true)
  (fun x=>[wP w s t ba bn bc x.1 (st++[(⟨true,o.key,[]⟩:BOp)]).length x.2 false q0 q1 r0 r1,T',opP x (st++[(⟨true,o.key,[]⟩:BOp)])]):=by
 have cS:=wstep14_ct (W:=W) (w:=w) (s:=s) (t:=t) (ba:=ba) (sa:=sa) (bn:=bn) (bc:=bc) (sc:=sc) (q0:=q0) (q1:=q1) (r0:=r0) (r1:=r1) hst ⟨true,o.key,[]⟩
 obtain ⟨okind,okey,oval,on_,oi⟩:=o
 dsimp only at hk cP cS ⊢
 subst hk
 unfold topC
 dsimp only
 refine Ct.enter Tryz.func8 rfl Tryz.ntmps8 (by simp) (fun R=>?_)
 repeat' (first|(refine zBe ?_;refine zBb rfl xF rfl (fun g3=>?_))|(refine zAd ?_;first|(refine zAc xE cP xP rfl (fun _=>?_))|(refine zAc xE cS xP rfl (fun x=>?_)))|(refine zAy ?_;refine zAb (zAz xV xW) ?_)|refine xst ?_|(refine xsa ?_;intro _)|(refine xsb ?_ ?_ <;>intro _<;>try (exfalso;omega))|refine xsc ?_|(refine zAa (id:=9) plTGB1 (by kernel_rfl) (by kernel_rfl) ?_)|(refine zAa (id:=11) plTGB2 (by kernel_rfl) (by kernel_rfl) ?_)|(refine zAa (id:=13) plTGB3 (by kernel_rfl) (by kernel_rfl) ?_)|(refine zAa (id:=15) plTGB4 (by kernel_rfl) (by kernel_rfl) ?_)|(refine zAa (id:=16) plTGB5 (by kernel_rfl) (by kernel_rfl) ?_)|(refine zAa (id:=19) plTGB6 (by kernel_rfl) (by kernel_rfl) ?_)|(refine zAa (id:=20) plTGB7 (by kernel_rfl) (by kernel_rfl) ?_)|(refine zAa (id:=23) plTGB8 (by kernel_rfl) (by kernel_rfl) ?_)|(refine zAa (id:=32) plTGB9 (by kernel_rfl) (by kernel_rfl) ?_)|(refine zAa (id:=34) plTGB10 (by kernel_rfl) (by kernel_rfl) ?_)|(refine zAa (id:=40) plTGB11 (by kernel_rfl) (by kernel_rfl) ?_)|refine zAp ?_ ?_|refine zAn rfl rfl rfl rfl rfl ?_ ?_|refine zAg ?_ ?_|exact Rech.nil|fail)
 all_goals (exact xdn x)
theorem dops14_ct (o:TOp) (hk:o.kind=9)
 (hA:Lv W rC 2 BP ba l) (hs:SlOk ba bc l.length) (hr:RisR l) (hl:l.length≤100000000) (hS:st.length≤100000000)
 (cO:Ct Tryz.prog W 13 [.pointer (some ⟨t,0,none⟩)] [T,Q] (fun x:Option Addr × Nat=>.slice x.1 (zAs l (zAf l st)).length x.2) (fun x=>[T,Q,opP x (zAs l (zAf l st))])) :
 Ct Tryz.prog W 8 [.pointer (some ⟨w,0,none⟩),.agg (topC o).toArray] [wP w s t ba l.length bc sa st.length sc false q0 q1 r0 r1,T,Q,BP,opP (sa,sc) st] (fun _:Unit=>.bool true)
  (fun _=>[wP w s t ba l.length bc sa st.length sc false q0 q1 r0 r1,T,Q,BP,opP (sa,sc) st]):=by
 have cD:=rops14_ct (W:=W) (B:=opP (sa,sc) st) (sa:=sa) (sc:=sc) hA (Lv.own (e:=49) (c:=sc) zCa rfl) hs hr hl hS
 have hbl:=between_len l (zAf l st)
 have hrl:=applyB_len st l
 obtain ⟨os,hos⟩:∃ os,os=zAs l (zAf l st):=⟨_,rfl⟩
 rw [← hos] at cO cD hbl
 have cE:=fun xa xc ya yc=>sops14_ct (W:=W) (opP (xa,xc) os) (opP (ya,yc) os) xa ya xc yc os (Lv.own (e:=49) (c:=xc) zCa rfl) (Lv.own (e:=49) (c:=yc) zCa rfl) (by omega)
 obtain ⟨okind,okey,oval,on_,oi⟩:=o
 dsimp only at hk ⊢
 subst hk
 unfold topC
 dsimp only
 refine Ct.enter Tryz.func8 rfl Tryz.ntmps8 (by simp) (fun R=>?_)
 repeat' (first|(refine zBe ?_;refine zBb rfl xF rfl (fun g3=>?_))|(refine zAd ?_;first|(refine zAc xE cO xP rfl (fun x=>?_);obtain ⟨xa,xc⟩:=x)|(refine zAc xE cD xP rfl (fun y=>?_);obtain ⟨ya,yc⟩:=y)|(refine zAc xE (cE _ _ _ _) xP rfl (fun _=>?_)))|(refine zAy ?_;refine zAb (zAz xV xW) ?_)|refine xst ?_|(refine xsa ?_;intro _)|(refine xsb ?_ ?_ <;>intro _<;>try (exfalso;omega))|refine xsc ?_|(refine zAa (id:=9) plTGB1 (by kernel_rfl) (by kernel_rfl) ?_)|(refine zAa (id:=11) plTGB2 (by kernel_rfl) (by kernel_rfl) ?_)|(refine zAa (id:=13) plTGB3 (by kernel_rfl) (by kernel_rfl) ?_)|(refine zAa (id:=15) plTGB4 (by kernel_rfl) (by kernel_rfl) ?_)|(refine zAa (id:=16) plTGB5 (by kernel_rfl) (by kernel_rfl) ?_)|(refine zAa (id:=19) plTGB6 (by kernel_rfl) (by kernel_rfl) ?_)|(refine zAa (id:=20) plTGB7 (by kernel_rfl) (by kernel_rfl) ?_)|(refine zAa (id:=23) plTGB8 (by kernel_rfl) (by kernel_rfl) ?_)|(refine zAa (id:=32) plTGB9 (by kernel_rfl) (by kernel_rfl) ?_)|(refine zAa (id:=34) plTGB10 (by kernel_rfl) (by kernel_rfl) ?_)|(refine zAa (id:=40) plTGB11 (by kernel_rfl) (by kernel_rfl) ?_)|refine zAp ?_ ?_|refine zAn rfl rfl rfl rfl rfl ?_ ?_|refine zAg ?_ ?_|exact Rech.nil|fail)
 all_goals (exact xdn ())
theorem dcom14_ct (o:TOp) (hk:o.kind=11)
 {m:Rows} (cK:Ct Tryz.prog W 30 [.pointer (some ⟨w,0,none⟩)] [wP w s t ba l.length bc sa st.length sc false q0 q1 r0 r1,T,Q,BP,opP (sa,sc) st] (fun _:SeeX W BP m=>.bool true)
  (fun z=>[wP w s t z.1.2.1 m.length z.1.2.2 sa st.length sc true q0 q1 r0 r1,T',Q',allP 94 [BP,z.1.1],opP (sa,sc) st])) :
 Ct Tryz.prog W 8 [.pointer (some ⟨w,0,none⟩),.agg (topC o).toArray] [wP w s t ba l.length bc sa st.length sc false q0 q1 r0 r1,T,Q,BP,opP (sa,sc) st] (fun _:SeeX W BP m=>.bool true)
  (fun z=>[wP w s t z.1.2.1 m.length z.1.2.2 sa st.length sc true q0 q1 r0 r1,T',Q',allP 94 [BP,z.1.1],opP (sa,sc) st]):=by
 obtain ⟨okind,okey,oval,on_,oi⟩:=o
 dsimp only at hk ⊢
 subst hk
 unfold topC
 dsimp only
 refine Ct.enter Tryz.func8 rfl Tryz.ntmps8 (by simp) (fun R=>?_)
 repeat' (first|(refine zBe ?_;refine zBb rfl xF rfl (fun g3=>?_))|(refine zAd ?_;refine zAc xE cK xP rfl (fun z=>?_))|(refine zAy ?_;refine zAb (zAz xV xW) ?_)|refine xst ?_|(refine xsa ?_;intro _)|(refine xsb ?_ ?_ <;>intro _<;>try (exfalso;omega))|refine xsc ?_|(refine zAa (id:=9) plTGB1 (by kernel_rfl) (by kernel_rfl) ?_)|(refine zAa (id:=11) plTGB2 (by kernel_rfl) (by kernel_rfl) ?_)|(refine zAa (id:=13) plTGB3 (by kernel_rfl) (by kernel_rfl) ?_)|(refine zAa (id:=15) plTGB4 (by kernel_rfl) (by kernel_rfl) ?_)|(refine zAa (id:=16) plTGB5 (by kernel_rfl) (by kernel_rfl) ?_)|(refine zAa (id:=19) plTGB6 (by kernel_rfl) (by kernel_rfl) ?_)|(refine zAa (id:=20) plTGB7 (by kernel_rfl) (by kernel_rfl) ?_)|(refine zAa (id:=23) plTGB8 (by kernel_rfl) (by kernel_rfl) ?_)|(refine zAa (id:=32) plTGB9 (by kernel_rfl) (by kernel_rfl) ?_)|(refine zAa (id:=34) plTGB10 (by kernel_rfl) (by kernel_rfl) ?_)|(refine zAa (id:=40) plTGB11 (by kernel_rfl) (by kernel_rfl) ?_)|refine zAp ?_ ?_|refine zAn rfl rfl rfl rfl rfl ?_ ?_|refine zAg ?_ ?_|exact Rech.nil|fail)
 all_goals (exact xdn z)
end
end Go.Proofs.YtgipenahkmbelaaGreatDoor
