/-
  TxO1, TxO2, KpX, TxO3.
-/
import Derived.Test.YtahgdagcnkpnbaaGreatDoorUFR
import Derived.Test.YtahgdagcnkpnbaaGreatDoorUFS
import Derived.Test.YtahgdagcnkpnbaaGreatDoorUFB
import Derived.Laws.OwnMore
import Derived.Laws.MakeOwn
import Derived.ArgAppend
set_option maxHeartbeats 64000000
namespace Go.Proofs.YtahgdagcnkpnbaaGreatDoor
open Go Go.RowKit
abbrev plUFW0:Pl:=(.op 0 (.op 1 (.op 2 (.op 3 (.op 5 (.op 6 (.ef 4 [6,5] (.ef 7 [] (.op 8 .nil)))))))))
abbrev plUFW1:Pl:=(.op 0 (.op 1 (.op 2 (.op 3 (.op 4 (.op 5 (.op 6 (.op 7 (.op 8 (.op 9 (.op 10 (.op 11 (.op 12 (.op 13 (.ef 14 [5,4,3,2,1,0] (.ef 15 [] (.op 16 .nil)))))))))))))))))
abbrev plUFW2:Pl:=(.op 0 (.op 1 (.op 2 (.op 3 (.op 4 (.op 7 (.op 8 (.op 9 (.op 10 (.op 11 (.op 12 (.op 13 (.op 14 (.ef 5 [14,13,12,11,10,9,8,7,2,1,0] (.op 6 (.ef 15 [6,12,11,10,9,8,7,2,1,0] (.ef 16 [6,2,1,0] (.ef 17 [] (.op 18 .nil)))))))))))))))))))
abbrev plUFW3:Pl:=(.op 0 (.op 1 (.op 2 (.op 3 (.op 4 (.op 5 (.op 6 (.op 7 (.op 8 (.op 9 (.ef 10 [3,2,1,0] (.ef 11 [] (.op 12 .nil)))))))))))))
abbrev plUFW4:Pl:=(.op 0 (.op 1 (.op 2 (.op 3 (.op 4 (.op 5 (.ef 6 [] (.op 7 (.op 8 (.op 9 (.op 10 (.op 11 .nil))))))))))))
abbrev plUFW5:Pl:=(.op 0 (.op 1 (.op 2 (.op 3 (.op 5 (.op 6 (.ef 4 [6,5] (.ef 7 [] (.op 8 (.op 9 (.op 10 (.op 11 (.op 12 .nil)))))))))))))
abbrev plUFW6:Pl:=(.op 0 (.op 1 (.op 2 (.op 3 (.op 4 (.op 5 (.op 6 (.op 7 (.op 8 (.op 9 (.op 11 (.op 12 (.ef 10 [12,11,1,0] (.op 13 (.ef 14 [] .nil)))))))))))))))
abbrev plUFW7:Pl:=(.op 0 (.op 1 (.op 2 (.op 3 (.op 4 (.op 5 (.op 7 (.op 8 (.op 9 (.op 10 (.op 12 (.op 13 (.ef 6 [13,12,10,9,8,7,1,0] (.ef 11 [13,12,1,0] (.op 14 (.ef 15 [] .nil))))))))))))))))
abbrev plUFW8:Pl:=(.op 0 (.op 1 (.op 2 (.op 3 (.op 4 (.op 5 (.op 6 (.op 7 (.op 8 (.op 9 (.op 10 (.op 11 (.op 12 (.op 13 (.op 14 (.op 15 (.op 16 (.op 17 (.op 18 (.op 19 (.op 20 (.op 21 (.ef 22 [] (.op 23 (.op 24 .nil)))))))))))))))))))))))))
abbrev plUFW9:Pl:=(.op 0 (.op 1 (.op 2 (.op 3 (.op 5 (.op 6 (.op 7 (.op 8 (.ef 4 [8,7,6,5] (.ef 9 [] (.ef 10 [] (.op 11 .nil))))))))))))
abbrev plUFW10:Pl:=(.op 0 (.op 1 (.op 2 (.op 3 (.op 5 (.op 6 (.op 7 (.op 8 (.ef 4 [8,7,6,5] (.ef 9 [] (.op 10 (.op 11 .nil))))))))))))
abbrev plUFW11:Pl:=(.op 0 (.op 1 (.op 2 (.op 3 (.op 5 (.op 6 (.op 7 (.op 8 (.op 9 (.op 10 (.ef 4 [10,9,8,7,6,5] (.ef 11 [] (.op 12 .nil)))))))))))))
abbrev wC (s t:Nat) (ba:Option Addr) (bn bc:Nat) (sa:Option Addr) (sn sc:Nat) (ended:Bool) (q0 q1 r0 r1:Value):List Value:=
 [.pointer (some ⟨s,0,none⟩),.pointer (some ⟨t,0,none⟩),.slice ba bn bc,.slice sa sn sc,.bool ended,q0,q1,r0,r1]
abbrev wP (w s t:Nat) (ba:Option Addr) (bn bc:Nat) (sa:Option Addr) (sn sc:Nat) (ended:Bool) (q0 q1 r0 r1:Value):SP:=zAk w (wC s t ba bn bc sa sn sc ended q0 q1 r0 r1) 69
section
variable {W:World} {F:Nat→Addr} {T T' Q Q' BP:SP} {w s t:Nat} {ba sa:Option Addr} {bn bc sc:Nat} {l:Rows} {st:List BOp} {q0 q1 r0 r1:Value}
instance fn_start14:FnIs Tryz.prog 29:=⟨by kernel_rfl⟩
instance fn_wstep14:FnIs Tryz.prog 86:=⟨by kernel_rfl⟩
instance fn_wcommit14:FnIs Tryz.prog 94:=⟨by kernel_rfl⟩
instance fn_wdo14:FnIs Tryz.prog 30:=⟨by kernel_rfl⟩
theorem start14_ct (hE:ErrsOn L16 W F) (hN:NibAt W) (hg:gB≤W.heap.size) (A:SP) (a:Option Addr) (c:Nat) (hA:Lv W rC 2 A a l) (hl:LightI l) :
 Ct Tryz.prog W 29 [.slice a l.length c] [A] (fun z:Nat × Nat × Nat × Option Addr × Nat=>.pointer (some ⟨z.1,0,none⟩))
  (fun z=>[A,wP z.1 z.2.1 z.2.2.1 z.2.2.2.1 (ofR l).length z.2.2.2.2 none 0 0 false .nilFunc .nilFunc (.slice none 0 0) (.slice none 0 0),TxB z.2.2.1 z.2.1 (ofR l) [] (ofR l) 0,StQ z.2.1 400 2 (ofR l),roP z.2.2.2 (ofR l)]):=by
 have cS:=hstore_ct hE hN hg A a c l hA hl
 have h0:RisR (ofR l):=(sum_ofR l).2
 have hll:=hl.len
 have cB:=fun s=>txbeginB (W:=W) (s:=s) (n:=400) (k:=2) (r:=ofR l) (by omega) h0
 have cO:=eof_ct (W:=W) (A:=A) (a:=a) (c:=c) hA (by omega)
 obtain ⟨r,hr⟩:∃ r,r=ofR l:=⟨_,rfl⟩
 rw [← hr] at cS cB cO ⊢
 refine Ct.enter Tryz.func29 rfl Tryz.ntmps29 (by simp) (fun R=>?_)
 repeat' (first|(refine is_box ?_;refine zCb rfl xF rfl (fun w=>?_))|(refine zAd ?_;first|(refine zAc xE cO xP rfl (fun x=>?_);obtain ⟨xa,xc⟩:=x)|(refine zAc xE (cB _) xP rfl (fun t=>?_))|(refine zAc xE cS xP rfl (fun s=>?_)))|(refine zBc ?_;refine zAb (zBd xV xW) ?_)|refine xst ?_|(refine xsa ?_;intro _)|(refine xsb ?_ ?_ <;>intro _<;>try (exfalso;omega))|refine xsc ?_|fail)
 all_goals (exact xdn (w,s,t,xa,xc))
theorem wstep14_ct (hst:st.length≤100000000) (o:BOp) :
 Ct Tryz.prog W 86 [.pointer (some ⟨w,0,none⟩),.agg (opC o).toArray,.nilIface] [wP w s t ba bn bc sa st.length sc false q0 q1 r0 r1,opP (sa,sc) st] (fun _:Option Addr × Nat=>.bool true)
  (fun x=>[wP w s t ba bn bc x.1 (st++[o]).length x.2 false q0 q1 r0 r1,opP x (st++[o])]):=by
 refine Ct.enter Tryz.func86 rfl Tryz.ntmps86 (by simp) (fun R=>?_)
 have hL:Lv W opC 3 (opP (sa,sc) st) sa st:=Lv.own (e:=43) (c:=sc) zBu rfl
 refine KJ.lvOpen hL xS (fun b1 o1 hb1=>?_)
 have a1:([]++st:List BOp)=st:=List.nil_append _
 repeat' (first|(refine zBt (id:=4) ?_;refine hold ?_)|(refine is_box ?_;refine zCb rfl xF rfl (fun g4=>?_))|(refine zBn ?_;refine KJ_appAll (l:=[]) (l2:=st) zBu rfl rfl rfl rfl xS (Src.lv hL hb1 xS) (by simp;omega) (by simp;omega) rfl (fun a' c'=>?_))|(refine zBj ?_;refine KJ_bslice0 rfl (fun gm=>?_))|refine xst ?_|(refine xsa ?_;intro _)|(refine xsb ?_ ?_ <;>intro _<;>try (exfalso;omega))|refine xsc ?_|fail)
 refine Hold.mk ?_
 rw [a1]
 have m1:(st.length+1)*40≤140737488355328:=by omega
 have m2:st.length+1≤9223372036854775807:=by omega
 repeat' (first|(refine zBn ?_;refine zCe (l:=st) (a:=o) zBu rfl rfl rfl xS xS m1 m2 rfl (fun g' c''=>?_))|(refine zBj ?_;refine zBs rfl xF (by rfl) (by omega) rfl (fun gb=>?_);show KJ W _ _ _ (zAk gb (opC o) 43::_))|refine xst ?_|(refine xsa ?_;intro _)|(refine xsb ?_ ?_ <;>intro _<;>try (exfalso;omega))|refine xsc ?_|fail)
 all_goals (exact xdn (some ⟨g',0,none⟩,c''))
theorem wcommit14_ct (hE:ErrsAt W F) (hg:gB≤W.heap.size) (hA:Lv W rC 2 BP ba l) (hs:SlOk ba bc l.length) (hr:RisR l) (hl:l.length≤100000000) (hS:st.length≤100000000) (hz:(zAy (zAp l st)).length≤4611686018427387904) (hb:(zCd (zAr l (zAp l st))).length≤4611686018427387904)
 (e:Nat) (he:e=commE 400 l (zAr l (zAp l st))) (he37:e≤37) (m:Rows) (hm:m=commR 400 l (zAr l (zAp l st))) (hml:m.length≤4611686018427387904)
 (cC:Ct Tryz.prog W 27 [.pointer (some ⟨t,0,none⟩)] [T,Q] (fun _:Unit=>errV F e) (fun _=>[T',Q']))
 (cR:Ct Tryz.prog W 24 [.pointer (some ⟨s,0,none⟩)] [Q'] (fun x:Option Addr × Nat=>.slice x.1 m.length x.2) (fun x=>[Q',roP x m])) :
 Ct Tryz.prog W 94 [.pointer (some ⟨w,0,none⟩)] [wP w s t ba l.length bc sa st.length sc false q0 q1 r0 r1,T,Q,BP,opP (sa,sc) st] (fun _:SeeX W BP m=>.bool true)
  (fun z=>[wP w s t z.1.2.1 m.length z.1.2.2 sa st.length sc true q0 q1 r0 r1,T',Q',allP 94 [BP,z.1.1],opP (sa,sc) st]):=by
 have cD:=dcommit14_ct (W:=W) (B:=opP (sa,sc) st) (sa:=sa) (sc:=sc) hA (Lv.own (e:=43) (c:=sc) zBu rfl) hs hr hl hS hz hb e he m hm
 have cN:=numA_ct hE hg e he37
 have qn:decide (((e:Nat):Int)≠((e:Nat):Int))=false:=by simp
 have cE:=fun (Z:SP) (za:Option Addr) (zc:Nat) (hL:Lv W rC 2 (allP 94 [BP,Z]) za m) (xa:Option Addr) (xc:Nat)=>srows14_ct (W:=W) (roP (xa,xc) m) (allP 94 [BP,Z]) xa za xc zc m (Lv.own (e:=51) (c:=xc) zCg rfl) hL hml
 clear he hm
 refine Ct.enter Tryz.func94 rfl Tryz.ntmps94 (by simp) (fun R=>?_)
 repeat' (first|(refine zAv ?_;refine zAt (d:=3) rfl (fun g3=>?_))|(refine zAd ?_;first|(refine zAc xE (cE _ _ _ hzL _ _) xP rfl (fun _=>?_))|(refine zAc xE cR xP rfl (fun x=>?_);obtain ⟨xa,xc⟩:=x)|(refine zAc xE cN xP rfl (fun _=>?_))|(refine zAc xE cC xP rfl (fun _=>?_))|(refine zAc xE cD xP rfl (fun z=>?_);obtain ⟨⟨Z,za,zc⟩,hzL,hzs⟩:=z;dsimp only at hzL hzs ⊢))|(refine zBi ?_;refine zAb (Ev_neqI_q rfl rfl qn) ?_)|refine xst ?_|(refine xsa ?_;intro _)|(refine xsb ?_ ?_ <;>intro _<;>try (exfalso;omega))|refine xsc ?_|(refine zAa (id:=6) plUFW0 (by kernel_rfl) (by kernel_rfl) ?_)|refine zAj ?_ ?_|refine zAi rfl rfl rfl rfl rfl ?_ ?_|refine zAg ?_ ?_|exact Rech.nil|fail)
 all_goals (exact xdn ⟨(Z,za,zc),hzL,hzs⟩)
end
end Go.Proofs.YtahgdagcnkpnbaaGreatDoor
namespace Go.Proofs.YtahgdagcnkpnbaaGreatDoor
open Go Go.RowKit
section
variable {W:World} {F:Nat→Addr} {T T' Q Q' BP:SP} {w s t:Nat} {ba sa:Option Addr} {bn bc sc:Nat} {l:Rows} {st:List BOp} {q0 q1 r0 r1:Value}
theorem dput14_ct (hst:st.length≤100000000) (o:TOp) (hk:o.kind=2)
 (cP:Ct Tryz.prog W 20 [.pointer (some ⟨t,0,none⟩),strV o.key,strV o.val] [T] (fun _:Unit=>.nilIface) (fun _=>[T'])) :
 Ct Tryz.prog W 30 [.pointer (some ⟨w,0,none⟩),.agg (topC o).toArray] [wP w s t ba bn bc sa st.length sc false q0 q1 r0 r1,T,opP (sa,sc) st] (fun _:Option Addr × Nat=>.bool true)
  (fun x=>[wP w s t ba bn bc x.1 (st++[(⟨false,o.key,o.val⟩:BOp)]).length x.2 false q0 q1 r0 r1,T',opP x (st++[(⟨false,o.key,o.val⟩:BOp)])]):=by
 have cS:=wstep14_ct (W:=W) (w:=w) (s:=s) (t:=t) (ba:=ba) (sa:=sa) (bn:=bn) (bc:=bc) (sc:=sc) (q0:=q0) (q1:=q1) (r0:=r0) (r1:=r1) hst ⟨false,o.key,o.val⟩
 obtain ⟨okind,okey,oval,on_,oi⟩:=o
 dsimp only at hk cP cS ⊢
 subst hk
 unfold topC
 dsimp only
 refine Ct.enter Tryz.func30 rfl Tryz.ntmps30 (by simp) (fun R=>?_)
 repeat' (first|(refine is_box ?_;refine zCb rfl xF rfl (fun g3=>?_))|(refine zAd ?_;first|(refine zAc xE cP xP rfl (fun _=>?_))|(refine zAc xE cS xP rfl (fun x=>?_)))|(refine zBc ?_;refine zAb (zBd xV xW) ?_)|refine xst ?_|(refine xsa ?_;intro _)|(refine xsb ?_ ?_ <;>intro _<;>try (exfalso;omega))|refine xsc ?_|(refine zAa (id:=9) plUFW1 (by kernel_rfl) (by kernel_rfl) ?_)|(refine zAa (id:=11) plUFW2 (by kernel_rfl) (by kernel_rfl) ?_)|(refine zAa (id:=13) plUFW3 (by kernel_rfl) (by kernel_rfl) ?_)|(refine zAa (id:=15) plUFW4 (by kernel_rfl) (by kernel_rfl) ?_)|(refine zAa (id:=16) plUFW5 (by kernel_rfl) (by kernel_rfl) ?_)|(refine zAa (id:=19) plUFW6 (by kernel_rfl) (by kernel_rfl) ?_)|(refine zAa (id:=20) plUFW7 (by kernel_rfl) (by kernel_rfl) ?_)|(refine zAa (id:=23) plUFW8 (by kernel_rfl) (by kernel_rfl) ?_)|(refine zAa (id:=32) plUFW9 (by kernel_rfl) (by kernel_rfl) ?_)|(refine zAa (id:=34) plUFW10 (by kernel_rfl) (by kernel_rfl) ?_)|(refine zAa (id:=40) plUFW11 (by kernel_rfl) (by kernel_rfl) ?_)|refine zAj ?_ ?_|refine zAi rfl rfl rfl rfl rfl ?_ ?_|refine zAg ?_ ?_|exact Rech.nil|fail)
 all_goals (exact xdn x)
theorem ddel14_ct (hst:st.length≤100000000) (o:TOp) (hk:o.kind=3)
 (cP:Ct Tryz.prog W 19 [.pointer (some ⟨t,0,none⟩),strV o.key] [T] (fun _:Unit=>.nilIface) (fun _=>[T'])) :
 Ct Tryz.prog W 30 [.pointer (some ⟨w,0,none⟩),.agg (topC o).toArray] [wP w s t ba bn bc sa st.length sc false q0 q1 r0 r1,T,opP (sa,sc) st] (fun _:Option Addr × Nat=>.bool true)
  (fun x=>[wP w s t ba bn bc x.1 (st++[(⟨true,o.key,[]⟩:BOp)]).length x.2 false q0 q1 r0 r1,T',opP x (st++[(⟨true,o.key,[]⟩:BOp)])]):=by
 have cS:=wstep14_ct (W:=W) (w:=w) (s:=s) (t:=t) (ba:=ba) (sa:=sa) (bn:=bn) (bc:=bc) (sc:=sc) (q0:=q0) (q1:=q1) (r0:=r0) (r1:=r1) hst ⟨true,o.key,[]⟩
 obtain ⟨okind,okey,oval,on_,oi⟩:=o
 dsimp only at hk cP cS ⊢
 subst hk
 unfold topC
 dsimp only
 refine Ct.enter Tryz.func30 rfl Tryz.ntmps30 (by simp) (fun R=>?_)
 repeat' (first|(refine is_box ?_;refine zCb rfl xF rfl (fun g3=>?_))|(refine zAd ?_;first|(refine zAc xE cP xP rfl (fun _=>?_))|(refine zAc xE cS xP rfl (fun x=>?_)))|(refine zBc ?_;refine zAb (zBd xV xW) ?_)|refine xst ?_|(refine xsa ?_;intro _)|(refine xsb ?_ ?_ <;>intro _<;>try (exfalso;omega))|refine xsc ?_|(refine zAa (id:=9) plUFW1 (by kernel_rfl) (by kernel_rfl) ?_)|(refine zAa (id:=11) plUFW2 (by kernel_rfl) (by kernel_rfl) ?_)|(refine zAa (id:=13) plUFW3 (by kernel_rfl) (by kernel_rfl) ?_)|(refine zAa (id:=15) plUFW4 (by kernel_rfl) (by kernel_rfl) ?_)|(refine zAa (id:=16) plUFW5 (by kernel_rfl) (by kernel_rfl) ?_)|(refine zAa (id:=19) plUFW6 (by kernel_rfl) (by kernel_rfl) ?_)|(refine zAa (id:=20) plUFW7 (by kernel_rfl) (by kernel_rfl) ?_)|(refine zAa (id:=23) plUFW8 (by kernel_rfl) (by kernel_rfl) ?_)|(refine zAa (id:=32) plUFW9 (by kernel_rfl) (by kernel_rfl) ?_)|(refine zAa (id:=34) plUFW10 (by kernel_rfl) (by kernel_rfl) ?_)|(refine zAa (id:=40) plUFW11 (by kernel_rfl) (by kernel_rfl) ?_)|refine zAj ?_ ?_|refine zAi rfl rfl rfl rfl rfl ?_ ?_|refine zAg ?_ ?_|exact Rech.nil|fail)
 all_goals (exact xdn x)
theorem dops14_ct (o:TOp) (hk:o.kind=9)
 (hA:Lv W rC 2 BP ba l) (hs:SlOk ba bc l.length) (hr:RisR l) (hl:l.length≤100000000) (hS:st.length≤100000000)
 (cO:Ct Tryz.prog W 34 [.pointer (some ⟨t,0,none⟩)] [T,Q] (fun x:Option Addr × Nat=>.slice x.1 (zAr l (zAp l st)).length x.2) (fun x=>[T,Q,opP x (zAr l (zAp l st))])) :
 Ct Tryz.prog W 30 [.pointer (some ⟨w,0,none⟩),.agg (topC o).toArray] [wP w s t ba l.length bc sa st.length sc false q0 q1 r0 r1,T,Q,BP,opP (sa,sc) st] (fun _:Unit=>.bool true)
  (fun _=>[wP w s t ba l.length bc sa st.length sc false q0 q1 r0 r1,T,Q,BP,opP (sa,sc) st]):=by
 have cD:=rops14_ct (W:=W) (B:=opP (sa,sc) st) (sa:=sa) (sc:=sc) hA (Lv.own (e:=43) (c:=sc) zBu rfl) hs hr hl hS
 have hbl:=between_len l (zAp l st)
 have hrl:=applyB_len st l
 obtain ⟨os,hos⟩:∃ os,os=zAr l (zAp l st):=⟨_,rfl⟩
 rw [← hos] at cO cD hbl
 have cE:=fun xa xc ya yc=>sops14_ct (W:=W) (opP (xa,xc) os) (opP (ya,yc) os) xa ya xc yc os (Lv.own (e:=43) (c:=xc) zBu rfl) (Lv.own (e:=43) (c:=yc) zBu rfl) (by omega)
 obtain ⟨okind,okey,oval,on_,oi⟩:=o
 dsimp only at hk ⊢
 subst hk
 unfold topC
 dsimp only
 refine Ct.enter Tryz.func30 rfl Tryz.ntmps30 (by simp) (fun R=>?_)
 repeat' (first|(refine is_box ?_;refine zCb rfl xF rfl (fun g3=>?_))|(refine zAd ?_;first|(refine zAc xE cO xP rfl (fun x=>?_);obtain ⟨xa,xc⟩:=x)|(refine zAc xE cD xP rfl (fun y=>?_);obtain ⟨ya,yc⟩:=y)|(refine zAc xE (cE _ _ _ _) xP rfl (fun _=>?_)))|(refine zBc ?_;refine zAb (zBd xV xW) ?_)|refine xst ?_|(refine xsa ?_;intro _)|(refine xsb ?_ ?_ <;>intro _<;>try (exfalso;omega))|refine xsc ?_|(refine zAa (id:=9) plUFW1 (by kernel_rfl) (by kernel_rfl) ?_)|(refine zAa (id:=11) plUFW2 (by kernel_rfl) (by kernel_rfl) ?_)|(refine zAa (id:=13) plUFW3 (by kernel_rfl) (by kernel_rfl) ?_)|(refine zAa (id:=15) plUFW4 (by kernel_rfl) (by kernel_rfl) ?_)|(refine zAa (id:=16) plUFW5 (by kernel_rfl) (by kernel_rfl) ?_)|(refine zAa (id:=19) plUFW6 (by kernel_rfl) (by kernel_rfl) ?_)|(refine zAa (id:=20) plUFW7 (by kernel_rfl) (by kernel_rfl) ?_)|(refine zAa (id:=23) plUFW8 (by kernel_rfl) (by kernel_rfl) ?_)|(refine zAa (id:=32) plUFW9 (by kernel_rfl) (by kernel_rfl) ?_)|(refine zAa (id:=34) plUFW10 (by kernel_rfl) (by kernel_rfl) ?_)|(refine zAa (id:=40) plUFW11 (by kernel_rfl) (by kernel_rfl) ?_)|refine zAj ?_ ?_|refine zAi rfl rfl rfl rfl rfl ?_ ?_|refine zAg ?_ ?_|exact Rech.nil|fail)
 all_goals (exact xdn ())
theorem dcom14_ct (o:TOp) (hk:o.kind=11)
 {m:Rows} (cK:Ct Tryz.prog W 94 [.pointer (some ⟨w,0,none⟩)] [wP w s t ba l.length bc sa st.length sc false q0 q1 r0 r1,T,Q,BP,opP (sa,sc) st] (fun _:SeeX W BP m=>.bool true)
  (fun z=>[wP w s t z.1.2.1 m.length z.1.2.2 sa st.length sc true q0 q1 r0 r1,T',Q',allP 94 [BP,z.1.1],opP (sa,sc) st])) :
 Ct Tryz.prog W 30 [.pointer (some ⟨w,0,none⟩),.agg (topC o).toArray] [wP w s t ba l.length bc sa st.length sc false q0 q1 r0 r1,T,Q,BP,opP (sa,sc) st] (fun _:SeeX W BP m=>.bool true)
  (fun z=>[wP w s t z.1.2.1 m.length z.1.2.2 sa st.length sc true q0 q1 r0 r1,T',Q',allP 94 [BP,z.1.1],opP (sa,sc) st]):=by
 obtain ⟨okind,okey,oval,on_,oi⟩:=o
 dsimp only at hk ⊢
 subst hk
 unfold topC
 dsimp only
 refine Ct.enter Tryz.func30 rfl Tryz.ntmps30 (by simp) (fun R=>?_)
 repeat' (first|(refine is_box ?_;refine zCb rfl xF rfl (fun g3=>?_))|(refine zAd ?_;refine zAc xE cK xP rfl (fun z=>?_))|(refine zBc ?_;refine zAb (zBd xV xW) ?_)|refine xst ?_|(refine xsa ?_;intro _)|(refine xsb ?_ ?_ <;>intro _<;>try (exfalso;omega))|refine xsc ?_|(refine zAa (id:=9) plUFW1 (by kernel_rfl) (by kernel_rfl) ?_)|(refine zAa (id:=11) plUFW2 (by kernel_rfl) (by kernel_rfl) ?_)|(refine zAa (id:=13) plUFW3 (by kernel_rfl) (by kernel_rfl) ?_)|(refine zAa (id:=15) plUFW4 (by kernel_rfl) (by kernel_rfl) ?_)|(refine zAa (id:=16) plUFW5 (by kernel_rfl) (by kernel_rfl) ?_)|(refine zAa (id:=19) plUFW6 (by kernel_rfl) (by kernel_rfl) ?_)|(refine zAa (id:=20) plUFW7 (by kernel_rfl) (by kernel_rfl) ?_)|(refine zAa (id:=23) plUFW8 (by kernel_rfl) (by kernel_rfl) ?_)|(refine zAa (id:=32) plUFW9 (by kernel_rfl) (by kernel_rfl) ?_)|(refine zAa (id:=34) plUFW10 (by kernel_rfl) (by kernel_rfl) ?_)|(refine zAa (id:=40) plUFW11 (by kernel_rfl) (by kernel_rfl) ?_)|refine zAj ?_ ?_|refine zAi rfl rfl rfl rfl rfl ?_ ?_|refine zAg ?_ ?_|exact Rech.nil|fail)
 all_goals (exact xdn z)
end
end Go.Proofs.YtahgdagcnkpnbaaGreatDoor
namespace Go.Proofs.YtahgdagcnkpnbaaGreatDoor
open Go Go.RowKit Go.MapKept
section
variable {P:Program} {W:World} {n d:Nat} {E:Env} {H R R':List SP} {k:KK} {t e:TypeId} {x y:Operand} {α:Type} {enc:α→List Value} {sz:Nat}
theorem St.newRow {w w':World} {v':Value} {size j:Nat} {ys:List Value} (s:St W H w) (hown:w'.ownsRow w.heap.size e size v' j ys) (hg:w.grownBy w' none):St W (rowP v' e size j ys::H) w':=by
 refine St.act (A:=[]) (B:=[rowP v' e size j ys]) (H:=H) s hg.os hg.tape hg.output hg.size ?_
 intro h1 _ _
 obtain ⟨hl,hd⟩:=hown
 rcases hd with ⟨hv,h0⟩|⟨g,cap,cur,hv,hb,hh,hr⟩
 ·exact ⟨fun _=>none,starL_one ⟨hl,.inl ⟨hv,h0⟩⟩,fun k o q=>(by cases q),fun k o q=>(by cases q),fun k hk _=>hg.block k hk (by simp)⟩
 ·refine ⟨Hl.one g (.cells cur e (0,0)),starL_one ⟨hl,.inr ⟨g,cap,cur,hv,Hl.one_self _ _,hr⟩⟩,fun k o q=>?_,fun k o q=>?_,fun k hk _=>hg.block k hk (by simp)⟩
  ·obtain ⟨rfl,rfl⟩:=Hl.one_some q;exact hh
  ·obtain ⟨rfl,rfl⟩:=Hl.one_some q;exact .inr hb
theorem KJ_appTwo {l:List α} {b:α} {bytes g i c:Nat} {a:Option Addr} {T:TypeId} (K:EncOk enc sz) (hx:Env.ev E x=some (.slice a i c)) (hy:Env.ev E y=some (.slice (some ⟨g,0,none⟩) 1 1)) [hu:UIs P t (.slice e)] [hs:SzIs P e sz] [hb:ByIs P e bytes] {zs:List Value} [hz:ZcIs P e zs] (hzs:zs.length=sz)
 (hi:i=l.length) (hsel:Sel (lsP enc e sz (.slice a i c) l) H R) (hsrc:Sel (zAk g (enc b) T) H R') (hbd:(l.length+1)*bytes≤140737488355328) (hbl:l.length+1≤9223372036854775807) (hn:Nat.blt d n=true)
 (h1:KJ W n k ((d,.slice a (i+1) c)::E) (lsP enc e sz (.slice a (i+1) c) (l++[b])::R))
 (h2:∀ g' c',KJ W n k ((d,.slice (some ⟨g',0,none⟩) (i+1) c')::E) (lsP enc e sz (.slice (some ⟨g',0,none⟩) (i+1) c') (l++[b])::lsP enc e sz (.slice a i c) l::R)):KJ W n (.oper P (.call { callee:=.builtin .append,args:=#[x,y],argTypes:=#[t,t] }) (some d) k) E H:=by
 subst hi
 have el:(l++[b]).length=l.length+1:=by simp
 have ef:(l++[b]).flatMap enc=l.flatMap enc++enc b:=by simp
 refine ⟨fun ac w p s o ho hd=>?_⟩
 have hz:=hz.h
 have hs:=hs.h
 have hb:=hb.h
 replace hsel:=hsel.app (dm ac.defers)
 have hrow:=s.row hsel
 have hcell:∀ j u,(enc b)[j]? = some u→w.cell? (Addr.add ⟨g,0,none⟩ j)=some u:=fun j u hj=>by
  rw [Addr.add_mid,Nat.zero_add,(s.blk (hsrc.app _)).2.cell]
  exact hj
 have hone:∀ u ∈ enc b,u.oneCell'=true:=(K.ones b).all
 cases hq:P.info? e with
 |none=>simp [hq] at hz
 |some it=>
  simp [hq] at hz hs hb
  obtain ⟨zv,hz1,hz2⟩:=hz
  by_cases hroom:l.length+1≤c
  ·obtain ⟨v',w',hrun,hown,hgrow,-,hloc⟩:=run_append_own_at (P:=P) w W.heap.size t o.type e it zv sz bytes hu.h hq hz1 hs hb (by rw [hz2];simpa using hzs) K.pos _ _ _ hrow ⟨g,0,none⟩ 1 1 (enc b) (by rw [K.len];omega) hcell hone (by unfold maxLen;omega) hbd s.size
   have hv:v'=.slice a (l.length+1) c:=by
    rcases hrow.2 with ⟨q,_⟩|⟨g',cap,cur,hv,hbg,hg,hnc,hcm,hcs,htake⟩
    ·simp only [Value.slice.injEq] at q;omega
    ·cases hv
     have hfit:l.length*it.size+(enc b).length≤cur.size:=by
      rw [K.len,hcs,hs]
      have:=Nat.mul_le_mul_right sz hroom
      rwa [Nat.add_mul,Nat.one_mul] at this
     have hr:=run_append_room (P:=P) w t o.type e it hu.h hq g' l.length c cur hg ⟨g,0,none⟩ 1 1 (enc b) (by rw [K.len,hs];omega) hcell hone hroom hfit
     rw [hrun] at hr
     simp only [Result.ok.injEq] at hr
     exact hr.1
   subst hv
   have st:=s.rowStep hsel hown hgrow (fun g' hg'=>by
    rcases hloc with q|q
    ·left;rw [← q];exact hg'
    ·right;rw [hg'] at q;cases q;rfl)
   show uponP P o ac _ ((execOp ac.eval o).run P w)
   have hr2:(execOp ac.eval o).run P w=.ok (.value (.slice a (l.length+1) c)) w':=by
    simp only [execOp,ho,resolve,invoke,builtin,Sem.run_bind,Sem.run_pure,Result.andThen_ok,List.map_toArray,List.map_cons,List.map_nil,p.ev hx,p.ev hy,hrun]
   rw [hr2]
   have:=h1.go _ w' (p.put (d:=some d) hn _) (by unfold lsP;rw [el,ef];exact st)
   rw [← hd] at this
   exact this
  ·obtain ⟨v',w',hrun,hown,hgrow⟩:∃ v' w',(Builtin.append_ #[t,t] o.type #[.slice a l.length c,.slice (some ⟨g,0,none⟩) 1 1]).run P w=.ok v' w'∧w'.ownsRow w.heap.size e sz v' (l.length+1) (l.flatMap enc++enc b)∧w.grownBy w' none:=by
    rcases hrow.2 with ⟨q,_⟩|⟨g',cap,cur,hv,hbg,hg,hnc,hcm,hcs,htake⟩
    ·have hown0:w.ownsRow w.heap.size e sz (.slice a l.length c) l.length (l.flatMap enc):=⟨hrow.1,.inl ⟨q,by simp only [Value.slice.injEq] at q;exact q.2.1⟩⟩
     obtain ⟨v',w',r1,r2,r3,-,-⟩:=run_append_own_at (P:=P) w w.heap.size t o.type e it zv sz bytes hu.h hq hz1 hs hb (by rw [hz2];simpa using hzs) K.pos _ _ _ hown0 ⟨g,0,none⟩ 1 1 (enc b) (by rw [K.len];omega) hcell hone (by unfold maxLen;omega) hbd (Nat.le_refl _)
     rw [q] at r3
     exact ⟨v',w',r1,r2,r3⟩
    ·cases hv
     obtain ⟨v',w',r1,r2,r3⟩:=run_append_arg_grows (P:=P) w t o.type e it zv sz bytes hu.h hq hz1 hs hb (by rw [hz2];simpa using hzs) K.pos ⟨g',0,none⟩ l.length c (l.flatMap enc) hrow.1 (fun j u hj=>hrow.cells (g:=g') rfl j u hj) ⟨g,0,none⟩ 1 1 (enc b) (by rw [K.len];omega) hcell (by omega) (by unfold maxLen;omega) hbd
     exact ⟨v',w',r1,r2,r3⟩
   have hshape:∃ g' c',v'=.slice (some ⟨g',0,none⟩) (l.length+1) c':=by
    rcases hown.2 with ⟨_,q⟩|⟨g',cap,cur,hv,_⟩
    ·omega
    ·exact ⟨g',cap,hv⟩
   obtain ⟨g',c',rfl⟩:=hshape
   have st:=(s.perm hsel.perm).newRow hown hgrow
   show uponP P o ac _ ((execOp ac.eval o).run P w)
   have hr2:(execOp ac.eval o).run P w=.ok (.value (.slice (some ⟨g',0,none⟩) (l.length+1) c')) w':=by
    simp only [execOp,ho,resolve,invoke,builtin,Sem.run_bind,Sem.run_pure,Result.andThen_ok,List.map_toArray,List.map_cons,List.map_nil,p.ev hx,p.ev hy,hrun]
   rw [hr2]
   have:=(h2 g' c').go _ w' (p.put (d:=some d) hn _) (by unfold lsP;rw [el,ef];exact st)
   rw [← hd] at this
   exact this
def keepF (enc:α→List Value) (e sz:Nat) (a0:Option Addr) (n0 c0:Nat) (L:List α) (a:Option Addr) (m c:Nat):List α × Bool→List SP
 |(M,true)=>[factP (M.length=m),lsP enc e sz (.slice a0 n0 c0) L,lsP enc e sz (.slice a m c) M]
 |(M,false)=>[factP (M.length=m∧a=a0∧c=c0∧n0=L.length∧n0≤m∧M.take n0=L),lsP enc e sz (.slice a m c) M]
def keepP (enc:α→List Value) (e sz:Nat) (a0:Option Addr) (n0 c0:Nat) (L:List α) (a:Option Addr) (m c:Nat):SP:=packP 74 m (keepF enc e sz a0 n0 c0 L a m c)
theorem KJ.factOpen {p:Prop} (h:p→KJ W n k E H):KJ W n k E (factP p::H):=
 ⟨fun ac w q s=>(h (s.fact (Sel.here.app _))).go ac w q (St.right (A:=[factP p]) s)⟩
theorem fact_star {p:Prop} (hp:p):∀ g,zAx H g→zAx (factP p::H) g:=fun g q=>⟨fun _=>none,g,(fun _ _ q=>by cases q),(fun _ _ q=>by cases q),.rfl,hp,q⟩
theorem KJ.factPut {p:Prop} (hp:p) (h:KJ W n k E (factP p::H)):KJ W n k E H:=⟨fun ac w q s=>h.go ac w q (s.mono (fact_star hp))⟩
theorem KJ.keepNew {a:Option Addr} {i c:Nat} {L:List α} (hi:i=L.length) (hsel:Sel (lsP enc e sz (.slice a i c) L) H R) (h:KJ W n k E (keepP enc e sz a i c L a i c::R)):KJ W n k E H:=by
 refine KJ.perm ?_ hsel.perm
 refine KJ.factPut (p:=L.length=i∧a=a∧c=c∧i=L.length∧i≤i∧L.take i=L) ⟨hi.symm,rfl,rfl,hi,Nat.le_refl _,by rw [hi,List.take_length]⟩ ?_
 exact KJ.packs (F:=keepF enc e sz a i c L a i c) (L,false) (Pick.cons Sel.here (Pick.cons Sel.here Pick.nil)) h
theorem row_pre (K:EncOk enc sz) {a:Option Addr} {n0 c:Nat} {M:List α} {p:Hl} (hn:n0≤M.length) (hA:(lsP enc e sz (.slice a M.length c) M).ok p):(lsP enc e sz (.slice a n0 c) (M.take n0)).ok p:=by
 have hlen:(M.take n0).length=n0:=by rw [List.length_take];omega
 have hL:(M.take n0).flatMap enc=(M.flatMap enc).take (n0*sz):=by
  have h:M.flatMap enc=(M.take n0).flatMap enc++(M.drop n0).flatMap enc:=by rw [← List.flatMap_append,List.take_append_drop]
  rw [h,List.take_left' (by rw [K.flat,hlen])]
 obtain ⟨hl,hd⟩:=hA
 refine ⟨K.flat _,?_⟩
 rcases hd with ⟨q,q2⟩|⟨g1,cap,cur,hv,hh,hle,hcm,hcs,htk⟩
 ·simp only [Value.slice.injEq] at q
  obtain ⟨q3,q4,q5⟩:=q
  subst q3 q5
  have h0:n0=0:=by omega
  subst h0
  exact .inl ⟨rfl,hlen⟩
 ·simp only [Value.slice.injEq] at hv
  obtain ⟨q3,q4,q5⟩:=hv
  subst q3 q5
  rw [hlen]
  refine .inr ⟨g1,c,cur,rfl,hh,by omega,hcm,hcs,?_⟩
  rw [hL,← htk,List.take_take,Nat.min_eq_left (Nat.mul_le_mul_right _ (by omega))]
theorem KJ.rowPre (K:EncOk enc sz) {a:Option Addr} {n0 m c:Nat} {M:List α} (hm:m=M.length) (hn:n0≤M.length) (hsel:Sel (lsP enc e sz (.slice a m c) M) H R) (h:KJ W n k E (lsP enc e sz (.slice a n0 c) (M.take n0)::R)):KJ W n k E H:=by
 subst hm
 exact ⟨fun ac w q s=>h.go ac w q ((s.perm (hsel.app _).perm).mono fun g' qq=>by
  obtain ⟨p1,p2,dj,l1,l2,hA,hR⟩:=qq
  exact ⟨p1,p2,dj,l1,l2,row_pre K hn hA,hR⟩)⟩
theorem KJ.keepEnd (K:EncOk enc sz) {a0 a:Option Addr} {n0 c0 m c:Nat} {L:List α} (hsel:Sel (keepP enc e sz a0 n0 c0 L a m c) H R) (h:KJ W n k E (lsP enc e sz (.slice a0 n0 c0) L::R)):KJ W n k E H:=by
 refine KJ.unpack_at hsel (fun ⟨M,mv⟩=>?_)
 cases mv with
 |true=>
  refine KJ.factOpen (fun _=>?_)
  exact ⟨fun ac w q s=>h.go ac w q (by
   have s2:St W (lsP enc e sz (.slice a m c) M::(lsP enc e sz (.slice a0 n0 c0) L::R++dm ac.defers)) w:=s.perm (.swap ..)
   exact St.right (A:=[lsP enc e sz (.slice a m c) M]) s2)⟩
 |false=>
  refine KJ.factOpen (fun hf=>?_)
  obtain ⟨h1,h2,h3,h4,h5,h6⟩:=hf
  subst h2 h3
  refine KJ.rowPre (n0:=n0) K h1.symm (by omega) Sel.here ?_
  rw [h6]
  exact h
theorem KJ_appKeep {L:List α} {b:α} {bytes g n0 c0 m c:Nat} {a0 a:Option Addr} {T:TypeId} (K:EncOk enc sz) (hx:Env.ev E x=some (.slice a m c)) (hy:Env.ev E y=some (.slice (some ⟨g,0,none⟩) 1 1)) [hu:UIs P t (.slice e)] [hs:SzIs P e sz] [hb:ByIs P e bytes] {zs:List Value} [hz:ZcIs P e zs] (hzs:zs.length=sz)
 (hsel:Sel (keepP enc e sz a0 n0 c0 L a m c) H R) (hsrc:Sel (zAk g (enc b) T) R R') (hbd:(m+1)*bytes≤140737488355328) (hbl:m+1≤9223372036854775807) (hn:Nat.blt d n=true)
 (h:∀ a' c',KJ W n k ((d,.slice a' (m+1) c')::E) (keepP enc e sz a0 n0 c0 L a' (m+1) c'::R)):KJ W n (.oper P (.call { callee:=.builtin .append,args:=#[x,y],argTypes:=#[t,t] }) (some d) k) E H:=by
 refine KJ.unpack_at hsel (fun ⟨M,mv⟩=>?_)
 cases mv with
 |true=>
  refine KJ.factOpen (fun hM=>?_)
  subst hM
  have el:(M++[b]).length=M.length+1:=by simp
  refine zCe (hs:=hs) (hb:=hb) (hz:=hz) (l:=M) (a:=b) K hx hy hzs (Sel.there Sel.here) (Sel.there (Sel.there hsrc)) hbd hbl hn (fun g' c'=>?_)
  rw [el]
  refine KJ.factPut (p:=(M++[b]).length=M.length+1) el ?_
  exact KJ.packs (F:=keepF enc e sz a0 n0 c0 L (some ⟨g',0,none⟩) (M.length+1) c') (M++[b],true) (Pick.cons Sel.here (Pick.cons (Sel.there Sel.here) (Pick.cons Sel.here Pick.nil))) (h _ _)
 |false=>
  refine KJ.factOpen (fun hf=>?_)
  obtain ⟨h1,h2,h3,h4,h5,h6⟩:=hf
  subst h1 h2 h3
  have el:(M++[b]).length=M.length+1:=by simp
  refine KJ_appTwo (hs:=hs) (hb:=hb) (hz:=hz) (l:=M) (b:=b) K hx hy hzs rfl Sel.here (Sel.there hsrc) hbd hbl hn ?_ (fun g' c'=>?_)
  ·refine KJ.factPut (p:=(M++[b]).length=M.length+1∧a=a∧c=c∧n0=L.length∧n0≤M.length+1∧(M++[b]).take n0=L) ⟨el,rfl,rfl,h4,by omega,by rw [List.take_append_of_le_length h5];exact h6⟩ ?_
   exact KJ.packs (F:=keepF enc e sz a n0 c L a (M.length+1) c) (M++[b],false) (Pick.cons Sel.here (Pick.cons Sel.here Pick.nil)) (h _ _)
  ·refine KJ.rowPre (n0:=n0) K rfl (by omega) (Sel.there Sel.here) ?_
   rw [h6]
   refine KJ.factPut (p:=(M++[b]).length=M.length+1) el ?_
   exact KJ.packs (F:=keepF enc e sz a n0 c L (some ⟨g',0,none⟩) (M.length+1) c') (M++[b],true) (Pick.cons Sel.here (Pick.cons Sel.here (Pick.cons Sel.here Pick.nil))) (h _ _)
end
end Go.Proofs.YtahgdagcnkpnbaaGreatDoor
namespace Go.Proofs.YtahgdagcnkpnbaaGreatDoor
open Go Go.RowKit
abbrev pd14 (o:TOp):Bool:=decide (o.kind=2) || decide (o.kind=3)
def stI (S:List TOp) (i:Nat):List BOp:=((S.take i).filter pd14).map opTx
theorem stI_end (S:List TOp):stI S S.length=(S.filter pd14).map opTx:=by unfold stI;rw [List.take_length]
theorem stI_next {S:List TOp} {i:Nat} {o:TOp} (h:S[i]? = some o):stI S (i+1)=if pd14 o=true then stI S i++[opTx o] else stI S i:=by
 unfold stI
 rw [List.take_add_one,h,List.filter_append,List.map_append]
 show _++List.map opTx (List.filter pd14 [o])=_
 cases e:pd14 o <;> simp [e]
theorem stI_len (S:List TOp) (i:Nat):(stI S i).length≤i:=by
 unfold stI
 rw [List.length_map]
 exact Nat.le_trans (List.length_filter_le ..) (List.length_take_le ..)
theorem HeavyI.filter {S:List TOp} (h:HeavyI S) (p:TOp→Bool):HeavyI (S.filter p):=by
 refine ⟨fun o ho=>h.short o (List.mem_filter.1 ho).1,?_,Nat.le_trans (List.length_filter_le ..) h.len⟩
 refine Nat.le_trans ?_ h.sum
 clear h
 induction S with
 |nil=>exact Nat.le_refl _
 |cons o S ih=>
  rw [List.filter_cons]
  split
  ·rw [List.map_cons,List.map_cons,zCi,zCi];omega
  ·rw [List.map_cons,zCi];omega
def hisB (r0:Rows) (st:List BOp):List Rows:=(List.range st.length).map fun j=>zAp r0 (st.take j)
theorem hisB_next (r0:Rows) (st:List BOp) (o:BOp):hisB r0 (st++[o])=hisB r0 st++[zAp r0 st]:=by
 unfold hisB
 rw [List.length_append,List.length_singleton,List.range_succ,List.map_append]
 congr 1
 ·refine List.map_congr_left fun j hj=>?_
  rw [List.take_append_of_le_length (Nat.le_of_lt (List.mem_range.1 hj))]
 ·show [zAp r0 ((st++[o]).take st.length)]=_
  rw [List.take_left]
theorem applyB_snoc (r0:Rows) (st:List BOp) (o:BOp):zAp r0 (st++[o])=apply1 (zAp r0 st) o:=by
 unfold zAp
 rw [List.foldl_append]
 rfl
abbrev mkO:BOp:=⟨false,[109,97,114,107],[]⟩
abbrev grO:BOp:=⟨false,[103,114,111,119,110],[]⟩
theorem mark_next {os:List BOp} {i:Nat} (h:i<os.length):(List.replicate i mkO++os.drop i).set i mkO=List.replicate (i+1) mkO++os.drop (i+1):=by
 rw [List.set_append_right (h:=by simp),List.length_replicate,Nat.sub_self,List.drop_eq_getElem_cons h,List.set_cons_zero,List.replicate_succ',List.append_assoc]
 rfl
section
variable {W:World} {F:Nat→Addr}
set_option maxRecDepth 100000 in
theorem owns14_ct (hE:ErrsAt W F) (hN:NibAt W) (hg:gB≤W.heap.size) (A B:SP) (a b:Option Addr) (c d:Nat) (l:Rows) (S:List TOp) (hA:Lv W rC 2 A a l) (hB:Lv W topC 5 B b S) (X:Args14 l S) :
 Ct Tryz.prog W 6 [.slice a l.length c,.slice b S.length d] [A,B] (fun _:Unit=>.bool true) (fun _=>[A,B]):=by
 have x1:=X.ll
 have x2:=X.ls
 have hE16:ErrsOn L16 W F:=hE.to16
 have hE8:ErrsOn L8 W F:=hE16.to8
 have cL:=lives14_ct hE16 hN hg
 have cW:=hlight_ct A a c l hA (by omega)
 have cH:=heavy14_ct B b d S hB (by omega)
 by_cases hl0:lightN l≤8192
 rotate_left
 ·rw [decide_eq_false hl0] at cW
  refine Ct.enter Tryz.func6 rfl Tryz.ntmps6 (by simp) (fun R=>?_)
  repeat' (first|(refine zAd ?_;first|(refine zAc xE cW xP rfl (fun _=>?_))|(refine zAc xE cL xP rfl (fun _=>?_)))|refine xst ?_|(refine xsa ?_;intro _)|(refine xsb ?_ ?_ <;>intro _<;>try (exfalso;omega))|refine xsc ?_|(refine zAa (id:=12) plUFW10 (by kernel_rfl) (by kernel_rfl) ?_)|refine zAj ?_ ?_|refine zAi rfl rfl rfl rfl rfl ?_ ?_|refine zAg ?_ ?_|exact Rech.nil|fail)
  all_goals (exact xdn ())
 rw [decide_eq_true hl0] at cW
 by_cases hh0:16384<heavyN S
 ·rw [decide_eq_true hh0] at cH
  refine Ct.enter Tryz.func6 rfl Tryz.ntmps6 (by simp) (fun R=>?_)
  repeat' (first|(refine zAd ?_;first|(refine zAc xE cH xP rfl (fun _=>?_))|(refine zAc xE cW xP rfl (fun _=>?_))|(refine zAc xE cL xP rfl (fun _=>?_)))|refine xst ?_|(refine xsa ?_;intro _)|(refine xsb ?_ ?_ <;>intro _<;>try (exfalso;omega))|refine xsc ?_|(refine zAa (id:=12) plUFW10 (by kernel_rfl) (by kernel_rfl) ?_)|refine zAj ?_ ?_|refine zAi rfl rfl rfl rfl rfl ?_ ?_|refine zAg ?_ ?_|exact Rech.nil|fail)
  all_goals (exact xdn ())
 rw [decide_eq_false hh0] at cH
 have hl:=light_in hl0
 have hS:=heavy_in (S:=S) (by omega)
 have hll:=hl.len
 have hSl:=hS.len
 clear hl0 hh0
 obtain ⟨hfit,hsn,hrl⟩:=comm_fits hl (hS.filter pd14)
 rw [← stI_end] at hfit hsn hrl
 have hsum:=(hS.filter pd14).sum
 rw [← stI_end] at hsum
 have h0:RisR (ofR l):=(sum_ofR l).2
 have h0l:=hl.snap.2
 have cS:=start14_ct (l:=l) hE16 hN hg A a c hA hl
 obtain ⟨r0,hr0⟩:∃ x,x=ofR l:=⟨_,rfl⟩
 rw [← hr0] at cS hfit hsn hrl h0 h0l
 clear hr0
 refine Ct.enter Tryz.func6 rfl Tryz.ntmps6 (by simp) (fun R=>?_)
 repeat' (first|(refine zAd ?_;first|(refine zAc xE cS xP rfl (fun z=>?_);obtain ⟨w,s,t,ba,bc⟩:=z)|(refine zAc xE cH xP rfl (fun _=>?_))|(refine zAc xE cW xP rfl (fun _=>?_))|(refine zAc xE cL xP rfl (fun _=>?_)))|refine xst ?_|(refine xsa ?_;intro _)|(refine xsb ?_ ?_ <;>intro _<;>try (exfalso;omega))|refine xsc ?_|(refine zAa (id:=12) plUFW10 (by kernel_rfl) (by kernel_rfl) ?_)|refine zAj ?_ ?_|refine zAi rfl rfl rfl rfl rfl ?_ ?_|refine zAg ?_ ?_|exact Rech.nil|fail)
 refine KJ.nilrow 43 3 ?_
 refine zBk (fun x:{x:(Nat × List BOp) × Option Addr × Nat//x.1.1≤S.length∧x.1.2=stI S x.1.1}=>[(5,.bool true),(6,.pointer (some ⟨w,0,none⟩)),(32,.slice b S.length d),(33,.int .i64 (S.length:Nat)),(34,.int .i64 (x.1.1.1:Nat))])
  (fun x=>[A,B,wP w s t ba r0.length bc x.1.2.1 x.1.1.2.length x.1.2.2 false .nilFunc .nilFunc (.slice none 0 0) (.slice none 0 0),TxB t s r0 (hisB r0 x.1.1.2) (zAp r0 x.1.1.2) x.1.1.2.length,StQ s 400 2 r0,roP (ba,bc) r0,opP x.1.2 x.1.1.2]++R) (fun x=>S.length-x.1.1.1) ⟨((0,[]),none,0),Nat.zero_le _,rfl⟩ xB (xN) (fun ⟨((i,st),sa,sc),hi,hst⟩=>?_)
 dsimp only at hi hst ⊢
 have hstl:st.length≤i:=by rw [hst];exact stI_len S i
 by_cases hlt:i<S.length
 ·have ql:decide ((i:Int)<(S.length:Nat))=true:=decide_eq_true (by omega)
  obtain ⟨o,ho⟩:∃ s,S[i]? = some s:=⟨_,List.getElem?_eq_getElem hlt⟩
  have hnx:=stI_next ho
  rw [← hst] at hnx
  have hrb:=applyB_len st r0
  refine KJ.lvSome hB xS (by omega) (fun b1 o1 hab=>?_)
  have ho1:o1+Int.toNat (i:Int)*5=o1+i*5:=by rw [Int.toNat_natCast]
  subst hab
  by_cases k2:o.kind=2
  ·have q2:decide (o.kind≠2)=false:=decide_eq_false (by omega)
   have eo:opTx o=⟨false,o.key,o.val⟩:=by unfold opTx;rw [if_neg (by omega)]
   rw [if_pos (by simp [k2]),eo] at hnx
   have cP:=txputB (W:=W) (t:=t) (s:=s) (m:=st.length) (r0:=r0) (Rs:=hisB r0 st) (r:=zAp r0 st) o.key o.val (by omega) (by omega)
   have e1:putR (zAp r0 st) o.key o.val=zAp r0 (st++[⟨false,o.key,o.val⟩]):=(applyB_snoc r0 st ⟨false,o.key,o.val⟩).symm
   rw [← hisB_next r0 st ⟨false,o.key,o.val⟩,e1] at cP
   have cD:=dput14_ct (W:=W) (st:=st) (w:=w) (s:=s) (t:=t) (ba:=ba) (sa:=sa) (bn:=r0.length) (bc:=bc) (sc:=sc) (q0:=.nilFunc) (q1:=.nilFunc) (r0:=.slice none 0 0) (r1:=.slice none 0 0) (by omega) o k2 cP
   have el:(st++[(⟨false,o.key,o.val⟩:BOp)]).length=st.length+1:=by simp
   obtain ⟨st2,hst2⟩:∃ x,x=st++[(⟨false,o.key,o.val⟩:BOp)]:=⟨_,rfl⟩
   rw [← hst2] at cD el hnx
   rw [← el] at cD
   clear cP e1 hst2
   repeat' (first|(refine zAv ?_;refine zAt rfl (fun g=>?_))|(refine zAd ?_;refine zAc xE cD xP rfl (fun y=>?_);obtain ⟨ya,yc⟩:=y)|(refine zAm ?_;refine zAb (zBe top_ok hB rfl rfl xS ho1 ho) ?_)|(refine zAz ?_;refine zAb (zAf (r:=((i+1:Nat):Int)) rfl rfl (by omega) (by omega)) ?_)|(refine zBi ?_;refine zAb (Ev_neqI_q rfl rfl q2) ?_)|(refine zAn ?_;refine zAb (zAe rfl rfl ql) ?_)|refine xst ?_|(refine xsa ?_;intro _)|(refine xsb ?_ ?_ <;>intro _<;>try (exfalso;omega))|refine xsc ?_|(refine zAa (id:=12) plUFW10 (by kernel_rfl) (by kernel_rfl) ?_)|refine zAj ?_ ?_|refine zAi rfl rfl rfl rfl rfl ?_ ?_|refine zAg ?_ ?_|exact Rech.nil|fail)
   all_goals refine zAu ⟨((i+1,st2),ya,yc),hlt,hnx.symm⟩ (by show S.length-(i+1)<S.length-i;omega) xB (xN)
  by_cases k3:o.kind=3
  ·have q2:decide (o.kind≠2)=true:=decide_eq_true (by omega)
   have q3:decide (o.kind≠3)=false:=decide_eq_false (by omega)
   have eo:opTx o=⟨true,o.key,[]⟩:=by unfold opTx;rw [if_pos k3]
   rw [if_pos (by simp [k3]),eo] at hnx
   have cP:=txdelB (W:=W) (t:=t) (s:=s) (m:=st.length) (r0:=r0) (Rs:=hisB r0 st) (r:=zAp r0 st) o.key (by omega) (by omega)
   have e1:mdel (zAp r0 st) o.key=zAp r0 (st++[⟨true,o.key,[]⟩]):=(applyB_snoc r0 st ⟨true,o.key,[]⟩).symm
   rw [← hisB_next r0 st ⟨true,o.key,[]⟩,e1] at cP
   have cD:=ddel14_ct (W:=W) (st:=st) (w:=w) (s:=s) (t:=t) (ba:=ba) (sa:=sa) (bn:=r0.length) (bc:=bc) (sc:=sc) (q0:=.nilFunc) (q1:=.nilFunc) (r0:=.slice none 0 0) (r1:=.slice none 0 0) (by omega) o k3 cP
   have el:(st++[(⟨true,o.key,[]⟩:BOp)]).length=st.length+1:=by simp
   obtain ⟨st2,hst2⟩:∃ x,x=st++[(⟨true,o.key,[]⟩:BOp)]:=⟨_,rfl⟩
   rw [← hst2] at cD el hnx
   rw [← el] at cD
   clear cP e1 hst2
   repeat' (first|(refine zAv ?_;refine zAt rfl (fun g=>?_))|(refine zAd ?_;refine zAc xE cD xP rfl (fun y=>?_);obtain ⟨ya,yc⟩:=y)|(refine zAm ?_;refine zAb (zBe top_ok hB rfl rfl xS ho1 ho) ?_)|(refine zAz ?_;refine zAb (zAf (r:=((i+1:Nat):Int)) rfl rfl (by omega) (by omega)) ?_)|(refine zBi ?_;first|refine zAb (Ev_neqI_q rfl rfl q2) ?_|refine zAb (Ev_neqI_q rfl rfl q3) ?_)|(refine zAn ?_;refine zAb (zAe rfl rfl ql) ?_)|refine xst ?_|(refine xsa ?_;intro _)|(refine xsb ?_ ?_ <;>intro _<;>try (exfalso;omega))|refine xsc ?_|(refine zAa (id:=12) plUFW10 (by kernel_rfl) (by kernel_rfl) ?_)|refine zAj ?_ ?_|refine zAi rfl rfl rfl rfl rfl ?_ ?_|refine zAg ?_ ?_|exact Rech.nil|fail)
   all_goals refine zAu ⟨((i+1,st2),ya,yc),hlt,hnx.symm⟩ (by show S.length-(i+1)<S.length-i;omega) xB (xN)
  have q2:decide (o.kind≠2)=true:=decide_eq_true k2
  have q3:decide (o.kind≠3)=true:=decide_eq_true k3
  rw [if_neg (by simp [k2,k3])] at hnx
  repeat' (first|(refine zAv ?_;refine zAt rfl (fun g=>?_))|(refine zAm ?_;refine zAb (zBe top_ok hB rfl rfl xS ho1 ho) ?_)|(refine zAz ?_;refine zAb (zAf (r:=((i+1:Nat):Int)) rfl rfl (by omega) (by omega)) ?_)|(refine zBi ?_;first|refine zAb (Ev_neqI_q rfl rfl q2) ?_|refine zAb (Ev_neqI_q rfl rfl q3) ?_)|(refine zAn ?_;refine zAb (zAe rfl rfl ql) ?_)|refine xst ?_|(refine xsa ?_;intro _)|(refine xsb ?_ ?_ <;>intro _<;>try (exfalso;omega))|refine xsc ?_|(refine zAa (id:=12) plUFW10 (by kernel_rfl) (by kernel_rfl) ?_)|refine zAj ?_ ?_|refine zAi rfl rfl rfl rfl rfl ?_ ?_|refine zAg ?_ ?_|exact Rech.nil|fail)
  all_goals refine zAu ⟨((i+1,st),sa,sc),hlt,hnx.symm⟩ (by show S.length-(i+1)<S.length-i;omega) xB (xN)
 have ql:decide ((i:Int)<(S.length:Nat))=false:=decide_eq_false (by omega)
 obtain rfl:i=S.length:=by omega
 rw [← hst] at hfit hsn hrl hsum
 have hrb:=applyB_len st r0
 have hbl:=between_len r0 (zAp r0 st)
 have hris:=applyB_ris h0 st
 have hwl:RisR r0:=h0
 have hfix:=comm14 h0 hris
 have cO:=txopsB (W:=W) (t:=t) (s:=s) (n:=400) (k:=2) (r0:=r0) (Rs:=hisB r0 st) (r:=zAp r0 st) (m:=st.length) (by omega)
 have henl:(zCd (zAr r0 (zAp r0 st))).length≤100000:=by
  have e1:=enc_sum (zAr r0 (zAp r0 st))
  have e2:=vu_two (n:=(zAr r0 (zAp r0 st)).length) (by
   have:=(between_small h0 st).2
   omega)
  have e3:=(between_small h0 st).1
  omega
 have hbl2:(zAr r0 (zAp r0 st)).length≤1024:=by
  have:=(between_small h0 st).2
  omega
 have cC:=txcommitB (W:=W) (F:=F) (t:=t) (s:=s) (n:=400) (k:=2) (m:=st.length) (r0:=r0) (Rs:=hisB r0 st) (r:=zAp r0 st) hE16 hE8 hN (by omega) (by omega) (by omega) (by omega) h0 (by omega) (by omega) (by omega) (by omega)
 have hm:commR 400 r0 (zAr r0 (zAp r0 st))=zAp r0 st:=by rw [hfix.2,hfit,if_pos rfl]
 rw [hfit,hm] at cC
 have cR:=srowsQ (W:=W) (s:=s) (n:=400) (k:=2+1) (r:=zAp r0 st) (by omega)
 have cW:=fun (hsl:SlOk ba bc r0.length)=>wcommit14_ct (W:=W) (F:=F) (s:=s) (t:=t) (BP:=roP (ba,bc) r0) (w:=w) (ba:=ba) (bc:=bc) (l:=r0) (sa:=sa) (sc:=sc) (st:=st) (q0:=.nilFunc) (q1:=.nilFunc) (r0:=.slice none 0 0) (r1:=.slice none 0 0) hE hg (Lv.own (e:=51) (c:=bc) zCg rfl) hsl h0 (by omega) (by omega) (by omega) (by omega) 0 hfit.symm (by omega) (zAp r0 st) hm.symm (by omega) cC cR
 have cX:=fun (hsl:SlOk ba bc r0.length)=>dcom14_ct (W:=W) (w:=w) (s:=s) (t:=t) (ba:=ba) (bc:=bc) (sa:=sa) (sc:=sc) (BP:=roP (ba,bc) r0) (l:=r0) (st:=st) ⟨11,[],[],0,0⟩ rfl (cW hsl)
 have cY:=fun (hsl:SlOk ba bc r0.length)=>dops14_ct (W:=W) (w:=w) (s:=s) (t:=t) (ba:=ba) (bc:=bc) (l:=r0) (sa:=sa) (sc:=sc) (BP:=roP (ba,bc) r0) (q0:=.nilFunc) (q1:=.nilFunc) (r0:=.slice none 0 0) (r1:=.slice none 0 0) (st:=st) ⟨9,[],[],0,0⟩ rfl (Lv.own (e:=51) (c:=bc) zCg rfl) hsl h0 (by omega) (by omega) cO
 have cV:=fun (hsl:SlOk ba bc r0.length)=>rops14_ct (W:=W) (A:=roP (ba,bc) r0) (B:=opP (sa,sc) st) (ba:=ba) (bc:=bc) (sa:=sa) (sc:=sc) (Lv.own (e:=51) (c:=bc) zCg rfl) (Lv.own (e:=43) (c:=sc) zBu rfl) hsl h0 (by omega) (by omega)
 refine KJ.slOk (l:=r0) (a:=ba) (c:=bc) (m:=r0.length) xS (fun hsl=>?_)
 replace cX:=cX hsl
 replace cY:=cY hsl
 replace cV:=cV hsl
 clear hfix hm hfit cC cR cW hbl
 obtain ⟨os,hos⟩:∃ os,os=zAr r0 (zAp r0 st):=⟨_,rfl⟩
 rw [← hos] at cO cV hbl2
 clear hos
 have cE:=fun (x y:Option Addr × Nat)=>sops14_ct (W:=W) (opP x os) (opP y os) x.1 y.1 x.2 y.2 os (Lv.own (e:=43) (c:=x.2) zBu rfl) (Lv.own (e:=43) (c:=y.2) zBu rfl) (by omega)
 repeat' (first|(refine zBt (id:=13) ?_;refine hold ?_)|(refine zAd ?_;first|(refine zAc (d:=64) xE cO xP rfl (fun xb=>?_))|(refine zAc (d:=59) xE cO xP rfl (fun xa=>?_)))|(refine zAn ?_;refine zAb (zAe rfl rfl ql) ?_)|refine xst ?_|(refine xsa ?_;intro _)|(refine xsb ?_ ?_ <;>intro _<;>try (exfalso;omega))|refine xsc ?_|(refine zAa (id:=12) plUFW10 (by kernel_rfl) (by kernel_rfl) ?_)|refine zAj ?_ ?_|refine zAi rfl rfl rfl rfl rfl ?_ ?_|refine zAg ?_ ?_|exact Rech.nil|fail)
 refine Hold.mk ?_
 repeat' (first|(refine zBt (id:=14) ?_;refine hold ?_)|(refine zAd ?_;refine zAc xE cV xP rfl (fun xw=>?_))|refine xst ?_|(refine xsa ?_;intro _)|(refine xsb ?_ ?_ <;>intro _<;>try (exfalso;omega))|refine xsc ?_|(refine zAa (id:=12) plUFW10 (by kernel_rfl) (by kernel_rfl) ?_)|refine zAj ?_ ?_|refine zAi rfl rfl rfl rfl rfl ?_ ?_|refine zAg ?_ ?_|exact Rech.nil|fail)
 refine Hold.mk ?_
 repeat' (first|(refine zAd ?_;refine zAc xE (cE _ _) xP rfl (fun _=>?_))|refine xst ?_|(refine xsa ?_;intro _)|(refine xsb ?_ ?_ <;>intro _<;>try (exfalso;omega))|refine xsc ?_|(refine zAa (id:=12) plUFW10 (by kernel_rfl) (by kernel_rfl) ?_)|refine zAj ?_ ?_|refine zAi rfl rfl rfl rfl rfl ?_ ?_|refine zAg ?_ ?_|exact Rech.nil|fail)
 obtain ⟨xa,ca⟩:=xa
 obtain ⟨xb,cb⟩:=xb
 obtain ⟨xw,cw⟩:=xw
 dsimp only
 refine zBk (fun x:{x:Nat × List BOp//x.1≤os.length∧x.2=List.replicate x.1 mkO++os.drop x.1∧x.2.length=os.length}=>[(6,.pointer (some ⟨w,0,none⟩)),(9,.slice xa os.length ca),(10,.slice xb os.length cb),(11,.slice xw os.length cw),(85,.int .i64 (os.length:Nat)),(86,.int .i64 (x.1.1:Nat))])
  (fun x=>[A,B,wP w s t ba r0.length bc sa st.length sc false .nilFunc .nilFunc (.slice none 0 0) (.slice none 0 0),TxB t s r0 (hisB r0 st) (zAp r0 st) st.length,StQ s 400 2 r0,roP (ba,bc) r0,opP (sa,sc) st,opP (xb,cb) os,opP (xw,cw) os,lsP opC 43 3 (.slice xa os.length ca) x.1.2]++R) (fun x=>os.length-x.1.1) ⟨(0,os),Nat.zero_le _,rfl,rfl⟩ xB (xN) (fun ⟨(j,M),hj,hM,hMl⟩=>?_)
 dsimp only at hj hM hMl ⊢
 by_cases hlt2:j<os.length
 ·have ql:decide ((j:Int)<(os.length:Nat))=true:=decide_eq_true (by omega)
  have hnx:=mark_next hlt2
  rw [← hM] at hnx
  refine KJ.lsSome (l:=M) (a:=xa) (c:=ca) (m:=os.length) xS (by omega) (fun ga hga=>?_)
  subst hga
  have hoff:0+Int.toNat ((j:Nat):Int)*3=j*3:=by simp
  repeat' (first|(refine is_store ?_;refine KJ_storeLs (l:=M) (a:=mkO) zBu rfl rfl xS hMl.symm hoff (by omega) ?_)|(refine zBc ?_;refine zAb (zBd xV xW) ?_)|(refine zAz ?_;refine zAb (zAf (r:=((j+1:Nat):Int)) rfl rfl (by omega) (by omega)) ?_)|(refine zAn ?_;refine zAb (zAe rfl rfl ql) ?_)|refine xst ?_|(refine xsa ?_;intro _)|(refine xsb ?_ ?_ <;>intro _<;>try (exfalso;omega))|refine xsc ?_|(refine zAa (id:=12) plUFW10 (by kernel_rfl) (by kernel_rfl) ?_)|refine zAj ?_ ?_|refine zAi rfl rfl rfl rfl rfl ?_ ?_|refine zAg ?_ ?_|exact Rech.nil|fail)
  all_goals refine zAu ⟨(j+1,M.set j mkO),hlt2,hnx,by rw [List.length_set];exact hMl⟩ (by show os.length-(j+1)<os.length-j;omega) xB (xN)
 have ql2:decide ((j:Int)<(os.length:Nat))=false:=decide_eq_false (by omega)
 obtain rfl:j=os.length:=by omega
 have hM2:M=List.replicate os.length mkO:=by rw [hM,List.drop_length,List.append_nil]
 have hMj:∀ i,i<os.length→M[i]? = some mkO:=fun i hi=>by rw [hM2];simp [hi]
 repeat' (first|(refine zAn ?_;refine zAb (zAe rfl rfl ql2) ?_)|refine xst ?_|(refine xsa ?_;intro _)|(refine xsb ?_ ?_ <;>intro _<;>try (exfalso;omega))|refine xsc ?_|(refine zAa (id:=12) plUFW10 (by kernel_rfl) (by kernel_rfl) ?_)|refine zAj ?_ ?_|refine zAi rfl rfl rfl rfl rfl ?_ ?_|refine zAg ?_ ?_|exact Rech.nil|fail)
 refine KJ.keepNew (a:=xa) (i:=os.length) (c:=ca) (L:=M) hMl.symm xS ?_
 refine zBk (fun x:{x:Nat × Option Addr × Nat//x.1≤os.length+70}=>[(6,.pointer (some ⟨w,0,none⟩)),(9,.slice xa os.length ca),(10,.slice xb os.length cb),(11,.slice xw os.length cw),(13,.slice x.1.2.1 x.1.1 x.1.2.2)])
  (fun x=>[A,B,wP w s t ba r0.length bc sa st.length sc false .nilFunc .nilFunc (.slice none 0 0) (.slice none 0 0),TxB t s r0 (hisB r0 st) (zAp r0 st) st.length,StQ s 400 2 r0,roP (ba,bc) r0,opP (sa,sc) st,opP (xb,cb) os,opP (xw,cw) os,keepP opC 43 3 xa os.length ca M x.1.2.1 x.1.1 x.1.2.2]++R) (fun x=>os.length+70-x.1.1) ⟨(os.length,xa,ca),by dsimp only;omega⟩ xB (xN) (fun ⟨(j,ga,gc),hj⟩=>?_)
 dsimp only at hj ⊢
 have e70:((os.length:Nat):Int)+70=((os.length+70:Nat):Int):=by omega
 by_cases hlt3:j<os.length+70
 ·have ql:decide ((j:Int)<((os.length+70:Nat):Int))=true:=decide_eq_true (by omega)
  repeat' (first|(refine zBn ?_;refine KJ_appKeep (L:=M) (b:=grO) zBu rfl rfl rfl xS xS (by omega) (by omega) rfl (fun a' c'=>?_))|(refine zBj ?_;refine zBs rfl xF (by rfl) (by omega) rfl (fun gb=>?_);show KJ W _ _ _ (zAk gb (opC grO) 43::_))|(refine zBc ?_;refine zAb (zBd xV xW) ?_)|(refine zAz ?_;refine zAb (zAf rfl rfl e70 (by omega)) ?_)|(refine zAn ?_;refine zAb (zAe rfl rfl ql) ?_)|refine xst ?_|(refine xsa ?_;intro _)|(refine xsb ?_ ?_ <;>intro _<;>try (exfalso;omega))|refine xsc ?_|(refine zAa (id:=12) plUFW10 (by kernel_rfl) (by kernel_rfl) ?_)|refine zAj ?_ ?_|refine zAi rfl rfl rfl rfl rfl ?_ ?_|refine zAg ?_ ?_|exact Rech.nil|fail)
  all_goals refine zAu ⟨(j+1,a',c'),hlt3⟩ (by show os.length+70-(j+1)<os.length+70-j;omega) xB (xN)
 have ql3:decide ((j:Int)<((os.length+70:Nat):Int))=false:=decide_eq_false (by omega)
 refine KJ.keepEnd zBu xS ?_
 repeat' (first|(refine zAz ?_;refine zAb (zAf rfl rfl e70 (by omega)) ?_)|(refine zAn ?_;refine zAb (zAe rfl rfl ql3) ?_)|refine xst ?_|(refine xsa ?_;intro _)|(refine xsb ?_ ?_ <;>intro _<;>try (exfalso;omega))|refine xsc ?_|(refine zAa (id:=12) plUFW10 (by kernel_rfl) (by kernel_rfl) ?_)|refine zAj ?_ ?_|refine zAi rfl rfl rfl rfl rfl ?_ ?_|refine zAg ?_ ?_|exact Rech.nil|fail)
 refine zBk (fun i:{i:Nat//i≤os.length}=>[(6,.pointer (some ⟨w,0,none⟩)),(9,.slice xa os.length ca),(10,.slice xb os.length cb),(11,.slice xw os.length cw),(106,.int .i64 (os.length:Nat)),(107,.int .i64 (i.1:Nat))])
  (fun _=>[A,B,wP w s t ba r0.length bc sa st.length sc false .nilFunc .nilFunc (.slice none 0 0) (.slice none 0 0),TxB t s r0 (hisB r0 st) (zAp r0 st) st.length,StQ s 400 2 r0,roP (ba,bc) r0,opP (sa,sc) st,opP (xb,cb) os,opP (xw,cw) os,lsP opC 43 3 (.slice xa os.length ca) M]++R) (fun i=>os.length-i.1) ⟨0,Nat.zero_le _⟩ xB (xN) (fun ⟨i,hi⟩=>?_)
 dsimp only at hi ⊢
 by_cases hlt4:i<os.length
 ·have ql:decide ((i:Int)<(os.length:Nat))=true:=decide_eq_true (by omega)
  have hMi:=hMj i hlt4
  refine KJ.lsSome (l:=M) (a:=xa) (c:=ca) (m:=os.length) xS (by omega) (fun ga hga=>?_)
  subst hga
  have hoff:0+Int.toNat ((i:Nat):Int)*3+1=i*3+1:=by simp
  repeat' (first|(refine zAm ?_;refine zAb (Ev_loadLsF (j:=1) zBu rfl xS hMl.symm hoff hMi rfl) ?_)|(refine zAz ?_;refine zAb (zAf (r:=((i+1:Nat):Int)) rfl rfl (by omega) (by omega)) ?_)|(refine zBi ?_;refine zAb (Ev_neqS_f rfl rfl rfl) ?_)|(refine zAn ?_;refine zAb (zAe rfl rfl ql) ?_)|refine xst ?_|(refine xsa ?_;intro _)|(refine xsb ?_ ?_ <;>intro _<;>try (exfalso;omega))|refine xsc ?_|(refine zAa (id:=12) plUFW10 (by kernel_rfl) (by kernel_rfl) ?_)|refine zAj ?_ ?_|refine zAi rfl rfl rfl rfl rfl ?_ ?_|refine zAg ?_ ?_|exact Rech.nil|fail)
  all_goals refine zAu ⟨i+1,hlt4⟩ (by show os.length-(i+1)<os.length-i;omega) xB (xN)
 have ql4:decide ((i:Int)<(os.length:Nat))=false:=decide_eq_false (by omega)
 repeat' (first|(refine zBt (id:=30) ?_;refine hold ?_)|(refine zAn ?_;refine zAb (zAe rfl rfl ql4) ?_)|refine xst ?_|(refine xsa ?_;intro _)|(refine xsb ?_ ?_ <;>intro _<;>try (exfalso;omega))|refine xsc ?_|(refine zAa (id:=12) plUFW10 (by kernel_rfl) (by kernel_rfl) ?_)|refine zAj ?_ ?_|refine zAi rfl rfl rfl rfl rfl ?_ ?_|refine zAg ?_ ?_|exact Rech.nil|fail)
 refine Hold.mk ?_
 have cE2:=cE (xb,cb) (xw,cw)
 repeat' (first|(refine zAd ?_;first|(refine zAc xE cE2 xP rfl (fun _=>?_))|(refine zAc xE cY xP rfl (fun _=>?_))|(refine zAc xE cX xP rfl (fun _=>?_)))|(refine zBc ?_;refine zAb (zBd xV xW) ?_)|refine xst ?_|(refine xsa ?_;intro _)|(refine xsb ?_ ?_ <;>intro _<;>try (exfalso;omega))|refine xsc ?_|(refine zAa (id:=12) plUFW10 (by kernel_rfl) (by kernel_rfl) ?_)|refine zAj ?_ ?_|refine zAi rfl rfl rfl rfl rfl ?_ ?_|refine zAg ?_ ?_|exact Rech.nil|fail)
 all_goals (exact xdn ())
theorem owns14_law (hE:ErrsAt W F) (hN:NibAt W) (hg:gB≤W.heap.size) (a b:Option Addr) (c d:Nat) (l:Rows) (S:List TOp) (hA:Lv W rC 2 noP a l) (hB:Lv W topC 5 noP b S) (X:Args14 l S) :
 Ct Tryz.prog W 6 [.slice a l.length c,.slice b S.length d] [] (fun _:Unit=>.bool true) (fun _=>[]):=(owns14_ct hE hN hg noP noP a b c d l S hA hB X).noP14
end
end Go.Proofs.YtahgdagcnkpnbaaGreatDoor
