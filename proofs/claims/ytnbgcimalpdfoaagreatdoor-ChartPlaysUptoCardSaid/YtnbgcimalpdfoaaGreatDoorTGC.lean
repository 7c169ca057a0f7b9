/-
  ChD2, ChD3.
-/
import Derived.Test.YtnbgcimalpdfoaaGreatDoorTFX
import Derived.Test.YtnbgcimalpdfoaaGreatDoorTEX
import Derived.Test.YtnbgcimalpdfoaaGreatDoorTGB
import Derived.Test.YtnbgcimalpdfoaaGreatDoorTFG
import Derived.Test.YtnbgcimalpdfoaaGreatDoorTFJ
set_option maxHeartbeats 64000000
namespace Go.Proofs.YtnbgcimalpdfoaaGreatDoor
open Go Go.RowKit
abbrev plTGC0:Pl:=(.op 0 (.op 1 (.op 2 (.op 3 (.op 4 (.op 5 (.alt (.ef 6 [] (.op 7 (.op 8 (.op 9 (.ef 10 [9,8,7] (.ef 11 [9] (.op 12 .nil))))))) (.ef 10 [5,4,3,2,1,0] (.ef 6 [] (.op 7 (.op 8 (.op 9 (.ef 11 [9] (.op 12 .nil))))))))))))))
theorem foundTo_ris2 {r:Rows} (h:RisR r) (c:List UInt8):∀ k,RisR (foundTo r c k)
 |0=>h
 |k+1=>putR_ris (foundTo_ris2 h c k) _ _
section
variable {W:World} {a:Option Addr} {c:Nat} {r:Rows} {id cur:List UInt8} {ac:Acct}
theorem rapply1K (op:BOp) (hr:RisR r) (hl:(r.length+1)*32≤140737488355328) (g:Nat):Ct Tryz.prog W 78 [.slice a r.length c,.slice (some ⟨g,0,none⟩) 1 1] [rwP (a,c) r,zAp g (opC op) 137] (fun x:Option Addr × Nat=>.slice x.1 (apply1 r op).length x.2) (fun x=>[rwP (a,c) r,zAp g (opC op) 137,rwP x (apply1 r op)]):=
 rapply_ct (W:=W) (rwP (a,c) r) (zAp g (opC op) 137) a (some ⟨g,0,none⟩) c 1 r [op] (Lv.own rC_ok rfl) (Lv.cells (by simp)) hr (by simpa using hl)
theorem d15putK_ct (hg:goodA ac=true) (hi:ac.id.length≤2000000) (hr:RisR r) (hl:(r.length+1)*32≤140737488355328) :
 Ct Tryz.prog W 101 [.slice a r.length c,acV ac] [rwP (a,c) r] (fun x:Option Addr × Nat=>.slice x.1 (putR r (aKey ac.id) (rowA ac)).length x.2) (fun x=>[rwP (a,c) r,rwP x (putR r (aKey ac.id) (rowA ac))]):=by
 obtain ⟨-,-,-,k4,k5,-⟩:=goodA_in hg
 have ce:=d15enc_ct (W:=W) (a:=ac) hi ⟨k4,k5⟩
 rw [hg] at ce
 dsimp only [cond] at ce
 have ck:=d15key_ct (W:=W) ac.id (by omega)
 have ca:=rapply1K (W:=W) (a:=a) (c:=c) (r:=r) ⟨false,aKey ac.id,rowA ac⟩ hr hl
 have e:apply1 r ⟨false,aKey ac.id,rowA ac⟩=putR r (aKey ac.id) (rowA ac):=rfl
 rw [e] at ca
 obtain ⟨r',hr'⟩:∃ r',r'=putR r (aKey ac.id) (rowA ac):=⟨_,rfl⟩
 rw [← hr'] at ca ⊢
 obtain ⟨k,hk⟩:∃ k,k=aKey ac.id:=⟨_,rfl⟩
 obtain ⟨v,hv⟩:∃ v,v=rowA ac:=⟨_,rfl⟩
 rw [← hk] at ck ca
 rw [← hv] at ce ca
 clear hr' hk hv e
 refine Ct.enter Tryz.func101 rfl Tryz.ntmps101 (by simp) (fun R=>?_)
 repeat' (first|(refine zBm ?_;refine zBi rfl xF rfl (fun ga=>?_))|(refine zAe ?_;first|(refine zAb xE (ca _) xP rfl (fun x=>?_))|(refine zAb xE ck xP rfl (fun _=>?_))|(refine zAb xE ce xP rfl (fun _=>?_)))|(refine zBb ?_;refine zBk rfl xF (by rfl) (by omega) rfl (fun gb=>?_))|(refine zAx ?_;refine zAa (zAy xV xW) ?_)|refine xst ?_|(refine xsa ?_;intro _)|(refine xsb ?_ ?_ <;>intro _<;>try (exfalso;omega))|refine xsc ?_|fail)
 all_goals (exact xdn x)
theorem d15found_ct (hr:RisR r) (hl:(r.length+5)*32≤140737488355328) :
 Ct Tryz.prog W 51 [.slice a r.length c,strV cur] [rwP (a,c) r] (fun x:Option Addr × Nat=>.tuple #[.slice x.1 (foundR r cur).length x.2,.int .i64 (foundE r cur:Nat)]) (fun x=>[rwP x (foundR r cur)]):=by
 have cc:=dcode_ct (W:=W) cur
 have no:foundE r cur≠0→foundR r cur=r:=fun h=>if_neg h
 cases hc:codeB cur with
 |false=>
  rw [hc] at cc
  have e:foundE r cur=11:=by unfold foundE;rw [hc];rfl
  rw [no (by rw [e];decide),e]
  refine Ct.enter Tryz.func51 rfl Tryz.ntmps51 (by simp) (fun R=>?_)
  repeat' (first|(refine zAe ?_;refine zAb xE cc xP rfl (fun _=>?_))|refine xst ?_|(refine xsa ?_;intro _)|(refine xsb ?_ ?_ <;>intro _<;>try (exfalso;omega))|refine xsc ?_|fail)
  all_goals (exact xdn (a,c))
 |true=>
  rw [hc] at cc
  have hc3:=codeB_len hc
  have cs:∀ k,k<4→Ct Tryz.prog W 99 [.int .i64 ((k+2:Nat):Int),strV cur] [] (fun _:Unit=>strV (kinds4.getD k []++cur)) (fun _=>[]):=fun k hk=>by
   have h:=dsys_ct (W:=W) k hk ((k+2:Nat):Int) (by omega) cur hc
   unfold kindT at h
   exact h
  have ck:∀ k,k<4→Ct Tryz.prog W 29 [strV (kinds4.getD k []++cur)] [] (fun _:Unit=>strV (sysK k cur)) (fun _=>[]):=fun k hk=>d15key_ct (W:=W) _ (by have:=sysL hk hc3;omega)
  have cf:=fun key=>d15find_ct (W:=W) (a:=a) (c:=c) (r:=r) (by omega) key
  obtain ⟨E,hE⟩:∃ E,E=foundE r cur:=⟨_,rfl⟩
  obtain ⟨FR,hFR⟩:∃ FR,FR=foundR r cur:=⟨_,rfl⟩
  rw [← hE,← hFR]
  refine Ct.enter Tryz.func51 rfl Tryz.ntmps51 (by simp) (fun R=>?_)
  repeat' (first|(refine zAe ?_;refine zAb xE cc xP rfl (fun _=>?_))|refine xst ?_|(refine xsa ?_;intro _)|(refine xsb ?_ ?_ <;>intro _<;>try (exfalso;omega))|refine xsc ?_|fail)
  refine KJ.noP ?_
  refine zBj (fun i:{i:Nat × (Option Addr × Nat) × SP//i.1≤4∧(∀ j,j<i.1→(lk r (sysK j cur)).isSome=false)∧((i.1=0∧i.2.1=(a,c))∨(0<i.1∧i.2.2=rwP i.2.1 (foundTo r cur i.1)))}=>[(0,.slice a r.length c),(1,strV cur),(7,.slice i.1.2.1.1 (foundTo r cur i.1.1).length i.1.2.1.2),(8,.int .i64 ((i.1.1+2:Nat):Int))])
   (fun i=>[rwP (a,c) r,i.1.2.2]++R) (fun i=>4-i.1.1) ⟨(0,(a,c),noP),by omega,fun j h=>absurd h (by omega),.inl ⟨rfl,rfl⟩⟩ xB (xN) (fun ⟨(k,x,B),hk,hj,hx⟩=>?_)
  dsimp only at hk hj hx ⊢
  by_cases hlt:k<4
  ·have ql:decide (((k+2:Nat):Int)≤5)=true:=decide_eq_true (by omega)
   have cs1:=cs k hlt
   have ck1:=ck k hlt
   cases hlk:(lk r (sysK k cur)).isSome with
   |true=>
    have he:E=21:=by rw [hE];exact found_yes hc hlt hlk
    have hf:FR=r:=by rw [hFR];exact no (by rw [← hE,he];decide)
    have cf1:=cf (sysK k cur)
    rw [hlk] at cf1
    obtain ⟨y,hy⟩:∃ y,y=sysK k cur:=⟨_,rfl⟩
    rw [← hy] at ck1 cf1
    obtain ⟨z,hz⟩:∃ z,z=kinds4.getD k []++cur:=⟨_,rfl⟩
    rw [← hz] at cs1 ck1
    subst he hf
    clear hy hz
    repeat' (first|(refine zAe ?_;first|(refine zAb xE cf1 xP rfl (fun _=>?_))|(refine zAb xE ck1 xP rfl (fun _=>?_))|(refine zAb xE cs1 xP rfl (fun _=>?_)))|(refine ek_leq ?_;refine zAa (zBn rfl rfl ql) ?_)|refine xst ?_|(refine xsa ?_;intro _)|(refine xsb ?_ ?_ <;>intro _<;>try (exfalso;omega))|refine xsc ?_|fail)
    all_goals (exact xdn (a,c))
   |false=>
    have cf1:=cf (sysK k cur)
    rw [hlk] at cf1
    have hnext:∀ j,j<k+1→(lk r (sysK j cur)).isSome=false:=fun j hj2=>by
     by_cases e:j=k
     ·rw [e];exact hlk
     ·exact hj j (by omega)
    have hfl:=foundTo_len r cur k
    have hgd:=sysA_good hlt hc
    have hil:(sysA k cur).id.length≤2000000:=by have:=sysL hlt hc3;show (kinds4.getD k []++cur).length≤_;omega
    have hrk:=foundTo_ris2 hr cur k
    have en:putR (foundTo r cur k) (aKey (sysA k cur).id) (rowA (sysA k cur))=foundTo r cur (k+1):=rfl
    have cpK:=d15putK_ct (W:=W) (a:=x.1) (c:=x.2) (r:=foundTo r cur k) hgd hil hrk (by omega)
    have cpO:=d15put_ct (W:=W) (a:=x.1) (c:=x.2) (r:=foundTo r cur k) hgd hil hrk (by omega)
    rw [en] at cpK cpO
    have hv:acV (sysA k cur)=.agg #[strV (kinds4.getD k []++cur),strV cur,.int .i64 ((k+2:Nat):Int),.bool false,.int .i64 0,.int .i64 0]:=rfl
    rw [hv] at cpK cpO
    obtain ⟨y,hy⟩:∃ y,y=sysK k cur:=⟨_,rfl⟩
    rw [← hy] at ck1 cf1
    obtain ⟨z,hz⟩:∃ z,z=kinds4.getD k []++cur:=⟨_,rfl⟩
    rw [← hz] at cs1 ck1 cpK cpO
    clear hy hz hgd hil hv
    rcases hx with ⟨h0,h1⟩|⟨h0,h1⟩
    ·subst h0 h1
     have cpK:Ct Tryz.prog W 101 [.slice a r.length c,.agg #[strV z,strV cur,.int .i64 ((0+2:Nat):Int),.bool false,.int .i64 0,.int .i64 0]] [rwP (a,c) r] (fun x:Option Addr × Nat=>.slice x.1 (foundTo r cur (0+1)).length x.2) (fun x=>[rwP (a,c) r,rwP x (foundTo r cur (0+1))]):=cpK
     repeat' (first|(refine zAe ?_;first|(refine zAb xE cpK xP rfl (fun x'=>?_))|(refine zAb xE cf1 xP rfl (fun _=>?_))|(refine zAb xE ck1 xP rfl (fun _=>?_))|(refine zAb xE cs1 xP rfl (fun _=>?_)))|(refine zAx ?_;refine zAa (zAy xV xW) ?_)|(refine zAw ?_;refine zAa (zAh (r:=((0+1+2:Nat):Int)) rfl rfl (by omega) (by omega)) ?_)|(refine ek_leq ?_;refine zAa (zBn rfl rfl ql) ?_)|refine xst ?_|(refine xsa ?_;intro _)|(refine xsb ?_ ?_ <;>intro _<;>try (exfalso;omega))|refine xsc ?_|fail)
     all_goals exact zAt ⟨(0+1,x',rwP x' (foundTo r cur (0+1))),by omega,hnext,.inr ⟨by omega,rfl⟩⟩ (by show 4-(0+1)<4-0;omega) xB (xN)
    ·subst h1
     repeat' (first|(refine zAe ?_;first|(refine zAb xE cpO xP rfl (fun x'=>?_))|(refine zAb xE cf1 xP rfl (fun _=>?_))|(refine zAb xE ck1 xP rfl (fun _=>?_))|(refine zAb xE cs1 xP rfl (fun _=>?_)))|(refine zAx ?_;refine zAa (zAy xV xW) ?_)|(refine zAw ?_;refine zAa (zAh (r:=((k+1+2:Nat):Int)) rfl rfl (by omega) (by omega)) ?_)|(refine ek_leq ?_;refine zAa (zBn rfl rfl ql) ?_)|refine xst ?_|(refine xsa ?_;intro _)|(refine xsb ?_ ?_ <;>intro _<;>try (exfalso;omega))|refine xsc ?_|fail)
     all_goals exact zAt ⟨(k+1,x',rwP x' (foundTo r cur (k+1))),by omega,hnext,.inr ⟨by omega,rfl⟩⟩ (by show 4-(k+1)<4-k;omega) xB (xN)
  ·have ql:decide (((k+2:Nat):Int)≤5)=false:=decide_eq_false (by omega)
   obtain rfl:k=4:=by omega
   have he:E=0:=by rw [hE];exact found_no hc hj
   have hf:FR=foundTo r cur 4:=by rw [hFR];exact if_pos (by rw [← hE,he])
   rcases hx with ⟨h0,-⟩|⟨-,h1⟩
   ·omega
   ·subst h1
    subst he
    rw [hf]
    clear hFR hf
    repeat' (first|(refine ek_leq ?_;refine zAa (zBn rfl rfl ql) ?_)|refine xst ?_|(refine xsa ?_;intro _)|(refine xsb ?_ ?_ <;>intro _<;>try (exfalso;omega))|refine xsc ?_|fail)
    all_goals (exact xdn x)
end
end Go.Proofs.YtnbgcimalpdfoaaGreatDoor
namespace Go.Proofs.YtnbgcimalpdfoaaGreatDoor
open Go Go.RowKit
instance stPart:StIs Tryz.prog 94:=⟨by kernel_rfl,by kernel_rfl⟩
theorem kq_eqF (x y:KPt) {fs:Array Field} (hu:Tryz.prog.underlying 94=some (.struct fs)):EqF Tryz.prog (kqC x) (kqC y) fs.toList (decide (x=y)):=by
 have e:=Tryz.underlying94.symm.trans hu
 simp only [Option.some.injEq,TypeDesc.struct.injEq] at e
 subst e
 have e2:decide (x=y)=(decide (x.num=y.num) && (decide (x.n=y.n) && (decide (x.s=y.s) && true))):=by
  rw [Bool.eq_iff_iff]
  cases x;cases y
  simp
 rw [e2]
 refine EqF.cons rfl inferInstance rfl rfl ?_ (EqF.cons rfl inferInstance rfl rfl ?_ (EqF.cons rfl inferInstance rfl rfl ?_ EqF.nil))
 all_goals (unfold cellEq;simp)
theorem acctsD_next {L:Rows} {i:Nat} {p:List UInt8 × List UInt8} (h:L[i]? = some p):acctsD (L.take (i+1))=acctsD (L.take i)++(accD p).toList:=by
 unfold acctsD
 rw [List.take_add_one,h,List.filterMap_append]
 cases hp:accD p <;> simp [hp]
theorem acctsD_len (L:Rows) (i:Nat):(acctsD (L.take i)).length≤i:=by
 unfold acctsD
 exact Nat.le_trans (List.length_filterMap_le _ _) (by rw [List.length_take];omega)
section
variable {W:World} {a:Option Addr} {c:Nat} {r:Rows}
instance fn_d15all:FnIs Tryz.prog 40:=⟨by kernel_rfl⟩
theorem d15all_ct (hl:r.length≤1000000000) (hk:∀ p ∈ r,p.1.length≤2000000) :
 Ct Tryz.prog W 40 [.slice a r.length c] [rwP (a,c) r] (fun x:Nat × Nat=>.slice (some ⟨x.1,0,none⟩) (acctsD r).length x.2) (fun x=>[rwP (a,c) r,lsP acC 51 6 (.slice (some ⟨x.1,0,none⟩) (acctsD r).length x.2) (acctsD r)]):=by
 have hL:Lv W rC 2 (rwP (a,c) r) a r:=Lv.own rC_ok rfl
 obtain ⟨A,hA⟩:∃ A,A=rwP (a,c) r:=⟨_,rfl⟩
 rw [← hA] at hL ⊢
 clear hA
 refine Ct.enter Tryz.func40 rfl Tryz.ntmps40 (by simp) (fun R=>?_)
 repeat' (first|(refine zBb ?_;refine KJ_bslice0 rfl (fun g0=>?_))|refine xst ?_|(refine xsa ?_;intro _)|(refine xsb ?_ ?_ <;>intro _<;>try (exfalso;omega))|refine xsc ?_|(refine zAc (id:=7) plTGC0 (by kernel_rfl) (by kernel_rfl) ?_)|refine zAk ?_ ?_|refine zAj rfl rfl rfl rfl rfl ?_ ?_|refine zAg ?_ ?_|exact Rech.nil|fail)
 refine zBj (fun x:{x:Nat × List Acct × Nat × Nat//x.1≤r.length∧x.2.1=acctsD (r.take x.1)}=>[(3,.slice (some ⟨x.1.2.2.1,0,none⟩) x.1.2.1.length x.1.2.2.2),(10,.slice a r.length c),(11,.int .i64 (r.length:Nat)),(12,.int .i64 (x.1.1:Nat))])
  (fun x=>[A,lsP acC 51 6 (.slice (some ⟨x.1.2.2.1,0,none⟩) x.1.2.1.length x.1.2.2.2) x.1.2.1]++R) (fun x=>r.length-x.1.1) ⟨(0,[],g0,0),Nat.zero_le _,rfl⟩ xB (xN) (fun ⟨(i,O,oa,oc),hi,hO⟩=>?_)
 dsimp only at hi hO ⊢
 by_cases hlt:i<r.length
 rotate_left
 ·have ql:decide ((i:Int)<(r.length:Nat))=false:=decide_eq_false (by omega)
  rw [List.take_of_length_le (by omega)] at hO
  rw [← hO]
  repeat' (first|(refine zAi ?_;refine zAa (zAd rfl rfl ql) ?_)|refine xst ?_|(refine xsa ?_;intro _)|(refine xsb ?_ ?_ <;>intro _<;>try (exfalso;omega))|refine xsc ?_|(refine zAc (id:=7) plTGC0 (by kernel_rfl) (by kernel_rfl) ?_)|refine zAk ?_ ?_|refine zAj rfl rfl rfl rfl rfl ?_ ?_|refine zAg ?_ ?_|exact Rech.nil|fail)
  all_goals (exact xdn (oa,oc))
 have ql:decide ((i:Int)<(r.length:Nat))=true:=decide_eq_true (by omega)
 obtain ⟨p,hp⟩:∃ s,r[i]? = some s:=⟨_,List.getElem?_eq_getElem hlt⟩
 have hk1:=hk p (List.mem_of_getElem? hp)
 have hOl:=congrArg List.length hO
 have hOb:=acctsD_len r i
 have hnx:=acctsD_next hp
 rw [← hO] at hnx
 have same:accD p=none→O=acctsD (r.take (i+1)):=fun h=>by rw [hnx,h];simp
 have more:∀ ac,accD p=some ac→O++[ac]=acctsD (r.take (i+1)):=fun ac h=>by rw [hnx,h];rfl
 clear hnx
 refine KJ.lvSome hL xS (by omega) (fun b of hab=>?_)
 subst hab
 have hoff:of+Int.toNat (i:Int)*2=of+i*2:=by simp
 have cs:=dsplit_ct (W:=W) p.1 (by omega)
 have m1:(O.length+1)*64≤140737488355328:=by omega
 have m2:O.length+1≤9223372036854775807:=by omega
 cases hsp:splitP p.1 with
 |none=>
  rw [hsp] at cs
  have cs:Ct Tryz.prog W 49 [strV p.1] [] (fun z:Option Addr × Nat=>.tuple #[.slice z.1 0 z.2,.int .i64 7]) _:=cs
  repeat' (first|(refine zBg ?_;refine zBe rfl (fun g=>?_))|(refine zAe ?_;refine zAb xE cs xP rfl (fun z=>?_))|(refine zAq ?_;refine zAa (zBx rC_ok hL rfl rfl xS hoff hp) ?_)|(refine zAw ?_;refine zAa (zAh (r:=((i+1:Nat):Int)) rfl rfl (by omega) (by omega)) ?_)|(refine zBa ?_;refine zAa (zAu (q:=true) rfl rfl rfl) ?_)|(refine zAi ?_;refine zAa (zAd rfl rfl ql) ?_)|refine xst ?_|(refine xsa ?_;intro _)|(refine xsb ?_ ?_ <;>intro _<;>try (exfalso;omega))|refine xsc ?_|(refine zAc (id:=7) plTGC0 (by kernel_rfl) (by kernel_rfl) ?_)|refine zAk ?_ ?_|refine zAj rfl rfl rfl rfl rfl ?_ ?_|refine zAg ?_ ?_|exact Rech.nil|fail)
  all_goals refine zAt ⟨(i+1,O,oa,oc),hlt,same (accD_none hsp)⟩ (by show r.length-(i+1)<r.length-i;omega) xB (xN)
 |some Lp=>
  rw [hsp] at cs
  have cs:Ct Tryz.prog W 49 [strV p.1] [] (fun z:Option Addr × Nat=>.tuple #[.slice z.1 Lp.length z.2,.int .i64 0]) (fun z=>[lsP kqC 94 3 (.slice z.1 Lp.length z.2) Lp]):=cs
  by_cases h2:Lp.length=2
  rotate_left
  ·have q2:decide (((Lp.length:Nat):Int)≠2)=true:=decide_eq_true (by omega)
   repeat' (first|(refine zBg ?_;refine zBe rfl (fun g=>?_))|(refine zAe ?_;refine zAb xE cs xP rfl (fun z=>?_))|(refine zAq ?_;refine zAa (zBx rC_ok hL rfl rfl xS hoff hp) ?_)|(refine zAw ?_;refine zAa (zAh (r:=((i+1:Nat):Int)) rfl rfl (by omega) (by omega)) ?_)|(refine zBa ?_;first|refine zAa (zAu (q:=false) rfl rfl rfl) ?_|refine zAa (zAu rfl rfl q2) ?_)|(refine zAi ?_;refine zAa (zAd rfl rfl ql) ?_)|refine xst ?_|(refine xsa ?_;intro _)|(refine xsb ?_ ?_ <;>intro _<;>try (exfalso;omega))|refine xsc ?_|(refine zAc (id:=7) plTGC0 (by kernel_rfl) (by kernel_rfl) ?_)|refine zAk ?_ ?_|refine zAj rfl rfl rfl rfl rfl ?_ ?_|refine zAg ?_ ?_|exact Rech.nil|fail)
   all_goals refine zAt ⟨(i+1,O,oa,oc),hlt,same (accD_other hsp h2)⟩ (by show r.length-(i+1)<r.length-i;omega) xB (xN)
  match Lp,h2,hsp,cs with
  |[⟨num0,nn0,s0⟩,⟨num,nn,sid⟩],_,hsp,cs=>
   have hacc:=accD_two hsp
   have hsl:sid.length≤2000000:=Nat.le_trans (splitP_len _ (Nat.le_refl _) hsp ⟨num,nn,sid⟩ (by simp)) hk1
   have hq0:([⟨num0,nn0,s0⟩,⟨num,nn,sid⟩]:List KPt)[0]? = some ⟨num0,nn0,s0⟩:=rfl
   have hq1:([⟨num0,nn0,s0⟩,⟨num,nn,sid⟩]:List KPt)[1]? = some ⟨num,nn,sid⟩:=rfl
   have hpos:0<([⟨num0,nn0,s0⟩,⟨num,nn,sid⟩]:List KPt).length:=Nat.succ_pos _
   have heq:=kq_eqF ⟨num0,nn0,s0⟩ (kT [97]) Tryz.underlying94
   by_cases hqa:(⟨num0,nn0,s0⟩:KPt)=kT [97]
   rotate_left
   ·rw [decide_eq_false hqa] at heq
    repeat' (first|(refine zBg ?_;refine zBe rfl (fun g=>?_))|(refine zAe ?_;refine zAb xE cs xP rfl (fun z=>?_);obtain ⟨za,zc⟩:=z;refine KJ.lsSome (a:=za) (c:=zc) (m:=2) xS hpos (fun g9 hg9=>?_);subst hg9)|(refine zAq ?_;first|refine zAa (zBx rC_ok hL rfl rfl xS hoff hp) ?_|refine zAa (Ev_loadLs kq_ok rfl xS rfl (by rfl) hq0) ?_|refine zAa (zCi (j:=0) kq_ok rfl xS rfl (by rfl) hq1 rfl) ?_|refine zAa (zCi (j:=2) kq_ok rfl xS rfl (by rfl) hq1 rfl) ?_)|(refine zAx ?_;refine zAa (zAy xV xW) ?_)|(refine zAw ?_;refine zAa (zAh (r:=((i+1:Nat):Int)) rfl rfl (by omega) (by omega)) ?_)|(refine zBa ?_;first|refine zAa (zAu (q:=false) rfl rfl rfl) ?_|refine zAa (Ev_neqSt rfl rfl heq rfl) ?_)|(refine zAi ?_;refine zAa (zAd rfl rfl ql) ?_)|refine xst ?_|(refine xsa ?_;intro _)|(refine xsb ?_ ?_ <;>intro _<;>try (exfalso;omega))|refine xsc ?_|(refine zAc (id:=7) plTGC0 (by kernel_rfl) (by kernel_rfl) ?_)|refine zAk ?_ ?_|refine zAj rfl rfl rfl rfl rfl ?_ ?_|refine zAg ?_ ?_|exact Rech.nil|fail)
    all_goals refine zAt ⟨(i+1,O,oa,oc),hlt,same (by rw [hacc];exact if_neg (fun h=>hqa h.1))⟩ (by show r.length-(i+1)<r.length-i;omega) xB (xN)
   rw [decide_eq_true hqa] at heq
   cases num with
   |true=>
    repeat' (first|(refine zBg ?_;refine zBe rfl (fun g=>?_))|(refine zAe ?_;refine zAb xE cs xP rfl (fun z=>?_);obtain ⟨za,zc⟩:=z;refine KJ.lsSome (a:=za) (c:=zc) (m:=2) xS hpos (fun g9 hg9=>?_);subst hg9)|(refine zAq ?_;first|refine zAa (zBx rC_ok hL rfl rfl xS hoff hp) ?_|refine zAa (Ev_loadLs kq_ok rfl xS rfl (by rfl) hq0) ?_|refine zAa (zCi (j:=0) kq_ok rfl xS rfl (by rfl) hq1 rfl) ?_|refine zAa (zCi (j:=2) kq_ok rfl xS rfl (by rfl) hq1 rfl) ?_)|(refine zAx ?_;refine zAa (zAy xV xW) ?_)|(refine zAw ?_;refine zAa (zAh (r:=((i+1:Nat):Int)) rfl rfl (by omega) (by omega)) ?_)|(refine zBa ?_;first|refine zAa (zAu (q:=false) rfl rfl rfl) ?_|refine zAa (Ev_neqSt rfl rfl heq rfl) ?_)|(refine zAi ?_;refine zAa (zAd rfl rfl ql) ?_)|refine xst ?_|(refine xsa ?_;intro _)|(refine xsb ?_ ?_ <;>intro _<;>try (exfalso;omega))|refine xsc ?_|(refine zAc (id:=7) plTGC0 (by kernel_rfl) (by kernel_rfl) ?_)|refine zAk ?_ ?_|refine zAj rfl rfl rfl rfl rfl ?_ ?_|refine zAg ?_ ?_|exact Rech.nil|fail)
    all_goals refine zAt ⟨(i+1,O,oa,oc),hlt,same (by rw [hacc];exact if_neg (fun h=>by cases h.2))⟩ (by show r.length-(i+1)<r.length-i;omega) xB (xN)
   |false=>
    have hacc:accD p=decA sid p.2:=by rw [hacc];exact if_pos ⟨hqa,rfl⟩
    have cd:=d15dec_ct (W:=W) (id:=sid) (s:=p.2) hsl
    cases hd:decA sid p.2 with
    |none=>
     rw [hd] at cd hacc
     have cd:Ct Tryz.prog W 31 [strV sid,strV p.2] [] (fun _:Unit=>.tuple #[acV ac0,.int .i64 15]) (fun _=>[]):=cd
     repeat' (first|(refine zBg ?_;refine zBe rfl (fun g=>?_))|(refine zAe ?_;first|(refine zAb xE cs xP rfl (fun z=>?_);obtain ⟨za,zc⟩:=z;refine KJ.lsSome (a:=za) (c:=zc) (m:=2) xS hpos (fun g9 hg9=>?_);subst hg9)|(refine zAb xE cd xP rfl (fun _=>?_)))|(refine zAq ?_;first|refine zAa (zBx rC_ok hL rfl rfl xS hoff hp) ?_|refine zAa (Ev_loadLs kq_ok rfl xS rfl (by rfl) hq0) ?_|refine zAa (zCi (j:=0) kq_ok rfl xS rfl (by rfl) hq1 rfl) ?_|refine zAa (zCi (j:=2) kq_ok rfl xS rfl (by rfl) hq1 rfl) ?_)|(refine zAx ?_;refine zAa (zAy xV xW) ?_)|(refine zAw ?_;refine zAa (zAh (r:=((i+1:Nat):Int)) rfl rfl (by omega) (by omega)) ?_)|(refine zAv ?_;refine zAa (zAf (q:=false) rfl rfl rfl) ?_)|(refine zBa ?_;first|refine zAa (zAu (q:=false) rfl rfl rfl) ?_|refine zAa (Ev_neqSt rfl rfl heq rfl) ?_)|(refine zAi ?_;refine zAa (zAd rfl rfl ql) ?_)|refine xst ?_|(refine xsa ?_;intro _)|(refine xsb ?_ ?_ <;>intro _<;>try (exfalso;omega))|refine xsc ?_|(refine zAc (id:=7) plTGC0 (by kernel_rfl) (by kernel_rfl) ?_)|refine zAk ?_ ?_|refine zAj rfl rfl rfl rfl rfl ?_ ?_|refine zAg ?_ ?_|exact Rech.nil|fail)
     all_goals refine zAt ⟨(i+1,O,oa,oc),hlt,same hacc⟩ (by show r.length-(i+1)<r.length-i;omega) xB (xN)
    |some ac=>
     rw [hd] at cd hacc
     have cd:Ct Tryz.prog W 31 [strV sid,strV p.2] [] (fun _:Unit=>.tuple #[acV ac,.int .i64 0]) (fun _=>[]):=cd
     repeat' (first|(refine zBg ?_;refine zBe rfl (fun g=>?_))|(refine zAe ?_;first|(refine zAb xE cs xP rfl (fun z=>?_);obtain ⟨za,zc⟩:=z;refine KJ.lsSome (a:=za) (c:=zc) (m:=2) xS hpos (fun g9 hg9=>?_);subst hg9)|(refine zAb xE cd xP rfl (fun _=>?_)))|(refine zBp ?_;refine zCc (l:=O) (a:=ac) ac_ok rfl rfl rfl xS xS m1 m2 rfl (fun g' c'=>?_))|(refine zBb ?_;refine zBk rfl xF (by rfl) (by omega) rfl (fun gb=>?_);show KJ W _ _ _ (zAp gb (acC ac) 51::_))|(refine zAq ?_;first|refine zAa (zBx rC_ok hL rfl rfl xS hoff hp) ?_|refine zAa (Ev_loadLs kq_ok rfl xS rfl (by rfl) hq0) ?_|refine zAa (zCi (j:=0) kq_ok rfl xS rfl (by rfl) hq1 rfl) ?_|refine zAa (zCi (j:=2) kq_ok rfl xS rfl (by rfl) hq1 rfl) ?_)|(refine zAx ?_;refine zAa (zAy xV xW) ?_)|(refine zAw ?_;refine zAa (zAh (r:=((i+1:Nat):Int)) rfl rfl (by omega) (by omega)) ?_)|(refine zAv ?_;refine zAa (zAf (q:=true) rfl rfl rfl) ?_)|(refine zBa ?_;first|refine zAa (zAu (q:=false) rfl rfl rfl) ?_|refine zAa (Ev_neqSt rfl rfl heq rfl) ?_)|(refine zAi ?_;refine zAa (zAd rfl rfl ql) ?_)|refine xst ?_|(refine xsa ?_;intro _)|(refine xsb ?_ ?_ <;>intro _<;>try (exfalso;omega))|refine xsc ?_|(refine zAc (id:=7) plTGC0 (by kernel_rfl) (by kernel_rfl) ?_)|refine zAk ?_ ?_|refine zAj rfl rfl rfl rfl rfl ?_ ?_|refine zAg ?_ ?_|exact Rech.nil|fail)
     all_goals refine zAt ⟨(i+1,O++[ac],g',c'),hlt,more ac hacc⟩ (by show r.length-(i+1)<r.length-i;omega) xB (xN)
end
end Go.Proofs.YtnbgcimalpdfoaaGreatDoor
