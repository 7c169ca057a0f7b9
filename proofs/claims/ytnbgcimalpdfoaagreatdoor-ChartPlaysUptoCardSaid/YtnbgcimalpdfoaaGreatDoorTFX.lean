/-
  ChD1, ChS2.
-/
import Derived.Test.YtnbgcimalpdfoaaGreatDoorTFQ
import Derived.Test.YtnbgcimalpdfoaaGreatDoorTFR
import Derived.Test.YtnbgcimalpdfoaaGreatDoorTFV
import Derived.Test.YtnbgcimalpdfoaaGreatDoorTEV
import Derived.Test.YtnbgcimalpdfoaaGreatDoorTFJ
set_option maxHeartbeats 64000000
namespace Go.Proofs.YtnbgcimalpdfoaaGreatDoor
open Go Go.RowKit
theorem drop_lk2 {L:Rows} {i:Nat} {p:List UInt8 × List UInt8} {a:List UInt8} (h:L[i]? = some p):lk (L.drop i) a=if p.1=a then some p.2 else lk (L.drop (i+1)) a:=by
 obtain ⟨hk,hb⟩:=List.getElem?_eq_some_iff.1 h
 rw [List.drop_eq_getElem_cons hk,hb]
 rfl
theorem put_same {r:Rows} (hr:RisR r) {k v:List UInt8} (h:lk r k=some v):putR r k v=r:=rows_ext (putR_ris hr _ _) hr fun y=>by
 rw [lk_putR hr]
 split
 ·rename_i e;rw [e,h]
 ·rfl
abbrev rwP (x:Option Addr × Nat) (l:Rows):SP:=lsP rC 89 2 (.slice x.1 l.length x.2) l
section
variable {W:World} {a:Option Addr} {c:Nat} {r:Rows} {id cur:List UInt8} {ac:Acct}
instance fn_d15find:FnIs Tryz.prog 100:=⟨by kernel_rfl⟩
instance fn_d15put:FnIs Tryz.prog 101:=⟨by kernel_rfl⟩
instance fn_d15get:FnIs Tryz.prog 79:=⟨by kernel_rfl⟩
instance fn_d15open:FnIs Tryz.prog 52:=⟨by kernel_rfl⟩
instance fn_d15set:FnIs Tryz.prog 53:=⟨by kernel_rfl⟩
instance fn_d15freeze:FnIs Tryz.prog 80:=⟨by kernel_rfl⟩
instance fn_d15close:FnIs Tryz.prog 81:=⟨by kernel_rfl⟩
instance fn_d15found:FnIs Tryz.prog 51:=⟨by kernel_rfl⟩
theorem d15find_ct (hl:r.length≤4611686018427387904) (key:List UInt8) :
 Ct Tryz.prog W 100 [.slice a r.length c,strV key] [rwP (a,c) r] (fun _:Unit=>.tuple #[strV ((lk r key).getD []),.bool (lk r key).isSome]) (fun _=>[rwP (a,c) r]):=by
 have hL:Lv W rC 2 (rwP (a,c) r) a r:=Lv.own rC_ok rfl
 obtain ⟨A,hA⟩:∃ A,A=rwP (a,c) r:=⟨_,rfl⟩
 rw [← hA] at hL ⊢
 clear hA
 obtain ⟨o,ho⟩:∃ o,o=lk r key:=⟨_,rfl⟩
 rw [← ho]
 refine Ct.enter Tryz.func100 rfl Tryz.ntmps100 (by simp) (fun R=>?_)
 repeat' (first|refine xst ?_|(refine xsa ?_;intro _)|(refine xsb ?_ ?_ <;>intro _<;>try (exfalso;omega))|refine xsc ?_|fail)
 refine zBj (fun x:{x:Nat//x≤r.length∧lk (r.drop x) key=o}=>[(1,strV key),(8,.slice a r.length c),(9,.int .i64 (r.length:Nat)),(10,.int .i64 (x.1:Nat))])
  (fun _=>[A]++R) (fun x=>r.length-x.1) ⟨0,Nat.zero_le _,ho.symm⟩ xB (xN) (fun ⟨i,hi,hd⟩=>?_)
 dsimp only at hi hd ⊢
 by_cases hlt:i<r.length
 rotate_left
 ·have ql:decide ((i:Int)<(r.length:Nat))=false:=decide_eq_false (by omega)
  obtain rfl:i=r.length:=by omega
  rw [List.drop_length] at hd
  repeat' (first|(refine zAi ?_;refine zAa (zAd rfl rfl ql) ?_)|refine xst ?_|(refine xsa ?_;intro _)|(refine xsb ?_ ?_ <;>intro _<;>try (exfalso;omega))|refine xsc ?_|fail)
  all_goals exact xdn () (hc:=by rw [← hd];rfl)
 have ql:decide ((i:Int)<(r.length:Nat))=true:=decide_eq_true (by omega)
 obtain ⟨p,hp⟩:∃ s,r[i]? = some s:=⟨_,List.getElem?_eq_getElem hlt⟩
 rw [drop_lk2 hp] at hd
 refine KJ.lvSome hL xS (by omega) (fun b of hab=>?_)
 subst hab
 have hoff:of+Int.toNat (i:Int)*2=of+i*2:=by simp
 by_cases hk:p.1=key
 ·rw [if_pos hk] at hd
  repeat' (first|(refine zBg ?_;refine zBe rfl (fun g=>?_))|(refine zAq ?_;refine zAa (zBx rC_ok hL rfl rfl xS hoff hp) ?_)|(refine zAv ?_;refine zAa (Ev_eqlS_t rfl rfl hk) ?_)|(refine zAi ?_;refine zAa (zAd rfl rfl ql) ?_)|refine xst ?_|(refine xsa ?_;intro _)|(refine xsb ?_ ?_ <;>intro _<;>try (exfalso;omega))|refine xsc ?_|fail)
  all_goals exact xdn () (hc:=by rw [← hd];rfl)
 ·rw [if_neg hk] at hd
  repeat' (first|(refine zBg ?_;refine zBe rfl (fun g=>?_))|(refine zAq ?_;refine zAa (zBx rC_ok hL rfl rfl xS hoff hp) ?_)|(refine zAw ?_;refine zAa (zAh (r:=((i+1:Nat):Int)) rfl rfl (by omega) (by omega)) ?_)|(refine zAv ?_;refine zAa (Ev_eqlS_f rfl rfl hk) ?_)|(refine zAi ?_;refine zAa (zAd rfl rfl ql) ?_)|refine xst ?_|(refine xsa ?_;intro _)|(refine xsb ?_ ?_ <;>intro _<;>try (exfalso;omega))|refine xsc ?_|fail)
  all_goals refine zAt ⟨i+1,hlt,hd⟩ (by show r.length-(i+1)<r.length-i;omega) xB (xN)
theorem rapply1 (op:BOp) (hr:RisR r) (hl:(r.length+1)*32≤140737488355328) (g:Nat):Ct Tryz.prog W 78 [.slice a r.length c,.slice (some ⟨g,0,none⟩) 1 1] [rwP (a,c) r,zAp g (opC op) 137] (fun x:Option Addr × Nat=>.slice x.1 (apply1 r op).length x.2) (fun x=>[rwP x (apply1 r op)]):=
 (rapply_ct (W:=W) (rwP (a,c) r) (zAp g (opC op) 137) a (some ⟨g,0,none⟩) c 1 r [op] (Lv.own rC_ok rfl) (Lv.cells (by simp)) hr (by simpa using hl)).to _root_.id (fun _=>rfl) (fun x R g q=>(DropTo.there (DropTo.there DropTo.refl)).star g q)
theorem d15put_ct (hg:goodA ac=true) (hi:ac.id.length≤2000000) (hr:RisR r) (hl:(r.length+1)*32≤140737488355328) :
 Ct Tryz.prog W 101 [.slice a r.length c,acV ac] [rwP (a,c) r] (fun x:Option Addr × Nat=>.slice x.1 (putR r (aKey ac.id) (rowA ac)).length x.2) (fun x=>[rwP x (putR r (aKey ac.id) (rowA ac))]):=by
 obtain ⟨-,-,-,k4,k5,-⟩:=goodA_in hg
 have ce:=d15enc_ct (W:=W) (a:=ac) hi ⟨k4,k5⟩
 rw [hg] at ce
 dsimp only [cond] at ce
 have ck:=d15key_ct (W:=W) ac.id (by omega)
 have ca:=rapply1 (W:=W) (a:=a) (c:=c) (r:=r) ⟨false,aKey ac.id,rowA ac⟩ hr hl
 have e:apply1 r ⟨false,aKey ac.id,rowA ac⟩=putR r (aKey ac.id) (rowA ac):=rfl
 rw [e] at ca
 obtain ⟨r',hr'⟩:∃ r',r'=putR r (aKey ac.id) (rowA ac):=⟨_,rfl⟩
 rw [← hr'] at ca ⊢
 obtain ⟨k,hk⟩:∃ k,k=aKey ac.id:=⟨_,rfl⟩
 obtain ⟨v,hv⟩:∃ v,v=rowA ac:=⟨_,rfl⟩
 rw [← hk] at ck ca
 rw [← hv] at ce ca
 clear hr' hk hv e
 refine Ct.enter Tryz.func101 rfl Tryz.ntmps101 (by simp) (fun R=>?_)
 repeat' (first|(refine zBm ?_;refine zBi rfl xF rfl (fun ga=>?_))|(refine zAe ?_;first|(refine zAb xE (ca _) xP rfl (fun x=>?_))|(refine zAb xE ck xP rfl (fun _=>?_))|(refine zAb xE ce xP rfl (fun _=>?_)))|(refine zBb ?_;refine zBk rfl xF (by rfl) (by omega) rfl (fun gb=>?_))|(refine zAx ?_;refine zAa (zAy xV xW) ?_)|refine xst ?_|(refine xsa ?_;intro _)|(refine xsb ?_ ?_ <;>intro _<;>try (exfalso;omega))|refine xsc ?_|fail)
 all_goals (exact xdn x)
def getD15 (id:List UInt8) (o:Option (List UInt8)):Value:=.tuple #[acV ((getO id o).getD ac0),.int .i64 (getE id o:Nat)]
theorem d15get_ct (hi:id.length≤2000000) (hl:r.length≤4611686018427387904) :
 Ct Tryz.prog W 79 [.slice a r.length c,strV id] [rwP (a,c) r] (fun _:Unit=>getD15 id (lk r (aKey id))) (fun _=>[rwP (a,c) r]):=by
 have ck:=d15key_ct (W:=W) id (by omega)
 have cf:=d15find_ct (W:=W) (a:=a) (c:=c) (r:=r) hl (aKey id)
 obtain ⟨k,hk⟩:∃ k,k=aKey id:=⟨_,rfl⟩
 rw [← hk] at ck cf ⊢
 cases ho:lk r k with
 |none=>
  rw [ho] at cf
  show Ct Tryz.prog W 79 [.slice a r.length c,strV id] [rwP (a,c) r] (fun _:Unit=>.tuple #[acV ac0,.int .i64 20]) (fun _=>[rwP (a,c) r])
  refine Ct.enter Tryz.func79 rfl Tryz.ntmps79 (by simp) (fun R=>?_)
  repeat' (first|(refine zAe ?_;first|(refine zAb xE cf xP rfl (fun _=>?_))|(refine zAb xE ck xP rfl (fun _=>?_)))|(refine zAx ?_;refine zAa (zAy xV xW) ?_)|refine xst ?_|(refine xsa ?_;intro _)|(refine xsb ?_ ?_ <;>intro _<;>try (exfalso;omega))|refine xsc ?_|fail)
  all_goals (refine is_ex ?_;exact zBu (by first|exact Or.inl rfl|exact Or.inr rfl) rfl (Rvs.agg (T:=51) rfl inferInstance inferInstance xS xC (Rvs.tmp rfl Rvs.nil)) () (by rfl) (xN))
 |some s=>
  rw [ho] at cf
  have cd:=d15dec_ct (W:=W) (id:=id) (s:=s) hi
  cases hd:decA id s with
  |none=>
   rw [hd] at cd
   have e:getD15 id (some s)=.tuple #[acV ac0,.int .i64 15]:=by unfold getD15 getO getE;simp only [Option.bind_some,hd];rfl
   rw [e]
   have cd:Ct Tryz.prog W 31 [strV id,strV s] [] (fun _:Unit=>.tuple #[acV ac0,.int .i64 15]) (fun _=>[]):=cd
   refine Ct.enter Tryz.func79 rfl Tryz.ntmps79 (by simp) (fun R=>?_)
   repeat' (first|(refine zAe ?_;first|(refine zAb xE cf xP rfl (fun _=>?_))|(refine zAb xE ck xP rfl (fun _=>?_))|(refine zAb xE cd xP rfl (fun _=>?_)))|(refine zAx ?_;refine zAa (zAy xV xW) ?_)|refine xst ?_|(refine xsa ?_;intro _)|(refine xsb ?_ ?_ <;>intro _<;>try (exfalso;omega))|refine xsc ?_|fail)
   all_goals (refine is_ex ?_;exact zBu (by first|exact Or.inl rfl|exact Or.inr rfl) rfl (Rvs.agg (T:=51) rfl inferInstance inferInstance xS xC (Rvs.tmp rfl Rvs.nil)) () (by rfl) (xN))
  |some b=>
   rw [hd] at cd
   have e:getD15 id (some s)=.tuple #[acV b,.int .i64 0]:=by unfold getD15 getO getE;simp only [Option.bind_some,hd];rfl
   rw [e]
   have cd:Ct Tryz.prog W 31 [strV id,strV s] [] (fun _:Unit=>.tuple #[acV b,.int .i64 0]) (fun _=>[]):=cd
   refine Ct.enter Tryz.func79 rfl Tryz.ntmps79 (by simp) (fun R=>?_)
   repeat' (first|(refine zAe ?_;first|(refine zAb xE cf xP rfl (fun _=>?_))|(refine zAb xE ck xP rfl (fun _=>?_))|(refine zAb xE cd xP rfl (fun _=>?_)))|(refine zAx ?_;refine zAa (zAy xV xW) ?_)|refine xst ?_|(refine xsa ?_;intro _)|(refine xsb ?_ ?_ <;>intro _<;>try (exfalso;omega))|refine xsc ?_|fail)
   all_goals (refine is_ex ?_;exact zBu (by first|exact Or.inl rfl|exact Or.inr rfl) rfl (Rvs.agg (T:=51) rfl inferInstance inferInstance xS xC (Rvs.tmp rfl Rvs.nil)) () (by rfl) (xN))
theorem d15open_ct (hi:id.length≤2000000) (hr:RisR r) (hl:(r.length+1)*32≤140737488355328) :
 Ct Tryz.prog W 52 [.slice a r.length c,strV id,strV cur] [rwP (a,c) r] (fun x:Option Addr × Nat=>.tuple #[.slice x.1 (openR r id cur).length x.2,.int .i64 (openE r id cur:Nat)]) (fun x=>[rwP x (openR r id cur)]):=by
 have ci:=dcheck_ct (W:=W) id hi
 have cc:=dcode_ct (W:=W) cur
 have ck:=d15key_ct (W:=W) id (by omega)
 have cf:=d15find_ct (W:=W) (a:=a) (c:=c) (r:=r) (by omega) (aKey id)
 have no:openE r id cur≠0→openR r id cur=r:=fun h=>if_neg h
 by_cases h1:accE id=0
 rotate_left
 ·have q:decide (((accE id:Nat):Int)≠0)=true:=decide_eq_true (by omega)
  have e:openE r id cur=20:=if_pos h1
  rw [no (by rw [e];decide),e]
  refine Ct.enter Tryz.func52 rfl Tryz.ntmps52 (by simp) (fun R=>?_)
  repeat' (first|(refine zAe ?_;refine zAb xE ci xP rfl (fun _=>?_))|(refine zBa ?_;refine zAa (zAu rfl rfl q) ?_)|refine xst ?_|(refine xsa ?_;intro _)|(refine xsb ?_ ?_ <;>intro _<;>try (exfalso;omega))|refine xsc ?_|fail)
  all_goals (exact xdn (a,c))
 rw [h1] at ci
 cases h2:codeB cur with
 |false=>
  rw [h2] at cc
  have e:openE r id cur=11:=by unfold openE;rw [if_neg (by omega),h2];rfl
  rw [no (by rw [e];decide),e]
  refine Ct.enter Tryz.func52 rfl Tryz.ntmps52 (by simp) (fun R=>?_)
  repeat' (first|(refine zAe ?_;first|(refine zAb xE ci xP rfl (fun _=>?_))|(refine zAb xE cc xP rfl (fun _=>?_)))|(refine zBa ?_;refine zAa (zAu (q:=false) rfl rfl rfl) ?_)|refine xst ?_|(refine xsa ?_;intro _)|(refine xsb ?_ ?_ <;>intro _<;>try (exfalso;omega))|refine xsc ?_|fail)
  all_goals (exact xdn (a,c))
 |true=>
  rw [h2] at cc
  cases h3:lk r (aKey id) with
  |some s=>
   rw [h3] at cf
   have e:openE r id cur=21:=by unfold openE;rw [if_neg (by omega),h2,h3];rfl
   rw [no (by rw [e];decide),e]
   refine Ct.enter Tryz.func52 rfl Tryz.ntmps52 (by simp) (fun R=>?_)
   repeat' (first|(refine zAe ?_;first|(refine zAb xE ci xP rfl (fun _=>?_))|(refine zAb xE cc xP rfl (fun _=>?_))|(refine zAb xE ck xP rfl (fun _=>?_))|(refine zAb xE cf xP rfl (fun _=>?_)))|(refine zBa ?_;refine zAa (zAu (q:=false) rfl rfl rfl) ?_)|refine xst ?_|(refine xsa ?_;intro _)|(refine xsb ?_ ?_ <;>intro _<;>try (exfalso;omega))|refine xsc ?_|fail)
   all_goals (exact xdn (a,c))
  |none=>
   rw [h3] at cf
   obtain ⟨e,er⟩:=openQ_yes h1 h2 h3
   rw [er,e]
   have cp:=d15put_ct (W:=W) (a:=a) (c:=c) (r:=r) (ac:=newA id cur) (newA_good h1 h2) hi hr hl
   obtain ⟨r',hr'⟩:∃ r',r'=putR r (aKey id) (rowA (newA id cur)):=⟨_,rfl⟩
   have cp:Ct Tryz.prog W 101 [.slice a r.length c,.agg #[strV id,strV cur,.int .i64 1,.bool false,.int .i64 0,.int .i64 0]] [rwP (a,c) r] (fun x:Option Addr × Nat=>.slice x.1 r'.length x.2) (fun x=>[rwP x r']):=by rw [hr'];exact cp
   rw [← hr']
   clear hr' er e no
   refine Ct.enter Tryz.func52 rfl Tryz.ntmps52 (by simp) (fun R=>?_)
   repeat' (first|(refine zAe ?_;first|(refine zAb xE ci xP rfl (fun _=>?_))|(refine zAb xE cc xP rfl (fun _=>?_))|(refine zAb xE ck xP rfl (fun _=>?_))|(refine zAb xE cf xP rfl (fun _=>?_))|(refine zAb xE cp xP rfl (fun x=>?_)))|(refine zAx ?_;refine zAa (zAy xV xW) ?_)|(refine zBa ?_;refine zAa (zAu (q:=false) rfl rfl rfl) ?_)|refine xst ?_|(refine xsa ?_;intro _)|(refine xsb ?_ ?_ <;>intro _<;>try (exfalso;omega))|refine xsc ?_|fail)
   all_goals (exact xdn x)
theorem d15set_ct (hi:ac.id.length≤2000000) (hb:-9223372036854775808≤ac.bal∧ac.bal≤9223372036854775807) (hr:RisR r) (hl:(r.length+1)*32≤140737488355328) :
 Ct Tryz.prog W 53 [.slice a r.length c,acV ac] [rwP (a,c) r] (fun x:Option Addr × Nat=>.tuple #[.slice x.1 (setR r ac).length x.2,.int .i64 (setE r ac:Nat)]) (fun x=>[rwP x (setR r ac)]):=by
 have cg:=d15good_ct (W:=W) (a:=ac) hi hb
 have ck:=d15key_ct (W:=W) ac.id (by omega)
 have cf:=d15find_ct (W:=W) (a:=a) (c:=c) (r:=r) (by omega) (aKey ac.id)
 have no:setE r ac≠0→setR r ac=r:=fun h=>if_neg h
 cases h1:goodA ac with
 |false=>
  rw [h1] at cg
  have e:setE r ac=7:=by unfold setE;rw [h1];rfl
  rw [no (by rw [e];decide),e]
  refine Ct.enter Tryz.func53 rfl Tryz.ntmps53 (by simp) (fun R=>?_)
  repeat' (first|(refine zBm ?_;refine zBi rfl xF rfl (fun ga=>?_))|(refine zAe ?_;refine zAb xE cg xP rfl (fun _=>?_))|refine xst ?_|(refine xsa ?_;intro _)|(refine xsb ?_ ?_ <;>intro _<;>try (exfalso;omega))|refine xsc ?_|fail)
  all_goals (exact xdn (a,c))
 |true=>
  rw [h1] at cg
  cases h3:lk r (aKey ac.id) with
  |none=>
   rw [h3] at cf
   have e:setE r ac=20:=by unfold setE;rw [h1,h3];rfl
   rw [no (by rw [e];decide),e]
   refine Ct.enter Tryz.func53 rfl Tryz.ntmps53 (by simp) (fun R=>?_)
   repeat' (first|(refine zBm ?_;refine zBi rfl xF rfl (fun ga=>?_))|(refine zAe ?_;first|(refine zAb xE cg xP rfl (fun _=>?_))|(refine zAb xE ck xP rfl (fun _=>?_))|(refine zAb xE cf xP rfl (fun _=>?_)))|refine xst ?_|(refine xsa ?_;intro _)|(refine xsb ?_ ?_ <;>intro _<;>try (exfalso;omega))|refine xsc ?_|fail)
   all_goals (exact xdn (a,c))
  |some s=>
   rw [h3] at cf
   obtain ⟨e,er⟩:=setQ_yes h1 h3
   rw [er,e]
   have cp:=d15put_ct (W:=W) (a:=a) (c:=c) (r:=r) h1 hi hr hl
   obtain ⟨r',hr'⟩:∃ r',r'=putR r (aKey ac.id) (rowA ac):=⟨_,rfl⟩
   rw [← hr'] at cp ⊢
   clear hr' er e no
   refine Ct.enter Tryz.func53 rfl Tryz.ntmps53 (by simp) (fun R=>?_)
   repeat' (first|(refine zBm ?_;refine zBi rfl xF rfl (fun ga=>?_))|(refine zAe ?_;first|(refine zAb xE cg xP rfl (fun _=>?_))|(refine zAb xE ck xP rfl (fun _=>?_))|(refine zAb xE cf xP rfl (fun _=>?_))|(refine zAb xE cp xP rfl (fun x=>?_)))|refine xst ?_|(refine xsa ?_;intro _)|(refine xsb ?_ ?_ <;>intro _<;>try (exfalso;omega))|refine xsc ?_|fail)
   all_goals (exact xdn x)
theorem getD15_some {o:Option (List UInt8)} {b:Acct} (h:getO id o=some b):getD15 id o=.tuple #[acV b,.int .i64 0]:=by unfold getD15;rw [h,getE_some h];rfl
theorem getD15_none {o:Option (List UInt8)} (h:getO id o=none):getD15 id o=.tuple #[acV ac0,.int .i64 (getE id o:Nat)]:=by unfold getD15;rw [h];rfl
theorem d15freeze_ct (hi:id.length≤2000000) (hr:RisR r) (hl:(r.length+1)*32≤140737488355328) (on:Bool) :
 Ct Tryz.prog W 80 [.slice a r.length c,strV id,.bool on] [rwP (a,c) r] (fun x:Option Addr × Nat=>.tuple #[.slice x.1 (freezeR r id on).length x.2,.int .i64 (custE r id:Nat)]) (fun x=>[rwP x (freezeR r id on)]):=by
 have cg:=d15get_ct (W:=W) (a:=a) (c:=c) (r:=r) (id:=id) hi (by omega)
 cases hc:custO r id with
 |none=>
  have er:freezeR r id on=r:=by unfold freezeR;rw [hc]
  rw [er]
  obtain ⟨h1,-,⟨h2,h3⟩|⟨b,h,hk,he⟩⟩:=custO_none hc
  ·rw [getD15_none h2] at cg
   rw [h3] at h1 ⊢
   have q:decide (((getE id (lk r (aKey id)):Nat):Int)≠0)=true:=decide_eq_true (by omega)
   obtain ⟨x,hx⟩:∃ x,x=getE id (lk r (aKey id)):=⟨_,rfl⟩
   rw [← hx] at cg q ⊢
   clear hx
   refine Ct.enter Tryz.func80 rfl Tryz.ntmps80 (by simp) (fun R=>?_)
   repeat' (first|(refine zAe ?_;refine zAb xE cg xP rfl (fun _=>?_))|(refine zBa ?_;refine zAa (zAu rfl rfl q) ?_)|refine xst ?_|(refine xsa ?_;intro _)|(refine xsb ?_ ?_ <;>intro _<;>try (exfalso;omega))|refine xsc ?_|fail)
   all_goals (exact xdn (a,c))
  ·rw [getD15_some h] at cg
   rw [he]
   have q:decide (b.kind≠1)=true:=decide_eq_true hk
   refine Ct.enter Tryz.func80 rfl Tryz.ntmps80 (by simp) (fun R=>?_)
   repeat' (first|(refine zAe ?_;refine zAb xE cg xP rfl (fun _=>?_))|(refine zBa ?_;first|refine zAa (zAu (q:=false) rfl rfl rfl) ?_|refine zAa (zAu rfl rfl q) ?_)|refine xst ?_|(refine xsa ?_;intro _)|(refine xsb ?_ ?_ <;>intro _<;>try (exfalso;omega))|refine xsc ?_|fail)
   all_goals (exact xdn (a,c))
 |some b=>
  obtain ⟨h1,h,hk,hid,hgd,hlk⟩:=custO_some hc
  rw [getD15_some h] at cg
  rw [h1]
  have q:decide (b.kind≠1)=false:=decide_eq_false (by omega)
  have er:freezeR r id on=putR r (aKey id) (rowA { b with frozen:=on }):=by
   unfold freezeR
   rw [hc]
   dsimp only
   split
   ·rename_i hf
    have e:({ b with frozen:=on }:Acct)=b:=by cases b;cases hf;rfl
    rw [e,put_same hr hlk]
   ·rfl
  have cp:=d15put_ct (W:=W) (a:=a) (c:=c) (r:=r) (ac:={ b with frozen:=on }) (frozen_good hk hgd on) (by show b.id.length≤_;rw [hid];exact hi) hr hl
  rw [er]
  have ek:aKey ({ b with frozen:=on }:Acct).id=aKey id:=by show aKey b.id=_;rw [hid]
  rw [ek] at cp
  obtain ⟨r',hr'⟩:∃ r',r'=putR r (aKey id) (rowA { b with frozen:=on }):=⟨_,rfl⟩
  rw [← hr'] at cp ⊢
  have cp:Ct Tryz.prog W 101 [.slice a r.length c,.agg #[strV b.id,strV b.cur,.int .i64 b.kind,.bool on,.int .i64 b.bal,.int .i64 b.held]] [rwP (a,c) r] (fun x:Option Addr × Nat=>.slice x.1 r'.length x.2) (fun x=>[rwP x r']):=cp
  have hv:acV b=.agg #[strV b.id,strV b.cur,.int .i64 b.kind,.bool b.frozen,.int .i64 b.bal,.int .i64 b.held]:=rfl
  rw [hv] at cg
  clear hr' er ek
  refine Ct.enter Tryz.func80 rfl Tryz.ntmps80 (by simp) (fun R=>?_)
  repeat' (first|(refine zAe ?_;first|(refine zAb xE cg xP rfl (fun _=>?_))|(refine zAb xE cp xP rfl (fun x=>?_)))|(refine zBa ?_;first|refine zAa (zAu (q:=false) rfl rfl rfl) ?_|refine zAa (zAu rfl rfl q) ?_)|refine xst ?_|(refine xsa ?_;intro _)|(refine xsb ?_ ?_ <;>intro _<;>try (exfalso;omega))|refine xsc ?_|fail)
  all_goals (exact xdn x)
theorem d15close_ct (hi:id.length≤2000000) (hr:RisR r) (hl:(r.length+1)*32≤140737488355328) :
 Ct Tryz.prog W 81 [.slice a r.length c,strV id] [rwP (a,c) r] (fun x:Option Addr × Nat=>.tuple #[.slice x.1 (closeR r id).length x.2,.int .i64 (closeE r id:Nat)]) (fun x=>[rwP x (closeR r id)]):=by
 have cg:=d15get_ct (W:=W) (a:=a) (c:=c) (r:=r) (id:=id) hi (by omega)
 have no:closeE r id≠0→closeR r id=r:=fun h=>if_neg h
 have ck:=d15key_ct (W:=W) id (by omega)
 cases hc:custO r id with
 |none=>
  have ee:closeE r id=custE r id:=by unfold closeE;rw [hc]
  obtain ⟨h1,-,⟨h2,h3⟩|⟨b,h,hk,he⟩⟩:=custO_none hc
  ·rw [no (by rw [ee];exact h1),ee]
   rw [getD15_none h2] at cg
   rw [h3] at h1 ⊢
   have q:decide (((getE id (lk r (aKey id)):Nat):Int)≠0)=true:=decide_eq_true (by omega)
   obtain ⟨x,hx⟩:∃ x,x=getE id (lk r (aKey id)):=⟨_,rfl⟩
   rw [← hx] at cg q ⊢
   clear hx
   refine Ct.enter Tryz.func81 rfl Tryz.ntmps81 (by simp) (fun R=>?_)
   repeat' (first|(refine zAe ?_;refine zAb xE cg xP rfl (fun _=>?_))|(refine zAx ?_;refine zAa (zAy xV xW) ?_)|(refine zBa ?_;refine zAa (zAu rfl rfl q) ?_)|refine xst ?_|(refine xsa ?_;intro _)|(refine xsb ?_ ?_ <;>intro _<;>try (exfalso;omega))|refine xsc ?_|fail)
   all_goals (exact xdn (a,c))
  ·rw [no (by rw [ee];exact h1),ee]
   rw [getD15_some h] at cg
   rw [he]
   have q:decide (b.kind≠1)=true:=decide_eq_true hk
   refine Ct.enter Tryz.func81 rfl Tryz.ntmps81 (by simp) (fun R=>?_)
   repeat' (first|(refine zAe ?_;refine zAb xE cg xP rfl (fun _=>?_))|(refine zAx ?_;refine zAa (zAy xV xW) ?_)|(refine zBa ?_;first|refine zAa (zAu (q:=false) rfl rfl rfl) ?_|refine zAa (zAu rfl rfl q) ?_)|refine xst ?_|(refine xsa ?_;intro _)|(refine xsb ?_ ?_ <;>intro _<;>try (exfalso;omega))|refine xsc ?_|fail)
   all_goals (exact xdn (a,c))
 |some b=>
  obtain ⟨h1,h,hk,hid,hgd,hlk⟩:=custO_some hc
  rw [getD15_some h] at cg
  have q:decide (b.kind≠1)=false:=decide_eq_false (by omega)
  by_cases hb:b.bal=0
  rotate_left
  ·have qb:decide (b.bal≠0)=true:=decide_eq_true hb
   obtain ⟨ee,er⟩:=closeQ_use hc (.inl hb)
   rw [er,ee]
   refine Ct.enter Tryz.func81 rfl Tryz.ntmps81 (by simp) (fun R=>?_)
   repeat' (first|(refine zAe ?_;refine zAb xE cg xP rfl (fun _=>?_))|(refine zAx ?_;refine zAa (zAy xV xW) ?_)|(refine zBa ?_;first|refine zAa (zAu (q:=false) rfl rfl rfl) ?_|refine zAa (zAu rfl rfl qb) ?_|refine zAa (zAu rfl rfl q) ?_)|refine xst ?_|(refine xsa ?_;intro _)|(refine xsb ?_ ?_ <;>intro _<;>try (exfalso;omega))|refine xsc ?_|fail)
   all_goals (exact xdn (a,c))
  have qb:decide (b.bal≠0)=false:=decide_eq_false (by omega)
  by_cases hh:b.held=0
  rotate_left
  ·have qh:decide (b.held≠0)=true:=decide_eq_true hh
   obtain ⟨ee,er⟩:=closeQ_use hc (.inr hh)
   rw [er,ee]
   refine Ct.enter Tryz.func81 rfl Tryz.ntmps81 (by simp) (fun R=>?_)
   repeat' (first|(refine zAe ?_;refine zAb xE cg xP rfl (fun _=>?_))|(refine zAx ?_;refine zAa (zAy xV xW) ?_)|(refine zBa ?_;first|refine zAa (zAu (q:=false) rfl rfl rfl) ?_|refine zAa (zAu rfl rfl qh) ?_|refine zAa (zAu rfl rfl qb) ?_|refine zAa (zAu rfl rfl q) ?_)|refine xst ?_|(refine xsa ?_;intro _)|(refine xsb ?_ ?_ <;>intro _<;>try (exfalso;omega))|refine xsc ?_|fail)
   all_goals (exact xdn (a,c))
  have qh:decide (b.held≠0)=false:=decide_eq_false (by omega)
  obtain ⟨ee,er⟩:=closeQ_yes hc hb hh
  rw [er,ee]
  have ca:=rapply1 (W:=W) (a:=a) (c:=c) (r:=r) ⟨true,aKey id,[]⟩ hr hl
  have e:apply1 r ⟨true,aKey id,[]⟩=mdel r (aKey id):=rfl
  rw [e] at ca
  obtain ⟨r',hr'⟩:∃ r',r'=mdel r (aKey id):=⟨_,rfl⟩
  rw [← hr'] at ca ⊢
  obtain ⟨k,hk2⟩:∃ k,k=aKey id:=⟨_,rfl⟩
  rw [← hk2] at ck ca
  clear hr' hk2 e er ee
  refine Ct.enter Tryz.func81 rfl Tryz.ntmps81 (by simp) (fun R=>?_)
  repeat' (first|(refine zAe ?_;first|(refine zAb xE (ca _) xP rfl (fun x=>?_))|(refine zAb xE cg xP rfl (fun _=>?_))|(refine zAb xE ck xP rfl (fun _=>?_)))|(refine zBb ?_;refine zBk rfl xF (by rfl) (by omega) rfl (fun gb=>?_))|(refine zAx ?_;refine zAa (zAy xV xW) ?_)|(refine zBa ?_;first|refine zAa (zAu (q:=false) rfl rfl rfl) ?_|refine zAa (zAu rfl rfl qh) ?_|refine zAa (zAu rfl rfl qb) ?_|refine zAa (zAu rfl rfl q) ?_)|refine xst ?_|(refine xsa ?_;intro _)|(refine xsb ?_ ?_ <;>intro _<;>try (exfalso;omega))|refine xsc ?_|fail)
  all_goals (exact xdn x)
end
end Go.Proofs.YtnbgcimalpdfoaaGreatDoor
namespace Go.Proofs.YtnbgcimalpdfoaaGreatDoor
open Go Go.RowKit
abbrev ffB:List UInt8:=[255,255,255,255,255,255,255,255]
section
variable {W:World} {F:Nat→Addr} {t m:Nat} {r:Rows}
instance fn_look15:FnIs Tryz.prog 37:=⟨by kernel_rfl⟩
instance fn_same15:FnIs Tryz.prog 38:=⟨by kernel_rfl⟩
theorem look15_ct (hl:r.length*32≤140737488355328) (hk:∀ p ∈ r,Op.bytesLess p.1 ffB=true) :
 Ct Tryz.prog W 37 [.pointer (some ⟨t,0,none⟩)] [TxQ t r false m] (fun x:Option Addr × Nat=>.tuple #[.slice x.1 r.length x.2,.bool true]) (fun x=>[TxQ t r false m,rwP x r]):=by
 refine Ct.enter Tryz.func37 rfl Tryz.ntmps37 (by simp) (fun R=>?_)
 refine KJ.unpack_at (F:=fun x:{x:Nat × List (List UInt8 × Bool) × List UE//x.2.2.length≤m}=>[TxP t x.1.1 r x.1.2.1 x.1.2.2 false]) xS (fun ⟨(s,K,U),hU⟩=>?_)
 dsimp only at hU ⊢
 refine KJ.txOpen xS (fun y hT=>?_)
 have hT':=hT
 obtain ⟨tr,h1,-,h3,h4⟩:=hT'
 have hfr:tr.frm []=r:=by rw [frm_nil,h3]
 have hR:RgOk y.N y.a tr [] ffB r.length:=⟨h1,by rw [hfr];exact Nat.le_refl _,fun i p hp _=>hk p (by rw [hfr] at hp;exact List.mem_of_getElem? hp),fun p hp=>by rw [hfr,List.getElem?_eq_none (Nat.le_refl _)] at hp;cases hp⟩
 have cR:=txrange_open (W:=W) (t:=t) (s:=s) (l:=U.length) (y:=y) [] ffB
 repeat' (first|(refine zBg ?_;refine zBe rfl (fun g4=>?_))|(refine zAe ?_;refine zAb xE cR xP rfl (fun z=>?_);obtain ⟨z1,z2,z3⟩:=z)|(refine zBb ?_;first|(refine KJ_bslice0 rfl (fun gm=>?_))|(refine KJ_bsliceN (len:=8) (places:=[(0,1),(1,1),(2,1),(3,1),(4,1),(5,1),(6,1),(7,1)]) (base:=[.int .u8 0,.int .u8 0,.int .u8 0,.int .u8 0,.int .u8 0,.int .u8 0,.int .u8 0,.int .u8 0]) xV (by rfl) (by rfl) xW (by omega) rfl (fun gb=>?_)))|(refine zBf ?_;refine zAa (Ev_bytesStr0 (l:=ffB) rfl xS rfl) ?_)|(refine zAv ?_;refine zAa (Ev_eqlFn2 rfl rfl) ?_)|refine xst ?_|(refine xsa ?_;intro _)|(refine xsb ?_ ?_ <;>intro _<;>try (exfalso;omega))|refine xsc ?_|fail)
 obtain ⟨G,hG⟩:∃ G:Nat→Option Addr × Nat→List SP,G=fun i x=>[zAp g4 [.slice x.1 (r.take i).length x.2] 37,lsP rC 89 2 (.slice x.1 (r.take i).length x.2) (r.take i)]:=⟨_,rfl⟩
 have hGi:∀ i x,G i x=[zAp g4 [.slice x.1 (r.take i).length x.2] 37,lsP rC 89 2 (.slice x.1 (r.take i).length x.2) (r.take i)]:=fun i x=>by rw [hG]
 clear hG
 refine KJ.packs (tag:=52) (key:=g4) (F:=G 0) (some ⟨gm,0,none⟩,0) (by rw [hGi];exact xP) ?_
 refine KJ_rangeRng (x:=(z1,z2,z3)) (a:=y.a) (N:=y.N) rfl rfl hR rfl (by decide) (fun i=>packP 52 g4 (G i)) (fun _=>factP False) .ret xP (fun l i p hp him R'=>?_) ?_ (fun i him=>?_)
 ·rw [hfr] at hp
  dsimp only [Env.ofPs]
  refine KJ.unpack_at (F:=G i) xS (fun x=>?_)
  rw [hGi]
  have em:r.take i++[p]=r.take (i+1):=by rw [List.take_add_one,hp];rfl
  have b1:((r.take i).length+1)*32≤140737488355328:=by rw [List.length_take];omega
  have b2:(r.take i).length+1≤9223372036854775807:=by omega
  repeat' (first|(refine is_begin ?_;refine KJ_begin xS ?_)|(refine zBp ?_;refine zCc (a:=p) rC_ok rfl rfl rfl xS xS b1 b2 rfl (fun g5 c5=>?_))|(refine zBb ?_;refine zBk rfl xF (by rfl) (by omega) rfl (fun gb=>?_))|(refine zAx ?_;refine zAa (zAy xV xW) ?_)|refine xst ?_|(refine xsa ?_;intro _)|(refine xsb ?_ ?_ <;>intro _<;>try (exfalso;omega))|refine xsc ?_|fail)
  rw [em]
  refine KJ.packs (tag:=52) (key:=g4) (F:=G (i+1)) (some ⟨g5,0,none⟩,c5) (by rw [hGi];exact xP) ?_
  exact KJ_round_t xS (xN)
 ·refine KJ.unpack_at (F:=G r.length) xS (fun x=>?_)
  rw [hGi,List.take_length]
  repeat' (first|refine xst ?_|(refine xsa ?_;intro _)|(refine xsb ?_ ?_ <;>intro _<;>try (exfalso;omega))|refine xsc ?_|fail)
  all_goals refine KJ.txShut (s:=s) (K:=K) (U:=U) (ended:=false) y hT xP ?_
  all_goals refine KJ.packs (tag:=83) (key:=t) (F:=fun x:{x:Nat × List (List UInt8 × Bool) × List UE//x.2.2.length≤m}=>[TxP t x.1.1 r x.1.2.1 x.1.2.2 false]) ⟨(s,K,U),hU⟩ xP ?_
  all_goals (exact xdn x)
 ·exact KJ.absurdF xS
end
end Go.Proofs.YtnbgcimalpdfoaaGreatDoor
