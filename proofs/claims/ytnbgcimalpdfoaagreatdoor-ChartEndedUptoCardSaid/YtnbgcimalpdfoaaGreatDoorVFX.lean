/-
  ChD1, ChS2.
-/
import Derived.Test.YtnbgcimalpdfoaaGreatDoorVFQ
import Derived.Test.YtnbgcimalpdfoaaGreatDoorVFR
import Derived.Test.YtnbgcimalpdfoaaGreatDoorVFV
import Derived.Test.YtnbgcimalpdfoaaGreatDoorVFC
import Derived.Test.YtnbgcimalpdfoaaGreatDoorVFJ
set_option maxHeartbeats 64000000
namespace Go.Proofs.YtnbgcimalpdfoaaGreatDoor
open Go Go.RowKit
theorem drop_lk2 {L:Rows} {i:Nat} {p:List UInt8 × List UInt8} {a:List UInt8} (h:L[i]? = some p):lk (L.drop i) a=if p.1=a then some p.2 else lk (L.drop (i+1)) a:=by
 obtain ⟨hk,hb⟩:=List.getElem?_eq_some_iff.1 h
 rw [List.drop_eq_getElem_cons hk,hb]
 rfl
abbrev rwP (x:Option Addr × Nat) (l:Rows):SP:=lsP rC 89 2 (.slice x.1 l.length x.2) l
section
variable {W:World} {a:Option Addr} {c:Nat} {r:Rows} {id cur:List UInt8} {ac:Acct}
instance fn_d15find:FnIs Tryz.prog 100:=⟨by kernel_rfl⟩
instance fn_d15put:FnIs Tryz.prog 101:=⟨by kernel_rfl⟩
instance fn_d15open:FnIs Tryz.prog 52:=⟨by kernel_rfl⟩
instance fn_d15set:FnIs Tryz.prog 53:=⟨by kernel_rfl⟩
instance fn_d15found:FnIs Tryz.prog 51:=⟨by kernel_rfl⟩
theorem d15find_ct (hl:r.length≤4611686018427387904) (key:List UInt8) :
 Ct Tryz.prog W 100 [.slice a r.length c,strV key] [rwP (a,c) r] (fun _:Unit=>.tuple #[strV ((lk r key).getD []),.bool (lk r key).isSome]) (fun _=>[rwP (a,c) r]):=by
 have hL:Lv W rC 2 (rwP (a,c) r) a r:=Lv.own rC_ok rfl
 obtain ⟨A,hA⟩:∃ A,A=rwP (a,c) r:=⟨_,rfl⟩
 rw [← hA] at hL ⊢
 clear hA
 obtain ⟨o,ho⟩:∃ o,o=lk r key:=⟨_,rfl⟩
 rw [← ho]
 refine Ct.enter Tryz.func100 rfl Tryz.ntmps100 (by simp) (fun R=>?_)
 repeat' (first|refine xst ?_|(refine xsa ?_;intro _)|(refine xsb ?_ ?_ <;>intro _<;>try (exfalso;omega))|refine xsc ?_|fail)
 refine zBe (fun x:{x:Nat//x≤r.length∧lk (r.drop x) key=o}=>[(1,strV key),(8,.slice a r.length c),(9,.int .i64 (r.length:Nat)),(10,.int .i64 (x.1:Nat))])
  (fun _=>[A]++R) (fun x=>r.length-x.1) ⟨0,Nat.zero_le _,ho.symm⟩ xB (xN) (fun ⟨i,hi,hd⟩=>?_)
 dsimp only at hi hd ⊢
 by_cases hlt:i<r.length
 rotate_left
 ·have ql:decide ((i:Int)<(r.length:Nat))=false:=decide_eq_false (by omega)
  obtain rfl:i=r.length:=by omega
  rw [List.drop_length] at hd
  repeat' (first|(refine zAi ?_;refine zAb (zAd rfl rfl ql) ?_)|refine xst ?_|(refine xsa ?_;intro _)|(refine xsb ?_ ?_ <;>intro _<;>try (exfalso;omega))|refine xsc ?_|fail)
  all_goals exact xdn () (hc:=by rw [← hd];rfl)
 have ql:decide ((i:Int)<(r.length:Nat))=true:=decide_eq_true (by omega)
 obtain ⟨p,hp⟩:∃ s,r[i]? = some s:=⟨_,List.getElem?_eq_getElem hlt⟩
 rw [drop_lk2 hp] at hd
 refine KJ.lvSome hL xS (by omega) (fun b of hab=>?_)
 subst hab
 have hoff:of+Int.toNat (i:Int)*2=of+i*2:=by simp
 by_cases hk:p.1=key
 ·rw [if_pos hk] at hd
  repeat' (first|(refine zBd ?_;refine zBb rfl (fun g=>?_))|(refine zAp ?_;refine zAb (zBt rC_ok hL rfl rfl xS hoff hp) ?_)|(refine zAx ?_;refine zAb (Ev_eqlS_t rfl rfl hk) ?_)|(refine zAi ?_;refine zAb (zAd rfl rfl ql) ?_)|refine xst ?_|(refine xsa ?_;intro _)|(refine xsb ?_ ?_ <;>intro _<;>try (exfalso;omega))|refine xsc ?_|fail)
  all_goals exact xdn () (hc:=by rw [← hd];rfl)
 ·rw [if_neg hk] at hd
  repeat' (first|(refine zBd ?_;refine zBb rfl (fun g=>?_))|(refine zAp ?_;refine zAb (zBt rC_ok hL rfl rfl xS hoff hp) ?_)|(refine zAu ?_;refine zAb (zAh (r:=((i+1:Nat):Int)) rfl rfl (by omega) (by omega)) ?_)|(refine zAx ?_;refine zAb (Ev_eqlS_f rfl rfl hk) ?_)|(refine zAi ?_;refine zAb (zAd rfl rfl ql) ?_)|refine xst ?_|(refine xsa ?_;intro _)|(refine xsb ?_ ?_ <;>intro _<;>try (exfalso;omega))|refine xsc ?_|fail)
  all_goals refine zAr ⟨i+1,hlt,hd⟩ (by show r.length-(i+1)<r.length-i;omega) xB (xN)
theorem rapply1 (op:BOp) (hr:RisR r) (hl:(r.length+1)*32≤140737488355328) (g:Nat):Ct Tryz.prog W 78 [.slice a r.length c,.slice (some ⟨g,0,none⟩) 1 1] [rwP (a,c) r,zAn g (opC op) 137] (fun x:Option Addr × Nat=>.slice x.1 (apply1 r op).length x.2) (fun x=>[rwP x (apply1 r op)]):=
 (rapply_ct (W:=W) (rwP (a,c) r) (zAn g (opC op) 137) a (some ⟨g,0,none⟩) c 1 r [op] (Lv.own rC_ok rfl) (Lv.cells (by simp)) hr (by simpa using hl)).to _root_.id (fun _=>rfl) (fun x R g q=>(DropTo.there (DropTo.there DropTo.refl)).star g q)
theorem d15put_ct (hg:goodA ac=true) (hi:ac.id.length≤2000000) (hr:RisR r) (hl:(r.length+1)*32≤140737488355328) :
 Ct Tryz.prog W 101 [.slice a r.length c,acV ac] [rwP (a,c) r] (fun x:Option Addr × Nat=>.slice x.1 (putR r (aKey ac.id) (rowA ac)).length x.2) (fun x=>[rwP x (putR r (aKey ac.id) (rowA ac))]):=by
 obtain ⟨-,-,-,k4,k5,-⟩:=goodA_in hg
 have ce:=d15enc_ct (W:=W) (a:=ac) hi ⟨k4,k5⟩
 rw [hg] at ce
 dsimp only [cond] at ce
 have ck:=d15key_ct (W:=W) ac.id (by omega)
 have ca:=rapply1 (W:=W) (a:=a) (c:=c) (r:=r) ⟨false,aKey ac.id,rowA ac⟩ hr hl
 have e:apply1 r ⟨false,aKey ac.id,rowA ac⟩=putR r (aKey ac.id) (rowA ac):=rfl
 rw [e] at ca
 obtain ⟨r',hr'⟩:∃ r',r'=putR r (aKey ac.id) (rowA ac):=⟨_,rfl⟩
 rw [← hr'] at ca ⊢
 obtain ⟨k,hk⟩:∃ k,k=aKey ac.id:=⟨_,rfl⟩
 obtain ⟨v,hv⟩:∃ v,v=rowA ac:=⟨_,rfl⟩
 rw [← hk] at ck ca
 rw [← hv] at ce ca
 clear hr' hk hv e
 refine Ct.enter Tryz.func101 rfl Tryz.ntmps101 (by simp) (fun R=>?_)
 repeat' (first|(refine zBn ?_;refine zBg rfl xF rfl (fun ga=>?_))|(refine zAe ?_;first|(refine zAa xE (ca _) xP rfl (fun x=>?_))|(refine zAa xE ck xP rfl (fun _=>?_))|(refine zAa xE ce xP rfl (fun _=>?_)))|(refine zAw ?_;refine zBa rfl xF (by rfl) (by omega) rfl (fun gb=>?_))|(refine zBk ?_;refine zAb (zBm xV xW) ?_)|refine xst ?_|(refine xsa ?_;intro _)|(refine xsb ?_ ?_ <;>intro _<;>try (exfalso;omega))|refine xsc ?_|fail)
 all_goals (exact xdn x)
theorem d15open_ct (hi:id.length≤2000000) (hr:RisR r) (hl:(r.length+1)*32≤140737488355328) :
 Ct Tryz.prog W 52 [.slice a r.length c,strV id,strV cur] [rwP (a,c) r] (fun x:Option Addr × Nat=>.tuple #[.slice x.1 (openR r id cur).length x.2,.int .i64 (openE r id cur:Nat)]) (fun x=>[rwP x (openR r id cur)]):=by
 have ci:=dcheck_ct (W:=W) id hi
 have cc:=dcode_ct (W:=W) cur
 have ck:=d15key_ct (W:=W) id (by omega)
 have cf:=d15find_ct (W:=W) (a:=a) (c:=c) (r:=r) (by omega) (aKey id)
 have no:openE r id cur≠0→openR r id cur=r:=fun h=>if_neg h
 by_cases h1:accE id=0
 rotate_left
 ·have q:decide (((accE id:Nat):Int)≠0)=true:=decide_eq_true (by omega)
  have e:openE r id cur=20:=if_pos h1
  rw [no (by rw [e];decide),e]
  refine Ct.enter Tryz.func52 rfl Tryz.ntmps52 (by simp) (fun R=>?_)
  repeat' (first|(refine zAe ?_;refine zAa xE ci xP rfl (fun _=>?_))|(refine zBc ?_;refine zAb (Ev_neqI_q rfl rfl q) ?_)|refine xst ?_|(refine xsa ?_;intro _)|(refine xsb ?_ ?_ <;>intro _<;>try (exfalso;omega))|refine xsc ?_|fail)
  all_goals (exact xdn (a,c))
 rw [h1] at ci
 cases h2:codeB cur with
 |false=>
  rw [h2] at cc
  have e:openE r id cur=11:=by unfold openE;rw [if_neg (by omega),h2];rfl
  rw [no (by rw [e];decide),e]
  refine Ct.enter Tryz.func52 rfl Tryz.ntmps52 (by simp) (fun R=>?_)
  repeat' (first|(refine zAe ?_;first|(refine zAa xE ci xP rfl (fun _=>?_))|(refine zAa xE cc xP rfl (fun _=>?_)))|(refine zBc ?_;refine zAb (Ev_neqI_q (q:=false) rfl rfl rfl) ?_)|refine xst ?_|(refine xsa ?_;intro _)|(refine xsb ?_ ?_ <;>intro _<;>try (exfalso;omega))|refine xsc ?_|fail)
  all_goals (exact xdn (a,c))
 |true=>
  rw [h2] at cc
  cases h3:lk r (aKey id) with
  |some s=>
   rw [h3] at cf
   have e:openE r id cur=21:=by unfold openE;rw [if_neg (by omega),h2,h3];rfl
   rw [no (by rw [e];decide),e]
   refine Ct.enter Tryz.func52 rfl Tryz.ntmps52 (by simp) (fun R=>?_)
   repeat' (first|(refine zAe ?_;first|(refine zAa xE ci xP rfl (fun _=>?_))|(refine zAa xE cc xP rfl (fun _=>?_))|(refine zAa xE ck xP rfl (fun _=>?_))|(refine zAa xE cf xP rfl (fun _=>?_)))|(refine zBc ?_;refine zAb (Ev_neqI_q (q:=false) rfl rfl rfl) ?_)|refine xst ?_|(refine xsa ?_;intro _)|(refine xsb ?_ ?_ <;>intro _<;>try (exfalso;omega))|refine xsc ?_|fail)
   all_goals (exact xdn (a,c))
  |none=>
   rw [h3] at cf
   obtain ⟨e,er⟩:=openQ_yes h1 h2 h3
   rw [er,e]
   have cp:=d15put_ct (W:=W) (a:=a) (c:=c) (r:=r) (ac:=newA id cur) (newA_good h1 h2) hi hr hl
   obtain ⟨r',hr'⟩:∃ r',r'=putR r (aKey id) (rowA (newA id cur)):=⟨_,rfl⟩
   have cp:Ct Tryz.prog W 101 [.slice a r.length c,.agg #[strV id,strV cur,.int .i64 1,.bool false,.int .i64 0,.int .i64 0]] [rwP (a,c) r] (fun x:Option Addr × Nat=>.slice x.1 r'.length x.2) (fun x=>[rwP x r']):=by rw [hr'];exact cp
   rw [← hr']
   clear hr' er e no
   refine Ct.enter Tryz.func52 rfl Tryz.ntmps52 (by simp) (fun R=>?_)
   repeat' (first|(refine zAe ?_;first|(refine zAa xE ci xP rfl (fun _=>?_))|(refine zAa xE cc xP rfl (fun _=>?_))|(refine zAa xE ck xP rfl (fun _=>?_))|(refine zAa xE cf xP rfl (fun _=>?_))|(refine zAa xE cp xP rfl (fun x=>?_)))|(refine zBk ?_;refine zAb (zBm xV xW) ?_)|(refine zBc ?_;refine zAb (Ev_neqI_q (q:=false) rfl rfl rfl) ?_)|refine xst ?_|(refine xsa ?_;intro _)|(refine xsb ?_ ?_ <;>intro _<;>try (exfalso;omega))|refine xsc ?_|fail)
   all_goals (exact xdn x)
theorem d15set_ct (hi:ac.id.length≤2000000) (hb:-9223372036854775808≤ac.bal∧ac.bal≤9223372036854775807) (hr:RisR r) (hl:(r.length+1)*32≤140737488355328) :
 Ct Tryz.prog W 53 [.slice a r.length c,acV ac] [rwP (a,c) r] (fun x:Option Addr × Nat=>.tuple #[.slice x.1 (setR r ac).length x.2,.int .i64 (setE r ac:Nat)]) (fun x=>[rwP x (setR r ac)]):=by
 have cg:=d15good_ct (W:=W) (a:=ac) hi hb
 have ck:=d15key_ct (W:=W) ac.id (by omega)
 have cf:=d15find_ct (W:=W) (a:=a) (c:=c) (r:=r) (by omega) (aKey ac.id)
 have no:setE r ac≠0→setR r ac=r:=fun h=>if_neg h
 cases h1:goodA ac with
 |false=>
  rw [h1] at cg
  have e:setE r ac=7:=by unfold setE;rw [h1];rfl
  rw [no (by rw [e];decide),e]
  refine Ct.enter Tryz.func53 rfl Tryz.ntmps53 (by simp) (fun R=>?_)
  repeat' (first|(refine zBn ?_;refine zBg rfl xF rfl (fun ga=>?_))|(refine zAe ?_;refine zAa xE cg xP rfl (fun _=>?_))|refine xst ?_|(refine xsa ?_;intro _)|(refine xsb ?_ ?_ <;>intro _<;>try (exfalso;omega))|refine xsc ?_|fail)
  all_goals (exact xdn (a,c))
 |true=>
  rw [h1] at cg
  cases h3:lk r (aKey ac.id) with
  |none=>
   rw [h3] at cf
   have e:setE r ac=20:=by unfold setE;rw [h1,h3];rfl
   rw [no (by rw [e];decide),e]
   refine Ct.enter Tryz.func53 rfl Tryz.ntmps53 (by simp) (fun R=>?_)
   repeat' (first|(refine zBn ?_;refine zBg rfl xF rfl (fun ga=>?_))|(refine zAe ?_;first|(refine zAa xE cg xP rfl (fun _=>?_))|(refine zAa xE ck xP rfl (fun _=>?_))|(refine zAa xE cf xP rfl (fun _=>?_)))|refine xst ?_|(refine xsa ?_;intro _)|(refine xsb ?_ ?_ <;>intro _<;>try (exfalso;omega))|refine xsc ?_|fail)
   all_goals (exact xdn (a,c))
  |some s=>
   rw [h3] at cf
   obtain ⟨e,er⟩:=setQ_yes h1 h3
   rw [er,e]
   have cp:=d15put_ct (W:=W) (a:=a) (c:=c) (r:=r) h1 hi hr hl
   obtain ⟨r',hr'⟩:∃ r',r'=putR r (aKey ac.id) (rowA ac):=⟨_,rfl⟩
   rw [← hr'] at cp ⊢
   clear hr' er e no
   refine Ct.enter Tryz.func53 rfl Tryz.ntmps53 (by simp) (fun R=>?_)
   repeat' (first|(refine zBn ?_;refine zBg rfl xF rfl (fun ga=>?_))|(refine zAe ?_;first|(refine zAa xE cg xP rfl (fun _=>?_))|(refine zAa xE ck xP rfl (fun _=>?_))|(refine zAa xE cf xP rfl (fun _=>?_))|(refine zAa xE cp xP rfl (fun x=>?_)))|refine xst ?_|(refine xsa ?_;intro _)|(refine xsb ?_ ?_ <;>intro _<;>try (exfalso;omega))|refine xsc ?_|fail)
   all_goals (exact xdn x)
end
end Go.Proofs.YtnbgcimalpdfoaaGreatDoor
namespace Go.Proofs.YtnbgcimalpdfoaaGreatDoor
open Go Go.RowKit
abbrev ffB:List UInt8:=[255,255,255,255,255,255,255,255]
end Go.Proofs.YtnbgcimalpdfoaaGreatDoor
