/-
  ChR0, ChR1.
-/
import Derived.Test.YtnbgcimalpdfoaaGreatDoorVFB
import Derived.Test.YtnbgcimalpdfoaaGreatDoorVFN
import Derived.Test.YtnbgcimalpdfoaaGreatDoorVFO
set_option maxHeartbeats 64000000
namespace Go.Proofs.YtnbgcimalpdfoaaGreatDoor
open Go Go.RowKit
section
variable {W:World} {a:Acct} {id s:List UInt8}
instance fn_d15key:FnIs Tryz.prog 29:=⟨by kernel_rfl⟩
instance fn_d15good:FnIs Tryz.prog 74:=⟨by kernel_rfl⟩
instance fn_d15fixed:FnIs Tryz.prog 75:=⟨by kernel_rfl⟩
instance fn_d15enc:FnIs Tryz.prog 27:=⟨by kernel_rfl⟩
theorem d15key_ct (acc:List UInt8) (ha:acc.length≤1099511627776):Ct Tryz.prog W 29 [strV acc] [] (fun _:Unit=>strV (aKey acc)) (fun _=>[]):=by
 have hl:=esc_len acc
 have cj:=fun gb=>djoin_ct (W:=W) (zAn gb (kpC [97]++kpC acc) 94) (some ⟨gb,0,none⟩) 2 [[97],acc] (Lv.cells (by simp)) (by simp) (by
  show (keyT [97]++(keyT acc++[])).length≤_
  rw [List.append_nil,List.length_append,keyT_length,keyT_length]
  have:(esc [97]).length=1:=rfl
  omega) (by simp)
 have e:[[97],acc].flatMap keyT=aKey acc:=by unfold aKey;simp
 rw [e] at cj
 refine Ct.enter Tryz.func29 rfl Tryz.ntmps29 (by simp) (fun R=>?_)
 repeat' (first|(refine zAe ?_;refine zAa xE (cj _) xP rfl (fun _=>?_))|(refine zAw ?_;refine KJ_bsliceN (len:=2) (places:=[(0,3),(3,3)]) (base:=kpC []++kpC []) xV (by rfl) (by rfl) xW (by omega) rfl (fun gb=>?_))|(refine zBk ?_;refine zAb (zBm xV xW) ?_)|refine xst ?_|(refine xsa ?_;intro _)|(refine xsb ?_ ?_ <;>intro _<;>try (exfalso;omega))|refine xsc ?_|fail)
 all_goals (exact xdn ())
theorem d15good_ct (hi:a.id.length≤2000000) (hr:-9223372036854775808≤a.bal∧a.bal≤9223372036854775807) :
 Ct Tryz.prog W 74 [acV a] [] (fun _:Unit=>.bool (goodA a)) (fun _=>[]):=by
 have cc:=dcode_ct (W:=W) a.cur
 have ci:=dcheck_ct (W:=W) a.id hi
 cases hc:codeB a.cur with
 |false=>
  rw [hc] at cc
  rw [goodA_code hc]
  refine Ct.enter Tryz.func74 rfl Tryz.ntmps74 (by simp) (fun R=>?_)
  repeat' (first|(refine zBn ?_;refine zBg rfl xF rfl (fun ga=>?_))|(refine zAe ?_;refine zAa xE cc xP rfl (fun _=>?_))|refine xst ?_|(refine xsa ?_;intro _)|(refine xsb ?_ ?_ <;>intro _<;>try (exfalso;omega))|refine xsc ?_|fail)
  all_goals (exact xdn ())
 |true=>
  rw [hc] at cc
  have cs:=fun k hk m hm=>dsys_ct (W:=W) k hk m hm a.cur hc
  have qa:decide (a.kind<1)=decide (a.kind<1):=rfl
  by_cases hk:a.kind=1
  ·have qk:decide (a.kind=1)=true:=decide_eq_true hk
   have qa:decide (a.kind<1)=false:=decide_eq_false (by omega)
   have qb:decide (5<a.kind)=false:=decide_eq_false (by omega)
   by_cases h0:accE a.id=0
   rotate_left
   ·have hne:decide (((accE a.id:Nat):Int)=0)=false:=decide_eq_false (by omega)
    rw [goodA_noC hk (fun h=>by omega)]
    refine Ct.enter Tryz.func74 rfl Tryz.ntmps74 (by simp) (fun R=>?_)
    repeat' (first|(refine zBn ?_;refine zBg rfl xF rfl (fun ga=>?_))|(refine zAe ?_;first|(refine zAa xE ci xP rfl (fun _=>?_))|(refine zAa xE cc xP rfl (fun _=>?_)))|(refine zAx ?_;first|refine zAb (zAf rfl rfl hne) ?_|refine zAb (zAf rfl rfl qk) ?_)|(refine zAi ?_;refine zAb (zAd rfl rfl qa) ?_)|(refine zAz ?_;refine zAb (zAj rfl rfl qb) ?_)|refine xst ?_|(refine xsa ?_;intro _)|(refine xsb ?_ ?_ <;>intro _<;>try (exfalso;omega))|refine xsc ?_|fail)
    all_goals (exact xdn ())
   rw [h0] at ci
   by_cases h1:0≤a.bal
   rotate_left
   ·have q1:decide (0≤a.bal)=false:=decide_eq_false (by omega)
    rw [goodA_noC hk (fun h=>by omega)]
    refine Ct.enter Tryz.func74 rfl Tryz.ntmps74 (by simp) (fun R=>?_)
    repeat' (first|(refine zBn ?_;refine zBg rfl xF rfl (fun ga=>?_))|(refine zAe ?_;first|(refine zAa xE ci xP rfl (fun _=>?_))|(refine zAa xE cc xP rfl (fun _=>?_)))|(refine zAx ?_;first|refine zAb (zAf (q:=true) rfl rfl rfl) ?_|refine zAb (zAf rfl rfl qk) ?_)|(refine zAi ?_;refine zAb (zAd rfl rfl qa) ?_)|(refine zAz ?_;refine zAb (zAj rfl rfl qb) ?_)|(refine zCa ?_;refine zAb (zAv rfl rfl q1) ?_)|refine xst ?_|(refine xsa ?_;intro _)|(refine xsb ?_ ?_ <;>intro _<;>try (exfalso;omega))|refine xsc ?_|fail)
    all_goals (exact xdn ())
   have q1:decide (0≤a.bal)=true:=decide_eq_true (by omega)
   by_cases h2:0≤a.held
   rotate_left
   ·have q2:decide (0≤a.held)=false:=decide_eq_false (by omega)
    rw [goodA_noC hk (fun h=>by omega)]
    refine Ct.enter Tryz.func74 rfl Tryz.ntmps74 (by simp) (fun R=>?_)
    repeat' (first|(refine zBn ?_;refine zBg rfl xF rfl (fun ga=>?_))|(refine zAe ?_;first|(refine zAa xE ci xP rfl (fun _=>?_))|(refine zAa xE cc xP rfl (fun _=>?_)))|(refine zAx ?_;first|refine zAb (zAf (q:=true) rfl rfl rfl) ?_|refine zAb (zAf rfl rfl qk) ?_)|(refine zAi ?_;refine zAb (zAd rfl rfl qa) ?_)|(refine zAz ?_;refine zAb (zAj rfl rfl qb) ?_)|(refine zCa ?_;first|refine zAb (zAv rfl rfl q2) ?_|refine zAb (zAv rfl rfl q1) ?_)|refine xst ?_|(refine xsa ?_;intro _)|(refine xsb ?_ ?_ <;>intro _<;>try (exfalso;omega))|refine xsc ?_|fail)
    all_goals (exact xdn ())
   have q2:decide (0≤a.held)=true:=decide_eq_true (by omega)
   by_cases h3:a.bal≤1000000000000000
   rotate_left
   ·have q3:decide (a.bal≤1000000000000000)=false:=decide_eq_false (by omega)
    rw [goodA_noC hk (fun h=>by omega)]
    refine Ct.enter Tryz.func74 rfl Tryz.ntmps74 (by simp) (fun R=>?_)
    repeat' (first|(refine zBn ?_;refine zBg rfl xF rfl (fun ga=>?_))|(refine zAe ?_;first|(refine zAa xE ci xP rfl (fun _=>?_))|(refine zAa xE cc xP rfl (fun _=>?_)))|(refine zAx ?_;first|refine zAb (zAf (q:=true) rfl rfl rfl) ?_|refine zAb (zAf rfl rfl qk) ?_)|(refine zAi ?_;refine zAb (zAd rfl rfl qa) ?_)|(refine ek_leq ?_;refine zAb (zBf rfl rfl q3) ?_)|(refine zAz ?_;refine zAb (zAj rfl rfl qb) ?_)|(refine zCa ?_;first|refine zAb (zAv rfl rfl q2) ?_|refine zAb (zAv rfl rfl q1) ?_)|refine xst ?_|(refine xsa ?_;intro _)|(refine xsb ?_ ?_ <;>intro _<;>try (exfalso;omega))|refine xsc ?_|fail)
    all_goals (exact xdn ())
   have q3:decide (a.bal≤1000000000000000)=true:=decide_eq_true (by omega)
   by_cases h4:a.held≤1000000000000000-a.bal
   rotate_left
   ·have q4:decide (a.held≤1000000000000000-a.bal)=false:=decide_eq_false (by omega)
    rw [goodA_noC hk (fun h=>by omega)]
    refine Ct.enter Tryz.func74 rfl Tryz.ntmps74 (by simp) (fun R=>?_)
    repeat' (first|(refine zBn ?_;refine zBg rfl xF rfl (fun ga=>?_))|(refine zAe ?_;first|(refine zAa xE ci xP rfl (fun _=>?_))|(refine zAa xE cc xP rfl (fun _=>?_)))|(refine ek_sub ?_;refine zAb (Ev_subI_v rfl rfl rfl (by omega)) ?_)|(refine zAx ?_;first|refine zAb (zAf (q:=true) rfl rfl rfl) ?_|refine zAb (zAf rfl rfl qk) ?_)|(refine zAi ?_;refine zAb (zAd rfl rfl qa) ?_)|(refine ek_leq ?_;first|refine zAb (zBf rfl rfl q4) ?_|refine zAb (zBf rfl rfl q3) ?_)|(refine zAz ?_;refine zAb (zAj rfl rfl qb) ?_)|(refine zCa ?_;first|refine zAb (zAv rfl rfl q2) ?_|refine zAb (zAv rfl rfl q1) ?_)|refine xst ?_|(refine xsa ?_;intro _)|(refine xsb ?_ ?_ <;>intro _<;>try (exfalso;omega))|refine xsc ?_|fail)
    all_goals (exact xdn ())
   have q4:decide (a.held≤1000000000000000-a.bal)=true:=decide_eq_true (by omega)
   rw [goodA_yesC hk hc ⟨h0,h1,h2,h3,h4⟩]
   refine Ct.enter Tryz.func74 rfl Tryz.ntmps74 (by simp) (fun R=>?_)
   repeat' (first|(refine zBn ?_;refine zBg rfl xF rfl (fun ga=>?_))|(refine zAe ?_;first|(refine zAa xE ci xP rfl (fun _=>?_))|(refine zAa xE cc xP rfl (fun _=>?_)))|(refine ek_sub ?_;refine zAb (Ev_subI_v rfl rfl rfl (by omega)) ?_)|(refine zAx ?_;first|refine zAb (zAf (q:=true) rfl rfl rfl) ?_|refine zAb (zAf rfl rfl qk) ?_)|(refine zAi ?_;refine zAb (zAd rfl rfl qa) ?_)|(refine ek_leq ?_;first|refine zAb (zBf rfl rfl q4) ?_|refine zAb (zBf rfl rfl q3) ?_)|(refine zAz ?_;refine zAb (zAj rfl rfl qb) ?_)|(refine zCa ?_;first|refine zAb (zAv rfl rfl q2) ?_|refine zAb (zAv rfl rfl q1) ?_)|refine xst ?_|(refine xsa ?_;intro _)|(refine xsb ?_ ?_ <;>intro _<;>try (exfalso;omega))|refine xsc ?_|fail)
   all_goals (exact xdn ())
  ·have qk:decide (a.kind=1)=false:=decide_eq_false hk
   by_cases h0:2≤a.kind
   rotate_left
   ·have q0:decide (a.kind<1)=true:=decide_eq_true (by omega)
    rw [goodA_noS hk (fun h=>h0 h.1)]
    refine Ct.enter Tryz.func74 rfl Tryz.ntmps74 (by simp) (fun R=>?_)
    repeat' (first|(refine zBn ?_;refine zBg rfl xF rfl (fun ga=>?_))|(refine zAe ?_;refine zAa xE cc xP rfl (fun _=>?_))|(refine zAx ?_;refine zAb (zAf rfl rfl qk) ?_)|(refine zAi ?_;refine zAb (zAd rfl rfl q0) ?_)|refine xst ?_|(refine xsa ?_;intro _)|(refine xsb ?_ ?_ <;>intro _<;>try (exfalso;omega))|refine xsc ?_|fail)
    all_goals (exact xdn ())
   have q0:decide (a.kind<1)=false:=decide_eq_false (by omega)
   by_cases h1:a.kind≤5
   rotate_left
   ·have q1:decide (5<a.kind)=true:=decide_eq_true (by omega)
    rw [goodA_noS hk (fun h=>h1 h.2.1)]
    refine Ct.enter Tryz.func74 rfl Tryz.ntmps74 (by simp) (fun R=>?_)
    repeat' (first|(refine zBn ?_;refine zBg rfl xF rfl (fun ga=>?_))|(refine zAe ?_;refine zAa xE cc xP rfl (fun _=>?_))|(refine zAx ?_;refine zAb (zAf rfl rfl qk) ?_)|(refine zAi ?_;refine zAb (zAd rfl rfl q0) ?_)|(refine zAz ?_;refine zAb (zAj rfl rfl q1) ?_)|refine xst ?_|(refine xsa ?_;intro _)|(refine xsb ?_ ?_ <;>intro _<;>try (exfalso;omega))|refine xsc ?_|fail)
    all_goals (exact xdn ())
   have q1:decide (5<a.kind)=false:=decide_eq_false (by omega)
   obtain ⟨k,hkk⟩:∃ k:Nat,k=(a.kind-2).toNat:=⟨_,rfl⟩
   have cs:=cs k (by omega) a.kind (by omega)
   unfold kindT at cs
   rw [hkk] at cs
   by_cases h2:a.id=kinds4.getD (a.kind-2).toNat []++a.cur
   rotate_left
   ·rw [goodA_noS hk (fun h=>h2 h.2.2.1)]
    refine Ct.enter Tryz.func74 rfl Tryz.ntmps74 (by simp) (fun R=>?_)
    repeat' (first|(refine zBn ?_;refine zBg rfl xF rfl (fun ga=>?_))|(refine zAe ?_;first|(refine zAa xE cs xP rfl (fun _=>?_))|(refine zAa xE cc xP rfl (fun _=>?_)))|(refine zAx ?_;first|refine zAb (Ev_eqlS_f rfl rfl h2) ?_|refine zAb (zAf rfl rfl qk) ?_)|(refine zAi ?_;refine zAb (zAd rfl rfl q0) ?_)|(refine zAz ?_;refine zAb (zAj rfl rfl q1) ?_)|refine xst ?_|(refine xsa ?_;intro _)|(refine xsb ?_ ?_ <;>intro _<;>try (exfalso;omega))|refine xsc ?_|fail)
    all_goals (exact xdn ())
   by_cases h3:a.frozen=false
   rotate_left
   ·have hz:a.frozen=true:=by cases hz:a.frozen with|false=>exact absurd hz h3|true=>rfl
    have hv:acV a=.agg #[strV a.id,strV a.cur,.int .i64 a.kind,.bool true,.int .i64 a.bal,.int .i64 a.held]:=by unfold acV acC;rw [hz]
    rw [hv]
    rw [goodA_noS hk (fun h=>h3 h.2.2.2.1)]
    refine Ct.enter Tryz.func74 rfl Tryz.ntmps74 (by simp) (fun R=>?_)
    repeat' (first|(refine zBn ?_;refine zBg rfl xF rfl (fun ga=>?_))|(refine zAe ?_;first|(refine zAa xE cs xP rfl (fun _=>?_))|(refine zAa xE cc xP rfl (fun _=>?_)))|(refine zAx ?_;first|refine zAb (Ev_eqlS_t rfl rfl h2) ?_|refine zAb (zAf rfl rfl qk) ?_)|(refine zAi ?_;refine zAb (zAd rfl rfl q0) ?_)|(refine zAz ?_;refine zAb (zAj rfl rfl q1) ?_)|refine xst ?_|(refine xsa ?_;intro _)|(refine xsb ?_ ?_ <;>intro _<;>try (exfalso;omega))|refine xsc ?_|fail)
    all_goals (exact xdn ())
   have hv:acV a=.agg #[strV a.id,strV a.cur,.int .i64 a.kind,.bool false,.int .i64 a.bal,.int .i64 a.held]:=by unfold acV acC;rw [h3]
   rw [hv]
   by_cases h4:a.held=0
   rotate_left
   ·have q4:decide (a.held=0)=false:=decide_eq_false (by omega)
    rw [goodA_noS hk (fun h=>h4 h.2.2.2.2.1)]
    refine Ct.enter Tryz.func74 rfl Tryz.ntmps74 (by simp) (fun R=>?_)
    repeat' (first|(refine zBn ?_;refine zBg rfl xF rfl (fun ga=>?_))|(refine zAe ?_;first|(refine zAa xE cs xP rfl (fun _=>?_))|(refine zAa xE cc xP rfl (fun _=>?_)))|(refine zAx ?_;first|refine zAb (zAf rfl rfl q4) ?_|refine zAb (Ev_eqlS_t rfl rfl h2) ?_|refine zAb (zAf rfl rfl qk) ?_)|(refine zAi ?_;refine zAb (zAd rfl rfl q0) ?_)|(refine zAz ?_;refine zAb (zAj rfl rfl q1) ?_)|refine xst ?_|(refine xsa ?_;intro _)|(refine xsb ?_ ?_ <;>intro _<;>try (exfalso;omega))|refine xsc ?_|fail)
    all_goals (exact xdn ())
   have q4:decide (a.held=0)=true:=decide_eq_true (by omega)
   by_cases h5:-4611686018427387904≤a.bal
   rotate_left
   ·have q5:decide (-4611686018427387904≤a.bal)=false:=decide_eq_false (by omega)
    rw [goodA_noS hk (fun h=>h5 h.2.2.2.2.2.1)]
    refine Ct.enter Tryz.func74 rfl Tryz.ntmps74 (by simp) (fun R=>?_)
    repeat' (first|(refine zBn ?_;refine zBg rfl xF rfl (fun ga=>?_))|(refine zAe ?_;first|(refine zAa xE cs xP rfl (fun _=>?_))|(refine zAa xE cc xP rfl (fun _=>?_)))|(refine zAx ?_;first|refine zAb (zAf rfl rfl q4) ?_|refine zAb (Ev_eqlS_t rfl rfl h2) ?_|refine zAb (zAf rfl rfl qk) ?_)|(refine zAi ?_;refine zAb (zAd rfl rfl q0) ?_)|(refine zAz ?_;refine zAb (zAj rfl rfl q1) ?_)|(refine zCa ?_;refine zAb (zAv rfl rfl q5) ?_)|refine xst ?_|(refine xsa ?_;intro _)|(refine xsb ?_ ?_ <;>intro _<;>try (exfalso;omega))|refine xsc ?_|fail)
    all_goals (exact xdn ())
   have q5:decide (-4611686018427387904≤a.bal)=true:=decide_eq_true (by omega)
   by_cases h6:a.bal≤4611686018427387904
   rotate_left
   ·have q6:decide (a.bal≤4611686018427387904)=false:=decide_eq_false (by omega)
    rw [goodA_noS hk (fun h=>h6 h.2.2.2.2.2.2)]
    refine Ct.enter Tryz.func74 rfl Tryz.ntmps74 (by simp) (fun R=>?_)
    repeat' (first|(refine zBn ?_;refine zBg rfl xF rfl (fun ga=>?_))|(refine zAe ?_;first|(refine zAa xE cs xP rfl (fun _=>?_))|(refine zAa xE cc xP rfl (fun _=>?_)))|(refine zAx ?_;first|refine zAb (zAf rfl rfl q4) ?_|refine zAb (Ev_eqlS_t rfl rfl h2) ?_|refine zAb (zAf rfl rfl qk) ?_)|(refine zAi ?_;refine zAb (zAd rfl rfl q0) ?_)|(refine ek_leq ?_;refine zAb (zBf rfl rfl q6) ?_)|(refine zAz ?_;refine zAb (zAj rfl rfl q1) ?_)|(refine zCa ?_;refine zAb (zAv rfl rfl q5) ?_)|refine xst ?_|(refine xsa ?_;intro _)|(refine xsb ?_ ?_ <;>intro _<;>try (exfalso;omega))|refine xsc ?_|fail)
    all_goals (exact xdn ())
   have q6:decide (a.bal≤4611686018427387904)=true:=decide_eq_true (by omega)
   rw [goodA_yesS hk hc ⟨h0,h1,h2,h3,h4,h5,h6⟩]
   refine Ct.enter Tryz.func74 rfl Tryz.ntmps74 (by simp) (fun R=>?_)
   repeat' (first|(refine zBn ?_;refine zBg rfl xF rfl (fun ga=>?_))|(refine zAe ?_;first|(refine zAa xE cs xP rfl (fun _=>?_))|(refine zAa xE cc xP rfl (fun _=>?_)))|(refine zAx ?_;first|refine zAb (zAf rfl rfl q4) ?_|refine zAb (Ev_eqlS_t rfl rfl h2) ?_|refine zAb (zAf rfl rfl qk) ?_)|(refine zAi ?_;refine zAb (zAd rfl rfl q0) ?_)|(refine ek_leq ?_;refine zAb (zBf rfl rfl q6) ?_)|(refine zAz ?_;refine zAb (zAj rfl rfl q1) ?_)|(refine zCa ?_;refine zAb (zAv rfl rfl q5) ?_)|refine xst ?_|(refine xsa ?_;intro _)|(refine xsb ?_ ?_ <;>intro _<;>try (exfalso;omega))|refine xsc ?_|fail)
   all_goals (exact xdn ())
end
end Go.Proofs.YtnbgcimalpdfoaaGreatDoor
namespace Go.Proofs.YtnbgcimalpdfoaaGreatDoor
open Go Go.RowKit
section
variable {W:World} {a:Acct} {id s:List UInt8}
theorem d15fixed_ct (x:Int):Ct Tryz.prog W 75 [.int .i64 x] [] (fun z:Nat × Nat=>.slice (some ⟨z.1,0,none⟩) 8 z.2) (fun z=>[byP (.slice (some ⟨z.1,0,none⟩) 8 z.2) (loB 8 (uT x))]):=by
 have wx:=u64_uT x
 have hx:=uT_lt x
 obtain ⟨x,hxx⟩:∃ u,u=uT x:=⟨_,rfl⟩
 rw [← hxx] at wx hx ⊢
 clear hxx
 refine Ct.enter Tryz.func75 rfl Tryz.ntmps75 (by simp) (fun R=>?_)
 repeat' (first|(refine zAw ?_;refine KJ_bslice0 rfl (fun g0=>?_))|(refine zBi ?_;refine zAb (zAs rfl wx) ?_)|refine xst ?_|(refine xsa ?_;intro _)|(refine xsb ?_ ?_ <;>intro _<;>try (exfalso;omega))|refine xsc ?_|fail)
 refine zBe (fun i:{i:List UInt8 × Nat × Nat × Nat × Nat//i.2.2.1≤8∧i.2.1<18446744073709551616∧i.1++loB i.2.2.1 i.2.1=loB 8 x}=>[(3,.int .u64 (i.1.2.1:Nat)),(4,.slice (some ⟨i.1.2.2.2.1,0,none⟩) i.1.1.length i.1.2.2.2.2),(5,.int .i64 (8-i.1.2.2.1:Nat))])
  (fun i=>[byP (.slice (some ⟨i.1.2.2.2.1,0,none⟩) i.1.1.length i.1.2.2.2.2) i.1.1]++R) (fun i=>i.1.2.2.1) ⟨([],x,8,g0,0),Nat.le_refl _,hx,rfl⟩ (by dsimp only;rw [Nat.sub_self];exact xB) (xN) (fun ⟨(m,y,f,oa,oc),hf,hy,hi⟩=>?_)
 dsimp only at hf hy hi ⊢
 have hlen:=congrArg List.length hi
 rw [List.length_append,loB_len,loB_len] at hlen
 cases f with
 |zero=>
  have ql:decide (((8-0:Nat):Int)<8)=false:=decide_eq_false (by omega)
  rw [show loB 0 y=[] from rfl,List.append_nil] at hi
  rw [show m.length=8 by omega]
  repeat' (first|(refine zAi ?_;refine zAb (zAd rfl rfl ql) ?_)|refine xst ?_|(refine xsa ?_;intro _)|(refine xsb ?_ ?_ <;>intro _<;>try (exfalso;omega))|refine xsc ?_|fail)
  all_goals rw [hi]
  all_goals (exact xdn (oa,oc))
 |succ f=>
  have ql:decide (((8-(f+1):Nat):Int)<8)=true:=decide_eq_true (by omega)
  have r1:((y:Nat):Int) % 256=((y % 256:Nat):Int):=by omega
  have e1:IntKind.u8.wrap ((y % 256:Nat):Int)=((UInt8.ofNat (y % 256)).toNat:Int):=by rw [u8_wrap,UInt8.toNat_ofNat']
  have hnx:m++[UInt8.ofNat (y % 256)]++loB f (y / 256)=loB 8 x:=by rw [← hi,List.append_assoc];rfl
  have b1:(m.length+1)*1≤140737488355328:=by omega
  have b2:m.length+1≤9223372036854775807:=by omega
  have hy2:y / 256<18446744073709551616:=by omega
  have hw:=zCd (y / 256) hy2
  repeat' (first|(refine zBr ?_;refine zCe (a:=UInt8.ofNat (y % 256)) byC_ok rfl rfl rfl xS xS b1 b2 rfl (fun g' c'=>?_))|(refine zAw ?_;refine zBa rfl xF (by rfl) (by omega) rfl (fun gb=>?_))|(refine zBi ?_;refine zAb (zAs rfl e1) ?_)|(refine zAu ?_;refine zAb (zAh (r:=((8-f:Nat):Int)) rfl rfl (by omega) (by omega)) ?_)|(refine ek_quo ?_;refine zAb (Ev_quo_u (r:=y / 256) rfl rfl (by omega) (by omega) hw) ?_)|(refine ek_rem ?_;refine zAb (Ev_rem_w rfl rfl (by omega) r1) ?_)|(refine zAi ?_;refine zAb (zAd rfl rfl ql) ?_)|refine xst ?_|(refine xsa ?_;intro _)|(refine xsb ?_ ?_ <;>intro _<;>try (exfalso;omega))|refine xsc ?_|fail)
  all_goals refine zAr ⟨(m++[UInt8.ofNat (y % 256)],y / 256,f,g',c'),Nat.le_of_succ_le hf,hy2,hnx⟩ (by show f<f+1;omega) xB (xN)
theorem d15enc_ct (hi:a.id.length≤2000000) (hr:-9223372036854775808≤a.bal∧a.bal≤9223372036854775807) :
 Ct Tryz.prog W 27 [acV a] [] (fun _:Unit=>.tuple #[strV (bif goodA a then rowA a else []),.int .i64 ((bif goodA a then 0 else 7:Nat):Int)]) (fun _=>[]):=by
 have cg:=d15good_ct (W:=W) (a:=a) hi hr
 cases hg:goodA a with
 |false=>
  rw [hg] at cg
  dsimp only [cond]
  refine Ct.enter Tryz.func27 rfl Tryz.ntmps27 (by simp) (fun R=>?_)
  repeat' (first|(refine zBn ?_;refine zBg rfl xF rfl (fun ga=>?_))|(refine zAe ?_;refine zAa xE cg xP rfl (fun _=>?_))|refine xst ?_|(refine xsa ?_;intro _)|(refine xsb ?_ ?_ <;>intro _<;>try (exfalso;omega))|refine xsc ?_|fail)
  all_goals (exact xdn ())
 |true=>
  rw [hg] at cg
  obtain ⟨g1,g2,g3,-⟩:=goodA_in hg
  obtain ⟨k,hkk⟩:∃ k,k=UInt8.ofNat a.kind.toNat:=⟨_,rfl⟩
  have wk:IntKind.u8.wrap a.kind=((k.toNat:Nat):Int):=by
   obtain ⟨m,hm⟩:=Int.eq_ofNat_of_zero_le (show 0≤a.kind by omega)
   rw [hkk,hm,Int.toNat_natCast]
   exact u8_of m
  have cf1:=d15fixed_ct (W:=W) a.bal
  have cf2:=d15fixed_ct (W:=W) a.held
  have l1:=loB_len 8 (uT a.bal)
  have l2:=loB_len 8 (uT a.held)
  have hne:a.cur≠[]:=by intro h;rw [h] at g1;cases g1
  dsimp only [cond]
  cases hf:a.frozen with
  |false=>
   have e:[k,0,3]++a.cur++loB 8 (uT a.bal)++loB 8 (uT a.held)=rowA a:=by rw [rowA_cut g1,hf,← hkk];simp
   rw [← e]
   have hv:acV a=.agg #[strV a.id,strV a.cur,.int .i64 a.kind,.bool false,.int .i64 a.bal,.int .i64 a.held]:=by unfold acV acC;rw [hf]
   rw [hv] at cg ⊢
   obtain ⟨x1,hx1⟩:∃ x,x=loB 8 (uT a.bal):=⟨_,rfl⟩
   obtain ⟨x2,hx2⟩:∃ x,x=loB 8 (uT a.held):=⟨_,rfl⟩
   rw [← hx1] at cf1 l1 ⊢
   rw [← hx2] at cf2 l2 ⊢
   have cf1:Ct Tryz.prog W 75 [.int .i64 a.bal] [] (fun z:Nat × Nat=>.slice (some ⟨z.1,0,none⟩) x1.length z.2) (fun z=>[byP (.slice (some ⟨z.1,0,none⟩) x1.length z.2) x1]):=by rw [l1];exact cf1
   have cf2:Ct Tryz.prog W 75 [.int .i64 a.held] [] (fun z:Nat × Nat=>.slice (some ⟨z.1,0,none⟩) x2.length z.2) (fun z=>[byP (.slice (some ⟨z.1,0,none⟩) x2.length z.2) x2]):=by rw [l2];exact cf2
   have b1:(([k,0,3]++a.cur).length+x1.length)*1≤140737488355328:=by rw [List.length_append,g1,l1];show (3+3+8)*1≤140737488355328;decide
   have b2:([k,0,3]++a.cur).length+x1.length≤9223372036854775807:=by omega
   have b3:(([k,0,3]++a.cur++x1).length+x2.length)*1≤140737488355328:=by rw [List.length_append,List.length_append,g1,l1,l2];show (3+3+8+8)*1≤140737488355328;decide
   have b4:([k,0,3]++a.cur++x1).length+x2.length≤9223372036854775807:=by omega
   have b0:([k,0,3]:List UInt8).length+a.cur.length≤140737488355328:=by rw [g1];show 3+3≤140737488355328;decide
   have b5:0<(([k,0,3]++a.cur)++x1++x2).length:=by rw [List.length_append,l2];omega
   refine Ct.enter Tryz.func27 rfl Tryz.ntmps27 (by simp) (fun R=>?_)
   repeat' (first|(refine zBn ?_;refine zBg rfl xF rfl (fun ga=>?_))|(refine zAe ?_;first|(refine zAa (d:=25) xE cf1 xP rfl (fun z=>?_);obtain ⟨h1,z1⟩:=z)|(refine zAa (d:=30) xE cf2 xP rfl (fun z=>?_);obtain ⟨h2,z2⟩:=z)|(refine zAa xE cg xP rfl (fun _=>?_)))|(refine zBr ?_;first|(refine KJ_appStrB (l:=[k,0,3]) rfl rfl xS (.inl hne) b0 rfl (fun gs cs=>?_))|(refine KJ_appAll (l:=[k,0,3]++a.cur) (l2:=x1) byC_ok rfl rfl rfl rfl xS (Src.lv (Lv.own (c:=z1) byC_ok rfl) (fun _=>rfl) xS) b1 b2 rfl (fun a2 c2=>?_))|(refine KJ_appAll (l:=[k,0,3]++a.cur++x1) (l2:=x2) byC_ok rfl rfl rfl rfl xS (Src.lv (Lv.own (c:=z2) byC_ok rfl) (fun _=>rfl) xS) b3 b4 rfl (fun a3 c3=>?_);refine KJ.lsSome xS b5 (fun g9 hg9=>?_);subst hg9))|(refine zAw ?_;refine KJ_bsliceN (len:=3) (places:=[(0,1),(1,1),(2,1)]) (base:=[.int .u8 0,.int .u8 0,.int .u8 0]) xV (by rfl) (by rfl) xW (by omega) rfl (fun gb=>?_);refine KJ.cellsRow (g:=gb) (m:=3) (l:=[k,0,3]) byC_ok xS (by rfl) rfl (by decide) ?_)|(refine zBi ?_;first|refine zAb (zAs rfl wk) ?_|refine zAb (Ev_bytesB rfl xS rfl) ?_)|refine xst ?_|(refine xsa ?_;intro _)|(refine xsb ?_ ?_ <;>intro _<;>try (exfalso;omega))|refine xsc ?_|fail)
   all_goals (exact xdn ())
  |true=>
   have e:[k,1,3]++a.cur++loB 8 (uT a.bal)++loB 8 (uT a.held)=rowA a:=by rw [rowA_cut g1,hf,← hkk];simp
   rw [← e]
   have hv:acV a=.agg #[strV a.id,strV a.cur,.int .i64 a.kind,.bool true,.int .i64 a.bal,.int .i64 a.held]:=by unfold acV acC;rw [hf]
   rw [hv] at cg ⊢
   obtain ⟨x1,hx1⟩:∃ x,x=loB 8 (uT a.bal):=⟨_,rfl⟩
   obtain ⟨x2,hx2⟩:∃ x,x=loB 8 (uT a.held):=⟨_,rfl⟩
   rw [← hx1] at cf1 l1 ⊢
   rw [← hx2] at cf2 l2 ⊢
   have cf1:Ct Tryz.prog W 75 [.int .i64 a.bal] [] (fun z:Nat × Nat=>.slice (some ⟨z.1,0,none⟩) x1.length z.2) (fun z=>[byP (.slice (some ⟨z.1,0,none⟩) x1.length z.2) x1]):=by rw [l1];exact cf1
   have cf2:Ct Tryz.prog W 75 [.int .i64 a.held] [] (fun z:Nat × Nat=>.slice (some ⟨z.1,0,none⟩) x2.length z.2) (fun z=>[byP (.slice (some ⟨z.1,0,none⟩) x2.length z.2) x2]):=by rw [l2];exact cf2
   have b1:(([k,1,3]++a.cur).length+x1.length)*1≤140737488355328:=by rw [List.length_append,g1,l1];show (3+3+8)*1≤140737488355328;decide
   have b2:([k,1,3]++a.cur).length+x1.length≤9223372036854775807:=by omega
   have b3:(([k,1,3]++a.cur++x1).length+x2.length)*1≤140737488355328:=by rw [List.length_append,List.length_append,g1,l1,l2];show (3+3+8+8)*1≤140737488355328;decide
   have b4:([k,1,3]++a.cur++x1).length+x2.length≤9223372036854775807:=by omega
   have b0:([k,1,3]:List UInt8).length+a.cur.length≤140737488355328:=by rw [g1];show 3+3≤140737488355328;decide
   have b5:0<(([k,1,3]++a.cur)++x1++x2).length:=by rw [List.length_append,l2];omega
   refine Ct.enter Tryz.func27 rfl Tryz.ntmps27 (by simp) (fun R=>?_)
   repeat' (first|(refine zBn ?_;refine zBg rfl xF rfl (fun ga=>?_))|(refine zAe ?_;first|(refine zAa (d:=25) xE cf1 xP rfl (fun z=>?_);obtain ⟨h1,z1⟩:=z)|(refine zAa (d:=30) xE cf2 xP rfl (fun z=>?_);obtain ⟨h2,z2⟩:=z)|(refine zAa xE cg xP rfl (fun _=>?_)))|(refine zBr ?_;first|(refine KJ_appStrB (l:=[k,1,3]) rfl rfl xS (.inl hne) b0 rfl (fun gs cs=>?_))|(refine KJ_appAll (l:=[k,1,3]++a.cur) (l2:=x1) byC_ok rfl rfl rfl rfl xS (Src.lv (Lv.own (c:=z1) byC_ok rfl) (fun _=>rfl) xS) b1 b2 rfl (fun a2 c2=>?_))|(refine KJ_appAll (l:=[k,1,3]++a.cur++x1) (l2:=x2) byC_ok rfl rfl rfl rfl xS (Src.lv (Lv.own (c:=z2) byC_ok rfl) (fun _=>rfl) xS) b3 b4 rfl (fun a3 c3=>?_);refine KJ.lsSome xS b5 (fun g9 hg9=>?_);subst hg9))|(refine zAw ?_;refine KJ_bsliceN (len:=3) (places:=[(0,1),(1,1),(2,1)]) (base:=[.int .u8 0,.int .u8 0,.int .u8 0]) xV (by rfl) (by rfl) xW (by omega) rfl (fun gb=>?_);refine KJ.cellsRow (g:=gb) (m:=3) (l:=[k,1,3]) byC_ok xS (by rfl) rfl (by decide) ?_)|(refine zBi ?_;first|refine zAb (zAs rfl wk) ?_|refine zAb (Ev_bytesB rfl xS rfl) ?_)|refine xst ?_|(refine xsa ?_;intro _)|(refine xsb ?_ ?_ <;>intro _<;>try (exfalso;omega))|refine xsc ?_|fail)
   all_goals (exact xdn ())
end
end Go.Proofs.YtnbgcimalpdfoaaGreatDoor
