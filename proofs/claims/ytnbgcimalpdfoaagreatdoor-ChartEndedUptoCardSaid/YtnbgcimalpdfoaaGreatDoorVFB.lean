/-
  ChW1, ChW2.
-/
import Derived.Test.YtnbgcimalpdfoaaGreatDoorVFR
import Derived.Test.YtnbgcimalpdfoaaGreatDoorVEX
import Derived.Test.YtnbgcimalpdfoaaGreatDoorVEY
import Derived.Test.YtnbgcimalpdfoaaGreatDoorVEZ
import Derived.Test.YtnbgcimalpdfoaaGreatDoorVCY
set_option maxHeartbeats 64000000
namespace Go.Proofs.YtnbgcimalpdfoaaGreatDoor
open Go Go.RowKit
abbrev plVFB0:Pl:=(.op 0 (.op 1 (.op 2 (.op 3 (.op 4 (.op 5 (.op 6 (.op 7 (.op 8 (.op 9 (.op 10 (.op 11 (.op 12 (.op 13 (.op 14 (.ef 15 [10,9] (.op 16 (.op 17 .nil))))))))))))))))))
abbrev plVFB1:Pl:=(.op 0 (.op 1 (.op 2 .nil)))
abbrev plVFB2:Pl:=(.op 0 (.op 1 (.op 2 (.op 3 (.op 4 (.op 5 (.op 6 (.op 7 (.op 8 (.op 9 (.op 10 (.op 11 (.op 12 (.op 13 (.op 14 (.op 15 (.op 16 (.ef 17 [] .nil))))))))))))))))))
abbrev plVFB3:Pl:=(.op 0 (.op 1 (.ef 2 [1] (.op 3 .nil))))
def acC (a:Acct):List Value:=[strV a.id,strV a.cur,.int .i64 a.kind,.bool a.frozen,.int .i64 a.bal,.int .i64 a.held]
abbrev acV (a:Acct):Value:=.agg (acC a).toArray
theorem goodA_code {a:Acct} (h:codeB a.cur=false):goodA a=false:=by unfold goodA;rw [h];rfl
theorem goodA_noC {a:Acct} (hk:a.kind=1) (h:¬ (accE a.id=0∧0≤a.bal∧0≤a.held∧a.bal≤1000000000000000∧a.held≤1000000000000000-a.bal)):goodA a=false:=by
 rw [goodA_cust hk]
 cases hb:custB a with
 |false=>rw [Bool.and_false]
 |true=>exact absurd ((custB_iff a).1 hb) h
theorem goodA_yesC {a:Acct} (hk:a.kind=1) (hc:codeB a.cur=true) (h:accE a.id=0∧0≤a.bal∧0≤a.held∧a.bal≤1000000000000000∧a.held≤1000000000000000-a.bal):goodA a=true:=by
 rw [goodA_cust hk,hc,(custB_iff a).2 h]
 rfl
theorem goodA_noS {a:Acct} (hk:a.kind≠1) (h:¬ (2≤a.kind∧a.kind≤5∧a.id=kinds4.getD (a.kind-2).toNat []++a.cur∧a.frozen=false∧a.held=0∧-4611686018427387904≤a.bal∧a.bal≤4611686018427387904)):goodA a=false:=by
 rw [goodA_syst hk]
 cases hb:systB a with
 |false=>rw [Bool.and_false]
 |true=>exact absurd ((systB_iff a).1 hb) h
theorem goodA_yesS {a:Acct} (hk:a.kind≠1) (hc:codeB a.cur=true) (h:2≤a.kind∧a.kind≤5∧a.id=kinds4.getD (a.kind-2).toNat []++a.cur∧a.frozen=false∧a.held=0∧-4611686018427387904≤a.bal∧a.bal≤4611686018427387904):goodA a=true:=by
 rw [goodA_syst hk,hc,(systB_iff a).2 h]
 rfl
section
variable {W:World} {F:Nat→Addr} {a:Acct}
instance fn_chkey:FnIs Tryz.prog 28:=⟨by kernel_rfl⟩
instance fn_chgood:FnIs Tryz.prog 72:=⟨by kernel_rfl⟩
instance fn_chrow:FnIs Tryz.prog 73:=⟨by kernel_rfl⟩
instance fn_chenc:FnIs Tryz.prog 26:=⟨by kernel_rfl⟩
theorem chkey_ct (acc:List UInt8) (ha:acc.length≤1099511627776):Ct Tryz.prog W 28 [strV acc] [] (fun _:Unit=>strV (aKey acc)) (fun _=>[]):=by
 have c1:=ktext_ct (W:=W) [97]
 have c2:=ktext_ct (W:=W) acc
 have hl:=esc_len acc
 have cj:=fun gb=>kjoin_ct (W:=W) (zAn gb (kpC [97]++kpC acc) 94) (some ⟨gb,0,none⟩) 2 [[97],acc] (Lv.cells (by simp)) (by simp) (by
  show (keyT [97]++(keyT acc++[])).length≤_
  rw [List.append_nil,List.length_append,keyT_length,keyT_length]
  have:(esc [97]).length=1:=rfl
  omega) (by simp)
 have e:[[97],acc].flatMap keyT=aKey acc:=by unfold aKey;simp
 rw [e] at cj
 refine Ct.enter Tryz.func28 rfl Tryz.ntmps28 (by simp) (fun R=>?_)
 repeat' (first|(refine zAe ?_;first|(refine zAa xE (cj _) xP rfl (fun _=>?_))|(refine zAa xE c2 xP rfl (fun _=>?_))|(refine zAa xE c1 xP rfl (fun _=>?_)))|(refine zAw ?_;refine KJ_bsliceN (len:=2) (places:=[(0,3),(3,3)]) (base:=kpC []++kpC []) xV (by rfl) (by rfl) xW (by omega) rfl (fun gb=>?_))|refine xst ?_|(refine xsa ?_;intro _)|(refine xsb ?_ ?_ <;>intro _<;>try (exfalso;omega))|refine xsc ?_|fail)
 all_goals (exact xdn ())
theorem chgood_ct (hi:a.id.length≤2000000) (hu:a.cur.length≤2000000) (hr:-9223372036854775808≤a.bal∧a.bal≤9223372036854775807) (e7:W.cell? ⟨3,0,none⟩=some (errV F 7)) (e8:W.cell? ⟨19,0,none⟩=some (errV F 8)) :
 Ct Tryz.prog W 72 [acV a] [] (fun _:Unit=>.bool (goodA a)) (fun _=>[]):=by
 have cc:=code_ct (W:=W) a.cur hu
 have ci:=icheck_ct (W:=W) (F:=F) a.id hi e7 e8
 cases hc:codeB a.cur with
 |false=>
  rw [hc] at cc
  rw [goodA_code hc]
  refine Ct.enter Tryz.func72 rfl Tryz.ntmps72 (by simp) (fun R=>?_)
  repeat' (first|(refine zBn ?_;refine zBg rfl xF rfl (fun ga=>?_))|(refine zAe ?_;refine zAa xE cc xP rfl (fun _=>?_))|refine xst ?_|(refine xsa ?_;intro _)|(refine xsb ?_ ?_ <;>intro _<;>try (exfalso;omega))|refine xsc ?_|(refine zAc (id:=7) plVFB0 (by kernel_rfl) (by kernel_rfl) ?_)|refine zAm ?_ ?_|refine zAk rfl rfl rfl rfl rfl ?_ ?_|refine zAg ?_ ?_|exact Rech.nil|fail)
  all_goals (exact xdn ())
 |true=>
  rw [hc] at cc
  have cs:=fun k hk=>system_ct (W:=W) k hk a.cur hu
  by_cases hk:a.kind=1
  ·have qk:decide (a.kind=1)=true:=decide_eq_true hk
   by_cases h0:accE a.id=0
   rotate_left
   ·have hne:=errNe (F:=F) h0
    rw [goodA_noC hk (fun h=>by omega)]
    refine Ct.enter Tryz.func72 rfl Tryz.ntmps72 (by simp) (fun R=>?_)
    repeat' (first|(refine zBn ?_;refine zBg rfl xF rfl (fun ga=>?_))|(refine zAe ?_;first|(refine zAa xE ci xP rfl (fun _=>?_))|(refine zAa xE cc xP rfl (fun _=>?_)))|(refine zAx ?_;refine zAb (zAf rfl rfl qk) ?_)|(refine zBc ?_;refine zAb (zCh rfl hne) ?_)|refine xst ?_|(refine xsa ?_;intro _)|(refine xsb ?_ ?_ <;>intro _<;>try (exfalso;omega))|refine xsc ?_|(refine zAc (id:=7) plVFB0 (by kernel_rfl) (by kernel_rfl) ?_)|refine zAm ?_ ?_|refine zAk rfl rfl rfl rfl rfl ?_ ?_|refine zAg ?_ ?_|exact Rech.nil|fail)
    all_goals (exact xdn ())
   rw [h0] at ci
   by_cases h1:0≤a.bal
   rotate_left
   ·have q1:decide (a.bal<0)=true:=decide_eq_true (by omega)
    rw [goodA_noC hk (fun h=>by omega)]
    refine Ct.enter Tryz.func72 rfl Tryz.ntmps72 (by simp) (fun R=>?_)
    repeat' (first|(refine zBn ?_;refine zBg rfl xF rfl (fun ga=>?_))|(refine zAe ?_;first|(refine zAa xE ci xP rfl (fun _=>?_))|(refine zAa xE cc xP rfl (fun _=>?_)))|(refine zAx ?_;refine zAb (zAf rfl rfl qk) ?_)|(refine zAi ?_;refine zAb (zAd rfl rfl q1) ?_)|refine xst ?_|(refine xsa ?_;intro _)|(refine xsb ?_ ?_ <;>intro _<;>try (exfalso;omega))|refine xsc ?_|(refine zAc (id:=7) plVFB0 (by kernel_rfl) (by kernel_rfl) ?_)|refine zAm ?_ ?_|refine zAk rfl rfl rfl rfl rfl ?_ ?_|refine zAg ?_ ?_|exact Rech.nil|fail)
    all_goals (exact xdn ())
   have q1:decide (a.bal<0)=false:=decide_eq_false (by omega)
   by_cases h2:0≤a.held
   rotate_left
   ·have q2:decide (a.held<0)=true:=decide_eq_true (by omega)
    rw [goodA_noC hk (fun h=>by omega)]
    refine Ct.enter Tryz.func72 rfl Tryz.ntmps72 (by simp) (fun R=>?_)
    repeat' (first|(refine zBn ?_;refine zBg rfl xF rfl (fun ga=>?_))|(refine zAe ?_;first|(refine zAa xE ci xP rfl (fun _=>?_))|(refine zAa xE cc xP rfl (fun _=>?_)))|(refine zAx ?_;refine zAb (zAf rfl rfl qk) ?_)|(refine zAi ?_;first|refine zAb (zAd rfl rfl q2) ?_|refine zAb (zAd rfl rfl q1) ?_)|refine xst ?_|(refine xsa ?_;intro _)|(refine xsb ?_ ?_ <;>intro _<;>try (exfalso;omega))|refine xsc ?_|(refine zAc (id:=7) plVFB0 (by kernel_rfl) (by kernel_rfl) ?_)|refine zAm ?_ ?_|refine zAk rfl rfl rfl rfl rfl ?_ ?_|refine zAg ?_ ?_|exact Rech.nil|fail)
    all_goals (exact xdn ())
   have q2:decide (a.held<0)=false:=decide_eq_false (by omega)
   by_cases h3:a.bal≤1000000000000000
   rotate_left
   ·have q3:decide (a.bal≤1000000000000000)=false:=decide_eq_false (by omega)
    rw [goodA_noC hk (fun h=>by omega)]
    refine Ct.enter Tryz.func72 rfl Tryz.ntmps72 (by simp) (fun R=>?_)
    repeat' (first|(refine zBn ?_;refine zBg rfl xF rfl (fun ga=>?_))|(refine zAe ?_;first|(refine zAa xE ci xP rfl (fun _=>?_))|(refine zAa xE cc xP rfl (fun _=>?_)))|(refine zAx ?_;refine zAb (zAf rfl rfl qk) ?_)|(refine zAi ?_;first|refine zAb (zAd rfl rfl q2) ?_|refine zAb (zAd rfl rfl q1) ?_)|(refine ek_leq ?_;refine zAb (zBf rfl rfl q3) ?_)|refine xst ?_|(refine xsa ?_;intro _)|(refine xsb ?_ ?_ <;>intro _<;>try (exfalso;omega))|refine xsc ?_|(refine zAc (id:=7) plVFB0 (by kernel_rfl) (by kernel_rfl) ?_)|refine zAm ?_ ?_|refine zAk rfl rfl rfl rfl rfl ?_ ?_|refine zAg ?_ ?_|exact Rech.nil|fail)
    all_goals (exact xdn ())
   have q3:decide (a.bal≤1000000000000000)=true:=decide_eq_true (by omega)
   by_cases h4:a.held≤1000000000000000-a.bal
   rotate_left
   ·have q4:decide (a.held≤1000000000000000-a.bal)=false:=decide_eq_false (by omega)
    rw [goodA_noC hk (fun h=>by omega)]
    refine Ct.enter Tryz.func72 rfl Tryz.ntmps72 (by simp) (fun R=>?_)
    repeat' (first|(refine zBn ?_;refine zBg rfl xF rfl (fun ga=>?_))|(refine zAe ?_;first|(refine zAa xE ci xP rfl (fun _=>?_))|(refine zAa xE cc xP rfl (fun _=>?_)))|(refine ek_sub ?_;refine zAb (Ev_subI_v rfl rfl rfl (by omega)) ?_)|(refine zAx ?_;refine zAb (zAf rfl rfl qk) ?_)|(refine zAi ?_;first|refine zAb (zAd rfl rfl q2) ?_|refine zAb (zAd rfl rfl q1) ?_)|(refine ek_leq ?_;first|refine zAb (zBf rfl rfl q4) ?_|refine zAb (zBf rfl rfl q3) ?_)|refine xst ?_|(refine xsa ?_;intro _)|(refine xsb ?_ ?_ <;>intro _<;>try (exfalso;omega))|refine xsc ?_|(refine zAc (id:=7) plVFB0 (by kernel_rfl) (by kernel_rfl) ?_)|refine zAm ?_ ?_|refine zAk rfl rfl rfl rfl rfl ?_ ?_|refine zAg ?_ ?_|exact Rech.nil|fail)
    all_goals (exact xdn ())
   have q4:decide (a.held≤1000000000000000-a.bal)=true:=decide_eq_true (by omega)
   rw [goodA_yesC hk hc ⟨h0,h1,h2,h3,h4⟩]
   refine Ct.enter Tryz.func72 rfl Tryz.ntmps72 (by simp) (fun R=>?_)
   repeat' (first|(refine zBn ?_;refine zBg rfl xF rfl (fun ga=>?_))|(refine zAe ?_;first|(refine zAa xE ci xP rfl (fun _=>?_))|(refine zAa xE cc xP rfl (fun _=>?_)))|(refine ek_sub ?_;refine zAb (Ev_subI_v rfl rfl rfl (by omega)) ?_)|(refine zAx ?_;refine zAb (zAf rfl rfl qk) ?_)|(refine zAi ?_;first|refine zAb (zAd rfl rfl q2) ?_|refine zAb (zAd rfl rfl q1) ?_)|(refine ek_leq ?_;first|refine zAb (zBf rfl rfl q4) ?_|refine zAb (zBf rfl rfl q3) ?_)|refine xst ?_|(refine xsa ?_;intro _)|(refine xsb ?_ ?_ <;>intro _<;>try (exfalso;omega))|refine xsc ?_|(refine zAc (id:=7) plVFB0 (by kernel_rfl) (by kernel_rfl) ?_)|refine zAm ?_ ?_|refine zAk rfl rfl rfl rfl rfl ?_ ?_|refine zAg ?_ ?_|exact Rech.nil|fail)
   all_goals (exact xdn ())
  ·have qk:decide (a.kind=1)=false:=decide_eq_false hk
   by_cases h0:2≤a.kind
   rotate_left
   ·have q0:decide (a.kind<2)=true:=decide_eq_true (by omega)
    rw [goodA_noS hk (fun h=>h0 h.1)]
    refine Ct.enter Tryz.func72 rfl Tryz.ntmps72 (by simp) (fun R=>?_)
    repeat' (first|(refine zBn ?_;refine zBg rfl xF rfl (fun ga=>?_))|(refine zAe ?_;refine zAa xE cc xP rfl (fun _=>?_))|(refine zAx ?_;refine zAb (zAf rfl rfl qk) ?_)|(refine zAi ?_;refine zAb (zAd rfl rfl q0) ?_)|refine xst ?_|(refine xsa ?_;intro _)|(refine xsb ?_ ?_ <;>intro _<;>try (exfalso;omega))|refine xsc ?_|(refine zAc (id:=7) plVFB0 (by kernel_rfl) (by kernel_rfl) ?_)|refine zAm ?_ ?_|refine zAk rfl rfl rfl rfl rfl ?_ ?_|refine zAg ?_ ?_|exact Rech.nil|fail)
    all_goals (exact xdn ())
   have q0:decide (a.kind<2)=false:=decide_eq_false (by omega)
   by_cases h1:a.kind≤5
   rotate_left
   ·have q1:decide (5<a.kind)=true:=decide_eq_true (by omega)
    rw [goodA_noS hk (fun h=>h1 h.2.1)]
    refine Ct.enter Tryz.func72 rfl Tryz.ntmps72 (by simp) (fun R=>?_)
    repeat' (first|(refine zBn ?_;refine zBg rfl xF rfl (fun ga=>?_))|(refine zAe ?_;refine zAa xE cc xP rfl (fun _=>?_))|(refine zAx ?_;refine zAb (zAf rfl rfl qk) ?_)|(refine zAi ?_;refine zAb (zAd rfl rfl q0) ?_)|(refine zAz ?_;refine zAb (zAj rfl rfl q1) ?_)|refine xst ?_|(refine xsa ?_;intro _)|(refine xsb ?_ ?_ <;>intro _<;>try (exfalso;omega))|refine xsc ?_|(refine zAc (id:=7) plVFB0 (by kernel_rfl) (by kernel_rfl) ?_)|refine zAm ?_ ?_|refine zAk rfl rfl rfl rfl rfl ?_ ?_|refine zAg ?_ ?_|exact Rech.nil|fail)
    all_goals (exact xdn ())
   have q1:decide (5<a.kind)=false:=decide_eq_false (by omega)
   obtain ⟨k,hkk⟩:∃ k:Nat,k=(a.kind-2).toNat:=⟨_,rfl⟩
   have cs:=cs k (by omega)
   unfold sysT kindT at cs
   rw [if_pos hc,show ((k+2:Nat):Int)=a.kind by omega,hkk] at cs
   by_cases h2:a.id=kinds4.getD (a.kind-2).toNat []++a.cur
   rotate_left
   ·rw [goodA_noS hk (fun h=>h2 h.2.2.1)]
    refine Ct.enter Tryz.func72 rfl Tryz.ntmps72 (by simp) (fun R=>?_)
    repeat' (first|(refine zBn ?_;refine zBg rfl xF rfl (fun ga=>?_))|(refine zAe ?_;first|(refine zAa xE cs xP rfl (fun _=>?_))|(refine zAa xE cc xP rfl (fun _=>?_)))|(refine zAx ?_;refine zAb (zAf rfl rfl qk) ?_)|(refine zBc ?_;refine zAb (Ev_neqS_t rfl rfl h2) ?_)|(refine zAi ?_;refine zAb (zAd rfl rfl q0) ?_)|(refine zAz ?_;refine zAb (zAj rfl rfl q1) ?_)|refine xst ?_|(refine xsa ?_;intro _)|(refine xsb ?_ ?_ <;>intro _<;>try (exfalso;omega))|refine xsc ?_|(refine zAc (id:=7) plVFB0 (by kernel_rfl) (by kernel_rfl) ?_)|refine zAm ?_ ?_|refine zAk rfl rfl rfl rfl rfl ?_ ?_|refine zAg ?_ ?_|exact Rech.nil|fail)
    all_goals (exact xdn ())
   by_cases h3:a.frozen=false
   rotate_left
   ·have hz:a.frozen=true:=by cases hz:a.frozen with|false=>exact absurd hz h3|true=>rfl
    have hv:acV a=.agg #[strV a.id,strV a.cur,.int .i64 a.kind,.bool true,.int .i64 a.bal,.int .i64 a.held]:=by unfold acV acC;rw [hz]
    rw [hv]
    rw [goodA_noS hk (fun h=>h3 h.2.2.2.1)]
    refine Ct.enter Tryz.func72 rfl Tryz.ntmps72 (by simp) (fun R=>?_)
    repeat' (first|(refine zBn ?_;refine zBg rfl xF rfl (fun ga=>?_))|(refine zAe ?_;first|(refine zAa xE cs xP rfl (fun _=>?_))|(refine zAa xE cc xP rfl (fun _=>?_)))|(refine zAx ?_;refine zAb (zAf rfl rfl qk) ?_)|(refine zBc ?_;refine zAb (Ev_neqS_f rfl rfl h2) ?_)|(refine zAi ?_;refine zAb (zAd rfl rfl q0) ?_)|(refine zAz ?_;refine zAb (zAj rfl rfl q1) ?_)|refine xst ?_|(refine xsa ?_;intro _)|(refine xsb ?_ ?_ <;>intro _<;>try (exfalso;omega))|refine xsc ?_|(refine zAc (id:=7) plVFB0 (by kernel_rfl) (by kernel_rfl) ?_)|refine zAm ?_ ?_|refine zAk rfl rfl rfl rfl rfl ?_ ?_|refine zAg ?_ ?_|exact Rech.nil|fail)
    all_goals (exact xdn ())
   have hv:acV a=.agg #[strV a.id,strV a.cur,.int .i64 a.kind,.bool false,.int .i64 a.bal,.int .i64 a.held]:=by unfold acV acC;rw [h3]
   rw [hv]
   by_cases h4:a.held=0
   rotate_left
   ·have q4:decide (a.held=0)=false:=decide_eq_false (by omega)
    rw [goodA_noS hk (fun h=>h4 h.2.2.2.2.1)]
    refine Ct.enter Tryz.func72 rfl Tryz.ntmps72 (by simp) (fun R=>?_)
    repeat' (first|(refine zBn ?_;refine zBg rfl xF rfl (fun ga=>?_))|(refine zAe ?_;first|(refine zAa xE cs xP rfl (fun _=>?_))|(refine zAa xE cc xP rfl (fun _=>?_)))|(refine zAx ?_;first|refine zAb (zAf rfl rfl q4) ?_|refine zAb (zAf rfl rfl qk) ?_)|(refine zBc ?_;refine zAb (Ev_neqS_f rfl rfl h2) ?_)|(refine zAi ?_;refine zAb (zAd rfl rfl q0) ?_)|(refine zAz ?_;refine zAb (zAj rfl rfl q1) ?_)|refine xst ?_|(refine xsa ?_;intro _)|(refine xsb ?_ ?_ <;>intro _<;>try (exfalso;omega))|refine xsc ?_|(refine zAc (id:=7) plVFB0 (by kernel_rfl) (by kernel_rfl) ?_)|refine zAm ?_ ?_|refine zAk rfl rfl rfl rfl rfl ?_ ?_|refine zAg ?_ ?_|exact Rech.nil|fail)
    all_goals (exact xdn ())
   have q4:decide (a.held=0)=true:=decide_eq_true (by omega)
   by_cases h5:-4611686018427387904≤a.bal
   rotate_left
   ·have q5:decide (-4611686018427387904≤a.bal)=false:=decide_eq_false (by omega)
    rw [goodA_noS hk (fun h=>h5 h.2.2.2.2.2.1)]
    refine Ct.enter Tryz.func72 rfl Tryz.ntmps72 (by simp) (fun R=>?_)
    repeat' (first|(refine zBn ?_;refine zBg rfl xF rfl (fun ga=>?_))|(refine zAe ?_;first|(refine zAa xE cs xP rfl (fun _=>?_))|(refine zAa xE cc xP rfl (fun _=>?_)))|(refine zAx ?_;first|refine zAb (zAf rfl rfl q4) ?_|refine zAb (zAf rfl rfl qk) ?_)|(refine zBc ?_;refine zAb (Ev_neqS_f rfl rfl h2) ?_)|(refine zAi ?_;refine zAb (zAd rfl rfl q0) ?_)|(refine zAz ?_;refine zAb (zAj rfl rfl q1) ?_)|(refine zCa ?_;refine zAb (zAv rfl rfl q5) ?_)|refine xst ?_|(refine xsa ?_;intro _)|(refine xsb ?_ ?_ <;>intro _<;>try (exfalso;omega))|refine xsc ?_|(refine zAc (id:=7) plVFB0 (by kernel_rfl) (by kernel_rfl) ?_)|refine zAm ?_ ?_|refine zAk rfl rfl rfl rfl rfl ?_ ?_|refine zAg ?_ ?_|exact Rech.nil|fail)
    all_goals (exact xdn ())
   have q5:decide (-4611686018427387904≤a.bal)=true:=decide_eq_true (by omega)
   by_cases h6:a.bal≤4611686018427387904
   rotate_left
   ·have q6:decide (a.bal≤4611686018427387904)=false:=decide_eq_false (by omega)
    rw [goodA_noS hk (fun h=>h6 h.2.2.2.2.2.2)]
    refine Ct.enter Tryz.func72 rfl Tryz.ntmps72 (by simp) (fun R=>?_)
    repeat' (first|(refine zBn ?_;refine zBg rfl xF rfl (fun ga=>?_))|(refine zAe ?_;first|(refine zAa xE cs xP rfl (fun _=>?_))|(refine zAa xE cc xP rfl (fun _=>?_)))|(refine zAx ?_;first|refine zAb (zAf rfl rfl q4) ?_|refine zAb (zAf rfl rfl qk) ?_)|(refine zBc ?_;refine zAb (Ev_neqS_f rfl rfl h2) ?_)|(refine zAi ?_;refine zAb (zAd rfl rfl q0) ?_)|(refine ek_leq ?_;refine zAb (zBf rfl rfl q6) ?_)|(refine zAz ?_;refine zAb (zAj rfl rfl q1) ?_)|(refine zCa ?_;refine zAb (zAv rfl rfl q5) ?_)|refine xst ?_|(refine xsa ?_;intro _)|(refine xsb ?_ ?_ <;>intro _<;>try (exfalso;omega))|refine xsc ?_|(refine zAc (id:=7) plVFB0 (by kernel_rfl) (by kernel_rfl) ?_)|refine zAm ?_ ?_|refine zAk rfl rfl rfl rfl rfl ?_ ?_|refine zAg ?_ ?_|exact Rech.nil|fail)
    all_goals (exact xdn ())
   have q6:decide (a.bal≤4611686018427387904)=true:=decide_eq_true (by omega)
   rw [goodA_yesS hk hc ⟨h0,h1,h2,h3,h4,h5,h6⟩]
   refine Ct.enter Tryz.func72 rfl Tryz.ntmps72 (by simp) (fun R=>?_)
   repeat' (first|(refine zBn ?_;refine zBg rfl xF rfl (fun ga=>?_))|(refine zAe ?_;first|(refine zAa xE cs xP rfl (fun _=>?_))|(refine zAa xE cc xP rfl (fun _=>?_)))|(refine zAx ?_;first|refine zAb (zAf rfl rfl q4) ?_|refine zAb (zAf rfl rfl qk) ?_)|(refine zBc ?_;refine zAb (Ev_neqS_f rfl rfl h2) ?_)|(refine zAi ?_;refine zAb (zAd rfl rfl q0) ?_)|(refine ek_leq ?_;refine zAb (zBf rfl rfl q6) ?_)|(refine zAz ?_;refine zAb (zAj rfl rfl q1) ?_)|(refine zCa ?_;refine zAb (zAv rfl rfl q5) ?_)|refine xst ?_|(refine xsa ?_;intro _)|(refine xsb ?_ ?_ <;>intro _<;>try (exfalso;omega))|refine xsc ?_|(refine zAc (id:=7) plVFB0 (by kernel_rfl) (by kernel_rfl) ?_)|refine zAm ?_ ?_|refine zAk rfl rfl rfl rfl rfl ?_ ?_|refine zAg ?_ ?_|exact Rech.nil|fail)
   all_goals (exact xdn ())
theorem chrow_ct (hk:1≤a.kind∧a.kind≤5) (hu:a.cur.length≤2000000):Ct Tryz.prog W 73 [acV a] [] (fun _:Unit=>strV (rowA a)) (fun _=>[]):=by
 obtain ⟨k,hkk⟩:∃ k,k=UInt8.ofNat a.kind.toNat:=⟨_,rfl⟩
 have wk:IntKind.u8.wrap a.kind=((k.toNat:Nat):Int):=by
  obtain ⟨m,hm⟩:=Int.eq_ofNat_of_zero_le (show 0≤a.kind by omega)
  rw [hkk,hm,Int.toNat_natCast]
  exact u8_of m
 have w1:=u64_uT a.bal
 have w2:=u64_uT a.held
 have hl:=tx_len a.cur
 have hl2:=vu_len a.cur.length
 have htx:(tx a.cur).length=(vu a.cur.length).length+a.cur.length:=by unfold tx;rw [List.length_append]
 have cn:=wnew_ct (W:=W)
 have cb1:=fun p=>wbyte_ct (W:=W) (p:=p) (l:=[]) k (by simp)
 cases hf:a.frozen with
 |false=>
  have cb2:=fun p=>wbyte_ct (W:=W) (p:=p) (l:=[]++[k]) 0 (by simp)
  have ct:=fun p=>wtext_ct (W:=W) (p:=p) (l:=[]++[k]++[0]) a.cur (by simp;omega)
  have cf1:=fun p=>wfixed_ct (W:=W) (p:=p) (l:=[]++[k]++[0]++tx a.cur) (uT a.bal) (by simp;omega)
  have cf2:=fun p=>wfixed_ct (W:=W) (p:=p) (l:=[]++[k]++[0]++tx a.cur++loB 8 (uT a.bal)) (uT a.held) (by simp [loB_len];omega)
  have co:=fun p=>wout_ct (W:=W) (p:=p) (l:=[]++[k]++[0]++tx a.cur++loB 8 (uT a.bal)++loB 8 (uT a.held)) (by simp)
  have e:[]++[k]++[0]++tx a.cur++loB 8 (uT a.bal)++loB 8 (uT a.held)=rowA a:=by unfold rowA;rw [hf,← hkk];simp
  rw [← e]
  have hv:acV a=.agg #[strV a.id,strV a.cur,.int .i64 a.kind,.bool false,.int .i64 a.bal,.int .i64 a.held]:=by unfold acV acC;rw [hf]
  rw [hv]
  refine Ct.enter Tryz.func73 rfl Tryz.ntmps73 (by simp) (fun R=>?_)
  repeat' (first|(refine zBn ?_;refine zBg rfl xF rfl (fun ga=>?_))|(refine zAe ?_;first|(refine zAa xE cn xP rfl (fun p=>?_))|(refine zAa xE (cb1 _) xP rfl (fun _=>?_))|(refine zAa xE (cb2 _) xP rfl (fun _=>?_))|(refine zAa xE (ct _) xP rfl (fun _=>?_))|(refine zAa xE (cf1 _) xP rfl (fun _=>?_))|(refine zAa xE (cf2 _) xP rfl (fun _=>?_))|(refine zAa xE (co _) xP rfl (fun _=>?_)))|(refine zBi ?_;first|refine zAb (zAs rfl w2) ?_|refine zAb (zAs rfl w1) ?_|refine zAb (zAs rfl wk) ?_)|refine xst ?_|(refine xsa ?_;intro _)|(refine xsb ?_ ?_ <;>intro _<;>try (exfalso;omega))|refine xsc ?_|fail)
  all_goals (exact xdn ())
 |true=>
  have cb2:=fun p=>wbyte_ct (W:=W) (p:=p) (l:=[]++[k]) 1 (by simp)
  have ct:=fun p=>wtext_ct (W:=W) (p:=p) (l:=[]++[k]++[1]) a.cur (by simp;omega)
  have cf1:=fun p=>wfixed_ct (W:=W) (p:=p) (l:=[]++[k]++[1]++tx a.cur) (uT a.bal) (by simp;omega)
  have cf2:=fun p=>wfixed_ct (W:=W) (p:=p) (l:=[]++[k]++[1]++tx a.cur++loB 8 (uT a.bal)) (uT a.held) (by simp [loB_len];omega)
  have co:=fun p=>wout_ct (W:=W) (p:=p) (l:=[]++[k]++[1]++tx a.cur++loB 8 (uT a.bal)++loB 8 (uT a.held)) (by simp)
  have e:[]++[k]++[1]++tx a.cur++loB 8 (uT a.bal)++loB 8 (uT a.held)=rowA a:=by unfold rowA;rw [hf,← hkk];simp
  rw [← e]
  have hv:acV a=.agg #[strV a.id,strV a.cur,.int .i64 a.kind,.bool true,.int .i64 a.bal,.int .i64 a.held]:=by unfold acV acC;rw [hf]
  rw [hv]
  refine Ct.enter Tryz.func73 rfl Tryz.ntmps73 (by simp) (fun R=>?_)
  repeat' (first|(refine zBn ?_;refine zBg rfl xF rfl (fun ga=>?_))|(refine zAe ?_;first|(refine zAa xE cn xP rfl (fun p=>?_))|(refine zAa xE (cb1 _) xP rfl (fun _=>?_))|(refine zAa xE (cb2 _) xP rfl (fun _=>?_))|(refine zAa xE (ct _) xP rfl (fun _=>?_))|(refine zAa xE (cf1 _) xP rfl (fun _=>?_))|(refine zAa xE (cf2 _) xP rfl (fun _=>?_))|(refine zAa xE (co _) xP rfl (fun _=>?_)))|(refine zBi ?_;first|refine zAb (zAs rfl w2) ?_|refine zAb (zAs rfl w1) ?_|refine zAb (zAs rfl wk) ?_)|refine xst ?_|(refine xsa ?_;intro _)|(refine xsb ?_ ?_ <;>intro _<;>try (exfalso;omega))|refine xsc ?_|fail)
  all_goals (exact xdn ())
theorem chenc_ct (hi:a.id.length≤2000000) (hu:a.cur.length≤2000000) (hr:-9223372036854775808≤a.bal∧a.bal≤9223372036854775807) (e7:W.cell? ⟨3,0,none⟩=some (errV F 7)) (e8:W.cell? ⟨19,0,none⟩=some (errV F 8)) :
 Ct Tryz.prog W 26 [acV a] [] (fun _:Unit=>.tuple #[strV (bif goodA a then rowA a else []),errV F (bif goodA a then 0 else 7)]) (fun _=>[]):=by
 have cg:=chgood_ct (W:=W) (F:=F) (a:=a) hi hu hr e7 e8
 cases hg:goodA a with
 |false=>
  rw [hg] at cg
  dsimp only [cond]
  refine Ct.enter Tryz.func26 rfl Tryz.ntmps26 (by simp) (fun R=>?_)
  repeat' (first|(refine zBn ?_;refine zBg rfl xF rfl (fun ga=>?_))|(refine zAe ?_;refine zAa xE cg xP rfl (fun _=>?_))|(refine zAp ?_;refine zAb (zAq rfl e7) ?_)|refine xst ?_|(refine xsa ?_;intro _)|(refine xsb ?_ ?_ <;>intro _<;>try (exfalso;omega))|refine xsc ?_|(refine zAc (id:=2) plVFB1 (by kernel_rfl) (by kernel_rfl) ?_)|refine zAm ?_ ?_|refine zAk rfl rfl rfl rfl rfl ?_ ?_|refine zAg ?_ ?_|exact Rech.nil|fail)
  all_goals (exact xdn ())
 |true=>
  rw [hg] at cg
  obtain ⟨g1,g2,g3,-⟩:=goodA_in hg
  have cr:=chrow_ct (W:=W) (a:=a) ⟨g2,g3⟩ hu
  dsimp only [cond]
  refine Ct.enter Tryz.func26 rfl Tryz.ntmps26 (by simp) (fun R=>?_)
  repeat' (first|(refine zBn ?_;refine zBg rfl xF rfl (fun ga=>?_))|(refine zAe ?_;first|(refine zAa xE cg xP rfl (fun _=>?_))|(refine zAa xE cr xP rfl (fun _=>?_)))|refine xst ?_|(refine xsa ?_;intro _)|(refine xsb ?_ ?_ <;>intro _<;>try (exfalso;omega))|refine xsc ?_|(refine zAc (id:=2) plVFB1 (by kernel_rfl) (by kernel_rfl) ?_)|refine zAm ?_ ?_|refine zAk rfl rfl rfl rfl rfl ?_ ?_|refine zAg ?_ ?_|exact Rech.nil|fail)
  all_goals (exact xdn ())
end
end Go.Proofs.YtnbgcimalpdfoaaGreatDoor
namespace Go.Proofs.YtnbgcimalpdfoaaGreatDoor
open Go Go.RowKit
section
variable {W:World} {F:Nat→Addr} {p:Nat} {s:List UInt8} {a:Nat}
theorem rlow8_no (ha:a≤s.length) (h8:s.length<a+8) (hs:s.length≤9223372036854775000) (e1:W.cell? ⟨14,0,none⟩=some (errV F 1)) :
 Ct Tryz.prog W 176 [.pointer (some ⟨p,0,none⟩),.int .i64 8] [rdP p s a] (fun _:Unit=>.tuple #[.int .u64 0,errV F 1]) (fun _=>[rdP p s a]):=by
 have cl:=rleft_ct (W:=W) (p:=p) (s:=s) (a:=a) ha (by omega)
 have ql:decide (((s.length-a:Nat):Int)<8)=true:=decide_eq_true (by omega)
 refine Ct.enter Tryz.func176 rfl Tryz.ntmps176 (by simp) (fun R=>?_)
 repeat' (first|(refine zAe ?_;refine zAa xE cl xP rfl (fun _=>?_))|(refine zAp ?_;refine zAb (zAq rfl e1) ?_)|(refine zAi ?_;refine zAb (zAd rfl rfl ql) ?_)|refine xst ?_|(refine xsa ?_;intro _)|(refine xsb ?_ ?_ <;>intro _<;>try (exfalso;omega))|refine xsc ?_|(refine zAc (id:=2) plVFB1 (by kernel_rfl) (by kernel_rfl) ?_)|(refine zAc (id:=7) plVFB2 (by kernel_rfl) (by kernel_rfl) ?_)|refine zAm ?_ ?_|refine zAk rfl rfl rfl rfl rfl ?_ ?_|refine zAg ?_ ?_|exact Rech.nil|fail)
 all_goals (exact xdn ())
theorem rfixed_no (ha:a≤s.length) (h8:s.length<a+8) (hs:s.length≤9223372036854775000) (e1:W.cell? ⟨14,0,none⟩=some (errV F 1)) :
 Ct Tryz.prog W 118 [.pointer (some ⟨p,0,none⟩)] [rdP p s a] (fun _:Unit=>.tuple #[.int .u64 0,errV F 1]) (fun _=>[rdP p s a]):=by
 have cl:=rlow8_no (W:=W) (F:=F) (p:=p) ha h8 hs e1
 refine Ct.enter Tryz.func118 rfl Tryz.ntmps118 (by simp) (fun R=>?_)
 repeat' (first|(refine zAe ?_;refine zAa xE cl xP rfl (fun _=>?_))|refine xst ?_|(refine xsa ?_;intro _)|(refine xsb ?_ ?_ <;>intro _<;>try (exfalso;omega))|refine xsc ?_|fail)
 all_goals (exact xdn ())
end
section
variable {W:World} {F:Nat→Addr} {id s:List UInt8}
instance fn_chread:FnIs Tryz.prog 76:=⟨by kernel_rfl⟩
instance fn_chdec:FnIs Tryz.prog 30:=⟨by kernel_rfl⟩
instance fn_chget:FnIs Tryz.prog 44:=⟨by kernel_rfl⟩
abbrev RdBad:Type:={x:Acct × Nat//x.2≠0}
theorem readA_parts {k f:UInt8} {t:List UInt8}:readA (k::f::t)=match rtx 255 t with
 |.bad _=>none
 |.ok c u=>if u.length<16 then none else some (k,f,c,valB (u.take 8),valB ((u.drop 8).take 8)):=rfl
theorem chread_no (hs:s.length≤9223372036854775000) (e1:W.cell? ⟨14,0,none⟩=some (errV F 1)) (e2:W.cell? ⟨15,0,none⟩=some (errV F 2)) (e3:W.cell? ⟨16,0,none⟩=some (errV F 3)) (h:readA s=none) :
 Ct Tryz.prog W 76 [strV id,strV s] [] (fun x:RdBad=>.tuple #[acV x.1.1,errV F x.1.2]) (fun _=>[]):=by
 have cr:=rread_ct (W:=W) s
 have n1:=errNe (F:=F) (e:=1) (by omega)
 match s,h,hs,cr with
 |[],h,hs,cr=>
  have cb:=fun p=>rbyte_no (W:=W) (F:=F) (p:=p) (s:=[]) (a:=0) rfl (by simp) e1
  refine Ct.enter Tryz.func76 rfl Tryz.ntmps76 (by simp) (fun R=>?_)
  repeat' (first|(refine zAe ?_;first|(refine zAa xE (cb _) xP rfl (fun _=>?_))|(refine zAa xE cr xP rfl (fun g=>?_)))|(refine zBk ?_;refine zAb (zBm xV xW) ?_)|(refine zBc ?_;refine zAb (zCh rfl n1) ?_)|refine xst ?_|(refine xsa ?_;intro _)|(refine xsb ?_ ?_ <;>intro _<;>try (exfalso;omega))|refine xsc ?_|fail)
  all_goals (refine is_ex ?_;exact KJ_done (by first|exact Or.inl rfl|exact Or.inr rfl) rfl (Rvs.agg (T:=51) rfl inferInstance inferInstance xS xC (Rvs.tmp rfl Rvs.nil)) ⟨(⟨id,[],0,false,0,0⟩,1),show (1:Nat)≠0 by decide⟩ (by rfl) (xN))
 |[k],h,hs,cr=>
  have cb1:=fun p=>rbyte_ct (W:=W) (p:=p) (s:=[k]) (a:=0) (b:=k) rfl (by simp)
  have cb2:=fun p=>rbyte_no (W:=W) (F:=F) (p:=p) (s:=[k]) (a:=0+1) rfl (by simp) e1
  refine Ct.enter Tryz.func76 rfl Tryz.ntmps76 (by simp) (fun R=>?_)
  repeat' (first|(refine zAe ?_;first|(refine zAa xE (cb1 _) xP rfl (fun _=>?_))|(refine zAa xE (cb2 _) xP rfl (fun _=>?_))|(refine zAa xE cr xP rfl (fun g=>?_)))|(refine zBk ?_;refine zAb (zBm xV xW) ?_)|(refine zBc ?_;refine zAb (zCh rfl n1) ?_)|refine xst ?_|(refine xsa ?_;intro _)|(refine xsb ?_ ?_ <;>intro _<;>try (exfalso;omega))|refine xsc ?_|fail)
  all_goals (refine is_ex ?_;exact KJ_done (by first|exact Or.inl rfl|exact Or.inr rfl) rfl (Rvs.agg (T:=51) rfl inferInstance inferInstance xS xC (Rvs.tmp rfl Rvs.nil)) ⟨(⟨id,[],0,false,0,0⟩,1),show (1:Nat)≠0 by decide⟩ (by rfl) (xN))
 |k::f::t,h,hs,cr=>
  obtain ⟨s,hS⟩:∃ s,s=k::f::t:=⟨_,rfl⟩
  have hd:s.drop 2=t:=by rw [hS];rfl
  rw [readA_parts] at h
  rw [← hS] at hs cr ⊢
  have hl:s.length=t.length+2:=by rw [hS];rfl
  have cb1:=fun p=>rbyte_ct (W:=W) (p:=p) (s:=s) (a:=0) (b:=k) (by rw [hS];rfl) (by omega)
  have cb2:=fun p=>rbyte_ct (W:=W) (p:=p) (s:=s) (a:=0+1) (b:=f) (by rw [hS];rfl) (by omega)
  have ct:=fun p q hq=>rtext_ct (W:=W) (F:=F) (p:=p) (s:=s) (a:=0+1+1) 255 (by omega) (by omega) (by omega) e1 e2 e3 q hq
  rw [show 0+1+1=2 from rfl,hd] at ct
  obtain ⟨kk,hkk⟩:∃ kk,kk=((k.toNat:Nat):Int):=⟨_,rfl⟩
  have wk:IntKind.i64.wrap ((k.toNat:Nat):Int)=kk:=by have:=UInt8.toNat_lt k;rw [hkk];exact i64_in _ (by omega)
  obtain ⟨fz,hfz⟩:∃ b,decide (((f.toNat:Nat):Int)=1)=b:=⟨_,rfl⟩
  clear hkk
  cases hq:rtx 255 t with
  |bad e=>
   have ct:=fun p=>ct p _ hq
   have n2:=errNe (F:=F) (e:=e) (by rcases rtx_err hq with h|h|h <;> omega)
   have e0:e≠0:=by rcases rtx_err hq with h|h|h <;> omega
   dsimp only [rdS,rdE,rdT] at ct
   refine Ct.enter Tryz.func76 rfl Tryz.ntmps76 (by simp) (fun R=>?_)
   repeat' (first|(refine zAe ?_;first|(refine zAa xE (cb1 _) xP rfl (fun _=>?_))|(refine zAa xE (cb2 _) xP rfl (fun _=>?_))|(refine zAa xE (ct _) xP rfl (fun _=>?_))|(refine zAa xE cr xP rfl (fun g=>?_)))|(refine zBi ?_;refine zAb (zAs rfl wk) ?_)|(refine zBk ?_;refine zAb (zBm xV xW) ?_)|(refine zAx ?_;refine zAb (zAf rfl rfl hfz) ?_)|(refine zBc ?_;refine zAb (zCh rfl n2) ?_)|refine xst ?_|(refine xsa ?_;intro _)|(refine xsb ?_ ?_ <;>intro _<;>try (exfalso;omega))|refine xsc ?_|fail)
   all_goals (refine is_ex ?_;exact KJ_done (by first|exact Or.inl rfl|exact Or.inr rfl) rfl (Rvs.agg (T:=51) rfl inferInstance inferInstance xS xC (Rvs.tmp rfl Rvs.nil)) ⟨(⟨id,[],kk,fz,0,0⟩,e),e0⟩ (by rfl) (xN))
  |ok c u=>
   have ct:=fun p=>ct p _ hq
   dsimp only [rdS,rdE,rdT] at ct
   rw [hq] at h
   dsimp only at h
   have hu:u=s.drop (2+(tx c).length):=rtx_drop (a:=2) (by rw [hd];exact hq)
   have hf:=rtx_fit (s:=s) (a:=2) (by rw [hd];exact hq)
   have hul:u.length=s.length-(2+(tx c).length):=by rw [hu,List.length_drop]
   have h16:u.length<16:=by
    by_cases hh:u.length<16
    ·exact hh
    ·rw [if_neg hh] at h;cases h
   obtain ⟨p2,hp2⟩:∃ p2,p2=2+(tx c).length:=⟨_,rfl⟩
   rw [← hp2] at ct hu hf hul
   by_cases h8:u.length<8
   ·have cf:=fun p=>rfixed_no (W:=W) (F:=F) (p:=p) (s:=s) (a:=p2) hf (by omega) (by omega) e1
    refine Ct.enter Tryz.func76 rfl Tryz.ntmps76 (by simp) (fun R=>?_)
    repeat' (first|(refine zAe ?_;first|(refine zAa xE (cb1 _) xP rfl (fun _=>?_))|(refine zAa xE (cb2 _) xP rfl (fun _=>?_))|(refine zAa xE (ct _) xP rfl (fun _=>?_))|(refine zAa xE cr xP rfl (fun g=>?_))|(refine zAa xE (cf _) xP rfl (fun _=>?_)))|(refine zBi ?_;refine zAb (zAs rfl wk) ?_)|(refine zBk ?_;refine zAb (zBm xV xW) ?_)|(refine zAx ?_;refine zAb (zAf rfl rfl hfz) ?_)|(refine zBc ?_;refine zAb (zCh rfl n1) ?_)|refine xst ?_|(refine xsa ?_;intro _)|(refine xsb ?_ ?_ <;>intro _<;>try (exfalso;omega))|refine xsc ?_|fail)
    all_goals (refine is_ex ?_;exact KJ_done (by first|exact Or.inl rfl|exact Or.inr rfl) rfl (Rvs.agg (T:=51) rfl inferInstance inferInstance xS xC (Rvs.tmp rfl Rvs.nil)) ⟨(⟨id,c,kk,fz,0,0⟩,1),show (1:Nat)≠0 by decide⟩ (by rfl) (xN))
   ·have cf1:=fun p=>rfixed_ct (W:=W) (p:=p) (s:=s) (a:=p2) (by omega) (by omega)
    have cf2:=fun p=>rfixed_no (W:=W) (F:=F) (p:=p) (s:=s) (a:=p2+8) (by omega) (by omega) (by omega) e1
    obtain ⟨v1,hv1⟩:∃ v,v=valB ((s.drop p2).take 8):=⟨_,rfl⟩
    rw [← hv1] at cf1
    clear hv1
    obtain ⟨w1,hw1⟩:∃ v,IntKind.i64.wrap ((v1:Nat):Int)=v:=⟨_,rfl⟩
    refine Ct.enter Tryz.func76 rfl Tryz.ntmps76 (by simp) (fun R=>?_)
    repeat' (first|(refine zAe ?_;first|(refine zAa xE (cb1 _) xP rfl (fun _=>?_))|(refine zAa xE (cb2 _) xP rfl (fun _=>?_))|(refine zAa xE (ct _) xP rfl (fun _=>?_))|(refine zAa xE cr xP rfl (fun g=>?_))|(refine zAa xE (cf1 _) xP rfl (fun _=>?_))|(refine zAa xE (cf2 _) xP rfl (fun _=>?_)))|(refine zBi ?_;first|refine zAb (zAs (j:=0) rfl rfl) ?_|refine zAb (zAs rfl hw1) ?_|refine zAb (zAs rfl wk) ?_)|(refine zBk ?_;refine zAb (zBm xV xW) ?_)|(refine zAx ?_;refine zAb (zAf rfl rfl hfz) ?_)|refine xst ?_|(refine xsa ?_;intro _)|(refine xsb ?_ ?_ <;>intro _<;>try (exfalso;omega))|refine xsc ?_|fail)
    all_goals (refine is_ex ?_;exact KJ_done (by first|exact Or.inl rfl|exact Or.inr rfl) rfl (Rvs.agg (T:=51) rfl inferInstance inferInstance xS xC (Rvs.tmp rfl Rvs.nil)) ⟨(⟨id,c,kk,fz,w1,0⟩,1),show (1:Nat)≠0 by decide⟩ (by rfl) (xN))
theorem chread_ct {x:RdA} (hs:s.length≤9223372036854775000) (e1:W.cell? ⟨14,0,none⟩=some (errV F 1)) (e2:W.cell? ⟨15,0,none⟩=some (errV F 2)) (e3:W.cell? ⟨16,0,none⟩=some (errV F 3)) (h:readA s=some x) :
 Ct Tryz.prog W 76 [strV id,strV s] [] (fun _:Unit=>.tuple #[acV (acctOf id x),.nilIface]) (fun _=>[]):=by
 have cr:=rread_ct (W:=W) s
 match s,h,hs,cr with
 |k::f::t,h,hs,cr=>
  obtain ⟨s,hS⟩:∃ s,s=k::f::t:=⟨_,rfl⟩
  have hd:s.drop 2=t:=by rw [hS];rfl
  rw [readA_parts] at h
  rw [← hS] at hs cr ⊢
  have hl:s.length=t.length+2:=by rw [hS];rfl
  have cb1:=fun p=>rbyte_ct (W:=W) (p:=p) (s:=s) (a:=0) (b:=k) (by rw [hS];rfl) (by omega)
  have cb2:=fun p=>rbyte_ct (W:=W) (p:=p) (s:=s) (a:=0+1) (b:=f) (by rw [hS];rfl) (by omega)
  have ct:=fun p q hq=>rtext_ct (W:=W) (F:=F) (p:=p) (s:=s) (a:=0+1+1) 255 (by omega) (by omega) (by omega) e1 e2 e3 q hq
  rw [show 0+1+1=2 from rfl,hd] at ct
  cases hq:rtx 255 t with
  |bad e=>rw [hq] at h;cases h
  |ok c u=>
   have ct:=fun p=>ct p _ hq
   dsimp only [rdS,rdE,rdT] at ct
   rw [hq] at h
   dsimp only at h
   have hu:u=s.drop (2+(tx c).length):=rtx_drop (a:=2) (by rw [hd];exact hq)
   have hf:=rtx_fit (s:=s) (a:=2) (by rw [hd];exact hq)
   have hul:u.length=s.length-(2+(tx c).length):=by rw [hu,List.length_drop]
   have h16:¬ u.length<16:=by
    intro hh
    rw [if_pos hh] at h;cases h
   rw [if_neg h16] at h
   cases h
   obtain ⟨p2,hp2⟩:∃ p2,p2=2+(tx c).length:=⟨_,rfl⟩
   rw [← hp2] at ct hu hf hul
   have cf1:=fun p=>rfixed_ct (W:=W) (p:=p) (s:=s) (a:=p2) (by omega) (by omega)
   have cf2:=fun p=>rfixed_ct (W:=W) (p:=p) (s:=s) (a:=p2+8) (by omega) (by omega)
   rw [← hu] at cf1
   rw [← List.drop_drop,← hu] at cf2
   have b1:valB (u.take 8)<18446744073709551616:=Nat.lt_of_lt_of_le (valB_lt _) (Nat.le_trans (Nat.pow_le_pow_right (n:=256) (by omega) (show (u.take 8).length≤8 by rw [List.length_take];omega)) (by decide))
   have b2:valB ((u.drop 8).take 8)<18446744073709551616:=Nat.lt_of_lt_of_le (valB_lt _) (Nat.le_trans (Nat.pow_le_pow_right (n:=256) (by omega) (show ((u.drop 8).take 8).length≤8 by rw [List.length_take];omega)) (by decide))
   have w1:=i64_iT b1
   have w2:=i64_iT b2
   obtain ⟨v1,hv1⟩:∃ v,v=valB (u.take 8):=⟨_,rfl⟩
   obtain ⟨v2,hv2⟩:∃ v,v=valB ((u.drop 8).take 8):=⟨_,rfl⟩
   rw [← hv1] at cf1 w1 ⊢
   rw [← hv2] at cf2 w2 ⊢
   clear hv1 hv2 b1 b2
   have wk:IntKind.i64.wrap ((k.toNat:Nat):Int)=((k.toNat:Nat):Int):=by have:=UInt8.toNat_lt k;exact i64_in _ (by omega)
   obtain ⟨fz,hfz⟩:∃ b,decide (((f.toNat:Nat):Int)=1)=b:=⟨_,rfl⟩
   have hfz2:decide (f.toNat=1)=fz:=by rw [← hfz];exact decide_eq_decide.2 (by omega)
   show Ct Tryz.prog W 76 [strV id,strV s] [] (fun _:Unit=>.tuple #[.agg #[strV id,strV c,.int .i64 ((k.toNat:Nat):Int),.bool (decide (f.toNat=1)),.int .i64 (iT v1),.int .i64 (iT v2)],.nilIface]) (fun _=>[])
   rw [hfz2]
   obtain ⟨y1,hy1⟩:∃ v,v=iT v1:=⟨_,rfl⟩
   obtain ⟨y2,hy2⟩:∃ v,v=iT v2:=⟨_,rfl⟩
   rw [← hy1] at w1 ⊢
   rw [← hy2] at w2 ⊢
   refine Ct.enter Tryz.func76 rfl Tryz.ntmps76 (by simp) (fun R=>?_)
   repeat' (first|(refine zAe ?_;first|(refine zAa xE (cb1 _) xP rfl (fun _=>?_))|(refine zAa xE (cb2 _) xP rfl (fun _=>?_))|(refine zAa xE (ct _) xP rfl (fun _=>?_))|(refine zAa xE cr xP rfl (fun g=>?_))|(refine zAa xE (cf1 _) xP rfl (fun _=>?_))|(refine zAa xE (cf2 _) xP rfl (fun _=>?_)))|(refine zBi ?_;first|refine zAb (zAs rfl w2) ?_|refine zAb (zAs rfl w1) ?_|refine zAb (zAs rfl wk) ?_)|(refine zBk ?_;refine zAb (zBm xV xW) ?_)|(refine zAx ?_;refine zAb (zAf rfl rfl hfz) ?_)|refine xst ?_|(refine xsa ?_;intro _)|(refine xsb ?_ ?_ <;>intro _<;>try (exfalso;omega))|refine xsc ?_|fail)
   all_goals (refine is_ex ?_;exact KJ_done (by first|exact Or.inl rfl|exact Or.inr rfl) rfl (Rvs.agg (T:=51) rfl inferInstance inferInstance xS xC (Rvs.tmp rfl Rvs.nil)) () (by rfl) (xN))
theorem read_in {s:List UInt8} {x:RdA} (h:readA s=some x) (id:List UInt8) (a:Acct) (ha:a=acctOf id x):a.cur.length≤255∧(-9223372036854775808≤a.bal∧a.bal≤9223372036854775807):=by
 match s,h with
 |k::f::t,h=>
  rw [readA_parts] at h
  cases hq:rtx 255 t with
  |bad e=>rw [hq] at h;cases h
  |ok c u=>
   rw [hq] at h
   dsimp only at h
   split at h
   ·cases h
   cases h
   subst ha
   have b1:valB (u.take 8)<18446744073709551616:=Nat.lt_of_lt_of_le (valB_lt _) (Nat.le_trans (Nat.pow_le_pow_right (n:=256) (by omega) (show (u.take 8).length≤8 by rw [List.length_take];omega)) (by decide))
   exact ⟨(tx_rtx hq).2,iT_in b1⟩
def decV (F:Nat→Addr) (o:Option Acct):Value:=match o with
 |none=>.tuple #[acV ac0,errV F 15]
 |some a=>.tuple #[acV a,.nilIface]
theorem chdec_ct (hi:id.length≤2000000) (hs:s.length≤9223372036854775000) (hE:ErrsOn L37 W F) :
 Ct Tryz.prog W 30 [strV id,strV s] [] (fun _:Unit=>decV F (decA id s)) (fun _=>[]):=by
 have e1:W.cell? ⟨14,0,none⟩=some (errV F 1):=hE.at_ 1 (by decide)
 have e2:W.cell? ⟨15,0,none⟩=some (errV F 2):=hE.at_ 2 (by decide)
 have e3:W.cell? ⟨16,0,none⟩=some (errV F 3):=hE.at_ 3 (by decide)
 have e7:W.cell? ⟨3,0,none⟩=some (errV F 7):=hE.at_ 7 (by decide)
 have e8:W.cell? ⟨19,0,none⟩=some (errV F 8):=hE.at_ 8 (by decide)
 have e15:W.cell? ⟨4,0,none⟩=some (errV F 15):=hE.at_ 15 (by decide)
 cases hr:readA s with
 |none=>
  have cr:=chread_no (W:=W) (F:=F) (id:=id) (s:=s) hs e1 e2 e3 hr
  rw [dec_no hr]
  show Ct Tryz.prog W 30 [strV id,strV s] [] (fun _:Unit=>.tuple #[acV ac0,errV F 15]) (fun _=>[])
  refine Ct.enter Tryz.func30 rfl Tryz.ntmps30 (by simp) (fun R=>?_)
  repeat' (first|(refine zAe ?_;refine zAa xE cr xP rfl (fun x=>?_);obtain ⟨⟨xa,xe⟩,hx⟩:=x;have hne:=errNe (F:=F) hx;dsimp only at hne ⊢)|(refine zAp ?_;refine zAb (zAq rfl e15) ?_)|(refine zBk ?_;refine zAb (zBm xV xW) ?_)|(refine zBc ?_;refine zAb (zCh rfl hne) ?_)|refine xst ?_|(refine xsa ?_;intro _)|(refine xsb ?_ ?_ <;>intro _<;>try (exfalso;omega))|refine xsc ?_|(refine zAc (id:=3) plVFB3 (by kernel_rfl) (by kernel_rfl) ?_)|refine zAm ?_ ?_|refine zAk rfl rfl rfl rfl rfl ?_ ?_|refine zAg ?_ ?_|exact Rech.nil|fail)
  all_goals (refine is_ex ?_;exact KJ_done (by first|exact Or.inl rfl|exact Or.inr rfl) rfl (Rvs.agg (T:=51) rfl inferInstance inferInstance xS xC (Rvs.tmp rfl Rvs.nil)) () (by rfl) (xN))
 |some x=>
  have cr:=chread_ct (W:=W) (F:=F) (id:=id) (s:=s) hs e1 e2 e3 hr
  rw [dec_read hr]
  obtain ⟨a,ha⟩:∃ a,a=acctOf id x:=⟨_,rfl⟩
  have hai:a.id=id:=by rw [ha];rfl
  have hcur:a.cur.length≤255∧(-9223372036854775808≤a.bal∧a.bal≤9223372036854775807):=read_in hr id a ha
  rw [← ha] at cr ⊢
  have cg:=chgood_ct (W:=W) (F:=F) (a:=a) (by rw [hai];exact hi) (by omega) hcur.2 e7 e8
  cases hg:goodA a with
  |false=>
   rw [hg] at cg
   show Ct Tryz.prog W 30 [strV id,strV s] [] (fun _:Unit=>.tuple #[acV ac0,errV F 15]) (fun _=>[])
   clear ha
   refine Ct.enter Tryz.func30 rfl Tryz.ntmps30 (by simp) (fun R=>?_)
   repeat' (first|(refine zAe ?_;first|(refine zAa xE cr xP rfl (fun _=>?_))|(refine zAa xE cg xP rfl (fun _=>?_)))|(refine zAp ?_;refine zAb (zAq rfl e15) ?_)|(refine zBk ?_;refine zAb (zBm xV xW) ?_)|refine xst ?_|(refine xsa ?_;intro _)|(refine xsb ?_ ?_ <;>intro _<;>try (exfalso;omega))|refine xsc ?_|(refine zAc (id:=3) plVFB3 (by kernel_rfl) (by kernel_rfl) ?_)|refine zAm ?_ ?_|refine zAk rfl rfl rfl rfl rfl ?_ ?_|refine zAg ?_ ?_|exact Rech.nil|fail)
   all_goals (refine is_ex ?_;exact KJ_done (by first|exact Or.inl rfl|exact Or.inr rfl) rfl (Rvs.agg (T:=51) rfl inferInstance inferInstance xS xC (Rvs.tmp rfl Rvs.nil)) () (by rfl) (xN))
  |true=>
   rw [hg] at cg
   obtain ⟨-,g2,g3,-⟩:=goodA_in hg
   have cw:=chrow_ct (W:=W) (a:=a) ⟨g2,g3⟩ (by omega)
   by_cases hw:rowA a=s
   ·rw [decide_eq_true hw]
    show Ct Tryz.prog W 30 [strV id,strV s] [] (fun _:Unit=>.tuple #[acV a,.nilIface]) (fun _=>[])
    clear ha
    refine Ct.enter Tryz.func30 rfl Tryz.ntmps30 (by simp) (fun R=>?_)
    repeat' (first|(refine zAe ?_;first|(refine zAa xE cr xP rfl (fun _=>?_))|(refine zAa xE cg xP rfl (fun _=>?_))|(refine zAa xE cw xP rfl (fun _=>?_)))|(refine zBk ?_;refine zAb (zBm xV xW) ?_)|(refine zBc ?_;refine zAb (Ev_neqS_f rfl rfl hw) ?_)|refine xst ?_|(refine xsa ?_;intro _)|(refine xsb ?_ ?_ <;>intro _<;>try (exfalso;omega))|refine xsc ?_|(refine zAc (id:=3) plVFB3 (by kernel_rfl) (by kernel_rfl) ?_)|refine zAm ?_ ?_|refine zAk rfl rfl rfl rfl rfl ?_ ?_|refine zAg ?_ ?_|exact Rech.nil|fail)
    all_goals (refine is_ex ?_;exact KJ_done (by first|exact Or.inl rfl|exact Or.inr rfl) rfl (Rvs.agg (T:=51) rfl inferInstance inferInstance xS xC (Rvs.tmp rfl Rvs.nil)) () (by rfl) (xN))
   ·rw [decide_eq_false hw]
    show Ct Tryz.prog W 30 [strV id,strV s] [] (fun _:Unit=>.tuple #[acV ac0,errV F 15]) (fun _=>[])
    clear ha
    refine Ct.enter Tryz.func30 rfl Tryz.ntmps30 (by simp) (fun R=>?_)
    repeat' (first|(refine zAe ?_;first|(refine zAa xE cr xP rfl (fun _=>?_))|(refine zAa xE cg xP rfl (fun _=>?_))|(refine zAa xE cw xP rfl (fun _=>?_)))|(refine zAp ?_;refine zAb (zAq rfl e15) ?_)|(refine zBk ?_;refine zAb (zBm xV xW) ?_)|(refine zBc ?_;refine zAb (Ev_neqS_t rfl rfl hw) ?_)|refine xst ?_|(refine xsa ?_;intro _)|(refine xsb ?_ ?_ <;>intro _<;>try (exfalso;omega))|refine xsc ?_|(refine zAc (id:=3) plVFB3 (by kernel_rfl) (by kernel_rfl) ?_)|refine zAm ?_ ?_|refine zAk rfl rfl rfl rfl rfl ?_ ?_|refine zAg ?_ ?_|exact Rech.nil|fail)
    all_goals (refine is_ex ?_;exact KJ_done (by first|exact Or.inl rfl|exact Or.inr rfl) rfl (Rvs.agg (T:=51) rfl inferInstance inferInstance xS xC (Rvs.tmp rfl Rvs.nil)) () (by rfl) (xN))
def getV (F:Nat→Addr) (id:List UInt8) (o:Option (List UInt8)):Value:=.tuple #[acV ((getO id o).getD ac0),errV F (getE id o)]
theorem chget_ct {T:SP} {t:Nat} {o:Option (List UInt8)} (hi:id.length≤2000000) (ho:∀ s,o=some s→s.length≤9223372036854775000) (hE:ErrsOn L37 W F) (cg:Ct Tryz.prog W 24 [.pointer (some ⟨t,0,none⟩),strV (aKey id)] [T] (fun _:Unit=>.tuple #[strV (o.getD []),.bool o.isSome]) (fun _=>[T])) :
 Ct Tryz.prog W 44 [.pointer (some ⟨t,0,none⟩),strV id] [T] (fun _:Unit=>getV F id o) (fun _=>[T]):=by
 have ck:=chkey_ct (W:=W) id (by omega)
 have e20:W.cell? ⟨5,0,none⟩=some (errV F 20):=hE.at_ 20 (by decide)
 cases o with
 |none=>
  show Ct Tryz.prog W 44 [.pointer (some ⟨t,0,none⟩),strV id] [T] (fun _:Unit=>.tuple #[acV ac0,errV F 20]) (fun _=>[T])
  refine Ct.enter Tryz.func44 rfl Tryz.ntmps44 (by simp) (fun R=>?_)
  repeat' (first|(refine zAe ?_;first|(refine zAa xE cg xP rfl (fun _=>?_))|(refine zAa xE ck xP rfl (fun _=>?_)))|(refine zAp ?_;refine zAb (zAq rfl e20) ?_)|(refine zBk ?_;refine zAb (zBm xV xW) ?_)|refine xst ?_|(refine xsa ?_;intro _)|(refine xsb ?_ ?_ <;>intro _<;>try (exfalso;omega))|refine xsc ?_|(refine zAc (id:=3) plVFB3 (by kernel_rfl) (by kernel_rfl) ?_)|refine zAm ?_ ?_|refine zAk rfl rfl rfl rfl rfl ?_ ?_|refine zAg ?_ ?_|exact Rech.nil|fail)
  all_goals (refine is_ex ?_;exact KJ_done (by first|exact Or.inl rfl|exact Or.inr rfl) rfl (Rvs.agg (T:=51) rfl inferInstance inferInstance xS xC (Rvs.tmp rfl Rvs.nil)) () (by rfl) (xN))
 |some s=>
  have cd:=chdec_ct (W:=W) (F:=F) (id:=id) (s:=s) hi (ho s rfl) hE
  cases hd:decA id s with
  |none=>
   rw [hd] at cd
   have e:getV F id (some s)=.tuple #[acV ac0,errV F 15]:=by unfold getV getO getE;simp only [Option.bind_some,hd];rfl
   rw [e]
   have cd:Ct Tryz.prog W 30 [strV id,strV s] [] (fun _:Unit=>.tuple #[acV ac0,errV F 15]) (fun _=>[]):=cd
   refine Ct.enter Tryz.func44 rfl Tryz.ntmps44 (by simp) (fun R=>?_)
   repeat' (first|(refine zAe ?_;first|(refine zAa xE cg xP rfl (fun _=>?_))|(refine zAa xE ck xP rfl (fun _=>?_))|(refine zAa xE cd xP rfl (fun _=>?_)))|(refine zBk ?_;refine zAb (zBm xV xW) ?_)|refine xst ?_|(refine xsa ?_;intro _)|(refine xsb ?_ ?_ <;>intro _<;>try (exfalso;omega))|refine xsc ?_|(refine zAc (id:=3) plVFB3 (by kernel_rfl) (by kernel_rfl) ?_)|refine zAm ?_ ?_|refine zAk rfl rfl rfl rfl rfl ?_ ?_|refine zAg ?_ ?_|exact Rech.nil|fail)
   all_goals (refine is_ex ?_;exact KJ_done (by first|exact Or.inl rfl|exact Or.inr rfl) rfl (Rvs.agg (T:=51) rfl inferInstance inferInstance xS xC (Rvs.tmp rfl Rvs.nil)) () (by rfl) (xN))
  |some a=>
   rw [hd] at cd
   have e:getV F id (some s)=.tuple #[acV a,.nilIface]:=by unfold getV getO getE;simp only [Option.bind_some,hd];rfl
   rw [e]
   have cd:Ct Tryz.prog W 30 [strV id,strV s] [] (fun _:Unit=>.tuple #[acV a,.nilIface]) (fun _=>[]):=cd
   refine Ct.enter Tryz.func44 rfl Tryz.ntmps44 (by simp) (fun R=>?_)
   repeat' (first|(refine zAe ?_;first|(refine zAa xE cg xP rfl (fun _=>?_))|(refine zAa xE ck xP rfl (fun _=>?_))|(refine zAa xE cd xP rfl (fun _=>?_)))|(refine zBk ?_;refine zAb (zBm xV xW) ?_)|refine xst ?_|(refine xsa ?_;intro _)|(refine xsb ?_ ?_ <;>intro _<;>try (exfalso;omega))|refine xsc ?_|(refine zAc (id:=3) plVFB3 (by kernel_rfl) (by kernel_rfl) ?_)|refine zAm ?_ ?_|refine zAk rfl rfl rfl rfl rfl ?_ ?_|refine zAg ?_ ?_|exact Rech.nil|fail)
   all_goals (refine is_ex ?_;exact KJ_done (by first|exact Or.inl rfl|exact Or.inr rfl) rfl (Rvs.agg (T:=51) rfl inferInstance inferInstance xS xC (Rvs.tmp rfl Rvs.nil)) () (by rfl) (xN))
end
end Go.Proofs.YtnbgcimalpdfoaaGreatDoor
