/-
  PoD4, PoD5, PoD6.
-/
import Derived.Test.YtnbgcimalpdfoaaGreatDoorVEX
import Derived.Test.YtnbgcimalpdfoaaGreatDoorVBZ
import Derived.Test.YtnbgcimalpdfoaaGreatDoorVFR
import Derived.Test.YtnbgcimalpdfoaaGreatDoorVEY
import Derived.Test.YtnbgcimalpdfoaaGreatDoorVFO
set_option maxHeartbeats 64000000
namespace Go.Proofs.YtnbgcimalpdfoaaGreatDoor
open Go Go.RowKit
abbrev plVFN0:Pl:=(.op 0 (.op 1 (.op 2 (.op 3 (.op 4 (.ef 5 [] (.op 6 (.op 7 (.op 8 (.op 9 (.op 10 .nil)))))))))))
section
variable {W:World}
theorem dcap_ct (b:UInt8):Ct Tryz.prog W 132 [bv b] [] (fun _:Unit=>.bool (capB b)) (fun _=>[]):=by
 unfold capB
 cases h1:decide (65≤b.toNat) <;> cases h2:decide (b.toNat≤90)
 all_goals have q1:=(range_ct 65 90 b).1.trans h1
 all_goals have q2:=(range_ct 65 90 b).2.trans h2
 all_goals refine Ct.enter Tryz.func132 rfl Tryz.ntmps132 (by simp) (fun R=>?_)
 all_goals repeat' (first|(refine ek_leq ?_;refine zAb (zBf rfl rfl q2) ?_)|(refine zCa ?_;refine zAb (zAv rfl rfl q1) ?_)|refine xst ?_|(refine xsa ?_;intro _)|(refine xsb ?_ ?_ <;>intro _<;>try (exfalso;omega))|refine xsc ?_|fail)
 all_goals (exact xdn ())
theorem ddig_ct (b:UInt8):Ct Tryz.prog W 133 [bv b] [] (fun _:Unit=>.bool (digB b)) (fun _=>[]):=by
 unfold digB
 cases h1:decide (48≤b.toNat) <;> cases h2:decide (b.toNat≤57)
 all_goals have q1:=(range_ct 48 57 b).1.trans h1
 all_goals have q2:=(range_ct 48 57 b).2.trans h2
 all_goals refine Ct.enter Tryz.func133 rfl Tryz.ntmps133 (by simp) (fun R=>?_)
 all_goals repeat' (first|(refine ek_leq ?_;refine zAb (zBf rfl rfl q2) ?_)|(refine zCa ?_;refine zAb (zAv rfl rfl q1) ?_)|refine xst ?_|(refine xsa ?_;intro _)|(refine xsb ?_ ?_ <;>intro _<;>try (exfalso;omega))|refine xsc ?_|fail)
 all_goals (exact xdn ())
theorem dall_cap (s:List UInt8) (hs:s.length≤9223372036854775800):Ct Tryz.prog W 83 [strV s,.bool true,.bool false] [] (fun _:Unit=>.bool (s.all capB)) (fun _=>[]):=by
 refine Ct.enter Tryz.func83 rfl Tryz.ntmps83 (by simp) (fun R=>?_)
 repeat' (first|refine xst ?_|(refine xsa ?_;intro _)|(refine xsb ?_ ?_ <;>intro _<;>try (exfalso;omega))|refine xsc ?_|fail)
 refine zBe (fun i:{k:Nat//k≤s.length∧(s.take k).all capB=true}=>[(0,strV s),(1,.bool true),(2,.bool false),(7,.int .i64 (i.1:Nat))])
  (fun _=>[]++R) (fun i=>s.length-i.1) ⟨0,by omega,rfl⟩ xB (xN) (fun ⟨k,hk,ha⟩=>?_)
 dsimp only
 by_cases hlt:k<s.length
 ·have ql:decide (((k:Nat):Int)<((s.length:Nat):Int))=true:=decide_eq_true (by omega)
  obtain ⟨b,hb⟩:∃ b,s[k]? = some b:=⟨_,List.getElem?_eq_getElem hlt⟩
  have c1:=dcap_ct (W:=W) b
  cases hc:capB b with
  |true=>
   rw [hc] at c1
   repeat' (first|(refine zAe ?_;refine zAa xE c1 xP rfl (fun _=>?_))|(refine zBj ?_;refine zAb (zAt rfl rfl (by omega) hb) ?_)|(refine zAu ?_;refine zAb (zAh (r:=((k+1:Nat):Int)) rfl rfl (by omega) (by omega)) ?_)|(refine zAi ?_;refine zAb (zAd rfl rfl ql) ?_)|refine xst ?_|(refine xsa ?_;intro _)|(refine xsb ?_ ?_ <;>intro _<;>try (exfalso;omega))|refine xsc ?_|fail)
   all_goals exact zAr ⟨k+1,by omega,all_next hb ha hc⟩ (by show s.length-(k+1)<s.length-k;omega) xB (xN)
  |false=>
   rw [hc] at c1
   rw [all_bad hb hc]
   repeat' (first|(refine zAe ?_;refine zAa xE c1 xP rfl (fun _=>?_))|(refine zBj ?_;refine zAb (zAt rfl rfl (by omega) hb) ?_)|(refine zAi ?_;refine zAb (zAd rfl rfl ql) ?_)|refine xst ?_|(refine xsa ?_;intro _)|(refine xsb ?_ ?_ <;>intro _<;>try (exfalso;omega))|refine xsc ?_|fail)
   all_goals (exact xdn ())
 ·have ql:decide (((k:Nat):Int)<((s.length:Nat):Int))=false:=decide_eq_false (by omega)
  have e:k=s.length:=by omega
  subst e
  rw [List.take_length] at ha
  rw [ha]
  repeat' (first|(refine zAi ?_;refine zAb (zAd rfl rfl ql) ?_)|refine xst ?_|(refine xsa ?_;intro _)|(refine xsb ?_ ?_ <;>intro _<;>try (exfalso;omega))|refine xsc ?_|fail)
  all_goals (exact xdn ())
theorem dall_dig (s:List UInt8) (hs:s.length≤9223372036854775800):Ct Tryz.prog W 83 [strV s,.bool false,.bool true] [] (fun _:Unit=>.bool (s.all digB)) (fun _=>[]):=by
 refine Ct.enter Tryz.func83 rfl Tryz.ntmps83 (by simp) (fun R=>?_)
 repeat' (first|refine xst ?_|(refine xsa ?_;intro _)|(refine xsb ?_ ?_ <;>intro _<;>try (exfalso;omega))|refine xsc ?_|fail)
 refine zBe (fun i:{k:Nat//k≤s.length∧(s.take k).all digB=true}=>[(0,strV s),(1,.bool false),(2,.bool true),(7,.int .i64 (i.1:Nat))])
  (fun _=>[]++R) (fun i=>s.length-i.1) ⟨0,by omega,rfl⟩ xB (xN) (fun ⟨k,hk,ha⟩=>?_)
 dsimp only
 by_cases hlt:k<s.length
 ·have ql:decide (((k:Nat):Int)<((s.length:Nat):Int))=true:=decide_eq_true (by omega)
  obtain ⟨b,hb⟩:∃ b,s[k]? = some b:=⟨_,List.getElem?_eq_getElem hlt⟩
  have c2:=ddig_ct (W:=W) b
  cases hd:digB b with
  |true=>
   rw [hd] at c2
   repeat' (first|(refine zAe ?_;refine zAa xE c2 xP rfl (fun _=>?_))|(refine zBj ?_;refine zAb (zAt rfl rfl (by omega) hb) ?_)|(refine zAu ?_;refine zAb (zAh (r:=((k+1:Nat):Int)) rfl rfl (by omega) (by omega)) ?_)|(refine zAi ?_;refine zAb (zAd rfl rfl ql) ?_)|refine xst ?_|(refine xsa ?_;intro _)|(refine xsb ?_ ?_ <;>intro _<;>try (exfalso;omega))|refine xsc ?_|fail)
   all_goals exact zAr ⟨k+1,by omega,all_next hb ha hd⟩ (by show s.length-(k+1)<s.length-k;omega) xB (xN)
  |false=>
   rw [hd] at c2
   rw [all_bad hb hd]
   repeat' (first|(refine zAe ?_;refine zAa xE c2 xP rfl (fun _=>?_))|(refine zBj ?_;refine zAb (zAt rfl rfl (by omega) hb) ?_)|(refine zAi ?_;refine zAb (zAd rfl rfl ql) ?_)|refine xst ?_|(refine xsa ?_;intro _)|(refine xsb ?_ ?_ <;>intro _<;>try (exfalso;omega))|refine xsc ?_|fail)
   all_goals (exact xdn ())
 ·have ql:decide (((k:Nat):Int)<((s.length:Nat):Int))=false:=decide_eq_false (by omega)
  have e:k=s.length:=by omega
  subst e
  rw [List.take_length] at ha
  rw [ha]
  repeat' (first|(refine zAi ?_;refine zAb (zAd rfl rfl ql) ?_)|refine xst ?_|(refine xsa ?_;intro _)|(refine xsb ?_ ?_ <;>intro _<;>try (exfalso;omega))|refine xsc ?_|fail)
  all_goals (exact xdn ())
theorem dall_pln (s:List UInt8) (hs:s.length≤9223372036854775800):Ct Tryz.prog W 83 [strV s,.bool true,.bool true] [] (fun _:Unit=>.bool (s.all (fun b=>capB b || digB b))) (fun _=>[]):=by
 refine Ct.enter Tryz.func83 rfl Tryz.ntmps83 (by simp) (fun R=>?_)
 repeat' (first|refine xst ?_|(refine xsa ?_;intro _)|(refine xsb ?_ ?_ <;>intro _<;>try (exfalso;omega))|refine xsc ?_|fail)
 refine zBe (fun i:{k:Nat//k≤s.length∧(s.take k).all (fun b=>capB b || digB b)=true}=>[(0,strV s),(1,.bool true),(2,.bool true),(7,.int .i64 (i.1:Nat))])
  (fun _=>[]++R) (fun i=>s.length-i.1) ⟨0,by omega,rfl⟩ xB (xN) (fun ⟨k,hk,ha⟩=>?_)
 dsimp only
 by_cases hlt:k<s.length
 ·have ql:decide (((k:Nat):Int)<((s.length:Nat):Int))=true:=decide_eq_true (by omega)
  obtain ⟨b,hb⟩:∃ b,s[k]? = some b:=⟨_,List.getElem?_eq_getElem hlt⟩
  have c1:=dcap_ct (W:=W) b
  have c2:=ddig_ct (W:=W) b
  cases hc:capB b with
  |true=>
   rw [hc] at c1
   have hp:(fun b=>capB b || digB b) b=true:=by show (capB b || digB b)=true;rw [hc,Bool.true_or]
   repeat' (first|(refine zAe ?_;refine zAa xE c1 xP rfl (fun _=>?_))|(refine zBj ?_;refine zAb (zAt rfl rfl (by omega) hb) ?_)|(refine zAu ?_;refine zAb (zAh (r:=((k+1:Nat):Int)) rfl rfl (by omega) (by omega)) ?_)|(refine zAi ?_;refine zAb (zAd rfl rfl ql) ?_)|refine xst ?_|(refine xsa ?_;intro _)|(refine xsb ?_ ?_ <;>intro _<;>try (exfalso;omega))|refine xsc ?_|fail)
   all_goals exact zAr ⟨k+1,by omega,all_next hb ha hp⟩ (by show s.length-(k+1)<s.length-k;omega) xB (xN)
  |false=>
   cases hd:digB b with
   |true=>
    rw [hc] at c1
    rw [hd] at c2
    have hp:(fun b=>capB b || digB b) b=true:=by show (capB b || digB b)=true;rw [hc,hd];rfl
    repeat' (first|(refine zAe ?_;first|(refine zAa xE c2 xP rfl (fun _=>?_))|(refine zAa xE c1 xP rfl (fun _=>?_)))|(refine zBj ?_;refine zAb (zAt rfl rfl (by omega) hb) ?_)|(refine zAu ?_;refine zAb (zAh (r:=((k+1:Nat):Int)) rfl rfl (by omega) (by omega)) ?_)|(refine zAi ?_;refine zAb (zAd rfl rfl ql) ?_)|refine xst ?_|(refine xsa ?_;intro _)|(refine xsb ?_ ?_ <;>intro _<;>try (exfalso;omega))|refine xsc ?_|fail)
    all_goals exact zAr ⟨k+1,by omega,all_next hb ha hp⟩ (by show s.length-(k+1)<s.length-k;omega) xB (xN)
   |false=>
    rw [hc] at c1
    rw [hd] at c2
    have hp:(fun b=>capB b || digB b) b=false:=by show (capB b || digB b)=false;rw [hc,hd];rfl
    rw [all_bad hb hp]
    repeat' (first|(refine zAe ?_;first|(refine zAa xE c2 xP rfl (fun _=>?_))|(refine zAa xE c1 xP rfl (fun _=>?_)))|(refine zBj ?_;refine zAb (zAt rfl rfl (by omega) hb) ?_)|(refine zAi ?_;refine zAb (zAd rfl rfl ql) ?_)|refine xst ?_|(refine xsa ?_;intro _)|(refine xsb ?_ ?_ <;>intro _<;>try (exfalso;omega))|refine xsc ?_|fail)
    all_goals (exact xdn ())
 ·have ql:decide (((k:Nat):Int)<((s.length:Nat):Int))=false:=decide_eq_false (by omega)
  have e:k=s.length:=by omega
  subst e
  rw [List.take_length] at ha
  rw [ha]
  repeat' (first|(refine zAi ?_;refine zAb (zAd rfl rfl ql) ?_)|refine xst ?_|(refine xsa ?_;intro _)|(refine xsb ?_ ?_ <;>intro _<;>try (exfalso;omega))|refine xsc ?_|fail)
  all_goals (exact xdn ())
def valD (b:UInt8):Int:=if digB b=true then ((b.toNat-48:Nat):Int) else if capB b=true then ((b.toNat-65+10:Nat):Int) else -1
theorem dvalue_ct (b:UInt8):Ct Tryz.prog W 187 [bv b] [] (fun _:Unit=>.int .i64 (valD b)) (fun _=>[]):=by
 have hb8:b.toNat<256:=b.toNat_lt
 have w1:IntKind.i64.wrap ((b.toNat:Nat):Int)=((b.toNat:Nat):Int):=i64_wrap _ (by omega)
 unfold valD digB capB
 cases h1:decide (48≤b.toNat) <;> cases h2:decide (b.toNat≤57) <;> cases h3:decide (65≤b.toNat) <;> cases h4:decide (b.toNat≤90)
 all_goals have q1:=(range_ct 48 57 b).1.trans h1
 all_goals have q2:=(range_ct 48 57 b).2.trans h2
 all_goals have q3:=(range_ct 65 90 b).1.trans h3
 all_goals have q4:=(range_ct 65 90 b).2.trans h4
 all_goals have e1:decide (48≤b.toNat)=true→((b.toNat:Nat):Int)-48=((b.toNat-48:Nat):Int):=fun q=>by have:=of_decide_eq_true q;omega
 all_goals have e2:decide (65≤b.toNat)=true→((b.toNat:Nat):Int)-65=((b.toNat-65:Nat):Int):=fun q=>by have:=of_decide_eq_true q;omega
 all_goals refine Ct.enter Tryz.func187 rfl Tryz.ntmps187 (by simp) (fun R=>?_)
 all_goals repeat' (first|(refine zBi ?_;refine zAb (zAs rfl w1) ?_)|(refine zAu ?_;refine zAb (zAh (r:=((b.toNat-65+10:Nat):Int)) rfl rfl (by omega) (by omega)) ?_)|(refine ek_sub ?_;first|refine zAb (Ev_subI_v rfl rfl (e2 h3) (by omega)) ?_|refine zAb (Ev_subI_v rfl rfl (e1 h1) (by omega)) ?_)|(refine ek_leq ?_;first|refine zAb (zBf rfl rfl q4) ?_|refine zAb (zBf rfl rfl q2) ?_)|(refine zCa ?_;first|refine zAb (zAv rfl rfl q3) ?_|refine zAb (zAv rfl rfl q1) ?_)|refine xst ?_|(refine xsa ?_;intro _)|(refine xsb ?_ ?_ <;>intro _<;>try (exfalso;omega))|refine xsc ?_|fail)
 all_goals (exact xdn ())
theorem val_dig {b:UInt8} (h:digB b=true):valD b=((b.toNat-48:Nat):Int)∧b.toNat-48≤9:=by
 unfold valD
 rw [if_pos h]
 refine ⟨rfl,?_⟩
 unfold digB at h
 simp only [Bool.and_eq_true,decide_eq_true_eq] at h
 omega
theorem val_cap {b:UInt8} (h:digB b=false) (h2:capB b=true):valD b=((b.toNat-65+10:Nat):Int)∧b.toNat-65+10<40:=by
 unfold valD
 rw [if_neg (by rw [h];decide),if_pos h2]
 refine ⟨rfl,?_⟩
 unfold capB at h2
 simp only [Bool.and_eq_true,decide_eq_true_eq] at h2
 omega
theorem val_bad {b:UInt8} (h:digB b=false) (h2:capB b=false):valD b=-1:=by
 unfold valD
 rw [if_neg (by rw [h];decide),if_neg (by rw [h2];decide)]
theorem drest_ct (s:List UInt8) (hs:s.length≤9223372036854775800) (hne:s≠[]) (q:Option Nat) (hq:restG s 0=q) :
 Ct Tryz.prog W 134 [strV s] [] (fun _:Unit=>.tuple #[.int .i64 (q.getD 0:Nat),.int .i64 (rstE q:Nat)]) (fun _=>[]):=by
 have hlen:s.length≠0:=fun e=>hne (List.length_eq_zero_iff.1 e)
 have q0:decide (((s.length:Nat):Int)=0)=false:=decide_eq_false (by omega)
 refine Ct.enter Tryz.func134 rfl Tryz.ntmps134 (by simp) (fun R=>?_)
 repeat' (first|(refine zAx ?_;refine zAb (zAf rfl rfl q0) ?_)|refine xst ?_|(refine xsa ?_;intro _)|(refine xsb ?_ ?_ <;>intro _<;>try (exfalso;omega))|refine xsc ?_|fail)
 refine zBe (fun i:{x:Nat × Nat//x.1≤s.length∧x.2<97∧restG (s.drop x.1) x.2=q}=>[(0,strV s),(4,.int .i64 (i.1.2:Nat)),(5,.int .i64 (i.1.1:Nat))])
  (fun _=>[]++R) (fun i=>s.length-i.1.1) ⟨(0,0),by omega,by omega,hq⟩ xB (xN) (fun ⟨(k,r),hk,hr,ha⟩=>?_)
 dsimp only at hk hr ha ⊢
 by_cases hlt:k<s.length
 ·have ql:decide (((k:Nat):Int)<((s.length:Nat):Int))=true:=decide_eq_true (by omega)
  obtain ⟨b,hb⟩:∃ b,s[k]? = some b:=⟨_,List.getElem?_eq_getElem hlt⟩
  rw [drop_get hb] at ha
  have cv:=dvalue_ct (W:=W) b
  cases h1:digB b with
  |true=>
   obtain ⟨e1,e2⟩:=val_dig h1
   obtain ⟨v,hv⟩:∃ v,v=b.toNat-48:=⟨_,rfl⟩
   rw [e1,← hv] at cv
   rw [restG_dig h1,← hv] at ha
   rw [← hv] at e2
   clear e1 hv
   have g1:decide (((v:Nat):Int)<0)=false:=decide_eq_false (by omega)
   have g2:decide ((9:Int)<((v:Nat):Int))=false:=decide_eq_false (by omega)
   have m1:((r:Nat):Int)*10+((v:Nat):Int)=((10*r+v:Nat):Int):=by omega
   have m2:((10*r+v:Nat):Int) % 97=(((10*r+v) % 97:Nat):Int):=by omega
   repeat' (first|(refine zAe ?_;refine zAa xE cv xP rfl (fun _=>?_))|(refine zBj ?_;refine zAb (zAt rfl rfl (by omega) hb) ?_)|(refine zAu ?_;first|refine zAb (zAh rfl rfl m1 (by omega)) ?_|refine zAb (zAh (r:=((k+1:Nat):Int)) rfl rfl (by omega) (by omega)) ?_)|(refine ek_mul ?_;refine zAb (Ev_mulI_v rfl rfl rfl (by omega)) ?_)|(refine ek_rem ?_;first|refine zAb (Ev_rem_w rfl rfl (by omega) m2) ?_|refine zAb (Ev_rem_w (r:=((v:Nat):Int)) rfl rfl (by omega) (by omega)) ?_)|(refine zAi ?_;first|refine zAb (zAd rfl rfl g1) ?_|refine zAb (zAd rfl rfl ql) ?_)|(refine zAz ?_;refine zAb (zAj rfl rfl g2) ?_)|refine xst ?_|(refine xsa ?_;intro _)|(refine xsb ?_ ?_ <;>intro _<;>try (exfalso;omega))|refine xsc ?_|fail)
   all_goals exact zAr ⟨(k+1,(10*r+v) % 97),by show k+1≤s.length;omega,Nat.mod_lt _ (by omega),ha⟩ (by show s.length-(k+1)<s.length-k;omega) xB (xN)
  |false=>
   cases h2:capB b with
   |true=>
    obtain ⟨e1,e2⟩:=val_cap h1 h2
    rw [restG_cap h1 h2,Nat.add_assoc] at ha
    obtain ⟨v,hv⟩:∃ v,v=b.toNat-65+10:=⟨_,rfl⟩
    have e3:9<v:=by omega
    rw [e1,← hv] at cv
    rw [← hv] at ha e2
    clear e1 hv
    have g1:decide (((v:Nat):Int)<0)=false:=decide_eq_false (by omega)
    have g2:decide ((9:Int)<((v:Nat):Int))=true:=decide_eq_true (by omega)
    obtain ⟨r1,hr1⟩:∃ r1,r1=(r*10+v / 10) % 97:=⟨_,rfl⟩
    have hr2:(100*r+v) % 97=(r1*10+v % 10) % 97:=by rw [hr1];omega
    have hr97:r1<97:=by rw [hr1];exact Nat.mod_lt _ (by omega)
    have m1:((r:Nat):Int)*10+((v / 10:Nat):Int)=((r*10+v / 10:Nat):Int):=by omega
    have m2:((r*10+v / 10:Nat):Int) % 97=((r1:Nat):Int):=by rw [hr1];omega
    have m3:((r1:Nat):Int)*10+((v % 10:Nat):Int)=((r1*10+v % 10:Nat):Int):=by omega
    have m4:((r1*10+v % 10:Nat):Int) % 97=(((r1*10+v % 10) % 97:Nat):Int):=by omega
    rw [hr2] at ha
    repeat' (first|(refine zAe ?_;refine zAa xE cv xP rfl (fun _=>?_))|(refine zBj ?_;refine zAb (zAt rfl rfl (by omega) hb) ?_)|(refine zAu ?_;first|refine zAb (zAh rfl rfl m3 (by omega)) ?_|refine zAb (zAh rfl rfl m1 (by omega)) ?_|refine zAb (zAh (r:=((k+1:Nat):Int)) rfl rfl (by omega) (by omega)) ?_)|(refine ek_mul ?_;refine zAb (Ev_mulI_v rfl rfl rfl (by omega)) ?_)|(refine ek_quo ?_;refine zAb (Ev_quo_w (r:=((v / 10:Nat):Int)) rfl rfl (by omega) (by omega)) ?_)|(refine ek_rem ?_;first|refine zAb (Ev_rem_w rfl rfl (by omega) m4) ?_|refine zAb (Ev_rem_w rfl rfl (by omega) m2) ?_|refine zAb (Ev_rem_w (r:=((v % 10:Nat):Int)) rfl rfl (by omega) (by omega)) ?_)|(refine zAi ?_;first|refine zAb (zAd rfl rfl g1) ?_|refine zAb (zAd rfl rfl ql) ?_)|(refine zAz ?_;refine zAb (zAj rfl rfl g2) ?_)|refine xst ?_|(refine xsa ?_;intro _)|(refine xsb ?_ ?_ <;>intro _<;>try (exfalso;omega))|refine xsc ?_|fail)
    all_goals exact zAr ⟨(k+1,(r1*10+v % 10) % 97),by show k+1≤s.length;omega,Nat.mod_lt _ (by omega),ha⟩ (by show s.length-(k+1)<s.length-k;omega) xB (xN)
   |false=>
    rw [restG_bad h1 h2] at ha
    subst ha
    rw [val_bad h1 h2] at cv
    have g1:decide ((-1:Int)<0)=true:=rfl
    repeat' (first|(refine zAe ?_;refine zAa xE cv xP rfl (fun _=>?_))|(refine zBj ?_;refine zAb (zAt rfl rfl (by omega) hb) ?_)|(refine zAi ?_;first|refine zAb (zAd rfl rfl g1) ?_|refine zAb (zAd rfl rfl ql) ?_)|refine xst ?_|(refine xsa ?_;intro _)|(refine xsb ?_ ?_ <;>intro _<;>try (exfalso;omega))|refine xsc ?_|fail)
    all_goals (exact xdn ())
 ·have ql:decide (((k:Nat):Int)<((s.length:Nat):Int))=false:=decide_eq_false (by omega)
  have e:k=s.length:=by omega
  subst e
  rw [List.drop_length] at ha
  have ha:some r=q:=ha
  subst ha
  repeat' (first|(refine zAi ?_;refine zAb (zAd rfl rfl ql) ?_)|refine xst ?_|(refine xsa ?_;intro _)|(refine xsb ?_ ?_ <;>intro _<;>try (exfalso;omega))|refine xsc ?_|fail)
  all_goals (exact xdn ())
theorem ddigits_ct (s:List UInt8) (hs:s.length≤2000000) (hne:s≠[]) (hall:(s.all fun b=>digB b || capB b)=true) (r:Nat) (hr:restG (s++[48,48]) 0=some r) :
 Ct Tryz.prog W 84 [strV s] [] (fun _:Unit=>.tuple #[strV (dig2 r),.int .i64 0]) (fun _=>[]):=by
 obtain ⟨r0,hr0⟩:=restG_some hall 0
 have hr97:=restG_lt _ (by omega) hr
 have c1:Ct Tryz.prog W 134 [strV s] [] (fun _:Unit=>.tuple #[.int .i64 (r0:Nat),.int .i64 0]) (fun _=>[]):=drest_ct (W:=W) s (by omega) hne _ hr0
 have c2:Ct Tryz.prog W 134 [strV (s++[48,48])] [] (fun _:Unit=>.tuple #[.int .i64 (r:Nat),.int .i64 0]) (fun _=>[]):=drest_ct (W:=W) (s++[48,48]) (by rw [List.length_append];simp;omega) (by simp) _ hr
 have w1:IntKind.u8.wrap (48+(98-((r:Nat):Int)) / 10)=((UInt8.ofNat (48+(98-r) / 10)).toNat:Int):=by
  rw [← u8_of];congr 1;omega
 have w2:IntKind.u8.wrap (48+(98-((r:Nat):Int)) % 10)=((UInt8.ofNat (48+(98-r) % 10)).toNat:Int):=by
  rw [← u8_of];congr 1;omega
 have g0:decide ((0:Int)≠0)=false:=rfl
 refine Ct.enter Tryz.func84 rfl Tryz.ntmps84 (by simp) (fun R=>?_)
 repeat' (first|(refine zAe ?_;first|(refine zAa xE c2 xP rfl (fun _=>?_))|(refine zAa xE c1 xP rfl (fun _=>?_)))|(refine zAw ?_;refine KJ_bsliceN (len:=2) (places:=[(0,1),(1,1)]) (base:=[.int .u8 0,.int .u8 0]) xV (by rfl) (by rfl) xW (by omega) rfl (fun gb=>?_))|(refine zBi ?_;first|refine zAb (zAs rfl w2) ?_|refine zAb (zAs rfl w1) ?_|refine zAb (Ev_bytesStr0 (l:=dig2 r) rfl xS rfl) ?_)|(refine zAu ?_;refine zAb (Ev_addS (a:=s) (b:=[48,48]) rfl rfl (by simp;omega)) ?_)|(refine zBc ?_;refine zAb (Ev_neqI_q rfl rfl g0) ?_)|refine xst ?_|(refine xsa ?_;intro _)|(refine xsb ?_ ?_ <;>intro _<;>try (exfalso;omega))|refine xsc ?_|fail)
 all_goals (exact xdn ())
end
end Go.Proofs.YtnbgcimalpdfoaaGreatDoor
namespace Go.Proofs.YtnbgcimalpdfoaaGreatDoor
open Go Go.RowKit
section
variable {W:World}
theorem dcheck_ct (s:List UInt8) (hs:s.length≤2000000):Ct Tryz.prog W 102 [strV s] [] (fun _:Unit=>.int .i64 (accE s:Nat)) (fun _=>[]):=by
 have sa:s.take (2:Int).toNat=s.take 2:=rfl
 have sb:s.drop (4:Int).toNat=s.drop 4:=rfl
 have sc:(s.take (4:Int).toNat).drop (2:Int).toNat=(s.drop 2).take 2:=by
  show (s.take 4).drop 2=_
  rw [List.drop_take]
 have c1:=dall_cap (W:=W) (s.take 2) (by rw [List.length_take];omega)
 have c2:=dall_dig (W:=W) ((s.drop 2).take 2) (by rw [List.length_take];omega)
 have c3:=dall_pln (W:=W) (s.drop 4) (by rw [List.length_drop];omega)
 obtain ⟨r,hr⟩:∃ r,r=accE s:=⟨_,rfl⟩
 rw [← hr]
 unfold accE at hr
 have hform:formA s=(decide (5≤s.length) && decide (s.length≤34) && (s.take 2).all capB && ((s.drop 2).take 2).all digB && (s.drop 4).all fun b=>capB b || digB b):=rfl
 have bad:formA s=false→r=7:=fun q=>by rw [hr,if_pos q]
 cases h1:decide (5≤s.length) with
 |false=>
  have hb:=bad (by rw [hform,h1];simp)
  subst hb
  have q1:decide (((s.length:Nat):Int)<5)=true:=decide_eq_true (by have:=of_decide_eq_false h1;omega)
  refine Ct.enter Tryz.func102 rfl Tryz.ntmps102 (by simp) (fun R=>?_)
  repeat' (first|(refine zAi ?_;refine zAb (zAd rfl rfl q1) ?_)|refine xst ?_|(refine xsa ?_;intro _)|(refine xsb ?_ ?_ <;>intro _<;>try (exfalso;omega))|refine xsc ?_|(refine zAc (id:=3) plVFN0 (by kernel_rfl) (by kernel_rfl) ?_)|refine zAm ?_ ?_|refine zAk rfl rfl rfl rfl rfl ?_ ?_|refine zAg ?_ ?_|exact Rech.nil|fail)
  all_goals (exact xdn ())
 |true=>
 have l1:=of_decide_eq_true h1
 have q1:decide (((s.length:Nat):Int)<5)=false:=decide_eq_false (by omega)
 cases h2:decide (s.length≤34) with
 |false=>
  have hb:=bad (by rw [hform,h1,h2];simp)
  subst hb
  have q2:decide ((34:Int)<((s.length:Nat):Int))=true:=decide_eq_true (by have:=of_decide_eq_false h2;omega)
  refine Ct.enter Tryz.func102 rfl Tryz.ntmps102 (by simp) (fun R=>?_)
  repeat' (first|(refine zAi ?_;refine zAb (zAd rfl rfl q1) ?_)|(refine zAz ?_;refine zAb (zAj rfl rfl q2) ?_)|refine xst ?_|(refine xsa ?_;intro _)|(refine xsb ?_ ?_ <;>intro _<;>try (exfalso;omega))|refine xsc ?_|(refine zAc (id:=3) plVFN0 (by kernel_rfl) (by kernel_rfl) ?_)|refine zAm ?_ ?_|refine zAk rfl rfl rfl rfl rfl ?_ ?_|refine zAg ?_ ?_|exact Rech.nil|fail)
  all_goals (exact xdn ())
 |true=>
 have l2:=of_decide_eq_true h2
 have q2:decide ((34:Int)<((s.length:Nat):Int))=false:=decide_eq_false (by omega)
 cases h3:(s.take 2).all capB with
 |false=>
  have hb:=bad (by rw [hform,h1,h2,h3];simp)
  subst hb
  rw [h3] at c1
  refine Ct.enter Tryz.func102 rfl Tryz.ntmps102 (by simp) (fun R=>?_)
  repeat' (first|(refine zAe ?_;refine zAa xE c1 xP rfl (fun _=>?_))|(refine zCb ?_;first|refine zAb (Ev_sliceStr_t rfl rfl rfl (by omega) sc) ?_|refine zAb (Ev_sliceFrom_p rfl rfl (by omega) sb) ?_|refine zAb (Ev_sliceTo_p rfl rfl (by omega) sa) ?_)|(refine zAi ?_;refine zAb (zAd rfl rfl q1) ?_)|(refine zAz ?_;refine zAb (zAj rfl rfl q2) ?_)|refine xst ?_|(refine xsa ?_;intro _)|(refine xsb ?_ ?_ <;>intro _<;>try (exfalso;omega))|refine xsc ?_|(refine zAc (id:=3) plVFN0 (by kernel_rfl) (by kernel_rfl) ?_)|refine zAm ?_ ?_|refine zAk rfl rfl rfl rfl rfl ?_ ?_|refine zAg ?_ ?_|exact Rech.nil|fail)
  all_goals (exact xdn ())
 |true=>
 rw [h3] at c1
 cases h4:((s.drop 2).take 2).all digB with
 |false=>
  have hb:=bad (by rw [hform,h1,h2,h3,h4];simp)
  subst hb
  rw [h4] at c2
  refine Ct.enter Tryz.func102 rfl Tryz.ntmps102 (by simp) (fun R=>?_)
  repeat' (first|(refine zAe ?_;first|(refine zAa xE c2 xP rfl (fun _=>?_))|(refine zAa xE c1 xP rfl (fun _=>?_)))|(refine zCb ?_;first|refine zAb (Ev_sliceStr_t rfl rfl rfl (by omega) sc) ?_|refine zAb (Ev_sliceFrom_p rfl rfl (by omega) sb) ?_|refine zAb (Ev_sliceTo_p rfl rfl (by omega) sa) ?_)|(refine zAi ?_;refine zAb (zAd rfl rfl q1) ?_)|(refine zAz ?_;refine zAb (zAj rfl rfl q2) ?_)|refine xst ?_|(refine xsa ?_;intro _)|(refine xsb ?_ ?_ <;>intro _<;>try (exfalso;omega))|refine xsc ?_|(refine zAc (id:=3) plVFN0 (by kernel_rfl) (by kernel_rfl) ?_)|refine zAm ?_ ?_|refine zAk rfl rfl rfl rfl rfl ?_ ?_|refine zAg ?_ ?_|exact Rech.nil|fail)
  all_goals (exact xdn ())
 |true=>
 rw [h4] at c2
 cases h5:(s.drop 4).all (fun b=>capB b || digB b) with
 |false=>
  have hb:=bad (by rw [hform,h1,h2,h3,h4,h5];simp)
  subst hb
  rw [h5] at c3
  refine Ct.enter Tryz.func102 rfl Tryz.ntmps102 (by simp) (fun R=>?_)
  repeat' (first|(refine zAe ?_;first|(refine zAa xE c3 xP rfl (fun _=>?_))|(refine zAa xE c2 xP rfl (fun _=>?_))|(refine zAa xE c1 xP rfl (fun _=>?_)))|(refine zCb ?_;first|refine zAb (Ev_sliceStr_t rfl rfl rfl (by omega) sc) ?_|refine zAb (Ev_sliceFrom_p rfl rfl (by omega) sb) ?_|refine zAb (Ev_sliceTo_p rfl rfl (by omega) sa) ?_)|(refine zAi ?_;refine zAb (zAd rfl rfl q1) ?_)|(refine zAz ?_;refine zAb (zAj rfl rfl q2) ?_)|refine xst ?_|(refine xsa ?_;intro _)|(refine xsb ?_ ?_ <;>intro _<;>try (exfalso;omega))|refine xsc ?_|(refine zAc (id:=3) plVFN0 (by kernel_rfl) (by kernel_rfl) ?_)|refine zAm ?_ ?_|refine zAk rfl rfl rfl rfl rfl ?_ ?_|refine zAg ?_ ?_|exact Rech.nil|fail)
  all_goals (exact xdn ())
 |true=>
 rw [h5] at c3
 have hf:formA s=true:=by rw [hform,h1,h2,h3,h4,h5];rfl
 rw [if_neg (by rw [hf];decide)] at hr
 obtain ⟨ga,gn⟩:=form_digits hf
 obtain ⟨x,hx,hd⟩:=digits2_some ga gn
 have cd:=ddigits_ct (W:=W) (s.drop 4++s.take 2) (by rw [List.length_append,List.length_drop,List.length_take];omega) gn ga x hx
 rw [hd] at hr
 have bl:(s.drop 4).length+(s.take 2).length≤9223372036854775807:=by rw [List.length_drop,List.length_take];omega
 by_cases he:dig2 x=(s.drop 2).take 2
 ·have hr:r=0:=by rw [hr,if_pos (by rw [he])]
  subst hr
  refine Ct.enter Tryz.func102 rfl Tryz.ntmps102 (by simp) (fun R=>?_)
  repeat' (first|(refine zAe ?_;first|(refine zAa xE cd xP rfl (fun _=>?_))|(refine zAa xE c3 xP rfl (fun _=>?_))|(refine zAa xE c2 xP rfl (fun _=>?_))|(refine zAa xE c1 xP rfl (fun _=>?_)))|(refine zCb ?_;first|refine zAb (Ev_sliceStr_t rfl rfl rfl (by omega) sc) ?_|refine zAb (Ev_sliceFrom_p rfl rfl (by omega) sb) ?_|refine zAb (Ev_sliceTo_p rfl rfl (by omega) sa) ?_)|(refine zAu ?_;refine zAb (Ev_addS (a:=s.drop 4) (b:=s.take 2) rfl rfl bl) ?_)|(refine zBc ?_;refine zAb (Ev_neqS_f rfl rfl he) ?_)|(refine zAi ?_;refine zAb (zAd rfl rfl q1) ?_)|(refine zAz ?_;refine zAb (zAj rfl rfl q2) ?_)|refine xst ?_|(refine xsa ?_;intro _)|(refine xsb ?_ ?_ <;>intro _<;>try (exfalso;omega))|refine xsc ?_|(refine zAc (id:=3) plVFN0 (by kernel_rfl) (by kernel_rfl) ?_)|refine zAm ?_ ?_|refine zAk rfl rfl rfl rfl rfl ?_ ?_|refine zAg ?_ ?_|exact Rech.nil|fail)
  all_goals (exact xdn ())
 ·have hr:r=8:=by rw [hr,if_neg (fun q=>he (Option.some.inj q))]
  subst hr
  refine Ct.enter Tryz.func102 rfl Tryz.ntmps102 (by simp) (fun R=>?_)
  repeat' (first|(refine zAe ?_;first|(refine zAa xE cd xP rfl (fun _=>?_))|(refine zAa xE c3 xP rfl (fun _=>?_))|(refine zAa xE c2 xP rfl (fun _=>?_))|(refine zAa xE c1 xP rfl (fun _=>?_)))|(refine zCb ?_;first|refine zAb (Ev_sliceStr_t rfl rfl rfl (by omega) sc) ?_|refine zAb (Ev_sliceFrom_p rfl rfl (by omega) sb) ?_|refine zAb (Ev_sliceTo_p rfl rfl (by omega) sa) ?_)|(refine zAu ?_;refine zAb (Ev_addS (a:=s.drop 4) (b:=s.take 2) rfl rfl bl) ?_)|(refine zBc ?_;refine zAb (Ev_neqS_t rfl rfl he) ?_)|(refine zAi ?_;refine zAb (zAd rfl rfl q1) ?_)|(refine zAz ?_;refine zAb (zAj rfl rfl q2) ?_)|refine xst ?_|(refine xsa ?_;intro _)|(refine xsb ?_ ?_ <;>intro _<;>try (exfalso;omega))|refine xsc ?_|(refine zAc (id:=3) plVFN0 (by kernel_rfl) (by kernel_rfl) ?_)|refine zAm ?_ ?_|refine zAk rfl rfl rfl rfl rfl ?_ ?_|refine zAg ?_ ?_|exact Rech.nil|fail)
  all_goals (exact xdn ())
end
end Go.Proofs.YtnbgcimalpdfoaaGreatDoor
namespace Go.Proofs.YtnbgcimalpdfoaaGreatDoor
open Go Go.RowKit
section
variable {W:World}
theorem dcode_ct (s:List UInt8):Ct Tryz.prog W 98 [strV s] [] (fun _:Unit=>.bool (codeB s)) (fun _=>[]):=by
 by_cases h3:s.length=3
 case neg=>
  have e:codeB s=false:=by unfold codeB;rw [decide_eq_false h3,Bool.false_and]
  rw [e]
  have q:decide (((s.length:Nat):Int)≠3)=true:=decide_eq_true (by omega)
  refine Ct.enter Tryz.func98 rfl Tryz.ntmps98 (by simp) (fun R=>?_)
  repeat' (first|(refine zBc ?_;refine zAb (Ev_neqI_q rfl rfl q) ?_)|refine xst ?_|(refine xsa ?_;intro _)|(refine xsb ?_ ?_ <;>intro _<;>try (exfalso;omega))|refine xsc ?_|fail)
  all_goals (exact xdn ())
 have e:codeB s=s.all capB:=by unfold codeB;rw [decide_eq_true h3,Bool.true_and]
 rw [e]
 have q:decide (((s.length:Nat):Int)≠3)=false:=decide_eq_false (by omega)
 refine Ct.enter Tryz.func98 rfl Tryz.ntmps98 (by simp) (fun R=>?_)
 repeat' (first|(refine zBc ?_;refine zAb (Ev_neqI_q rfl rfl q) ?_)|refine xst ?_|(refine xsa ?_;intro _)|(refine xsb ?_ ?_ <;>intro _<;>try (exfalso;omega))|refine xsc ?_|fail)
 refine zBe (fun i:{k:Nat//k≤3∧(s.take k).all capB=true}=>[(0,strV s),(3,.int .i64 (i.1:Nat))])
  (fun _=>[]++R) (fun i=>3-i.1) ⟨0,by omega,rfl⟩ xB (xN) (fun ⟨k,hk,ha⟩=>?_)
 dsimp only
 by_cases hlt:k<3
 ·have ql:decide (((k:Nat):Int)<3)=true:=decide_eq_true (by omega)
  obtain ⟨b,hb⟩:∃ b,s[k]? = some b:=⟨_,List.getElem?_eq_getElem (by omega)⟩
  cases g1:decide (65≤b.toNat) <;> cases g2:decide (b.toNat≤90)
  case true.true=>
   have hc:capB b=true:=by unfold capB;rw [g1,g2];rfl
   have q1:decide ((b.toNat:Int)<65)=false:=decide_eq_false (by have:=of_decide_eq_true g1;omega)
   have q2:decide ((90:Int)<(b.toNat:Int))=false:=decide_eq_false (by have:=of_decide_eq_true g2;omega)
   repeat' (first|(refine zBj ?_;refine zAb (zAt rfl rfl (by omega) hb) ?_)|(refine zAu ?_;refine zAb (zAh (r:=((k+1:Nat):Int)) rfl rfl (by omega) (by omega)) ?_)|(refine zAi ?_;first|refine zAb (zAd rfl rfl q1) ?_|refine zAb (zAd rfl rfl ql) ?_)|(refine zAz ?_;refine zAb (zAj rfl rfl q2) ?_)|refine xst ?_|(refine xsa ?_;intro _)|(refine xsb ?_ ?_ <;>intro _<;>try (exfalso;omega))|refine xsc ?_|fail)
   all_goals exact zAr ⟨k+1,by omega,all_next hb ha hc⟩ (by show 3-(k+1)<3-k;omega) xB (xN)
  case true.false=>
   have hc:capB b=false:=by unfold capB;rw [g1,g2];rfl
   have q1:decide ((b.toNat:Int)<65)=false:=decide_eq_false (by have:=of_decide_eq_true g1;omega)
   have q2:decide ((90:Int)<(b.toNat:Int))=true:=decide_eq_true (by have:=of_decide_eq_false g2;omega)
   rw [all_bad hb hc]
   repeat' (first|(refine zBj ?_;refine zAb (zAt rfl rfl (by omega) hb) ?_)|(refine zAi ?_;first|refine zAb (zAd rfl rfl q1) ?_|refine zAb (zAd rfl rfl ql) ?_)|(refine zAz ?_;refine zAb (zAj rfl rfl q2) ?_)|refine xst ?_|(refine xsa ?_;intro _)|(refine xsb ?_ ?_ <;>intro _<;>try (exfalso;omega))|refine xsc ?_|fail)
   all_goals (exact xdn ())
  all_goals
   have hc:capB b=false:=by unfold capB;rw [g1,g2];rfl
   have q1:decide ((b.toNat:Int)<65)=true:=decide_eq_true (by have:=of_decide_eq_false g1;omega)
   rw [all_bad hb hc]
   repeat' (first|(refine zBj ?_;refine zAb (zAt rfl rfl (by omega) hb) ?_)|(refine zAi ?_;first|refine zAb (zAd rfl rfl q1) ?_|refine zAb (zAd rfl rfl ql) ?_)|refine xst ?_|(refine xsa ?_;intro _)|(refine xsb ?_ ?_ <;>intro _<;>try (exfalso;omega))|refine xsc ?_|fail)
   all_goals (exact xdn ())
 ·have ql:decide (((k:Nat):Int)<3)=false:=decide_eq_false (by omega)
  have e:k=s.length:=by omega
  subst e
  rw [List.take_length] at ha
  rw [ha]
  repeat' (first|(refine zAi ?_;refine zAb (zAd rfl rfl ql) ?_)|refine xst ?_|(refine xsa ?_;intro _)|(refine xsb ?_ ?_ <;>intro _<;>try (exfalso;omega))|refine xsc ?_|fail)
  all_goals (exact xdn ())
theorem dsys_ct (k:Nat) (hk:k<4) (m:Int) (hm:m=((2+k:Nat):Int)) (c:List UInt8) (hc:codeB c=true):Ct Tryz.prog W 99 [.int .i64 m,strV c] [] (fun _:Unit=>strV (kindT k++c)) (fun _=>[]):=by
 have hl:=codeB_len hc
 have cc:=dcode_ct (W:=W) c
 rw [hc] at cc
 match k,hk with
 |0,_=>
  have hm:m=2:=hm
  subst hm
  have bl:([111,117,116,115,105,100,101,46]:List UInt8).length+c.length≤9223372036854775807:=by rw [hl];decide
  refine Ct.enter Tryz.func99 rfl Tryz.ntmps99 (by simp) (fun R=>?_)
  repeat' (first|(refine zAe ?_;refine zAa xE cc xP rfl (fun _=>?_))|(refine zAu ?_;refine zAb (Ev_addS (a:=[111,117,116,115,105,100,101,46]) (b:=c) rfl rfl bl) ?_)|(refine zAx ?_;first|refine zAb (zAf (q:=true) rfl rfl (by decide)) ?_|refine zAb (zAf (q:=false) rfl rfl (by decide)) ?_)|refine xst ?_|(refine xsa ?_;intro _)|(refine xsb ?_ ?_ <;>intro _<;>try (exfalso;omega))|refine xsc ?_|fail)
  all_goals (exact xdn ())
 |1,_=>
  have hm:m=3:=hm
  subst hm
  have bl:([115,117,115,112,101,110,115,101,46]:List UInt8).length+c.length≤9223372036854775807:=by rw [hl];decide
  refine Ct.enter Tryz.func99 rfl Tryz.ntmps99 (by simp) (fun R=>?_)
  repeat' (first|(refine zAe ?_;refine zAa xE cc xP rfl (fun _=>?_))|(refine zAu ?_;refine zAb (Ev_addS (a:=[115,117,115,112,101,110,115,101,46]) (b:=c) rfl rfl bl) ?_)|(refine zAx ?_;first|refine zAb (zAf (q:=true) rfl rfl (by decide)) ?_|refine zAb (zAf (q:=false) rfl rfl (by decide)) ?_)|refine xst ?_|(refine xsa ?_;intro _)|(refine xsb ?_ ?_ <;>intro _<;>try (exfalso;omega))|refine xsc ?_|fail)
  all_goals (exact xdn ())
 |2,_=>
  have hm:m=4:=hm
  subst hm
  have bl:([99,108,101,97,114,105,110,103,46]:List UInt8).length+c.length≤9223372036854775807:=by rw [hl];decide
  refine Ct.enter Tryz.func99 rfl Tryz.ntmps99 (by simp) (fun R=>?_)
  repeat' (first|(refine zAe ?_;refine zAa xE cc xP rfl (fun _=>?_))|(refine zAu ?_;refine zAb (Ev_addS (a:=[99,108,101,97,114,105,110,103,46]) (b:=c) rfl rfl bl) ?_)|(refine zAx ?_;first|refine zAb (zAf (q:=true) rfl rfl (by decide)) ?_|refine zAb (zAf (q:=false) rfl rfl (by decide)) ?_)|refine xst ?_|(refine xsa ?_;intro _)|(refine xsb ?_ ?_ <;>intro _<;>try (exfalso;omega))|refine xsc ?_|fail)
  all_goals (exact xdn ())
 |3,_=>
  have hm:m=5:=hm
  subst hm
  have bl:([102,101,101,115,46]:List UInt8).length+c.length≤9223372036854775807:=by rw [hl];decide
  refine Ct.enter Tryz.func99 rfl Tryz.ntmps99 (by simp) (fun R=>?_)
  repeat' (first|(refine zAe ?_;refine zAa xE cc xP rfl (fun _=>?_))|(refine zAu ?_;refine zAb (Ev_addS (a:=[102,101,101,115,46]) (b:=c) rfl rfl bl) ?_)|(refine zAx ?_;first|refine zAb (zAf (q:=true) rfl rfl (by decide)) ?_|refine zAb (zAf (q:=false) rfl rfl (by decide)) ?_)|refine xst ?_|(refine xsa ?_;intro _)|(refine xsb ?_ ?_ <;>intro _<;>try (exfalso;omega))|refine xsc ?_|fail)
  all_goals (exact xdn ())
end
end Go.Proofs.YtnbgcimalpdfoaaGreatDoor
