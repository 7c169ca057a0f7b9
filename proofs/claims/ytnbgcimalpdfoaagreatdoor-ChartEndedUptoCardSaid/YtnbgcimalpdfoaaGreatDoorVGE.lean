/-
  ChE1, ChE2.
-/
import Derived.Test.YtnbgcimalpdfoaaGreatDoorVEL
import Derived.Test.YtnbgcimalpdfoaaGreatDoorVGC
set_option maxHeartbeats 64000000
namespace Go.Proofs.YtnbgcimalpdfoaaGreatDoor
open Go Go.RowKit
abbrev plVGE0:Pl:=(.op 0 (.op 1 (.op 2 (.op 3 (.op 4 (.alt (.ef 5 [] (.op 6 (.op 7 (.op 8 (.alt (.ef 9 [8,7,6] (.ef 10 [8,7,6] (.ef 11 [8] (.ef 12 [] .nil)))) (.ef 10 [8,7,6] (.ef 9 [8,7,6] (.ef 11 [8] (.ef 12 [] .nil))))))))) (.alt (.ef 9 [4,3,2,1,0] (.alt (.ef 5 [] (.op 6 (.op 7 (.op 8 (.ef 10 [8,7,6] (.ef 11 [8] (.ef 12 [] .nil))))))) (.ef 10 [4,3,2,1,0] (.ef 5 [] (.op 6 (.op 7 (.op 8 (.ef 11 [8] (.ef 12 [] .nil))))))))) (.ef 10 [4,3,2,1,0] (.alt (.ef 5 [] (.op 6 (.op 7 (.op 8 (.ef 9 [8,7,6] (.ef 11 [8] (.ef 12 [] .nil))))))) (.ef 9 [4,3,2,1,0] (.ef 5 [] (.op 6 (.op 7 (.op 8 (.ef 11 [8] (.ef 12 [] .nil))))))))))))))))
abbrev plVGE1:Pl:=(.op 0 (.op 1 (.op 2 (.op 3 (.op 4 (.ef 5 [] .nil))))))
abbrev plVGE2:Pl:=(.op 0 (.op 1 (.op 2 (.op 3 (.op 4 (.op 5 (.ef 6 [4,3,2,1,0] (.ef 7 [0] (.op 8 (.op 9 (.ef 10 [] .nil)))))))))))
abbrev plVGE3:Pl:=(.op 0 (.op 1 (.ef 2 [1] (.op 3 .nil))))
abbrev plVGE4:Pl:=(.op 0 (.op 1 (.op 2 (.op 3 (.op 4 (.op 5 (.op 6 (.op 7 (.op 8 (.op 9 (.op 10 (.op 11 .nil))))))))))))
section
variable {W:World} {F:Nat→Addr} {t s m:Nat} {r:Rows} {id cur:List UInt8} {a:Acct} {K:List (List UInt8 × Bool)} {U:List UE}
theorem stepE_ct (hE:ErrsOn L37 W F) (f:FuncId) [FnIs Tryz.prog f] (cs:List Value) (key:List UInt8) :
 Ct Tryz.prog W 68 [.pointer (some ⟨t,0,none⟩),strV key,.func (.func f) #[] cs.toArray] [TxP t s r K U true] (fun _:Unit=>errV F 19) (fun _=>[TxP t s r K U true]):=by
 have e19:W.cell? ⟨9,0,none⟩=some (errV F 19):=hE.at_ 19 (by decide)
 refine Ct.enter Tryz.func68 rfl Tryz.ntmps68 (by simp) (fun R=>?_)
 refine KJ.txOpen xS (fun x hT=>?_)
 repeat' (first|(refine zBn ?_;first|(refine zBg (d:=4) rfl xF rfl (fun gk=>?_))|(refine zBg (d:=3) rfl xF rfl (fun gt=>?_)))|(refine zAp ?_;refine zAb (zAq rfl e19) ?_)|refine xst ?_|(refine xsa ?_;intro _)|(refine xsb ?_ ?_ <;>intro _<;>try (exfalso;omega))|refine xsc ?_|(refine zAc (id:=3) plVGE0 (by kernel_rfl) (by kernel_rfl) ?_)|(refine zAc (id:=4) plVGE1 (by kernel_rfl) (by kernel_rfl) ?_)|(refine zAc (id:=5) plVGE2 (by kernel_rfl) (by kernel_rfl) ?_)|refine zAm ?_ ?_|refine zAk rfl rfl rfl rfl rfl ?_ ?_|refine zAg ?_ ?_|exact Rech.nil|fail)
 all_goals refine KJ.txShut (s:=s) (K:=K) (U:=U) (ended:=true) x hT xP ?_
 all_goals (exact xdn ())
theorem txputE_ct (hE:ErrsOn L37 W F) (key val:List UInt8) :
 Ct Tryz.prog W 22 [.pointer (some ⟨t,0,none⟩),strV key,strV val] [TxQ t r true m] (fun _:Unit=>errV F 19) (fun _=>[TxQ t r true m]):=by
 refine Ct_unpack (Hs:=[]) fun ⟨(s,K,U),hU⟩=>?_
 dsimp only at hU ⊢
 refine Ct.to (X:=Unit) (H':=fun _=>[TxP t s r K U true]) ?_ _root_.id (fun _=>rfl) (fun _ R g q=>TxQ.star hU g q)
 have cs:=fun cs=>stepE_ct (W:=W) (t:=t) (s:=s) (r:=r) (K:=K) (U:=U) hE 69 cs key
 refine Ct.enter Tryz.func22 rfl Tryz.ntmps22 (by simp) (fun R=>?_)
 repeat' (first|(refine zBn ?_;first|(refine zBg (d:=5) rfl xF rfl (fun g5=>?_))|(refine zBg (d:=4) rfl xF rfl (fun g4=>?_))|(refine zBg (d:=3) rfl xF rfl (fun g3=>?_)))|(refine zAe ?_;refine zAa xE (cs [.pointer (some ⟨g3,0,none⟩),.pointer (some ⟨g4,0,none⟩),.pointer (some ⟨g5,0,none⟩)]) xP rfl (fun z=>?_))|(refine ek_mkFunc ?_;refine zAb (Ev_mkFunc3 rfl rfl rfl) ?_)|refine xst ?_|(refine xsa ?_;intro _)|(refine xsb ?_ ?_ <;>intro _<;>try (exfalso;omega))|refine xsc ?_|fail)
 all_goals (exact xdn ())
theorem txgetE (key:List UInt8):Ct Tryz.prog W 24 [.pointer (some ⟨t,0,none⟩),strV key] [TxQ t r true m] (fun _:Unit=>.tuple #[strV [],.bool false]) (fun _=>[TxQ t r true m]):=txgetQ (W:=W) (ended:=true) key
theorem chgetE_ct (hE:ErrsOn L37 W F) (hi:id.length≤2000000):Ct Tryz.prog W 44 [.pointer (some ⟨t,0,none⟩),strV id] [TxQ t r true m] (fun _:Unit=>.tuple #[acV ac0,errV F 20]) (fun _=>[TxQ t r true m]):=
 chget_ct (W:=W) (F:=F) (T:=TxQ t r true m) (t:=t) (id:=id) (o:=none) hi (fun s h=>by cases h) hE (txgetE (aKey id))
theorem chcustE_ct (hE:ErrsOn L37 W F) (hi:id.length≤2000000):Ct Tryz.prog W 89 [.pointer (some ⟨t,0,none⟩),strV id] [TxQ t r true m] (fun _:Unit=>.tuple #[acV ac0,errV F 20]) (fun _=>[TxQ t r true m]):=by
 have cg:=chgetE_ct (W:=W) (F:=F) (t:=t) (r:=r) (m:=m) (id:=id) hE hi
 have hne:=errNe (F:=F) (e:=20) (by omega)
 refine Ct.enter Tryz.func89 rfl Tryz.ntmps89 (by simp) (fun R=>?_)
 repeat' (first|(refine zAe ?_;refine zAa xE cg xP rfl (fun _=>?_))|(refine zBk ?_;refine zAb (zBm xV xW) ?_)|(refine zBc ?_;refine zAb (zCh rfl hne) ?_)|refine xst ?_|(refine xsa ?_;intro _)|(refine xsb ?_ ?_ <;>intro _<;>try (exfalso;omega))|refine xsc ?_|(refine zAc (id:=5) plVGE3 (by kernel_rfl) (by kernel_rfl) ?_)|refine zAm ?_ ?_|refine zAk rfl rfl rfl rfl rfl ?_ ?_|refine zAg ?_ ?_|exact Rech.nil|fail)
 all_goals (refine is_ex ?_;exact KJ_done (by first|exact Or.inl rfl|exact Or.inr rfl) rfl (Rvs.agg (T:=51) rfl inferInstance inferInstance xS xC (Rvs.tmp rfl Rvs.nil)) () (by rfl) (xN))
theorem chfreezeE_ct (hE:ErrsOn L37 W F) (hi:id.length≤2000000) (on:Bool):Ct Tryz.prog W 47 [.pointer (some ⟨t,0,none⟩),strV id,.bool on] [TxQ t r true m] (fun _:Unit=>errV F 20) (fun _=>[TxQ t r true m]):=by
 have cc:=chcustE_ct (W:=W) (F:=F) (t:=t) (r:=r) (m:=m) (id:=id) hE hi
 have hne:=errNe (F:=F) (e:=20) (by omega)
 refine Ct.enter Tryz.func47 rfl Tryz.ntmps47 (by simp) (fun R=>?_)
 repeat' (first|(refine zAe ?_;refine zAa xE cc xP rfl (fun _=>?_))|(refine zBc ?_;refine zAb (zCh rfl hne) ?_)|refine xst ?_|(refine xsa ?_;intro _)|(refine xsb ?_ ?_ <;>intro _<;>try (exfalso;omega))|refine xsc ?_|fail)
 all_goals (exact xdn ())
theorem chcloseE_ct (hE:ErrsOn L37 W F) (hi:id.length≤2000000):Ct Tryz.prog W 45 [.pointer (some ⟨t,0,none⟩),strV id] [TxQ t r true m] (fun _:Unit=>errV F 20) (fun _=>[TxQ t r true m]):=by
 have cc:=chcustE_ct (W:=W) (F:=F) (t:=t) (r:=r) (m:=m) (id:=id) hE hi
 have hne:=errNe (F:=F) (e:=20) (by omega)
 refine Ct.enter Tryz.func45 rfl Tryz.ntmps45 (by simp) (fun R=>?_)
 repeat' (first|(refine zBd ?_;refine zBb rfl (fun ga=>?_))|(refine zAe ?_;refine zAa xE cc xP rfl (fun _=>?_))|(refine zBc ?_;refine zAb (zCh rfl hne) ?_)|refine xst ?_|(refine xsa ?_;intro _)|(refine xsb ?_ ?_ <;>intro _<;>try (exfalso;omega))|refine xsc ?_|fail)
 all_goals (exact xdn ())
def endE (e:Nat):Nat:=if e=0 then 19 else e
theorem chopenE_ct (hE:ErrsOn L37 W F) (hi:id.length≤2000000) (hu:cur.length≤2000000) :
 Ct Tryz.prog W 42 [.pointer (some ⟨t,0,none⟩),strV id,strV cur] [TxQ t r true m] (fun _:Unit=>errV F (endE (openE [] id cur))) (fun _=>[TxQ t r true m]):=by
 have e7:W.cell? ⟨3,0,none⟩=some (errV F 7):=hE.at_ 7 (by decide)
 have e8:W.cell? ⟨19,0,none⟩=some (errV F 8):=hE.at_ 8 (by decide)
 have e11:W.cell? ⟨6,0,none⟩=some (errV F 11):=hE.at_ 11 (by decide)
 have e20:W.cell? ⟨5,0,none⟩=some (errV F 20):=hE.at_ 20 (by decide)
 have ci:=icheck_ct (W:=W) (F:=F) id hi e7 e8
 have cc:=code_ct (W:=W) cur hu
 have ck:=chkey_ct (W:=W) id (by omega)
 have cg:=txgetE (W:=W) (t:=t) (r:=r) (m:=m) (aKey id)
 by_cases h1:accE id=0
 rotate_left
 ·have hne:=errNe (F:=F) h1
  have e:endE (openE [] id cur)=20:=by unfold openE;rw [if_pos h1];rfl
  rw [e]
  refine Ct.enter Tryz.func42 rfl Tryz.ntmps42 (by simp) (fun R=>?_)
  repeat' (first|(refine zAe ?_;refine zAa xE ci xP rfl (fun _=>?_))|(refine zAp ?_;refine zAb (zAq rfl e20) ?_)|(refine zBc ?_;refine zAb (zCh rfl hne) ?_)|refine xst ?_|(refine xsa ?_;intro _)|(refine xsb ?_ ?_ <;>intro _<;>try (exfalso;omega))|refine xsc ?_|fail)
  all_goals (exact xdn ())
 rw [h1] at ci
 cases h2:codeB cur with
 |false=>
  rw [h2] at cc
  have e:endE (openE [] id cur)=11:=by unfold openE;rw [if_neg (by omega),h2];rfl
  rw [e]
  refine Ct.enter Tryz.func42 rfl Tryz.ntmps42 (by simp) (fun R=>?_)
  repeat' (first|(refine zAe ?_;first|(refine zAa xE ci xP rfl (fun _=>?_))|(refine zAa xE cc xP rfl (fun _=>?_)))|(refine zAp ?_;refine zAb (zAq rfl e11) ?_)|refine xst ?_|(refine xsa ?_;intro _)|(refine xsb ?_ ?_ <;>intro _<;>try (exfalso;omega))|refine xsc ?_|fail)
  all_goals (exact xdn ())
 |true=>
  rw [h2] at cc
  have e:endE (openE [] id cur)=19:=by unfold openE;rw [if_neg (by omega),h2];rfl
  rw [e]
  have cr:=chrow_ct (W:=W) (a:=newA id cur) ⟨show (1:Int)≤1 by decide,show (1:Int)≤5 by decide⟩ hu
  have cp:=txputE_ct (W:=W) (F:=F) (t:=t) (m:=m) (r:=r) hE (aKey id) (rowA (newA id cur))
  refine Ct.enter Tryz.func42 rfl Tryz.ntmps42 (by simp) (fun R=>?_)
  repeat' (first|(refine zAe ?_;first|(refine zAa xE ci xP rfl (fun _=>?_))|(refine zAa xE cc xP rfl (fun _=>?_))|(refine zAa xE ck xP rfl (fun _=>?_))|(refine zAa xE cg xP rfl (fun _=>?_))|(refine zAa xE cr xP rfl (fun _=>?_))|(refine zAa xE cp xP rfl (fun _=>?_)))|(refine zBk ?_;refine zAb (zBm xV xW) ?_)|refine xst ?_|(refine xsa ?_;intro _)|(refine xsb ?_ ?_ <;>intro _<;>try (exfalso;omega))|refine xsc ?_|fail)
  all_goals (exact xdn ())
theorem chsetE_ct (hE:ErrsOn L37 W F) (hi:a.id.length≤2000000) (hu:a.cur.length≤2000000) (hr:-9223372036854775808≤a.bal∧a.bal≤9223372036854775807) :
 Ct Tryz.prog W 46 [.pointer (some ⟨t,0,none⟩),acV a] [TxQ t r true m] (fun _:Unit=>errV F (setE [] a)) (fun _=>[TxQ t r true m]):=by
 have e7:W.cell? ⟨3,0,none⟩=some (errV F 7):=hE.at_ 7 (by decide)
 have e8:W.cell? ⟨19,0,none⟩=some (errV F 8):=hE.at_ 8 (by decide)
 have e20:W.cell? ⟨5,0,none⟩=some (errV F 20):=hE.at_ 20 (by decide)
 have ce:=chenc_ct (W:=W) (F:=F) (a:=a) hi hu hr e7 e8
 have ck:=chkey_ct (W:=W) a.id (by omega)
 have cg:=txgetE (W:=W) (t:=t) (r:=r) (m:=m) (aKey a.id)
 have n7:=errNe (F:=F) (e:=7) (by omega)
 cases h1:goodA a with
 |false=>
  rw [h1] at ce
  have e:setE [] a=7:=by unfold setE;rw [h1];rfl
  rw [e]
  dsimp only [cond] at ce
  refine Ct.enter Tryz.func46 rfl Tryz.ntmps46 (by simp) (fun R=>?_)
  repeat' (first|(refine zBn ?_;refine zBg rfl xF rfl (fun ga=>?_))|(refine zAe ?_;refine zAa xE ce xP rfl (fun _=>?_))|(refine zBc ?_;refine zAb (zCh rfl n7) ?_)|refine xst ?_|(refine xsa ?_;intro _)|(refine xsb ?_ ?_ <;>intro _<;>try (exfalso;omega))|refine xsc ?_|fail)
  all_goals (exact xdn ())
 |true=>
  rw [h1] at ce
  dsimp only [cond] at ce
  have e:setE [] a=20:=by unfold setE;rw [h1];rfl
  rw [e]
  refine Ct.enter Tryz.func46 rfl Tryz.ntmps46 (by simp) (fun R=>?_)
  repeat' (first|(refine zBn ?_;refine zBg rfl xF rfl (fun ga=>?_))|(refine zAe ?_;first|(refine zAa xE ce xP rfl (fun _=>?_))|(refine zAa xE ck xP rfl (fun _=>?_))|(refine zAa xE cg xP rfl (fun _=>?_)))|(refine zAp ?_;refine zAb (zAq rfl e20) ?_)|refine xst ?_|(refine xsa ?_;intro _)|(refine xsb ?_ ?_ <;>intro _<;>try (exfalso;omega))|refine xsc ?_|fail)
  all_goals (exact xdn ())
theorem foundE_nil {c:List UInt8} (h:codeB c=true):foundE [] c=0:=found_no h fun _ _=>rfl
theorem chfoundE_ct (hE:ErrsOn L37 W F) (hu:cur.length≤2000000) :
 Ct Tryz.prog W 43 [.pointer (some ⟨t,0,none⟩),strV cur] [TxQ t r true m] (fun _:Unit=>errV F (endE (foundE [] cur))) (fun _=>[TxQ t r true m]):=by
 have e11:W.cell? ⟨6,0,none⟩=some (errV F 11):=hE.at_ 11 (by decide)
 have cc:=code_ct (W:=W) cur hu
 have csy:=chsystem_ct (W:=W)
 cases hc:codeB cur with
 |false=>
  rw [hc] at cc
  have e:endE (foundE [] cur)=11:=by unfold foundE;rw [hc];rfl
  rw [e]
  refine Ct.enter Tryz.func43 rfl Tryz.ntmps43 (by simp) (fun R=>?_)
  repeat' (first|(refine zAe ?_;refine zAa xE cc xP rfl (fun _=>?_))|(refine zAp ?_;refine zAb (zAq rfl e11) ?_)|refine xst ?_|(refine xsa ?_;intro _)|(refine xsb ?_ ?_ <;>intro _<;>try (exfalso;omega))|refine xsc ?_|fail)
  all_goals (exact xdn ())
 |true=>
  rw [hc] at cc
  have e:endE (foundE [] cur)=19:=by rw [foundE_nil hc];rfl
  rw [e]
  have hc3:=codeB_len hc
  have cs:∀ k,k<4→Ct Tryz.prog W 88 [.int .i64 ((k+2:Nat):Int),strV cur] [] (fun _:Unit=>strV (kinds4.getD k []++cur)) (fun _=>[]):=fun k hk=>by
   have h:=system_ct (W:=W) k hk cur hu
   unfold sysT kindT at h
   rw [if_pos hc] at h
   exact h
  have ck:∀ k,k<4→Ct Tryz.prog W 28 [strV (kinds4.getD k []++cur)] [] (fun _:Unit=>strV (sysK k cur)) (fun _=>[]):=fun k hk=>chkey_ct (W:=W) _ (by have:=sysL hk hc3;omega)
  have n19:=errNe (F:=F) (e:=19) (by omega)
  refine Ct.enter Tryz.func43 rfl Tryz.ntmps43 (by simp) (fun R=>?_)
  repeat' (first|(refine zAe ?_;first|(refine zAa xE csy xP rfl (fun gs=>?_))|(refine zAa xE cc xP rfl (fun _=>?_)))|refine xst ?_|(refine xsa ?_;intro _)|(refine xsb ?_ ?_ <;>intro _<;>try (exfalso;omega))|refine xsc ?_|fail)
  refine zBe (fun i:{k:Nat//k≤4}=>[(0,.pointer (some ⟨t,0,none⟩)),(1,strV cur),(4,.nilIface),(17,.slice (some ⟨gs,0,none⟩) 4 4),(18,.int .i64 4),(19,.int .i64 (i.1:Nat))])
   (fun _=>[TxQ t r true m,zAn gs sysV 3]++R) (fun i=>4-i.1) ⟨0,by omega⟩ xB (xN) (fun ⟨k,hk⟩=>?_)
  dsimp only
  by_cases hlt:k<4
  ·have ql:decide (((k:Nat):Int)<4)=true:=decide_eq_true (by omega)
   have hv:=sysV_get k hlt
   have cs1:=cs k hlt
   have ck1:=ck k hlt
   have cg:=txgetE (W:=W) (t:=t) (r:=r) (m:=m) (sysK k cur)
   obtain ⟨y,hy⟩:∃ y,y=sysK k cur:=⟨_,rfl⟩
   rw [← hy] at ck1 cg
   obtain ⟨z,hz⟩:∃ z,z=kinds4.getD k []++cur:=⟨_,rfl⟩
   rw [← hz] at cs1 ck1
   clear hy hz
   repeat' (first|(refine zAe ?_;first|(refine zAa xE cg xP rfl (fun _=>?_))|(refine zAa xE ck1 xP rfl (fun _=>?_))|(refine zAa xE cs1 xP rfl (fun _=>?_)))|(refine zAp ?_;refine zAb (Ev_load rfl xS (by simpa using hv)) ?_)|(refine zAu ?_;refine zAb (zAh (r:=((k+1:Nat):Int)) rfl rfl (by omega) (by omega)) ?_)|(refine zAi ?_;refine zAb (zAd rfl rfl ql) ?_)|refine xst ?_|(refine xsa ?_;intro _)|(refine xsb ?_ ?_ <;>intro _<;>try (exfalso;omega))|refine xsc ?_|fail)
   all_goals exact zAr ⟨k+1,by omega⟩ (by show 4-(k+1)<4-k;omega) xB (xN)
  have ql:decide (((k:Nat):Int)<4)=false:=decide_eq_false (by omega)
  repeat' (first|(refine zAe ?_;refine zAa xE csy xP rfl (fun gs2=>?_))|(refine zAi ?_;refine zAb (zAd rfl rfl ql) ?_)|refine xst ?_|(refine xsa ?_;intro _)|(refine xsb ?_ ?_ <;>intro _<;>try (exfalso;omega))|refine xsc ?_|fail)
  refine zBe (fun _:Unit=>[(0,.pointer (some ⟨t,0,none⟩)),(1,strV cur),(4,.nilIface),(35,.slice (some ⟨gs2,0,none⟩) 4 4),(36,.int .i64 4),(37,.int .i64 0)])
   (fun _=>[TxQ t r true m,zAn gs2 sysV 3]++R) (fun _=>0) () xB (xN) (fun _=>?_)
  have q4:decide ((0:Int)<4)=true:=rfl
  have hv:=sysV_get 0 (by omega)
  have cs1:=cs 0 (by omega)
  have ck1:=ck 0 (by omega)
  have cp:=txputE_ct (W:=W) (F:=F) (t:=t) (m:=m) (r:=r) hE (sysK 0 cur) (rowA (sysA 0 cur))
  have cr:Ct Tryz.prog W 73 [.agg #[strV (kinds4.getD 0 []++cur),strV cur,.int .i64 ((0+2:Nat):Int),.bool false,.int .i64 0,.int .i64 0]] [] (fun _:Unit=>strV (rowA (sysA 0 cur))) (fun _=>[]):=chrow_ct (W:=W) (a:=sysA 0 cur) ⟨by show (1:Int)≤((0+2:Nat):Int);omega,by show ((0+2:Nat):Int)≤5;omega⟩ hu
  obtain ⟨y,hy⟩:∃ y,y=sysK 0 cur:=⟨_,rfl⟩
  obtain ⟨z,hz⟩:∃ z,z=kinds4.getD 0 []++cur:=⟨_,rfl⟩
  obtain ⟨v,hvv⟩:∃ v,v=rowA (sysA 0 cur):=⟨_,rfl⟩
  rw [← hvv] at cr cp
  rw [← hy] at ck1 cp
  rw [← hz] at cs1 ck1 cr
  clear hy hz hvv
  repeat' (first|(refine zAe ?_;first|(refine zAa xE cp xP rfl (fun _=>?_))|(refine zAa xE cr xP rfl (fun _=>?_))|(refine zAa xE ck1 xP rfl (fun _=>?_))|(refine zAa xE cs1 xP rfl (fun _=>?_)))|(refine zAp ?_;refine zAb (Ev_load rfl xS (by simpa using hv)) ?_)|(refine zBk ?_;refine zAb (zBm xV xW) ?_)|(refine zBc ?_;refine zAb (zCh rfl n19) ?_)|(refine zAi ?_;refine zAb (zAd rfl rfl q4) ?_)|refine xst ?_|(refine xsa ?_;intro _)|(refine xsb ?_ ?_ <;>intro _<;>try (exfalso;omega))|refine xsc ?_|fail)
  all_goals (exact xdn ())
instance fn_rangeE:FnIs Tryz.prog 130:=⟨by kernel_rfl⟩
abbrev rngE:Value:=.func (.func 130) #[] #[]
theorem rngE_ct (l:Nat) (A:SP):Ct Tryz.prog W 130 [yv l] [A] (fun _:Unit=>.tuple #[]) (fun _=>[A]):=by
 refine Ct.enter Tryz.func130 rfl Tryz.ntmps130 (by simp) (fun R=>?_)
 repeat' (first|refine xst ?_|(refine xsa ?_;intro _)|(refine xsb ?_ ?_ <;>intro _<;>try (exfalso;omega))|refine xsc ?_|fail)
 all_goals (refine is_ex ?_;exact KJ_done (by first|exact Or.inl rfl|exact Or.inr rfl) rfl Rvs.nil () (by rfl) (xN))
theorem txrangeE_ct (lo hi:List UInt8):Ct Tryz.prog W 82 [.pointer (some ⟨t,0,none⟩),strV lo,strV hi] [TxQ t r true m] (fun _:Unit=>rngE) (fun _=>[TxQ t r true m]):=by
 refine Ct_unpack (Hs:=[]) fun ⟨(s,K,U),hU⟩=>?_
 dsimp only at hU ⊢
 refine Ct.to (X:=Unit) (H':=fun _=>[TxP t s r K U true]) ?_ _root_.id (fun _=>rfl) (fun _ R g q=>TxQ.star hU g q)
 refine Ct.enter Tryz.func82 rfl Tryz.ntmps82 (by simp) (fun R=>?_)
 refine KJ.txOpen xS (fun x hT=>?_)
 repeat' (first|refine xst ?_|(refine xsa ?_;intro _)|(refine xsb ?_ ?_ <;>intro _<;>try (exfalso;omega))|refine xsc ?_|fail)
 all_goals refine KJ.txShut (s:=s) (K:=K) (U:=U) (ended:=true) x hT xP ?_
 all_goals (exact xdn ())
theorem challE_ct:Ct Tryz.prog W 48 [.pointer (some ⟨t,0,none⟩)] [TxQ t r true m] (fun g:Nat=>allV g) (fun g=>[TxQ t r true m,zAn g [rngE] 142]):=by
 have c1:=ktext_ct (W:=W) [97]
 have cj:∀ gb,Ct Tryz.prog W 64 [.slice (some ⟨gb,0,none⟩) 1 1] [zAn gb (kpC [97]) 94] (fun _:Unit=>strV aLo) (fun _=>[zAn gb (kpC [97]) 94]):=fun gb=>
  kjoin_ct (W:=W) (zAn gb (kpC [97]) 94) (some ⟨gb,0,none⟩) 1 [[97]] (Lv.cells (by simp)) (by simp) (by decide) (by simp)
 have ca:Ct Tryz.prog W 91 [strV aLo] [] (fun _:Unit=>.tuple #[strV aHi,.bool true]) (fun _=>[]):=kafter_ct (W:=W) [2,97,0] 1 (by decide) (by decide)
 have cr:=txrangeE_ct (W:=W) (t:=t) (r:=r) (m:=m) aLo aHi
 refine Ct.enter Tryz.func48 rfl Tryz.ntmps48 (by simp) (fun R=>?_)
 repeat' (first|(refine zBd ?_;refine zBb rfl (fun g6=>?_))|(refine zAe ?_;first|(refine zAa xE cr xP rfl (fun x=>?_))|(refine zAa xE ca xP rfl (fun _=>?_))|(refine zAa xE (cj _) xP rfl (fun _=>?_))|(refine zAa xE c1 xP rfl (fun _=>?_)))|(refine zAw ?_;refine zBa rfl xF (by rfl) (by omega) rfl (fun gb=>?_))|(refine ek_mkFunc ?_;refine zAb (Ev_mkFunc1 rfl) ?_)|refine xst ?_|(refine xsa ?_;intro _)|(refine xsb ?_ ?_ <;>intro _<;>try (exfalso;omega))|refine xsc ?_|fail)
 all_goals (exact xdn g6)
theorem all1E_ct (g lp:Nat) (A:SP):Ct Tryz.prog W 92 [yv lp,.pointer (some ⟨g,0,none⟩)] [A,zAn g [rngE] 142] (fun _:Unit=>.tuple #[]) (fun _=>[A,zAn g [rngE] 142]):=by
 refine Ct.enter Tryz.func92 rfl Tryz.ntmps92 (by simp) (fun R=>?_)
 repeat' (first|(refine zBn ?_;refine zBg rfl xF rfl (fun gy=>?_))|refine xst ?_|(refine xsa ?_;intro _)|(refine xsb ?_ ?_ <;>intro _<;>try (exfalso;omega))|refine xsc ?_|fail)
 refine KJ_range (X:=Unit) (lb:=[]) (pe:=fun _=>none) (Hpre:=[]) (Hp:=fun _=>[]) (v:=fun _=>.tuple #[]) rfl rfl (fun l=>rngE_ct l _) Pick.nil (fun _ _=>?_) (fun _ _ h=>by cases h)
 repeat' (first|refine xst ?_|(refine xsa ?_;intro _)|(refine xsb ?_ ?_ <;>intro _<;>try (exfalso;omega))|refine xsc ?_|fail)
 all_goals (refine is_ex ?_;exact KJ_done (by first|exact Or.inl rfl|exact Or.inr rfl) rfl Rvs.nil () (by rfl) (xN))
theorem all15E_ct:Ct Tryz.prog W 39 [.pointer (some ⟨t,0,none⟩),.slice none 0 0] [TxQ t r true m] (fun _:Unit=>.bool true) (fun _=>[TxQ t r true m]):=by
 have cA:=challE_ct (W:=W) (t:=t) (r:=r) (m:=m)
 refine Ct.enter Tryz.func39 rfl Tryz.ntmps39 (by simp) (fun R=>?_)
 repeat' (first|(refine zBd ?_;first|(refine zBb (d:=4) rfl (fun g4=>?_))|(refine zBb (d:=6) rfl (fun g6=>?_)))|(refine zBn ?_;refine zBg rfl xF rfl (fun g3=>?_))|(refine zAe ?_;refine zAa xE cA xP rfl (fun gz=>?_))|(refine zAx ?_;refine zAb (Ev_eqlFn2 rfl rfl) ?_)|refine xst ?_|(refine xsa ?_;intro _)|(refine xsb ?_ ?_ <;>intro _<;>try (exfalso;omega))|refine xsc ?_|(refine zAc (id:=10) plVGE4 (by kernel_rfl) (by kernel_rfl) ?_)|refine zAm ?_ ?_|refine zAk rfl rfl rfl rfl rfl ?_ ?_|refine zAg ?_ ?_|exact Rech.nil|fail)
 refine zBe (fun x:{x:Nat × Nat//x.1≤2}=>[(3,.pointer (some ⟨g3,0,none⟩)),(4,.pointer (some ⟨g4,0,none⟩)),(5,allV gz),(6,.pointer (some ⟨x.1.2,0,none⟩))])
  (fun x=>[TxQ t r true m,zAn gz [rngE] 142,zAn g4 [.bool false] 4,zAn x.1.2 [.int .i64 ((x.1.1:Nat):Int)] 3,zAn g3 [.slice none 0 0] 73]++R) (fun x=>2-x.1.1) ⟨(0,g6),by omega⟩ xB (xN) (fun ⟨(k,g6),hk2⟩=>?_)
 dsimp only at hk2 ⊢
 by_cases hk:k<2
 ·have q0:decide (((k:Nat):Int)<2)=true:=decide_eq_true (by omega)
  have qe:decide ((0:Int)<0)=false:=rfl
  repeat' (first|(refine zBd ?_;refine zBb rfl (fun g7=>?_))|(refine zAi ?_;refine zAb (zAd rfl rfl q0) ?_)|refine xst ?_|(refine xsa ?_;intro _)|(refine xsb ?_ ?_ <;>intro _<;>try (exfalso;omega))|refine xsc ?_|(refine zAc (id:=10) plVGE4 (by kernel_rfl) (by kernel_rfl) ?_)|refine zAm ?_ ?_|refine zAk rfl rfl rfl rfl rfl ?_ ?_|refine zAg ?_ ?_|exact Rech.nil|fail)
  refine KJ_range (X:=Unit) (lb:=[.pointer (some ⟨gz,0,none⟩)]) (pe:=fun _=>none) (Hpre:=[zAn gz [rngE] 142]) (Hp:=fun _=>[zAn gz [rngE] 142]) (v:=fun _=>.tuple #[]) rfl rfl (fun l=>all1E_ct gz l _) xP (fun _ _=>?_) (fun _ _ h=>by cases h)
  repeat' (first|(refine zBd ?_;refine zBb rfl (fun g6'=>?_))|(refine zAu ?_;refine zAb (zAh (r:=((k+1:Nat):Int)) rfl rfl (by omega) (by omega)) ?_)|(refine zAi ?_;refine zAb (zAd rfl rfl qe) ?_)|refine xst ?_|(refine xsa ?_;intro _)|(refine xsb ?_ ?_ <;>intro _<;>try (exfalso;omega))|refine xsc ?_|(refine zAc (id:=10) plVGE4 (by kernel_rfl) (by kernel_rfl) ?_)|refine zAm ?_ ?_|refine zAk rfl rfl rfl rfl rfl ?_ ?_|refine zAg ?_ ?_|exact Rech.nil|fail)
  all_goals refine zAr ⟨(k+1,g6'),by omega⟩ (by show 2-(k+1)<2-k;omega) xB (xN)
 have q0:decide (((k:Nat):Int)<2)=false:=decide_eq_false (by omega)
 repeat' (first|(refine zAi ?_;refine zAb (zAd rfl rfl q0) ?_)|refine xst ?_|(refine xsa ?_;intro _)|(refine xsb ?_ ?_ <;>intro _<;>try (exfalso;omega))|refine xsc ?_|(refine zAc (id:=10) plVGE4 (by kernel_rfl) (by kernel_rfl) ?_)|refine zAm ?_ ?_|refine zAk rfl rfl rfl rfl rfl ?_ ?_|refine zAg ?_ ?_|exact Rech.nil|fail)
 all_goals (refine is_ex ?_;exact KJ_done (by first|exact Or.inl rfl|exact Or.inr rfl) rfl (Rvs.cell (T:=4) rfl inferInstance xS rfl Rvs.nil) () (by rfl) (xN))
end
end Go.Proofs.YtnbgcimalpdfoaaGreatDoor
namespace Go.Proofs.YtnbgcimalpdfoaaGreatDoor
open Go Go.RowKit
theorem few_one {o:COp} (h:fewB [] [o]=true):o.ac.id.length≤65536∧o.row.length≤65536:=by
 have h1:=few_in h
 have e:sumO [o]=o.ac.id.length+o.row.length+sumO []:=rfl
 rw [e] at h1
 omega
section
variable {W:World} {F:Nat→Addr} {t s m:Nat} {r:Rows} {id cur:List UInt8}
theorem txnew2 (hE:ErrsOn L37 W F) (hE8:ErrsOn L8 W F) (hN:NibAt W):∃ D1 D2:Dsk,Rest D2∧D2.n=64∧∀ d,
 Ct Tryz.prog W 55 [.pointer (some ⟨d,0,none⟩),.slice none 0 0] [DiskP d (Dsk.blank 64)] (fun _:Unit=>.nilIface) (fun _=>[DiskP d D1])∧
 Ct Tryz.prog W 56 [.pointer (some ⟨d,0,none⟩)] [DiskP d D1] (fun x:Nat × Nat × Nat=>.tuple #[.pointer (some ⟨x.1,0,none⟩),.nilIface])
  (fun x=>[stP x.1 d x.2.1 64 2 (some ⟨x.2.2,0,none⟩) D2.life false,DiskP d D2,tbP x.2.1 none 0,arP [],jouP x.2.2 d 64 2 D2.life]):=by
 obtain ⟨g1,g2,g3,g4,g5,g6,g7,g8⟩:=(Ready.blank (n:=64) (by omega) (by omega)).fold [] (by omega) (by omega) (by omega) (by rw [snap_nil];decide)
 obtain ⟨k1,k2,k3,k4,k5,k6,k7,k8⟩:=g3.ready.fold [] (by omega) (by omega) (by omega) (by rw [snap_nil];decide)
 refine ⟨fldD (Dsk.blank 64) 64 1 [],fldD (fldD (Dsk.blank 64) 64 1 []) 64 2 [],k3.rest,k3.nn,fun d=>⟨sformat0_ct hE hE8 hN (by omega) (by omega),?_⟩⟩
 have:=sopen0_ct (W:=W) (F:=F) (d:=d) hE hE8 hN (n:=64) (by omega) (by omega) 1 ⟨by omega,by omega⟩ g3
 rw [← k4] at this
 exact this
theorem txbegin0S (v:Int) (lg:Option Addr) (life:Int) (d q n:Nat):Ct Tryz.prog W 57 [.pointer (some ⟨s,0,none⟩)] [stP s d q n v lg life false,tbP q none 0,arP []] (fun t:Nat=>.pointer (some ⟨t,0,none⟩)) (fun t=>[stP s d q n v lg life false,tbP q none 0,arP [],TxS t s [] [] 0]):=
 (txbegin_ct (W:=W) (s:=s) (d:=d) (q:=q) (n:=n) (b:=0) v lg life false (TbOk.nil []) (by simp)).to _root_.id (fun _=>rfl) (fun t R g hq=>by
  have h2:=starL_perm (show ([stP s d q n v lg life false,tbP q none 0,arP [],TxP t s (ofR []) [] [] false]++R).Perm (TxP t s (ofR []) [] [] false::([stP s d q n v lg life false,tbP q none 0,arP []]++R)) from by
   simpa using (List.perm_middle (l₁:=[stP s d q n v lg life false,tbP q none 0,arP []]) (a:=TxP t s (ofR []) [] [] false) (l₂:=R))) g hq
  have h3:=TxS.star (t:=t) (s:=s) (m:=0) (r0:=[]) (r:=[]) (K:=[]) (U:=[]) ⟨Nat.le_refl _,Nat.le_refl _,List.nodup_nil,fun k h=>absurd rfl h⟩ g h2
  exact starL_perm (show (TxS t s [] [] 0::([stP s d q n v lg life false,tbP q none 0,arP []]++R)).Perm ([stP s d q n v lg life false,tbP q none 0,arP [],TxS t s [] [] 0]++R) from by
   simpa using (List.perm_middle (l₁:=[stP s d q n v lg life false,tbP q none 0,arP []]) (a:=TxS t s [] [] 0) (l₂:=R)).symm) g h3)
theorem begin15S (hE:ErrsAt W F) (hN:NibAt W) (hg:gB≤W.heap.size):∃ D2:Dsk,Rest D2∧D2.n=64∧Ct Tryz.prog W 34 [.slice none 0 0] [] (fun x:Nat × Nat × Nat × Nat × Nat=>.pointer (some ⟨x.1,0,none⟩)) (fun x=>[TxS x.1 x.2.1 [] [] 0,stP x.2.1 x.2.2.1 x.2.2.2.1 64 2 (some ⟨x.2.2.2.2,0,none⟩) D2.life false,DiskP x.2.2.1 D2,tbP x.2.2.2.1 none 0,arP [],jouP x.2.2.2.2 x.2.2.1 64 2 D2.life]):=by
 have cn:Ct Tryz.prog W 54 [.int .i64 64] [] (fun p:Nat=>.tuple #[.pointer (some ⟨p,0,none⟩),.nilIface]) (fun p=>[DiskP p (Dsk.blank 64)]):=new_ct 64 (by omega) (by omega) hg
 obtain ⟨D1,D2,hR,hn,hc⟩:=txnew2 (W:=W) hE.all hE.on hN
 refine ⟨D2,hR,hn,?_⟩
 have c1:=fun d=>(hc d).1
 have c2:=fun d=>(hc d).2
 have c3:=fun s d q g=>txbegin0S (W:=W) (s:=s) 2 (some ⟨g,0,none⟩) D2.life d q 64
 clear hc
 have ql:decide ((0:Int)<0)=false:=rfl
 refine Ct.enter Tryz.func34 rfl Tryz.ntmps34 (by simp) (fun R=>?_)
 repeat' (first|(refine zAe ?_;first|(refine zAa xE (c3 _ _ _ _) xP rfl (fun t=>?_))|(refine zAa xE (c2 _) xP rfl (fun x=>?_);obtain ⟨s,q,g⟩:=x)|(refine zAa xE (c1 _) xP rfl (fun _=>?_))|(refine zAa xE cn xP rfl (fun d=>?_)))|refine xst ?_|(refine xsa ?_;intro _)|(refine xsb ?_ ?_ <;>intro _<;>try (exfalso;omega))|refine xsc ?_|fail)
 refine zBe (fun _:Unit=>[(6,.pointer (some ⟨t,0,none⟩)),(39,.slice none 0 0),(40,.int .i64 0),(41,.int .i64 0)]) (fun _=>[TxS t s [] [] 0,stP s d q 64 2 (some ⟨g,0,none⟩) D2.life false,DiskP d D2,tbP q none 0,arP [],jouP g d 64 2 D2.life]++R) (fun _=>0) () xB (xN) (fun _=>?_)
 repeat' (first|(refine zAi ?_;refine zAb (zAd rfl rfl ql) ?_)|refine xst ?_|(refine xsa ?_;intro _)|(refine xsb ?_ ?_ <;>intro _<;>try (exfalso;omega))|refine xsc ?_|fail)
 all_goals (exact xdn (t,s,d,q,g))
theorem chopenS_ct (hE:ErrsOn L37 W F) (hi:id.length≤2000000) (hu:cur.length≤2000000) (h1:accE id=0) (h2:codeB cur=true) :
 Ct Tryz.prog W 42 [.pointer (some ⟨t,0,none⟩),strV id,strV cur] [TxS t s [] [] 0] (fun _:Unit=>.nilIface) (fun _=>[TxS t s [] (putR [] (aKey id) (rowA (newA id cur))) 1]):=by
 have e7:W.cell? ⟨3,0,none⟩=some (errV F 7):=hE.at_ 7 (by decide)
 have e8:W.cell? ⟨19,0,none⟩=some (errV F 8):=hE.at_ 8 (by decide)
 have ci:=icheck_ct (W:=W) (F:=F) id hi e7 e8
 have cc:=code_ct (W:=W) cur hu
 have ck:=chkey_ct (W:=W) id (by omega)
 have cg:Ct Tryz.prog W 24 [.pointer (some ⟨t,0,none⟩),strV (aKey id)] [TxS t s [] [] 0] (fun _:Unit=>.tuple #[strV [],.bool false]) (fun _=>[TxS t s [] [] 0]):=txgetS (W:=W) (t:=t) (s:=s) (r0:=[]) (r:=[]) (m:=0) (aKey id)
 rw [h1] at ci
 rw [h2] at cc
 have cr:=chrow_ct (W:=W) (a:=newA id cur) ⟨show (1:Int)≤1 by decide,show (1:Int)≤5 by decide⟩ hu
 have cp:=txputS (W:=W) (t:=t) (s:=s) (r0:=[]) (m:=0) (r:=[]) List.Pairwise.nil (aKey id) (rowA (newA id cur)) (by simp) (by omega)
 obtain ⟨r1,hr1⟩:∃ x,x=putR [] (aKey id) (rowA (newA id cur)):=⟨_,rfl⟩
 rw [← hr1] at cp ⊢
 clear hr1
 refine Ct.enter Tryz.func42 rfl Tryz.ntmps42 (by simp) (fun R=>?_)
 repeat' (first|(refine zAe ?_;first|(refine zAa xE ci xP rfl (fun _=>?_))|(refine zAa xE cc xP rfl (fun _=>?_))|(refine zAa xE ck xP rfl (fun _=>?_))|(refine zAa xE cg xP rfl (fun _=>?_))|(refine zAa xE cr xP rfl (fun _=>?_))|(refine zAa xE cp xP rfl (fun _=>?_)))|(refine zBk ?_;refine zAb (zBm xV xW) ?_)|refine xst ?_|(refine xsa ?_;intro _)|(refine xsb ?_ ?_ <;>intro _<;>try (exfalso;omega))|refine xsc ?_|fail)
 all_goals (exact xdn ())
def rowE:List UInt8:=rowA (newA numB eurB)
def opE:BOp:=⟨false,aKey numB,rowE⟩
theorem rowsE:putR [] (aKey numB) rowE=[(aKey numB,rowE)]:=rfl
theorem betE:between [] [(aKey numB,rowE)]=[opE]:=by
 have h:=between_prog (a:=[]) (b:=[(aKey numB,rowE)]) List.Pairwise.nil (List.pairwise_singleton _ _)
 rw [← h]
 rfl
theorem rowE_len:rowE.length=22:=by unfold rowE;rw [row_new];rfl
theorem encE:encode [opE]=(encAll [opE],0):=rfl
theorem encE_len:(encAll [opE]).length=55:=by
 have h1:(encAll [opE]).length=1+(1+((1+(aKey numB).length)+(1+rowE.length))):=by
  have e:encAll [opE]=vu 1++(0::(tx (aKey numB)++tx rowE)):=by simp [encAll,encOps,encOp,opE]
  rw [e,List.length_append,List.length_cons,List.length_append]
  unfold tx
  rw [List.length_append,List.length_append,rowE_len]
  rfl
 rw [h1,rowE_len]
 rfl
theorem snapE_len:(snapB [(aKey numB,rowE)]).length≤100:=by
 have e:snapB [(aKey numB,rowE)]=vu 1++(tx (aKey numB)++tx rowE):=by simp [snapB,rowB]
 rw [e,List.length_append,List.length_append]
 unfold tx
 rw [List.length_append,List.length_append,rowE_len]
 decide
theorem sumO_one (o:COp):sumO [o]=o.ac.id.length+o.row.length:=rfl
set_option maxRecDepth 100000 in
theorem ended15_ct (hE:ErrsAt W F) (hN:NibAt W) (hg:gB≤W.heap.size) (B:SP) (b:Option Addr) (d:Nat) (S:List COp) (commit:Bool) (hB:Lv W copC 9 B b S) (X:Args15 [] S) :
 Ct Tryz.prog W 9 [.slice b S.length d,.bool commit] [B] (fun _:Unit=>.bool true) (fun _=>[B]):=by
 have cL:=lives15_ct hE hN hg
 have hE37:ErrsOn L37 W F:=hE.all
 have x2:=X.ls
 obtain ⟨D,hD,hDn,cb⟩:=begin15S (W:=W) hE hN hg
 have cO:=fun t s=>chopenS_ct (W:=W) (F:=F) (t:=t) (s:=s) (id:=numB) (cur:=eurB) hE37 (by decide) (by decide) numB_ok eurB_ok
 have er:putR [] (aKey numB) (rowA (newA numB eurB))=[(aKey numB,rowE)]:=rowsE
 rw [er] at cO
 have e17:W.cell? ⟨13,0,none⟩=some (errV F 17):=hE37.at_ 17 (by decide)
 have cD:=fun t s=>txdropS (W:=W) (t:=t) (s:=s) (r0:=[]) (r:=[(aKey numB,rowE)]) (m:=1)
 have cC:∀ t s d q g,Ct Tryz.prog W 50 [.pointer (some ⟨t,0,none⟩)] [TxS t s [] [(aKey numB,rowE)] 1,stP s d q 64 2 (some ⟨g,0,none⟩) D.life false,DiskP d D,tbP q none 0,arP [],jouP g d 64 2 D.life] (fun _:Unit=>.nilIface) (fun _=>[TxQ t [(aKey numB,rowE)] true 1]):=fun t s d q g=>by
  have hb:=encE_len
  have hpl:=pcsJ_length (encAll [opE])
  have hc:costI (encAll [opE]).length=1:=by rw [hb];decide
  have h:=txcommit_ct (W:=W) (F:=F) (t:=t) (s:=s) (d:=d) (q:=q) (g:=g) (n:=64) (N:=[]) (a:=none) (b:=0) (r0:=[]) (r:=[(aKey numB,rowE)]) (m:=1) hE.on e17 hN (by omega) (by omega) 2 0 ⟨by omega,by omega⟩ hD hDn (TbOk.nil []) (List.pairwise_singleton _ _) (by omega) (by simp)
   (by rw [betE];simp) (by rw [betE];simp) (encAll [opE]) (by rw [betE];exact encE) (by rw [betE,hb];omega) (by rw [hb];omega) (by rw [hb];decide) (by have:(logN 64:Nat)=22:=rfl;omega) (by have:=snapE_len;have:layA 64=20:=rfl;omega)
  exact h.to (fun _=>()) (fun _=>rfl) (fun _ _=>(xN))
 clear er
 obtain ⟨r,hr⟩:∃ x,x=[(aKey numB,rowE)]:=⟨_,rfl⟩
 rw [← hr] at cO cD cC
 clear hr
 refine Ct.enter Tryz.func9 rfl Tryz.ntmps9 (by simp) (fun R=>?_)
 apply KJ_rest (fun Kc=>∀ t:Nat,KJ W 131 Kc [(0,.slice b S.length d),(5,.pointer (some ⟨t,0,none⟩))] ([TxQ t r true 1,B]++R))
 ·intro rest
  cases commit with
  |true=>
   repeat' (first|(refine at_seq_region (id:=10) ?_;exact KJ.weak (rest _) xB (xN))|(refine zAe ?_;first|(refine zAa xE (cC _ _ _ _ _) xP rfl (fun _=>?_))|(refine zAa xE (cO _ _) xP rfl (fun _=>?_))|(refine zAa xE cb xP rfl (fun x=>?_);obtain ⟨t,s,dk,q,g⟩:=x)|(refine zAa xE cL xP rfl (fun _=>?_)))|refine xst ?_|(refine xsa ?_;intro _)|(refine xsb ?_ ?_ <;>intro _<;>try (exfalso;omega))|refine xsc ?_|fail)
  |false=>
   repeat' (first|(refine at_seq_region (id:=10) ?_;exact KJ.weak (rest _) xB (xN))|(refine zAe ?_;first|(refine zAa xE (cD _ _) xP rfl (fun _=>?_))|(refine zAa xE (cO _ _) xP rfl (fun _=>?_))|(refine zAa xE cb xP rfl (fun x=>?_);obtain ⟨t,s,dk,q,g⟩:=x)|(refine zAa xE cL xP rfl (fun _=>?_)))|refine xst ?_|(refine xsa ?_;intro _)|(refine xsb ?_ ?_ <;>intro _<;>try (exfalso;omega))|refine xsc ?_|fail)
 intro t
 clear cL cb cO cD cC hD hDn
 refine KJ.noP ?_
 repeat' (first|refine xst ?_|(refine xsa ?_;intro _)|(refine xsb ?_ ?_ <;>intro _<;>try (exfalso;omega))|refine xsc ?_|fail)
 refine zBe (fun x:{x:Nat//x≤S.length}=>[(5,.pointer (some ⟨t,0,none⟩)),(28,.slice b S.length d),(29,.int .i64 (S.length:Nat)),(30,.int .i64 (x.1:Nat))])
  (fun _=>[TxQ t r true 1,B,noP]++R) (fun x=>S.length-x.1) ⟨0,Nat.zero_le _⟩ xB (xN) (fun ⟨i,hi⟩=>?_)
 dsimp only at hi ⊢
 by_cases hlt:i<S.length
 rotate_left
 ·have ql:decide ((i:Int)<(S.length:Nat))=false:=decide_eq_false (by omega)
  repeat' (first|(refine zAi ?_;refine zAb (zAd rfl rfl ql) ?_)|refine xst ?_|(refine xsa ?_;intro _)|(refine xsb ?_ ?_ <;>intro _<;>try (exfalso;omega))|refine xsc ?_|fail)
  all_goals (exact xdn ())
 have ql:decide ((i:Int)<(S.length:Nat))=true:=decide_eq_true (by omega)
 obtain ⟨o,ho⟩:∃ s,S[i]? = some s:=⟨_,List.getElem?_eq_getElem hlt⟩
 obtain ⟨o1,o2,o3,o4⟩:=X.op o (List.mem_of_getElem? ho)
 refine KJ.lvSome hB xS (by omega) (fun ba oa hab=>?_)
 subst hab
 have hoff:oa+Int.toNat (i:Int)*9=oa+i*9:=by simp
 by_cases k7:o.kind=7
 ·have q7:decide (o.kind=7)=true:=decide_eq_true k7
  repeat' (first|(refine zBd ?_;refine zBb rfl (fun g=>?_))|(refine zAp ?_;refine zAb (zBt cop_ok hB rfl rfl xS hoff ho) ?_)|(refine zAu ?_;refine zAb (zAh (r:=((i+1:Nat):Int)) rfl rfl (by omega) (by omega)) ?_)|(refine zAx ?_;refine zAb (zAf rfl rfl q7) ?_)|(refine zAi ?_;refine zAb (zAd rfl rfl ql) ?_)|refine xst ?_|(refine xsa ?_;intro _)|(refine xsb ?_ ?_ <;>intro _<;>try (exfalso;omega))|refine xsc ?_|fail)
  all_goals refine zAr ⟨i+1,hlt⟩ (by show S.length-(i+1)<S.length-i;omega) xB (xN)
 have q7:decide (o.kind=7)=false:=decide_eq_false k7
 have cF:∀ gb,Ct Tryz.prog W 32 [.slice none 0 0,.slice (some ⟨gb,0,none⟩) 1 1] [noP,zAn gb (copC o) 67] (fun _:Unit=>.bool (fewB [] [o])) (fun _=>[noP,zAn gb (copC o) 67]):=fun gb=>
  few15_ct (W:=W) noP (zAn gb (copC o) 67) none (some ⟨gb,0,none⟩) 0 1 [] [o] ⟨fun w H R _ _ h=>absurd rfl h⟩ (Lv.cells (by simp)) (by simp) (by simp) (by simp [sumR]) (by simp only [sumO_one];omega)
 cases hf:fewB [] [o] with
 |false=>
  rw [hf] at cF
  repeat' (first|(refine zBd ?_;refine zBb rfl (fun g=>?_))|(refine zAe ?_;refine zAa xE (cF _) xP rfl (fun _=>?_))|(refine zAw ?_;refine zBa rfl xF (by rfl) (by omega) rfl (fun gb=>?_);show KJ W _ _ _ (zAn gb (copC o) 67::_))|(refine zAp ?_;refine zAb (zBt cop_ok hB rfl rfl xS hoff ho) ?_)|(refine zAu ?_;refine zAb (zAh (r:=((i+1:Nat):Int)) rfl rfl (by omega) (by omega)) ?_)|(refine zAx ?_;refine zAb (zAf rfl rfl q7) ?_)|(refine zAi ?_;refine zAb (zAd rfl rfl ql) ?_)|refine xst ?_|(refine xsa ?_;intro _)|(refine xsb ?_ ?_ <;>intro _<;>try (exfalso;omega))|refine xsc ?_|fail)
  all_goals refine zAr ⟨i+1,hlt⟩ (by show S.length-(i+1)<S.length-i;omega) xB (xN)
 |true=>
 obtain ⟨f1,f2⟩:=few_one hf
 rw [hf] at cF
 have qe:∀ e:Nat,decide (((e:Nat):Int)≠((e:Nat):Int))=false:=fun e=>decide_eq_false (by simp)
 by_cases k0:o.kind=0
 ·have q0:decide (o.kind=0)=true:=decide_eq_true k0
  have c1:=chfoundE_ct (W:=W) (F:=F) (t:=t) (m:=1) (r:=r) (cur:=o.ac.cur) hE37 (by omega)
  have c2:Ct Tryz.prog W 51 [.slice none 0 0,strV o.ac.cur] [rowP (.slice none 0 0) 89 2 0 []] (fun x:Option Addr × Nat=>.tuple #[.slice x.1 (foundR [] o.ac.cur).length x.2,.int .i64 (foundE [] o.ac.cur:Nat)]) (fun x=>[rwP x (foundR [] o.ac.cur)]):=d15found_ct (W:=W) (a:=none) (c:=0) (r:=[]) (cur:=o.ac.cur) List.Pairwise.nil (by simp)
  have hle:=foundE_le [] o.ac.cur
  obtain ⟨e,he⟩:∃ e,e=foundE [] o.ac.cur:=⟨_,rfl⟩
  rw [← he] at c1 c2 hle
  clear he
  by_cases hz:e=0
  ·have cN:=numA_ct (W:=W) hE hg 19 (by omega)
   have e1:endE e=19:=if_pos hz
   rw [e1] at c1
   have qz:decide (((e:Nat):Int)=0)=true:=decide_eq_true (by omega)
   refine KJ.nilrow 89 2 ?_
   repeat' (first|(refine zBd ?_;refine zBb rfl (fun g=>?_))|(refine zAe ?_;first|(refine zAa xE cN xP rfl (fun _=>?_))|(refine zAa xE c2 xP rfl (fun x=>?_))|(refine zAa xE c1 xP rfl (fun _=>?_))|(refine zAa xE (cF _) xP rfl (fun _=>?_)))|(refine zAw ?_;refine zBa rfl xF (by rfl) (by omega) rfl (fun gb=>?_);show KJ W _ _ _ (zAn gb (copC o) 67::_))|(refine zAp ?_;refine zAb (zBt cop_ok hB rfl rfl xS hoff ho) ?_)|(refine zAu ?_;refine zAb (zAh (r:=((i+1:Nat):Int)) rfl rfl (by omega) (by omega)) ?_)|(refine zAx ?_;first|refine zAb (zAf rfl rfl qz) ?_|refine zAb (zAf rfl rfl q0) ?_|refine zAb (zAf rfl rfl q7) ?_)|(refine zBc ?_;refine zAb (Ev_neqI_q rfl rfl (qe 19)) ?_)|(refine zAi ?_;refine zAb (zAd rfl rfl ql) ?_)|refine xst ?_|(refine xsa ?_;intro _)|(refine xsb ?_ ?_ <;>intro _<;>try (exfalso;omega))|refine xsc ?_|fail)
   all_goals refine zAr ⟨i+1,hlt⟩ (by show S.length-(i+1)<S.length-i;omega) xB (xN)
  ·have cN:=numA_ct (W:=W) hE hg e hle
   have e1:endE e=e:=if_neg hz
   rw [e1] at c1
   have qz:decide (((e:Nat):Int)=0)=false:=decide_eq_false (by omega)
   refine KJ.nilrow 89 2 ?_
   repeat' (first|(refine zBd ?_;refine zBb rfl (fun g=>?_))|(refine zAe ?_;first|(refine zAa xE cN xP rfl (fun _=>?_))|(refine zAa xE c2 xP rfl (fun x=>?_))|(refine zAa xE c1 xP rfl (fun _=>?_))|(refine zAa xE (cF _) xP rfl (fun _=>?_)))|(refine zAw ?_;refine zBa rfl xF (by rfl) (by omega) rfl (fun gb=>?_);show KJ W _ _ _ (zAn gb (copC o) 67::_))|(refine zAp ?_;refine zAb (zBt cop_ok hB rfl rfl xS hoff ho) ?_)|(refine zAu ?_;refine zAb (zAh (r:=((i+1:Nat):Int)) rfl rfl (by omega) (by omega)) ?_)|(refine zAx ?_;first|refine zAb (zAf rfl rfl qz) ?_|refine zAb (zAf rfl rfl q0) ?_|refine zAb (zAf rfl rfl q7) ?_)|(refine zBc ?_;refine zAb (Ev_neqI_q rfl rfl (qe e)) ?_)|(refine zAi ?_;refine zAb (zAd rfl rfl ql) ?_)|refine xst ?_|(refine xsa ?_;intro _)|(refine xsb ?_ ?_ <;>intro _<;>try (exfalso;omega))|refine xsc ?_|fail)
   all_goals refine zAr ⟨i+1,hlt⟩ (by show S.length-(i+1)<S.length-i;omega) xB (xN)
 have q0:decide (o.kind=0)=false:=decide_eq_false k0
 by_cases k1:o.kind=1
 ·have q1:decide (o.kind=1)=true:=decide_eq_true k1
  have c1:=chopenE_ct (W:=W) (F:=F) (t:=t) (m:=1) (r:=r) (id:=o.ac.id) (cur:=o.ac.cur) hE37 (by omega) (by omega)
  have c2:Ct Tryz.prog W 52 [.slice none 0 0,strV o.ac.id,strV o.ac.cur] [rowP (.slice none 0 0) 89 2 0 []] (fun x:Option Addr × Nat=>.tuple #[.slice x.1 (openR [] o.ac.id o.ac.cur).length x.2,.int .i64 (openE [] o.ac.id o.ac.cur:Nat)]) (fun x=>[rwP x (openR [] o.ac.id o.ac.cur)]):=d15open_ct (W:=W) (a:=none) (c:=0) (r:=[]) (id:=o.ac.id) (cur:=o.ac.cur) (by omega) List.Pairwise.nil (by simp)
  have hle:=openE_le [] o.ac.id o.ac.cur
  obtain ⟨e,he⟩:∃ e,e=openE [] o.ac.id o.ac.cur:=⟨_,rfl⟩
  rw [← he] at c1 c2 hle
  clear he
  by_cases hz:e=0
  ·have cN:=numA_ct (W:=W) hE hg 19 (by omega)
   have e1:endE e=19:=if_pos hz
   rw [e1] at c1
   have qz:decide (((e:Nat):Int)=0)=true:=decide_eq_true (by omega)
   refine KJ.nilrow 89 2 ?_
   repeat' (first|(refine zBd ?_;refine zBb rfl (fun g=>?_))|(refine zAe ?_;first|(refine zAa xE cN xP rfl (fun _=>?_))|(refine zAa xE c2 xP rfl (fun x=>?_))|(refine zAa xE c1 xP rfl (fun _=>?_))|(refine zAa xE (cF _) xP rfl (fun _=>?_)))|(refine zAw ?_;refine zBa rfl xF (by rfl) (by omega) rfl (fun gb=>?_);show KJ W _ _ _ (zAn gb (copC o) 67::_))|(refine zAp ?_;refine zAb (zBt cop_ok hB rfl rfl xS hoff ho) ?_)|(refine zAu ?_;refine zAb (zAh (r:=((i+1:Nat):Int)) rfl rfl (by omega) (by omega)) ?_)|(refine zAx ?_;first|refine zAb (zAf rfl rfl qz) ?_|refine zAb (zAf rfl rfl q1) ?_|refine zAb (zAf rfl rfl q0) ?_|refine zAb (zAf rfl rfl q7) ?_)|(refine zBc ?_;refine zAb (Ev_neqI_q rfl rfl (qe 19)) ?_)|(refine zAi ?_;refine zAb (zAd rfl rfl ql) ?_)|refine xst ?_|(refine xsa ?_;intro _)|(refine xsb ?_ ?_ <;>intro _<;>try (exfalso;omega))|refine xsc ?_|fail)
   all_goals refine zAr ⟨i+1,hlt⟩ (by show S.length-(i+1)<S.length-i;omega) xB (xN)
  ·have cN:=numA_ct (W:=W) hE hg e hle
   have e1:endE e=e:=if_neg hz
   rw [e1] at c1
   have qz:decide (((e:Nat):Int)=0)=false:=decide_eq_false (by omega)
   refine KJ.nilrow 89 2 ?_
   repeat' (first|(refine zBd ?_;refine zBb rfl (fun g=>?_))|(refine zAe ?_;first|(refine zAa xE cN xP rfl (fun _=>?_))|(refine zAa xE c2 xP rfl (fun x=>?_))|(refine zAa xE c1 xP rfl (fun _=>?_))|(refine zAa xE (cF _) xP rfl (fun _=>?_)))|(refine zAw ?_;refine zBa rfl xF (by rfl) (by omega) rfl (fun gb=>?_);show KJ W _ _ _ (zAn gb (copC o) 67::_))|(refine zAp ?_;refine zAb (zBt cop_ok hB rfl rfl xS hoff ho) ?_)|(refine zAu ?_;refine zAb (zAh (r:=((i+1:Nat):Int)) rfl rfl (by omega) (by omega)) ?_)|(refine zAx ?_;first|refine zAb (zAf rfl rfl qz) ?_|refine zAb (zAf rfl rfl q1) ?_|refine zAb (zAf rfl rfl q0) ?_|refine zAb (zAf rfl rfl q7) ?_)|(refine zBc ?_;refine zAb (Ev_neqI_q rfl rfl (qe e)) ?_)|(refine zAi ?_;refine zAb (zAd rfl rfl ql) ?_)|refine xst ?_|(refine xsa ?_;intro _)|(refine xsb ?_ ?_ <;>intro _<;>try (exfalso;omega))|refine xsc ?_|fail)
   all_goals refine zAr ⟨i+1,hlt⟩ (by show S.length-(i+1)<S.length-i;omega) xB (xN)
 have q1:decide (o.kind=1)=false:=decide_eq_false k1
 by_cases k3:o.kind=3
 ·have q3:decide (o.kind=3)=true:=decide_eq_true k3
  have c1:=chsetE_ct (W:=W) (F:=F) (t:=t) (m:=1) (r:=r) (a:=o.ac) hE37 (by omega) (by omega) o4
  have c2:Ct Tryz.prog W 53 [.slice none 0 0,acV o.ac] [rowP (.slice none 0 0) 89 2 0 []] (fun x:Option Addr × Nat=>.tuple #[.slice x.1 (setR [] o.ac).length x.2,.int .i64 (setE [] o.ac:Nat)]) (fun x=>[rwP x (setR [] o.ac)]):=d15set_ct (W:=W) (a:=none) (c:=0) (r:=[]) (ac:=o.ac) (by omega) o4 List.Pairwise.nil (by simp)
  have hz:setE [] o.ac≠0:=by unfold setE;cases goodA o.ac;exact (by decide:(7:Nat)≠0);exact (by decide:(20:Nat)≠0)
  have hle:=setE_le [] o.ac
  obtain ⟨e,he⟩:∃ e,e=setE [] o.ac:=⟨_,rfl⟩
  rw [← he] at c1 c2 hle hz
  clear he
  have cN:=numA_ct (W:=W) hE hg e hle
  have qz:decide (((e:Nat):Int)=0)=false:=decide_eq_false (by omega)
  refine KJ.nilrow 89 2 ?_
  repeat' (first|(refine zBd ?_;refine zBb rfl (fun g=>?_))|(refine zAe ?_;first|(refine zAa xE cN xP rfl (fun _=>?_))|(refine zAa xE c2 xP rfl (fun x=>?_))|(refine zAa xE c1 xP rfl (fun _=>?_))|(refine zAa xE (cF _) xP rfl (fun _=>?_)))|(refine zAw ?_;refine zBa rfl xF (by rfl) (by omega) rfl (fun gb=>?_);show KJ W _ _ _ (zAn gb (copC o) 67::_))|(refine zAp ?_;refine zAb (zBt cop_ok hB rfl rfl xS hoff ho) ?_)|(refine zAu ?_;refine zAb (zAh (r:=((i+1:Nat):Int)) rfl rfl (by omega) (by omega)) ?_)|(refine zAx ?_;first|refine zAb (zAf rfl rfl qz) ?_|refine zAb (zAf rfl rfl q3) ?_|refine zAb (zAf rfl rfl q1) ?_|refine zAb (zAf rfl rfl q0) ?_|refine zAb (zAf rfl rfl q7) ?_)|(refine zBc ?_;refine zAb (Ev_neqI_q rfl rfl (qe e)) ?_)|(refine zAi ?_;refine zAb (zAd rfl rfl ql) ?_)|refine xst ?_|(refine xsa ?_;intro _)|(refine xsb ?_ ?_ <;>intro _<;>try (exfalso;omega))|refine xsc ?_|fail)
  all_goals refine zAr ⟨i+1,hlt⟩ (by show S.length-(i+1)<S.length-i;omega) xB (xN)
 have q3:decide (o.kind=3)=false:=decide_eq_false k3
 have cN:=numA_ct (W:=W) hE hg 20 (by omega)
 by_cases k4:o.kind=4
 ·have q4:decide (o.kind=4)=true:=decide_eq_true k4
  have c1:=chfreezeE_ct (W:=W) (F:=F) (t:=t) (m:=1) (r:=r) (id:=o.ac.id) hE37 (by omega) o.on
  repeat' (first|(refine zBd ?_;refine zBb rfl (fun g=>?_))|(refine zAe ?_;first|(refine zAa xE cN xP rfl (fun _=>?_))|(refine zAa xE c1 xP rfl (fun _=>?_))|(refine zAa xE (cF _) xP rfl (fun _=>?_)))|(refine zAw ?_;refine zBa rfl xF (by rfl) (by omega) rfl (fun gb=>?_);show KJ W _ _ _ (zAn gb (copC o) 67::_))|(refine zAp ?_;refine zAb (zBt cop_ok hB rfl rfl xS hoff ho) ?_)|(refine zAu ?_;refine zAb (zAh (r:=((i+1:Nat):Int)) rfl rfl (by omega) (by omega)) ?_)|(refine zAx ?_;first|refine zAb (zAf (q:=false) rfl rfl rfl) ?_|refine zAb (zAf rfl rfl q4) ?_|refine zAb (zAf rfl rfl q3) ?_|refine zAb (zAf rfl rfl q1) ?_|refine zAb (zAf rfl rfl q0) ?_|refine zAb (zAf rfl rfl q7) ?_)|(refine zBc ?_;refine zAb (Ev_neqI_q rfl rfl (qe 20)) ?_)|(refine zAi ?_;refine zAb (zAd rfl rfl ql) ?_)|refine xst ?_|(refine xsa ?_;intro _)|(refine xsb ?_ ?_ <;>intro _<;>try (exfalso;omega))|refine xsc ?_|fail)
  all_goals refine zAr ⟨i+1,hlt⟩ (by show S.length-(i+1)<S.length-i;omega) xB (xN)
 have q4:decide (o.kind=4)=false:=decide_eq_false k4
 by_cases k5:o.kind=5
 ·have q5:decide (o.kind=5)=true:=decide_eq_true k5
  have c1:=chcloseE_ct (W:=W) (F:=F) (t:=t) (m:=1) (r:=r) (id:=o.ac.id) hE37 (by omega)
  repeat' (first|(refine zBd ?_;refine zBb rfl (fun g=>?_))|(refine zAe ?_;first|(refine zAa xE cN xP rfl (fun _=>?_))|(refine zAa xE c1 xP rfl (fun _=>?_))|(refine zAa xE (cF _) xP rfl (fun _=>?_)))|(refine zAw ?_;refine zBa rfl xF (by rfl) (by omega) rfl (fun gb=>?_);show KJ W _ _ _ (zAn gb (copC o) 67::_))|(refine zAp ?_;refine zAb (zBt cop_ok hB rfl rfl xS hoff ho) ?_)|(refine zAu ?_;refine zAb (zAh (r:=((i+1:Nat):Int)) rfl rfl (by omega) (by omega)) ?_)|(refine zAx ?_;first|refine zAb (zAf (q:=false) rfl rfl rfl) ?_|refine zAb (zAf rfl rfl q5) ?_|refine zAb (zAf rfl rfl q4) ?_|refine zAb (zAf rfl rfl q3) ?_|refine zAb (zAf rfl rfl q1) ?_|refine zAb (zAf rfl rfl q0) ?_|refine zAb (zAf rfl rfl q7) ?_)|(refine zBc ?_;refine zAb (Ev_neqI_q rfl rfl (qe 20)) ?_)|(refine zAi ?_;refine zAb (zAd rfl rfl ql) ?_)|refine xst ?_|(refine xsa ?_;intro _)|(refine xsb ?_ ?_ <;>intro _<;>try (exfalso;omega))|refine xsc ?_|fail)
  all_goals refine zAr ⟨i+1,hlt⟩ (by show S.length-(i+1)<S.length-i;omega) xB (xN)
 have q5:decide (o.kind=5)=false:=decide_eq_false k5
 have c1:=chgetE_ct (W:=W) (F:=F) (t:=t) (m:=1) (r:=r) (id:=o.ac.id) hE37 (by omega)
 have cA:=all15E_ct (W:=W) (t:=t) (m:=1) (r:=r)
 have hself:=ac_self ac0 Tryz.underlying51
 repeat' (first|(refine zBd ?_;refine zBb rfl (fun g=>?_))|(refine zAe ?_;first|(refine zAa xE cN xP rfl (fun _=>?_))|(refine zAa xE cA xP rfl (fun _=>?_))|(refine zAa xE c1 xP rfl (fun _=>?_))|(refine zAa xE (cF _) xP rfl (fun _=>?_)))|(refine zAw ?_;refine zBa rfl xF (by rfl) (by omega) rfl (fun gb=>?_);show KJ W _ _ _ (zAn gb (copC o) 67::_))|(refine zAp ?_;refine zAb (zBt cop_ok hB rfl rfl xS hoff ho) ?_)|(refine zBk ?_;refine zAb (zBm xV xW) ?_)|(refine zAu ?_;refine zAb (zAh (r:=((i+1:Nat):Int)) rfl rfl (by omega) (by omega)) ?_)|(refine zAx ?_;first|refine zAb (zAf (q:=false) rfl rfl rfl) ?_|refine zAb (zAf rfl rfl q5) ?_|refine zAb (zAf rfl rfl q4) ?_|refine zAb (zAf rfl rfl q3) ?_|refine zAb (zAf rfl rfl q1) ?_|refine zAb (zAf rfl rfl q0) ?_|refine zAb (zAf rfl rfl q7) ?_)|(refine zBc ?_;first|refine zAb (Ev_neqSt rfl rfl hself rfl) ?_|refine zAb (Ev_neqI_q rfl rfl (qe 20)) ?_)|(refine zAi ?_;refine zAb (zAd rfl rfl ql) ?_)|refine xst ?_|(refine xsa ?_;intro _)|(refine xsb ?_ ?_ <;>intro _<;>try (exfalso;omega))|refine xsc ?_|fail)
 all_goals refine zAr ⟨i+1,hlt⟩ (by show S.length-(i+1)<S.length-i;omega) xB (xN)
theorem Ct.noPw1 {P:Program} {f:FuncId} {args:List Value} {X:Type} {r:X→Value} (h:Ct P W f args [noP] r (fun _=>[noP])):Ct P W f args [] r (fun _=>[]):=
 ⟨fun R w s=>(h.go R w (s.mono noP_star)).mono fun _ _ ⟨x,he,hs⟩=>⟨x,he,hs.right (A:=[noP])⟩⟩
theorem ended15_law (hE:ErrsAt W F) (hN:NibAt W) (hg:gB≤W.heap.size) (b:Option Addr) (d:Nat) (S:List COp) (commit:Bool) (hB:Lv W copC 9 noP b S) (X:Args15 [] S) :
 Ct Tryz.prog W 9 [.slice b S.length d,.bool commit] [] (fun _:Unit=>.bool true) (fun _=>[]):=(ended15_ct hE hN hg noP b d S commit hB X).noPw1
end
end Go.Proofs.YtnbgcimalpdfoaaGreatDoor
