/-
  ChL0, ChL1, ChS1.
-/
import Derived.Test.YtnbgcimalpdfoaaGreatDoorTDL
import Derived.Test.YtnbgcimalpdfoaaGreatDoorTBV
import Derived.Test.YtnbgcimalpdfoaaGreatDoorTEX
import Derived.Test.YtnbgcimalpdfoaaGreatDoorTFG
set_option maxHeartbeats 64000000
namespace Go.Proofs.YtnbgcimalpdfoaaGreatDoor
open Go Go.RowKit
abbrev plTFJ0:Pl:=(.op 0 (.op 1 (.op 2 (.op 3 (.op 4 (.op 5 (.op 6 (.op 7 (.op 8 (.op 9 (.op 10 (.op 11 .nil))))))))))))
instance stAcct:StIs Tryz.prog 51:=⟨by kernel_rfl,by kernel_rfl⟩
theorem ac_eqF (x y:Acct) {fs:Array Field} (hu:Tryz.prog.underlying 51=some (.struct fs)):EqF Tryz.prog (acC x) (acC y) fs.toList (decide (x=y)):=by
 have e:=Tryz.underlying51.symm.trans hu
 simp only [Option.some.injEq,TypeDesc.struct.injEq] at e
 subst e
 have e2:decide (x=y)=(decide (x.id=y.id) && (decide (x.cur=y.cur) && (decide (x.kind=y.kind) && (decide (x.frozen=y.frozen) && (decide (x.bal=y.bal) && (decide (x.held=y.held) && true)))))):=by
  rw [Bool.eq_iff_iff]
  cases x;cases y
  simp
 rw [e2]
 refine EqF.cons rfl inferInstance rfl rfl ?_ (EqF.cons rfl inferInstance rfl rfl ?_ (EqF.cons rfl inferInstance rfl rfl ?_ (EqF.cons rfl inferInstance rfl rfl ?_ (EqF.cons rfl inferInstance rfl rfl ?_ (EqF.cons rfl inferInstance rfl rfl ?_ EqF.nil)))))
 all_goals (unfold cellEq;simp)
theorem ac_self (x:Acct) {fs:Array Field} (hu:Tryz.prog.underlying 51=some (.struct fs)):EqF Tryz.prog (acC x) (acC x) fs.toList true:=by
 have h:=ac_eqF x x hu
 rwa [decide_eq_true rfl] at h
end Go.Proofs.YtnbgcimalpdfoaaGreatDoor
namespace Go.Proofs.YtnbgcimalpdfoaaGreatDoor
open Go Go.RowKit
theorem foundTo_ris {r:Rows} (h:RisR r) (c:List UInt8):∀ k,RisR (foundTo r c k)
 |0=>h
 |k+1=>putR_ris (foundTo_ris h c k) _ _
theorem lk_foundTo {r:Rows} (h:RisR r) (c key:List UInt8):∀ k,(∀ j,j<k→key≠sysK j c)→lk (foundTo r c k) key=lk r key
 |0,_=>rfl
 |k+1,hk=>by
  show lk (putR (foundTo r c k) _ _) key=_
  rw [lk_putR (foundTo_ris h c k),if_neg (hk k (by omega))]
  exact lk_foundTo h c key k fun j hj=>hk j (by omega)
abbrev numB:List UInt8:=[71,66,56,50,87,69,83,84,49,50,51,52,53,54,57,56,55,54,53,52,51,50]
abbrev eurB:List UInt8:=[69,85,82]
theorem numB_ok:accE numB=0:=by kernel_rfl
theorem eurB_ok:codeB eurB=true:=by kernel_rfl
theorem numB_sys (c:List UInt8):∀ j,j<4→aKey numB≠sysK j c
 |0,_,h=>absurd (show (71:UInt8)=111 from congrArg (fun l=>l.getD 0 0) (aKey_inj h)) (by decide)
 |1,_,h=>absurd (show (71:UInt8)=115 from congrArg (fun l=>l.getD 0 0) (aKey_inj h)) (by decide)
 |2,_,h=>absurd (show (71:UInt8)=99 from congrArg (fun l=>l.getD 0 0) (aKey_inj h)) (by decide)
 |3,_,h=>absurd (show (71:UInt8)=102 from congrArg (fun l=>l.getD 0 0) (aKey_inj h)) (by decide)
 |j+4,hj,_=>absurd hj (by omega)
theorem row_new:rowA (newA numB eurB)=[1,0,3,69,85,82]++List.replicate 16 0:=by kernel_rfl
theorem Ev_neqFn {P:Program} {W:World} {n:Nat} {E:Env} {H:List SP} {t u:TypeId} {x y:Operand} {f:Fn} {us vs:Array Value} {ps rs:Array TypeId} {vr:Bool} (hx:Env.ev E x=some (.func f us vs)) (hy:Env.ev E y=some .nilFunc) [hu:UIs P t (.func ps rs vr)]:Ev P W n E H (.binOp .neq t x y u) (.bool true):=by
 refine Ev_bin hx hy (fun w=>?_) (fun w=>?_)
 ·cases x <;> cases y <;> simp [eqGuard]
 ·have e:(Op.equal t (.func f us vs) .nilFunc).run P w=.ok false w:=by
   unfold Op.equal Op.maxDepth
   have key:∀ m,(Op.equalIn (m+1) t (.func f us vs) .nilFunc).run P w=.ok false w:=by
    intro m
    simp [Op.equalIn,run_underlying hu.h]
   exact key 9999
  simp [binOp,e,Result.andThen]
section
variable {W:World} {F:Nat→Addr}
instance fn_begin15:FnIs Tryz.prog 34:=⟨by kernel_rfl⟩
instance fn_lives15:FnIs Tryz.prog 25:=⟨by kernel_rfl⟩
theorem begin15_nil (hE:ErrsAt W F) (hN:NibAt W) (hg:gB≤W.heap.size):Ct Tryz.prog W 34 [.slice none 0 0] [] (fun t:Nat=>.pointer (some ⟨t,0,none⟩)) (fun t=>[TxQ t [] false 0]):=by
 have cn:Ct Tryz.prog W 54 [.int .i64 64] [] (fun p:Nat=>.tuple #[.pointer (some ⟨p,0,none⟩),.nilIface]) (fun p=>[DiskP p (Dsk.blank 64)]):=new_ct 64 (by omega) (by omega) hg
 have ql:decide ((0:Int)<0)=false:=rfl
 refine Ct.enter Tryz.func34 rfl Tryz.ntmps34 (by simp) (fun R=>?_)
 repeat' (first|(refine zAe ?_;refine zAb xE cn xP rfl (fun d=>?_);refine hold ?_)|refine xst ?_|(refine xsa ?_;intro _)|(refine xsb ?_ ?_ <;>intro _<;>try (exfalso;omega))|refine xsc ?_|fail)
 all_goals refine Hold.mk ?_
 obtain ⟨D1,D2,c1,c2,c3⟩:=txnew_ct (W:=W) hE.all hE.on hN d 64 (by omega) (by omega)
 repeat' (first|(refine zAe ?_;first|(refine zAb xE (c3 _ _ _) xP rfl (fun t=>?_))|(refine zAb xE c2 xP rfl (fun x=>?_);obtain ⟨s,q,g⟩:=x)|(refine zAb xE c1 xP rfl (fun _=>?_)))|refine xst ?_|(refine xsa ?_;intro _)|(refine xsb ?_ ?_ <;>intro _<;>try (exfalso;omega))|refine xsc ?_|fail)
 refine zBj (fun _:Unit=>[(6,.pointer (some ⟨t,0,none⟩)),(39,.slice none 0 0),(40,.int .i64 0),(41,.int .i64 0)]) (fun _=>[TxQ t [] false 0]++R) (fun _=>0) () xB (xN) (fun _=>?_)
 repeat' (first|(refine zAi ?_;refine zAa (zAd rfl rfl ql) ?_)|refine xst ?_|(refine xsa ?_;intro _)|(refine xsb ?_ ?_ <;>intro _<;>try (exfalso;omega))|refine xsc ?_|fail)
 all_goals (exact xdn t)
theorem lives15_ct (hE:ErrsAt W F) (hN:NibAt W) (hg:gB≤W.heap.size):Ct Tryz.prog W 25 [] [] (fun _:Unit=>.bool true) (fun _=>[]):=by
 have cb:=begin15_nil (W:=W) hE hN hg
 obtain ⟨k,hk⟩:∃ k,k=aKey numB:=⟨_,rfl⟩
 obtain ⟨v,hv⟩:∃ v,v=rowA (newA numB eurB):=⟨_,rfl⟩
 obtain ⟨r1,hr1⟩:∃ r,r=putR [] k v:=⟨_,rfl⟩
 obtain ⟨r2,hr2⟩:∃ r,r=foundR r1 eurB:=⟨_,rfl⟩
 have ris1:RisR r1:=by rw [hr1];exact putR_ris List.Pairwise.nil _ _
 have l1:∀ y,lk r1 y=if y=k then some v else none:=fun y=>by rw [hr1,lk_putR List.Pairwise.nil];rfl
 have hne:∀ j,j<4→sysK j eurB≠k:=fun j hj h=>numB_sys eurB j hj (by rw [h,hk])
 have f0:foundE r1 eurB=0:=found_no eurB_ok fun j hj=>by rw [l1,if_neg (hne j hj)];rfl
 have hr2':r2=foundTo r1 eurB 4:=by rw [hr2];exact if_pos f0
 have l2:lk r2 k=some v:=by rw [hr2',lk_foundTo ris1 _ _ 4 (fun j hj h=>hne j hj h.symm),l1,if_pos rfl]
 have len1:r1.length≤1:=by rw [hr1];exact putR_len [] k v
 have len2:r2.length≤5:=by rw [hr2'];have:=foundTo_len r1 eurB 4;omega
 have o1:openE [] numB eurB=0:=by unfold openE;rw [if_neg (by rw [numB_ok];decide),eurB_ok];rfl
 have o1r:openR [] numB eurB=r1:=by unfold openR;rw [if_pos o1,hr1,hk,hv]
 have o2:openE r2 numB eurB=21:=by unfold openE;rw [if_neg (by rw [numB_ok];decide),eurB_ok,← hk,l2];rfl
 have o2r:openR r2 numB eurB=r2:=by unfold openR;rw [if_neg (by rw [o2];decide)]
 have hdec:getO numB (some v)=some (newA numB eurB):=by rw [hv];exact dec_of_row (newA_good numB_ok eurB_ok)
 have cO1:∀ t,Ct Tryz.prog W 42 [.pointer (some ⟨t,0,none⟩),strV numB,strV eurB] [TxQ t [] false 0] (fun _:Unit=>.nilIface) (fun _=>[TxQ t r1 false 1]):=fun t=>by
  have:=chopen_ct (W:=W) (F:=F) (t:=t) (m:=0) (r:=[]) (id:=numB) (cur:=eurB) hE.all (by decide) (by decide) (by simp) (by omega)
  rw [o1,o1r] at this
  exact this
 have cF:∀ t,Ct Tryz.prog W 43 [.pointer (some ⟨t,0,none⟩),strV eurB] [TxQ t r1 false 1] (fun _:Unit=>.nilIface) (fun _=>[TxQ t r2 false 5]):=fun t=>by
  have:=chfound_ct (W:=W) (F:=F) (t:=t) (m:=1) (r:=r1) (cur:=eurB) hE.all (by decide) (by omega) (by omega)
  rw [f0,← hr2] at this
  exact this
 have cG:∀ t,Ct Tryz.prog W 44 [.pointer (some ⟨t,0,none⟩),strV numB] [TxQ t r2 false 5] (fun _:Unit=>.tuple #[acV (newA numB eurB),.nilIface]) (fun _=>[TxQ t r2 false 5]):=fun t=>by
  have:=chget_ct (W:=W) (F:=F) (id:=numB) (o:=lk r2 (aKey numB)) (by decide) (fun s hs=>by rw [← hk,l2] at hs;cases hs;rw [hv];decide) hE.all (txgetC (W:=W) (t:=t) (r:=r2) (m:=5) (aKey numB))
  rw [← hk,l2] at this
  have e:getV F numB (some v)=.tuple #[acV (newA numB eurB),.nilIface]:=by unfold getV;rw [hdec,getE_some hdec];rfl
  rw [e] at this
  exact this
 have cK:Ct Tryz.prog W 28 [strV numB] [] (fun _:Unit=>strV k) (fun _=>[]):=by rw [hk];exact chkey_ct (W:=W) numB (by decide)
 have cT:∀ t,Ct Tryz.prog W 24 [.pointer (some ⟨t,0,none⟩),strV k] [TxQ t r2 false 5] (fun _:Unit=>.tuple #[strV v,.bool true]) (fun _=>[TxQ t r2 false 5]):=fun t=>by
  have:=txgetC (W:=W) (t:=t) (r:=r2) (m:=5) k
  rw [l2] at this
  exact this
 have cA:∀ t,_:=fun t=>chall_ct (W:=W) (t:=t) (r:=r2) (m:=5)
 have cO2:∀ t,Ct Tryz.prog W 42 [.pointer (some ⟨t,0,none⟩),strV numB,strV eurB] [TxQ t r2 false 5] (fun _:Unit=>errV F 21) (fun _=>[TxQ t r2 false 6]):=fun t=>by
  have:=chopen_ct (W:=W) (F:=F) (t:=t) (m:=5) (r:=r2) (id:=numB) (cur:=eurB) hE.all (by decide) (by decide) (by omega) (by omega)
  rw [o2,o2r] at this
  exact this
 have cN:=numA_ct hE hg 21 (by omega)
 have hw:v=[1,0,3,69,85,82]++List.replicate 16 0:=by rw [hv];exact row_new
 have bl:([1,0,3,69,85,82]:List UInt8).length+(List.replicate 16 (0:UInt8)).length≤9223372036854775807:=by decide
 have hac:=ac_self (newA numB eurB) Tryz.underlying51
 clear hk hv hr1 hr2 hr2' l1 l2 o1 o1r o2 o2r hdec f0 hne
 refine Ct.enter Tryz.func25 rfl Tryz.ntmps25 (by simp) (fun R=>?_)
 repeat' (first|(refine zBg ?_;refine zBe rfl (fun ga=>?_))|(refine zAe ?_;first|(refine zAb xE (cO1 _) xP rfl (fun _=>?_))|(refine zAb xE (cO2 _) xP rfl (fun _=>?_))|(refine zAb xE (cF _) xP rfl (fun _=>?_))|(refine zAb xE (cG _) xP rfl (fun _=>?_))|(refine zAb xE (cT _) xP rfl (fun _=>?_))|(refine zAb xE (cA _) xP rfl (fun g=>?_))|(refine zAb xE cN xP rfl (fun _=>?_))|(refine zAb xE cK xP rfl (fun _=>?_))|(refine zAb xE cb xP rfl (fun t=>?_)))|(refine is_mkSlice ?_;refine KJ_makeBytes (m:=16) rfl rfl rfl (by omega) rfl (fun gm=>?_))|(refine zBf ?_;refine zAa (Ev_bytesStr0 (l:=List.replicate 16 (0:UInt8)) rfl xS rfl) ?_)|(refine zAx ?_;refine zAa (zAy xV xW) ?_)|(refine zAw ?_;refine zAa (Ev_addS (a:=[1,0,3,69,85,82]) (b:=List.replicate 16 (0:UInt8)) rfl rfl bl) ?_)|(refine zAv ?_;first|refine zAa (Ev_eqlS_t rfl rfl hw) ?_|refine zAa (Ev_eqlSt rfl rfl hac rfl) ?_|refine zAa (zAf (q:=true) rfl rfl rfl) ?_)|(refine zBa ?_;refine zAa (Ev_neqFn rfl rfl) ?_)|refine xst ?_|(refine xsa ?_;intro _)|(refine xsb ?_ ?_ <;>intro _<;>try (exfalso;omega))|refine xsc ?_|fail)
 all_goals (exact xdn ())
end
end Go.Proofs.YtnbgcimalpdfoaaGreatDoor
namespace Go.Proofs.YtnbgcimalpdfoaaGreatDoor
open Go Go.RowKit
theorem Ev_eqlFn2 {P:Program} {W:World} {n:Nat} {E:Env} {H:List SP} {t u:TypeId} {x y:Operand} {f:Fn} {us vs:Array Value} {ps rs:Array TypeId} {vr:Bool} (hx:Env.ev E x=some (.func f us vs)) (hy:Env.ev E y=some .nilFunc) [hu:UIs P t (.func ps rs vr)]:Ev P W n E H (.binOp .eql t x y u) (.bool false):=by
 refine Ev_bin hx hy (fun w=>?_) (fun w=>?_)
 ·cases x <;> cases y <;> simp [eqGuard]
 ·have e:(Op.equal t (.func f us vs) .nilFunc).run P w=.ok false w:=by
   unfold Op.equal Op.maxDepth
   have key:∀ m,(Op.equalIn (m+1) t (.func f us vs) .nilFunc).run P w=.ok false w:=by
    intro m
    simp [Op.equalIn,run_underlying hu.h]
   exact key 9999
  simp [binOp,e,Result.andThen]
section
variable {W:World} {F:Nat→Addr} {t m:Nat} {r:Rows}
instance fn_all15:FnIs Tryz.prog 39:=⟨by kernel_rfl⟩
abbrev alL (g3 g6 g7 wa:Nat) (wc:Nat) (A:List Acct) (k i:Nat):List SP:=[zAp g7 [.int .i64 ((i:Nat):Int)] 3,zAp g6 [.int .i64 ((k:Nat):Int)] 3,zAp g3 [.slice (some ⟨wa,0,none⟩) A.length wc] 73,lsP acC 51 6 (.slice (some ⟨wa,0,none⟩) A.length wc) A]
def alS (g3 g6 g7 wa wc:Nat) (A:List Acct) (i:Nat):SP:=if 3<i+1 then allP 63 (alL g3 g6 g7 wa wc A 0 (i+1)) else factP False
set_option maxRecDepth 100000 in
theorem all15_ct (hE:ErrsOn L37 W F) (hk:∀ p ∈ r,p.1.length≤2000000∧p.2.length≤9223372036854775000) (A:List Acct) (hA:A=acctsD r) (hAl:A.length≤1000000000) (wa wc:Nat) :
 Ct Tryz.prog W 39 [.pointer (some ⟨t,0,none⟩),.slice (some ⟨wa,0,none⟩) A.length wc] [TxQ t r false m,lsP acC 51 6 (.slice (some ⟨wa,0,none⟩) A.length wc) A] (fun _:Unit=>.bool true) (fun _=>[TxQ t r false m]):=by
 refine Ct.enter Tryz.func39 rfl Tryz.ntmps39 (by simp) (fun R=>?_)
 refine KJ.unpack_at (F:=fun x:{x:Nat × List (List UInt8 × Bool) × List UE//x.2.2.length≤m}=>[TxP t x.1.1 r x.1.2.1 x.1.2.2 false]) xS (fun ⟨(s,K,U),hU⟩=>?_)
 dsimp only at hU ⊢
 refine KJ.txOpen xS (fun y hT=>?_)
 obtain ⟨tr,mm,hR,hin,hacc⟩:=rg_all hT
 rw [← hA] at hacc
 have cA:=chall_open (W:=W) (t:=t) (s:=s) (l:=U.length) (y:=y)
 repeat' (first|(refine zBg ?_;first|(refine zBe (d:=4) rfl (fun g4=>?_))|(refine zBe (d:=6) rfl (fun g6=>?_)))|(refine zBm ?_;refine zBi rfl xF rfl (fun g3=>?_))|(refine zAe ?_;refine zAb xE cA xP rfl (fun z=>?_);obtain ⟨gz,z1,z2,z3⟩:=z)|(refine zAv ?_;refine zAa (Ev_eqlFn2 rfl rfl) ?_)|refine xst ?_|(refine xsa ?_;intro _)|(refine xsb ?_ ?_ <;>intro _<;>try (exfalso;omega))|refine xsc ?_|(refine zAc (id:=10) plTFJ0 (by kernel_rfl) (by kernel_rfl) ?_)|refine zAk ?_ ?_|refine zAj rfl rfl rfl rfl rfl ?_ ?_|refine zAg ?_ ?_|exact Rech.nil|fail)
 refine zBj (fun x:{x:Nat × Nat//x.1≤2}=>[(3,.pointer (some ⟨g3,0,none⟩)),(4,.pointer (some ⟨g4,0,none⟩)),(5,allV gz),(6,.pointer (some ⟨x.1.2,0,none⟩))])
  (fun x=>[zAp gz [rngV (z1,z2,z3)] 142,zAp z1 [.pointer y.a] 184,zAp z2 [strV aLo] 9,zAp z3 [strV aHi] 9,arP y.N,zAp t (txC s y U.length false) 128,tbP y.q y.a y.b,mapP strV Value.bool y.m K,lsP ueC 1 1 (.slice y.ua U.length y.uc) U,undoP t U,zAp g4 [.bool false] 4,zAp x.1.2 [.int .i64 ((x.1.1:Nat):Int)] 3,zAp g3 [.slice (some ⟨wa,0,none⟩) A.length wc] 73,lsP acC 51 6 (.slice (some ⟨wa,0,none⟩) A.length wc) A]++R) (fun x=>2-x.1.1) ⟨(0,g6),by omega⟩ xB (xN) (fun ⟨(k,g6),hk2⟩=>?_)
 dsimp only at hk2 ⊢
 have hkk:∀ p ∈ tr.frm [2,97,0,1],p.1.length≤2000000∧p.2.length≤9223372036854775000:=fun p hp=>hk p (hin p hp)
 have qe:decide (((A.length:Nat):Int)<((A.length:Nat):Int))=false:=decide_eq_false (by omega)
 by_cases hk0:k=0
 ·subst hk0
  have q0:decide (((0:Nat):Int)<2)=true:=rfl
  repeat' (first|(refine zBg ?_;refine zBe rfl (fun g7=>?_))|(refine zAi ?_;refine zAa (zAd rfl rfl q0) ?_)|refine xst ?_|(refine xsa ?_;intro _)|(refine xsb ?_ ?_ <;>intro _<;>try (exfalso;omega))|refine xsc ?_|(refine zAc (id:=10) plTFJ0 (by kernel_rfl) (by kernel_rfl) ?_)|refine zAk ?_ ?_|refine zAj rfl rfl rfl rfl rfl ?_ ?_|refine zAg ?_ ?_|exact Rech.nil|fail)
  refine KJ.allShut (L:=alL g3 g6 g7 wa wc A 0 0) 63 xP ?_
  refine KJ_rangeAll (F:=F) (g:=gz) (x:=(z1,z2,z3)) (a:=y.a) (N:=y.N) hE rfl rfl hR hkk rfl (by decide) A hacc.symm (fun i=>allP 63 (alL g3 g6 g7 wa wc A 0 i)) (fun i=>alS g3 g6 g7 wa wc A i) (.exit 2) xP (fun l i ac hia R'=>?_) ?_ (fun i hiA=>?_)
  ·have hself:=ac_self ac Tryz.underlying51
   have hiA:i<A.length:=(List.getElem?_eq_some_iff.1 hia).1
   have qge:decide (((A.length:Nat):Int)≤((i:Nat):Int))=false:=decide_eq_false (by omega)
   have hoff:0+Int.toNat ((i:Nat):Int)*6=i*6:=by simp
   dsimp only [Env.ofPs]
   refine KJ.allOpen (L:=alL g3 g6 g7 wa wc A 0 i) xS ?_
   by_cases h3:3<i+1
   ·have q3:decide ((3:Int)<((i+1:Nat):Int))=true:=decide_eq_true (by omega)
    have hS:alS g3 g6 g7 wa wc A i=allP 63 (alL g3 g6 g7 wa wc A 0 (i+1)):=if_pos h3
    rw [hS]
    repeat' (first|(refine is_begin ?_;refine KJ_begin xS ?_)|(refine zBg ?_;refine zBe rfl (fun g8=>?_))|(refine zAq ?_;refine zAa (Ev_loadLs ac_ok rfl xS rfl hoff hia) ?_)|(refine zAw ?_;refine zAa (zAh (r:=((i+1:Nat):Int)) rfl rfl (by omega) (by omega)) ?_)|(refine zAv ?_;refine zAa (zAf (q:=true) rfl rfl rfl) ?_)|(refine zBa ?_;refine zAa (Ev_neqSt rfl rfl hself rfl) ?_)|(refine zBh ?_;refine zAa (zAn rfl rfl q3) ?_)|(refine zBy ?_;refine zAa (zBc rfl rfl qge) ?_)|refine xst ?_|(refine xsa ?_;intro _)|(refine xsb ?_ ?_ <;>intro _<;>try (exfalso;omega))|refine xsc ?_|(refine zAc (id:=10) plTFJ0 (by kernel_rfl) (by kernel_rfl) ?_)|refine zAk ?_ ?_|refine zAj rfl rfl rfl rfl rfl ?_ ?_|refine zAg ?_ ?_|exact Rech.nil|fail)
    refine KJ.allShut (L:=alL g3 g6 g7 wa wc A 0 (i+1)) 63 xP ?_
    exact KJ_round_f xS (xN)
   ·have q3:decide ((3:Int)<((i+1:Nat):Int))=false:=decide_eq_false (by omega)
    repeat' (first|(refine is_begin ?_;refine KJ_begin xS ?_)|(refine zBg ?_;refine zBe rfl (fun g8=>?_))|(refine zAq ?_;refine zAa (Ev_loadLs ac_ok rfl xS rfl hoff hia) ?_)|(refine zAw ?_;refine zAa (zAh (r:=((i+1:Nat):Int)) rfl rfl (by omega) (by omega)) ?_)|(refine zAv ?_;refine zAa (zAf (q:=true) rfl rfl rfl) ?_)|(refine zBa ?_;refine zAa (Ev_neqSt rfl rfl hself rfl) ?_)|(refine zBh ?_;refine zAa (zAn rfl rfl q3) ?_)|(refine zBy ?_;refine zAa (zBc rfl rfl qge) ?_)|refine xst ?_|(refine xsa ?_;intro _)|(refine xsb ?_ ?_ <;>intro _<;>try (exfalso;omega))|refine xsc ?_|(refine zAc (id:=10) plTFJ0 (by kernel_rfl) (by kernel_rfl) ?_)|refine zAk ?_ ?_|refine zAj rfl rfl rfl rfl rfl ?_ ?_|refine zAg ?_ ?_|exact Rech.nil|fail)
    refine KJ.allShut (L:=alL g3 g6 g7 wa wc A 0 (i+1)) 63 xP ?_
    exact KJ_round_t xS (xN)
  ·refine KJ.allOpen (L:=alL g3 g6 g7 wa wc A 0 A.length) xS ?_
   repeat' (first|(refine zBg ?_;refine zBe rfl (fun g6'=>?_))|(refine zAw ?_;refine zAa (zAh (r:=((0+1:Nat):Int)) rfl rfl (by omega) (by omega)) ?_)|(refine zAi ?_;refine zAa (zAd rfl rfl qe) ?_)|refine xst ?_|(refine xsa ?_;intro _)|(refine xsb ?_ ?_ <;>intro _<;>try (exfalso;omega))|refine xsc ?_|(refine zAc (id:=10) plTFJ0 (by kernel_rfl) (by kernel_rfl) ?_)|refine zAk ?_ ?_|refine zAj rfl rfl rfl rfl rfl ?_ ?_|refine zAg ?_ ?_|exact Rech.nil|fail)
   all_goals refine zAt ⟨(0+1,g6'),by omega⟩ (by show 2-(0+1)<2-0;omega) xB (xN)
  ·by_cases h3:3<i+1
   ·have hS:alS g3 g6 g7 wa wc A i=allP 63 (alL g3 g6 g7 wa wc A 0 (i+1)):=if_pos h3
    rw [hS]
    refine KJ.allOpen (L:=alL g3 g6 g7 wa wc A 0 (i+1)) xS ?_
    have q3:decide (((i+1:Nat):Int)≤3)=false:=decide_eq_false (by omega)
    obtain ⟨bb,qq⟩:∃ bb,decide (((i+1:Nat):Int)<((A.length:Nat):Int))=bb:=⟨_,rfl⟩
    cases bb
    repeat' (first|(refine zBg ?_;refine zBe rfl (fun g6'=>?_))|(refine zAw ?_;refine zAa (zAh (r:=((0+1:Nat):Int)) rfl rfl (by omega) (by omega)) ?_)|(refine zAi ?_;refine zAa (zAd rfl rfl qq) ?_)|refine xst ?_|(refine xsa ?_;intro _)|(refine xsb ?_ ?_ <;>intro _<;>try (exfalso;omega))|refine xsc ?_|(refine zAc (id:=10) plTFJ0 (by kernel_rfl) (by kernel_rfl) ?_)|refine zAk ?_ ?_|refine zAj rfl rfl rfl rfl rfl ?_ ?_|refine zAg ?_ ?_|exact Rech.nil|fail)
    all_goals refine zAt ⟨(0+1,g6'),by omega⟩ (by show 2-(0+1)<2-0;omega) xB (xN)
    repeat' (first|(refine zBg ?_;refine zBe rfl (fun g6'=>?_))|(refine zAw ?_;refine zAa (zAh (r:=((0+1:Nat):Int)) rfl rfl (by omega) (by omega)) ?_)|(refine zAv ?_;refine zAa (zAf (q:=false) rfl rfl rfl) ?_)|(refine zAi ?_;refine zAa (zAd rfl rfl qq) ?_)|(refine ek_leq ?_;refine zAa (zBn rfl rfl q3) ?_)|refine xst ?_|(refine xsa ?_;intro _)|(refine xsb ?_ ?_ <;>intro _<;>try (exfalso;omega))|refine xsc ?_|(refine zAc (id:=10) plTFJ0 (by kernel_rfl) (by kernel_rfl) ?_)|refine zAk ?_ ?_|refine zAj rfl rfl rfl rfl rfl ?_ ?_|refine zAg ?_ ?_|exact Rech.nil|fail)
    all_goals refine zAt ⟨(0+1,g6'),by omega⟩ (by show 2-(0+1)<2-0;omega) xB (xN)
   ·have hS:alS g3 g6 g7 wa wc A i=factP False:=if_neg h3
    rw [hS]
    exact KJ.absurdF xS
 by_cases hk1:k=1
 ·subst hk1
  have q0:decide (((1:Nat):Int)<2)=true:=rfl
  repeat' (first|(refine zBg ?_;refine zBe rfl (fun g7=>?_))|(refine zAi ?_;refine zAa (zAd rfl rfl q0) ?_)|refine xst ?_|(refine xsa ?_;intro _)|(refine xsb ?_ ?_ <;>intro _<;>try (exfalso;omega))|refine xsc ?_|(refine zAc (id:=10) plTFJ0 (by kernel_rfl) (by kernel_rfl) ?_)|refine zAk ?_ ?_|refine zAj rfl rfl rfl rfl rfl ?_ ?_|refine zAg ?_ ?_|exact Rech.nil|fail)
  refine KJ.allShut (L:=alL g3 g6 g7 wa wc A 1 0) 63 xP ?_
  refine KJ_rangeAll (F:=F) (g:=gz) (x:=(z1,z2,z3)) (a:=y.a) (N:=y.N) hE rfl rfl hR hkk rfl (by decide) A hacc.symm (fun i=>allP 63 (alL g3 g6 g7 wa wc A 1 i)) (fun _=>factP False) (.exit 2) xP (fun l i ac hia R'=>?_) ?_ (fun i hiA=>?_)
  ·have hself:=ac_self ac Tryz.underlying51
   have hiA:i<A.length:=(List.getElem?_eq_some_iff.1 hia).1
   have qge:decide (((A.length:Nat):Int)≤((i:Nat):Int))=false:=decide_eq_false (by omega)
   have hoff:0+Int.toNat ((i:Nat):Int)*6=i*6:=by simp
   dsimp only [Env.ofPs]
   refine KJ.allOpen (L:=alL g3 g6 g7 wa wc A 1 i) xS ?_
   repeat' (first|(refine is_begin ?_;refine KJ_begin xS ?_)|(refine zBg ?_;refine zBe rfl (fun g8=>?_))|(refine zAq ?_;refine zAa (Ev_loadLs ac_ok rfl xS rfl hoff hia) ?_)|(refine zAw ?_;refine zAa (zAh (r:=((i+1:Nat):Int)) rfl rfl (by omega) (by omega)) ?_)|(refine zAv ?_;refine zAa (zAf (q:=false) rfl rfl rfl) ?_)|(refine zBa ?_;refine zAa (Ev_neqSt rfl rfl hself rfl) ?_)|(refine zBy ?_;refine zAa (zBc rfl rfl qge) ?_)|refine xst ?_|(refine xsa ?_;intro _)|(refine xsb ?_ ?_ <;>intro _<;>try (exfalso;omega))|refine xsc ?_|(refine zAc (id:=10) plTFJ0 (by kernel_rfl) (by kernel_rfl) ?_)|refine zAk ?_ ?_|refine zAj rfl rfl rfl rfl rfl ?_ ?_|refine zAg ?_ ?_|exact Rech.nil|fail)
   refine KJ.allShut (L:=alL g3 g6 g7 wa wc A 1 (i+1)) 63 xP ?_
   exact KJ_round_t xS (xN)
  ·refine KJ.allOpen (L:=alL g3 g6 g7 wa wc A 1 A.length) xS ?_
   repeat' (first|(refine zBg ?_;refine zBe rfl (fun g6'=>?_))|(refine zAw ?_;refine zAa (zAh (r:=((1+1:Nat):Int)) rfl rfl (by omega) (by omega)) ?_)|(refine zAi ?_;refine zAa (zAd rfl rfl qe) ?_)|refine xst ?_|(refine xsa ?_;intro _)|(refine xsb ?_ ?_ <;>intro _<;>try (exfalso;omega))|refine xsc ?_|(refine zAc (id:=10) plTFJ0 (by kernel_rfl) (by kernel_rfl) ?_)|refine zAk ?_ ?_|refine zAj rfl rfl rfl rfl rfl ?_ ?_|refine zAg ?_ ?_|exact Rech.nil|fail)
   all_goals refine zAt ⟨(1+1,g6'),by omega⟩ (by show 2-(1+1)<2-1;omega) xB (xN)
  ·exact KJ.absurdF xS
 have hkk2:k=2:=by omega
 subst hkk2
 have q0:decide (((2:Nat):Int)<2)=false:=rfl
 repeat' (first|(refine zAi ?_;refine zAa (zAd rfl rfl q0) ?_)|refine xst ?_|(refine xsa ?_;intro _)|(refine xsb ?_ ?_ <;>intro _<;>try (exfalso;omega))|refine xsc ?_|(refine zAc (id:=10) plTFJ0 (by kernel_rfl) (by kernel_rfl) ?_)|refine zAk ?_ ?_|refine zAj rfl rfl rfl rfl rfl ?_ ?_|refine zAg ?_ ?_|exact Rech.nil|fail)
 all_goals refine KJ.txShut (s:=s) (K:=K) (U:=U) (ended:=false) y hT xP ?_
 all_goals refine KJ.packs (tag:=83) (key:=t) (F:=fun x:{x:Nat × List (List UInt8 × Bool) × List UE//x.2.2.length≤m}=>[TxP t x.1.1 r x.1.2.1 x.1.2.2 false]) ⟨(s,K,U),hU⟩ xP ?_
 all_goals (refine is_ex ?_;exact zBu (by first|exact Or.inl rfl|exact Or.inr rfl) rfl (Rvs.cell (T:=4) rfl inferInstance xS rfl Rvs.nil) () (by rfl) (xN))
end
end Go.Proofs.YtnbgcimalpdfoaaGreatDoor
