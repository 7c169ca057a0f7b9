/-
  RgW3, RgW4, ChL0, ChL1, ChS1.
-/
import Derived.Test.YtnbgcimalpdfoaaGreatDoorVDI
import Derived.Test.YtnbgcimalpdfoaaGreatDoorVFE
import Derived.Test.YtnbgcimalpdfoaaGreatDoorVFR
import Derived.Test.YtnbgcimalpdfoaaGreatDoorVEY
import Derived.Test.YtnbgcimalpdfoaaGreatDoorVEZ
import Derived.Test.YtnbgcimalpdfoaaGreatDoorVEX
import Derived.Laws.BytesString
import Derived.Test.YtnbgcimalpdfoaaGreatDoorVCY
import Derived.Test.YtnbgcimalpdfoaaGreatDoorVFB
import Derived.Test.YtnbgcimalpdfoaaGreatDoorVCP
set_option maxHeartbeats 64000000
namespace Go.Proofs.YtnbgcimalpdfoaaGreatDoor
open Go Go.RowKit
section
variable {W:World} {F:Nat→Addr} {N:List Nd} {a:Option Addr} {t:Tr} {lo hi:List UInt8} {m lp g:Nat} {J S:Nat→SP} {x:Nat × Nat × Nat}
instance fn_all1:FnIs Tryz.prog 92:=⟨by kernel_rfl⟩
end
end Go.Proofs.YtnbgcimalpdfoaaGreatDoor
namespace Go.Proofs.YtnbgcimalpdfoaaGreatDoor
open Go Go.RowKit
section
variable {W:World} {F:Nat→Addr} {N:List Nd} {a:Option Addr} {t:Tr} {lo hi:List UInt8} {m g:Nat} {x:Nat × Nat × Nat}
abbrev allV (g:Nat):Value:=.func (.func 92) #[] #[.pointer (some ⟨g,0,none⟩)]
end
end Go.Proofs.YtnbgcimalpdfoaaGreatDoor
namespace Go.Proofs.YtnbgcimalpdfoaaGreatDoor
open Go Go.RowKit
instance stAcct:StIs Tryz.prog 51:=⟨by kernel_rfl,by kernel_rfl⟩
theorem ac_eqF (x y:Acct) {fs:Array Field} (hu:Tryz.prog.underlying 51=some (.struct fs)):EqF Tryz.prog (acC x) (acC y) fs.toList (decide (x=y)):=by
 have e:=Tryz.underlying51.symm.trans hu
 simp only [Option.some.injEq,TypeDesc.struct.injEq] at e
 subst e
 have e2:decide (x=y)=(decide (x.id=y.id) && (decide (x.cur=y.cur) && (decide (x.kind=y.kind) && (decide (x.frozen=y.frozen) && (decide (x.bal=y.bal) && (decide (x.held=y.held) && true)))))):=by
  rw [Bool.eq_iff_iff]
  cases x;cases y
  simp
 rw [e2]
 refine EqF.cons rfl inferInstance rfl rfl ?_ (EqF.cons rfl inferInstance rfl rfl ?_ (EqF.cons rfl inferInstance rfl rfl ?_ (EqF.cons rfl inferInstance rfl rfl ?_ (EqF.cons rfl inferInstance rfl rfl ?_ (EqF.cons rfl inferInstance rfl rfl ?_ EqF.nil)))))
 all_goals (unfold cellEq;simp)
theorem ac_self (x:Acct) {fs:Array Field} (hu:Tryz.prog.underlying 51=some (.struct fs)):EqF Tryz.prog (acC x) (acC x) fs.toList true:=by
 have h:=ac_eqF x x hu
 rwa [decide_eq_true rfl] at h
end Go.Proofs.YtnbgcimalpdfoaaGreatDoor
namespace Go.Proofs.YtnbgcimalpdfoaaGreatDoor
open Go Go.RowKit
theorem foundTo_ris {r:Rows} (h:RisR r) (c:List UInt8):∀ k,RisR (foundTo r c k)
 |0=>h
 |k+1=>putR_ris (foundTo_ris h c k) _ _
theorem lk_foundTo {r:Rows} (h:RisR r) (c key:List UInt8):∀ k,(∀ j,j<k→key≠sysK j c)→lk (foundTo r c k) key=lk r key
 |0,_=>rfl
 |k+1,hk=>by
  show lk (putR (foundTo r c k) _ _) key=_
  rw [lk_putR (foundTo_ris h c k),if_neg (hk k (by omega))]
  exact lk_foundTo h c key k fun j hj=>hk j (by omega)
abbrev numB:List UInt8:=[71,66,56,50,87,69,83,84,49,50,51,52,53,54,57,56,55,54,53,52,51,50]
abbrev eurB:List UInt8:=[69,85,82]
theorem numB_ok:accE numB=0:=by kernel_rfl
theorem eurB_ok:codeB eurB=true:=by kernel_rfl
theorem numB_sys (c:List UInt8):∀ j,j<4→aKey numB≠sysK j c
 |0,_,h=>absurd (show (71:UInt8)=111 from congrArg (fun l=>l.getD 0 0) (aKey_inj h)) (by decide)
 |1,_,h=>absurd (show (71:UInt8)=115 from congrArg (fun l=>l.getD 0 0) (aKey_inj h)) (by decide)
 |2,_,h=>absurd (show (71:UInt8)=99 from congrArg (fun l=>l.getD 0 0) (aKey_inj h)) (by decide)
 |3,_,h=>absurd (show (71:UInt8)=102 from congrArg (fun l=>l.getD 0 0) (aKey_inj h)) (by decide)
 |j+4,hj,_=>absurd hj (by omega)
theorem row_new:rowA (newA numB eurB)=[1,0,3,69,85,82]++List.replicate 16 0:=by kernel_rfl
theorem Ev_neqFn {P:Program} {W:World} {n:Nat} {E:Env} {H:List SP} {t u:TypeId} {x y:Operand} {f:Fn} {us vs:Array Value} {ps rs:Array TypeId} {vr:Bool} (hx:Env.ev E x=some (.func f us vs)) (hy:Env.ev E y=some .nilFunc) [hu:UIs P t (.func ps rs vr)]:Ev P W n E H (.binOp .neq t x y u) (.bool true):=by
 refine Ev_bin hx hy (fun w=>?_) (fun w=>?_)
 ·cases x <;> cases y <;> simp [eqGuard]
 ·have e:(Op.equal t (.func f us vs) .nilFunc).run P w=.ok false w:=by
   unfold Op.equal Op.maxDepth
   have key:∀ m,(Op.equalIn (m+1) t (.func f us vs) .nilFunc).run P w=.ok false w:=by
    intro m
    simp [Op.equalIn,run_underlying hu.h]
   exact key 9999
  simp [binOp,e,Result.andThen]
section
variable {W:World} {F:Nat→Addr}
instance fn_begin15:FnIs Tryz.prog 34:=⟨by kernel_rfl⟩
instance fn_lives15:FnIs Tryz.prog 25:=⟨by kernel_rfl⟩
theorem begin15_nil (hE:ErrsAt W F) (hN:NibAt W) (hg:gB≤W.heap.size):Ct Tryz.prog W 34 [.slice none 0 0] [] (fun t:Nat=>.pointer (some ⟨t,0,none⟩)) (fun t=>[TxQ t [] false 0]):=by
 have cn:Ct Tryz.prog W 54 [.int .i64 64] [] (fun p:Nat=>.tuple #[.pointer (some ⟨p,0,none⟩),.nilIface]) (fun p=>[DiskP p (Dsk.blank 64)]):=new_ct 64 (by omega) (by omega) hg
 have ql:decide ((0:Int)<0)=false:=rfl
 refine Ct.enter Tryz.func34 rfl Tryz.ntmps34 (by simp) (fun R=>?_)
 repeat' (first|(refine zAe ?_;refine zAa xE cn xP rfl (fun d=>?_);refine hold ?_)|refine xst ?_|(refine xsa ?_;intro _)|(refine xsb ?_ ?_ <;>intro _<;>try (exfalso;omega))|refine xsc ?_|fail)
 all_goals refine Hold.mk ?_
 obtain ⟨D1,D2,c1,c2,c3⟩:=txnew_ct (W:=W) hE.all hE.on hN d 64 (by omega) (by omega)
 repeat' (first|(refine zAe ?_;first|(refine zAa xE (c3 _ _ _) xP rfl (fun t=>?_))|(refine zAa xE c2 xP rfl (fun x=>?_);obtain ⟨s,q,g⟩:=x)|(refine zAa xE c1 xP rfl (fun _=>?_)))|refine xst ?_|(refine xsa ?_;intro _)|(refine xsb ?_ ?_ <;>intro _<;>try (exfalso;omega))|refine xsc ?_|fail)
 refine zBe (fun _:Unit=>[(6,.pointer (some ⟨t,0,none⟩)),(39,.slice none 0 0),(40,.int .i64 0),(41,.int .i64 0)]) (fun _=>[TxQ t [] false 0]++R) (fun _=>0) () xB (xN) (fun _=>?_)
 repeat' (first|(refine zAi ?_;refine zAb (zAd rfl rfl ql) ?_)|refine xst ?_|(refine xsa ?_;intro _)|(refine xsb ?_ ?_ <;>intro _<;>try (exfalso;omega))|refine xsc ?_|fail)
 all_goals (exact xdn t)
theorem lives15_ct (hE:ErrsAt W F) (hN:NibAt W) (hg:gB≤W.heap.size):Ct Tryz.prog W 25 [] [] (fun _:Unit=>.bool true) (fun _=>[]):=by
 have cb:=begin15_nil (W:=W) hE hN hg
 obtain ⟨k,hk⟩:∃ k,k=aKey numB:=⟨_,rfl⟩
 obtain ⟨v,hv⟩:∃ v,v=rowA (newA numB eurB):=⟨_,rfl⟩
 obtain ⟨r1,hr1⟩:∃ r,r=putR [] k v:=⟨_,rfl⟩
 obtain ⟨r2,hr2⟩:∃ r,r=foundR r1 eurB:=⟨_,rfl⟩
 have ris1:RisR r1:=by rw [hr1];exact putR_ris List.Pairwise.nil _ _
 have l1:∀ y,lk r1 y=if y=k then some v else none:=fun y=>by rw [hr1,lk_putR List.Pairwise.nil];rfl
 have hne:∀ j,j<4→sysK j eurB≠k:=fun j hj h=>numB_sys eurB j hj (by rw [h,hk])
 have f0:foundE r1 eurB=0:=found_no eurB_ok fun j hj=>by rw [l1,if_neg (hne j hj)];rfl
 have hr2':r2=foundTo r1 eurB 4:=by rw [hr2];exact if_pos f0
 have l2:lk r2 k=some v:=by rw [hr2',lk_foundTo ris1 _ _ 4 (fun j hj h=>hne j hj h.symm),l1,if_pos rfl]
 have len1:r1.length≤1:=by rw [hr1];exact putR_len [] k v
 have len2:r2.length≤5:=by rw [hr2'];have:=foundTo_len r1 eurB 4;omega
 have o1:openE [] numB eurB=0:=by unfold openE;rw [if_neg (by rw [numB_ok];decide),eurB_ok];rfl
 have o1r:openR [] numB eurB=r1:=by unfold openR;rw [if_pos o1,hr1,hk,hv]
 have o2:openE r2 numB eurB=21:=by unfold openE;rw [if_neg (by rw [numB_ok];decide),eurB_ok,← hk,l2];rfl
 have o2r:openR r2 numB eurB=r2:=by unfold openR;rw [if_neg (by rw [o2];decide)]
 have hdec:getO numB (some v)=some (newA numB eurB):=by rw [hv];exact dec_of_row (newA_good numB_ok eurB_ok)
 have cO1:∀ t,Ct Tryz.prog W 42 [.pointer (some ⟨t,0,none⟩),strV numB,strV eurB] [TxQ t [] false 0] (fun _:Unit=>.nilIface) (fun _=>[TxQ t r1 false 1]):=fun t=>by
  have:=chopen_ct (W:=W) (F:=F) (t:=t) (m:=0) (r:=[]) (id:=numB) (cur:=eurB) hE.all (by decide) (by decide) (by simp) (by omega)
  rw [o1,o1r] at this
  exact this
 have cF:∀ t,Ct Tryz.prog W 43 [.pointer (some ⟨t,0,none⟩),strV eurB] [TxQ t r1 false 1] (fun _:Unit=>.nilIface) (fun _=>[TxQ t r2 false 5]):=fun t=>by
  have:=chfound_ct (W:=W) (F:=F) (t:=t) (m:=1) (r:=r1) (cur:=eurB) hE.all (by decide) (by omega) (by omega)
  rw [f0,← hr2] at this
  exact this
 have cG:∀ t,Ct Tryz.prog W 44 [.pointer (some ⟨t,0,none⟩),strV numB] [TxQ t r2 false 5] (fun _:Unit=>.tuple #[acV (newA numB eurB),.nilIface]) (fun _=>[TxQ t r2 false 5]):=fun t=>by
  have:=chget_ct (W:=W) (F:=F) (id:=numB) (o:=lk r2 (aKey numB)) (by decide) (fun s hs=>by rw [← hk,l2] at hs;cases hs;rw [hv];decide) hE.all (txgetC (W:=W) (t:=t) (r:=r2) (m:=5) (aKey numB))
  rw [← hk,l2] at this
  have e:getV F numB (some v)=.tuple #[acV (newA numB eurB),.nilIface]:=by unfold getV;rw [hdec,getE_some hdec];rfl
  rw [e] at this
  exact this
 have cK:Ct Tryz.prog W 28 [strV numB] [] (fun _:Unit=>strV k) (fun _=>[]):=by rw [hk];exact chkey_ct (W:=W) numB (by decide)
 have cT:∀ t,Ct Tryz.prog W 24 [.pointer (some ⟨t,0,none⟩),strV k] [TxQ t r2 false 5] (fun _:Unit=>.tuple #[strV v,.bool true]) (fun _=>[TxQ t r2 false 5]):=fun t=>by
  have:=txgetC (W:=W) (t:=t) (r:=r2) (m:=5) k
  rw [l2] at this
  exact this
 have cA:∀ t,_:=fun t=>chall_ct (W:=W) (t:=t) (r:=r2) (m:=5)
 have cO2:∀ t,Ct Tryz.prog W 42 [.pointer (some ⟨t,0,none⟩),strV numB,strV eurB] [TxQ t r2 false 5] (fun _:Unit=>errV F 21) (fun _=>[TxQ t r2 false 6]):=fun t=>by
  have:=chopen_ct (W:=W) (F:=F) (t:=t) (m:=5) (r:=r2) (id:=numB) (cur:=eurB) hE.all (by decide) (by decide) (by omega) (by omega)
  rw [o2,o2r] at this
  exact this
 have cN:=numA_ct hE hg 21 (by omega)
 have hw:v=[1,0,3,69,85,82]++List.replicate 16 0:=by rw [hv];exact row_new
 have bl:([1,0,3,69,85,82]:List UInt8).length+(List.replicate 16 (0:UInt8)).length≤9223372036854775807:=by decide
 have hac:=ac_self (newA numB eurB) Tryz.underlying51
 clear hk hv hr1 hr2 hr2' l1 l2 o1 o1r o2 o2r hdec f0 hne
 refine Ct.enter Tryz.func25 rfl Tryz.ntmps25 (by simp) (fun R=>?_)
 repeat' (first|(refine zBd ?_;refine zBb rfl (fun ga=>?_))|(refine zAe ?_;first|(refine zAa xE (cO1 _) xP rfl (fun _=>?_))|(refine zAa xE (cO2 _) xP rfl (fun _=>?_))|(refine zAa xE (cF _) xP rfl (fun _=>?_))|(refine zAa xE (cG _) xP rfl (fun _=>?_))|(refine zAa xE (cT _) xP rfl (fun _=>?_))|(refine zAa xE (cA _) xP rfl (fun g=>?_))|(refine zAa xE cN xP rfl (fun _=>?_))|(refine zAa xE cK xP rfl (fun _=>?_))|(refine zAa xE cb xP rfl (fun t=>?_)))|(refine is_mkSlice ?_;refine KJ_makeBytes (m:=16) rfl rfl rfl (by omega) rfl (fun gm=>?_))|(refine zBi ?_;refine zAb (Ev_bytesStr0 (l:=List.replicate 16 (0:UInt8)) rfl xS rfl) ?_)|(refine zBk ?_;refine zAb (zBm xV xW) ?_)|(refine zAu ?_;refine zAb (Ev_addS (a:=[1,0,3,69,85,82]) (b:=List.replicate 16 (0:UInt8)) rfl rfl bl) ?_)|(refine zAx ?_;first|refine zAb (Ev_eqlS_t rfl rfl hw) ?_|refine zAb (Ev_eqlSt rfl rfl hac rfl) ?_|refine zAb (zAf (q:=true) rfl rfl rfl) ?_)|(refine zBc ?_;refine zAb (Ev_neqFn rfl rfl) ?_)|refine xst ?_|(refine xsa ?_;intro _)|(refine xsb ?_ ?_ <;>intro _<;>try (exfalso;omega))|refine xsc ?_|fail)
 all_goals (exact xdn ())
end
end Go.Proofs.YtnbgcimalpdfoaaGreatDoor
namespace Go.Proofs.YtnbgcimalpdfoaaGreatDoor
open Go Go.RowKit
theorem Ev_eqlFn2 {P:Program} {W:World} {n:Nat} {E:Env} {H:List SP} {t u:TypeId} {x y:Operand} {f:Fn} {us vs:Array Value} {ps rs:Array TypeId} {vr:Bool} (hx:Env.ev E x=some (.func f us vs)) (hy:Env.ev E y=some .nilFunc) [hu:UIs P t (.func ps rs vr)]:Ev P W n E H (.binOp .eql t x y u) (.bool false):=by
 refine Ev_bin hx hy (fun w=>?_) (fun w=>?_)
 ·cases x <;> cases y <;> simp [eqGuard]
 ·have e:(Op.equal t (.func f us vs) .nilFunc).run P w=.ok false w:=by
   unfold Op.equal Op.maxDepth
   have key:∀ m,(Op.equalIn (m+1) t (.func f us vs) .nilFunc).run P w=.ok false w:=by
    intro m
    simp [Op.equalIn,run_underlying hu.h]
   exact key 9999
  simp [binOp,e,Result.andThen]
section
variable {W:World} {F:Nat→Addr} {t m:Nat} {r:Rows}
instance fn_all15:FnIs Tryz.prog 39:=⟨by kernel_rfl⟩
end
end Go.Proofs.YtnbgcimalpdfoaaGreatDoor
