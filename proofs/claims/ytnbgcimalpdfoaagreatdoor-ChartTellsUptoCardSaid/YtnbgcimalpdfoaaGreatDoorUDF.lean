/-
  PoW4, PoW3, PoW5.
-/
import Derived.Test.YtnbgcimalpdfoaaGreatDoorUDC
set_option maxHeartbeats 64000000
namespace Go.Proofs.YtnbgcimalpdfoaaGreatDoor
open Go Go.RowKit
abbrev plUDF0:Pl:=(.op 0 (.op 1 (.op 2 .nil)))
abbrev plUDF1:Pl:=(.op 0 (.op 1 (.op 2 (.op 3 (.op 4 (.op 5 (.op 6 (.op 7 (.ef 8 [] (.op 9 (.op 10 (.op 11 (.op 12 (.op 13 (.ef 14 [] (.op 15 (.op 16 .nil)))))))))))))))))
abbrev plUDF2:Pl:=(.op 0 (.op 1 (.op 2 (.op 3 (.op 4 (.ef 5 [] (.op 6 (.op 7 (.op 8 (.op 9 (.op 10 .nil)))))))))))
def partsB (c b:List UInt8):Bool:=decide (c.length=2) && c.all capB && decide (1≤b.length) && decide (b.length≤30) && b.all fun x=>capB x || digB x
def kindT (k:Nat):List UInt8:=kinds4.getD k []
def sysT (k:Nat) (c:List UInt8):List UInt8:=if codeB c=true then kindT k++c else []
theorem u8_of (m:Nat):IntKind.u8.wrap ((m:Nat):Int)=((UInt8.ofNat m).toNat:Int):=by
 simp only [IntKind.wrap,IntKind.signed,IntKind.bits,UInt8.toNat_ofNat']
 simp
section
variable {W:World} {F:Nat→Addr}
theorem digits_ct (s:List UInt8) (hs:s.length≤2000000) (hne:s≠[]) (e7:W.cell? ⟨3,0,none⟩=some (errV F 7)) (q:Option Nat) (hq:restG (s++[48,48]) 0=q) :
 Ct Tryz.prog W 138 [strV s] [] (fun _:Unit=>.tuple #[strV ((q.map dig2).getD []),errV F (rstE q)]) (fun _=>[]):=by
 have cr:=rest_ct (W:=W) (F:=F) (s++[48,48]) (by rw [List.length_append];simp;omega) (by simp) e7 q hq
 cases q with
 |none=>
  have hne2:=errNe (F:=F) (show (7:Nat)≠0 by decide)
  have cr:Ct Tryz.prog W 190 [strV (s++[48,48])] [] (fun _:Unit=>.tuple #[.int .i64 0,errV F 7]) (fun _=>[]):=cr
  refine Ct.enter Tryz.func138 rfl Tryz.ntmps138 (by simp) (fun R=>?_)
  repeat' (first|(refine zAd ?_;refine zAc xE cr xP rfl (fun _=>?_))|(refine zAw ?_;refine zAa (Ev_addS (a:=s) (b:=[48,48]) rfl rfl (by simp;omega)) ?_)|(refine zAv ?_;refine zAa (Ev_eqlS_f rfl rfl hne) ?_)|(refine zAx ?_;refine zAa (zCi rfl hne2) ?_)|refine xst ?_|(refine xsa ?_;intro _)|(refine xsb ?_ ?_ <;>intro _<;>try (exfalso;omega))|refine xsc ?_|(refine zAb (id:=2) plUDF0 (by kernel_rfl) (by kernel_rfl) ?_)|refine zAj ?_ ?_|refine zAi rfl rfl rfl rfl rfl ?_ ?_|refine zAf ?_ ?_|exact Rech.nil|fail)
  all_goals (exact xdn ())
 |some r=>
  have hr:=restG_lt _ (by omega) hq
  have cr:Ct Tryz.prog W 190 [strV (s++[48,48])] [] (fun _:Unit=>.tuple #[.int .i64 ((r:Nat):Int),errV F 0]) (fun _=>[]):=cr
  have w1:IntKind.u8.wrap (48+(98-((r:Nat):Int)) / 10)=((UInt8.ofNat (48+(98-r) / 10)).toNat:Int):=by
   rw [← u8_of];congr 1;omega
  have w2:IntKind.u8.wrap (48+(98-((r:Nat):Int)) % 10)=((UInt8.ofNat (48+(98-r) % 10)).toNat:Int):=by
   rw [← u8_of];congr 1;omega
  refine Ct.enter Tryz.func138 rfl Tryz.ntmps138 (by simp) (fun R=>?_)
  repeat' (first|(refine zAd ?_;refine zAc xE cr xP rfl (fun _=>?_))|(refine zBa ?_;refine KJ_bsliceN (len:=2) (places:=[(0,1),(1,1)]) (base:=[.int .u8 0,.int .u8 0]) xV (by rfl) (by rfl) xW (by omega) rfl (fun gb=>?_))|(refine zBe ?_;first|refine zAa (zAs rfl w2) ?_|refine zAa (zAs rfl w1) ?_|refine zAa (Ev_bytesStr0 (l:=dig2 r) rfl xS rfl) ?_)|(refine zAw ?_;refine zAa (Ev_addS (a:=s) (b:=[48,48]) rfl rfl (by simp;omega)) ?_)|(refine zAv ?_;refine zAa (Ev_eqlS_f rfl rfl hne) ?_)|refine xst ?_|(refine xsa ?_;intro _)|(refine xsb ?_ ?_ <;>intro _<;>try (exfalso;omega))|refine xsc ?_|(refine zAb (id:=2) plUDF0 (by kernel_rfl) (by kernel_rfl) ?_)|refine zAj ?_ ?_|refine zAi rfl rfl rfl rfl rfl ?_ ?_|refine zAf ?_ ?_|exact Rech.nil|fail)
  all_goals (exact xdn ())
theorem plain_ct (s:List UInt8) (hs:s.length≤2000000):Ct Tryz.prog W 189 [strV s] [] (fun _:Unit=>.bool (s.all fun x=>capB x || digB x)) (fun _=>[]):=by
 have ca:=iall_ct (W:=W) (f:=220) (p:=fun x=>capB x || digB x) s (by omega) (fun b=>iplain_ct b)
 refine Ct.enter Tryz.func189 rfl Tryz.ntmps189 (by simp) (fun R=>?_)
 repeat' (first|(refine zAd ?_;refine zAc xE ca xP rfl (fun _=>?_))|refine xst ?_|(refine xsa ?_;intro _)|(refine xsb ?_ ?_ <;>intro _<;>try (exfalso;omega))|refine xsc ?_|fail)
 all_goals (exact xdn ())
theorem parts_ct (c b:List UInt8) (hc:c.length≤2000000) (hb:b.length≤2000000):Ct Tryz.prog W 135 [strV c,strV b] [] (fun _:Unit=>.bool (partsB c b)) (fun _=>[]):=by
 have c1:=iall_ct (W:=W) (f:=188) (p:=capB) c (by omega) (fun b=>icap_ct b)
 have c2:=plain_ct (W:=W) b hb
 obtain ⟨r,hr⟩:∃ r,r=partsB c b:=⟨_,rfl⟩
 rw [← hr]
 unfold partsB at hr
 cases h1:decide (c.length=2)
 ·rw [h1] at hr
  have hr:r=false:=by simpa using hr
  subst hr
  have q1:decide (((c.length:Nat):Int)=2)=false:=dec_r h1 (by omega)
  refine Ct.enter Tryz.func135 rfl Tryz.ntmps135 (by simp) (fun R=>?_)
  repeat' (first|(refine zAv ?_;refine zAa (zAh rfl rfl q1) ?_)|refine xst ?_|(refine xsa ?_;intro _)|(refine xsb ?_ ?_ <;>intro _<;>try (exfalso;omega))|refine xsc ?_|fail)
  all_goals (exact xdn ())
 have q1:decide (((c.length:Nat):Int)=2)=true:=dec_r h1 (by omega)
 cases h2:c.all capB
 ·rw [h1,h2] at hr
  have hr:r=false:=by simpa using hr
  subst hr
  rw [h2] at c1
  refine Ct.enter Tryz.func135 rfl Tryz.ntmps135 (by simp) (fun R=>?_)
  repeat' (first|(refine zAd ?_;refine zAc xE c1 xP rfl (fun _=>?_))|(refine zAv ?_;refine zAa (zAh rfl rfl q1) ?_)|refine xst ?_|(refine xsa ?_;intro _)|(refine xsb ?_ ?_ <;>intro _<;>try (exfalso;omega))|refine xsc ?_|fail)
  all_goals (exact xdn ())
 rw [h2] at c1
 cases h3:decide (1≤b.length)
 ·rw [h1,h2,h3] at hr
  have hr:r=false:=by simpa using hr
  subst hr
  have q3:decide ((1:Int)≤((b.length:Nat):Int))=false:=dec_r h3 (by omega)
  refine Ct.enter Tryz.func135 rfl Tryz.ntmps135 (by simp) (fun R=>?_)
  repeat' (first|(refine zAd ?_;refine zAc xE c1 xP rfl (fun _=>?_))|(refine zAv ?_;refine zAa (zAh rfl rfl q1) ?_)|(refine zCh ?_;refine zAa (zBf rfl rfl q3) ?_)|refine xst ?_|(refine xsa ?_;intro _)|(refine xsb ?_ ?_ <;>intro _<;>try (exfalso;omega))|refine xsc ?_|fail)
  all_goals (exact xdn ())
 have q3:decide ((1:Int)≤((b.length:Nat):Int))=true:=dec_r h3 (by omega)
 cases h4:decide (b.length≤30)
 ·rw [h1,h2,h3,h4] at hr
  have hr:r=false:=by simpa using hr
  subst hr
  have q4:decide (((b.length:Nat):Int)≤30)=false:=dec_r h4 (by omega)
  refine Ct.enter Tryz.func135 rfl Tryz.ntmps135 (by simp) (fun R=>?_)
  repeat' (first|(refine zAd ?_;refine zAc xE c1 xP rfl (fun _=>?_))|(refine zAv ?_;refine zAa (zAh rfl rfl q1) ?_)|(refine ek_leq ?_;refine zAa (zBy rfl rfl q4) ?_)|(refine zCh ?_;refine zAa (zBf rfl rfl q3) ?_)|refine xst ?_|(refine xsa ?_;intro _)|(refine xsb ?_ ?_ <;>intro _<;>try (exfalso;omega))|refine xsc ?_|fail)
  all_goals (exact xdn ())
 have q4:decide (((b.length:Nat):Int)≤30)=true:=dec_r h4 (by omega)
 rw [h1,h2,h3,h4] at hr
 have hr:r=b.all fun x=>capB x || digB x:=by simpa using hr
 rw [← hr] at c2
 refine Ct.enter Tryz.func135 rfl Tryz.ntmps135 (by simp) (fun R=>?_)
 repeat' (first|(refine zAd ?_;first|(refine zAc xE c2 xP rfl (fun _=>?_))|(refine zAc xE c1 xP rfl (fun _=>?_)))|(refine zAv ?_;refine zAa (zAh rfl rfl q1) ?_)|(refine ek_leq ?_;refine zAa (zBy rfl rfl q4) ?_)|(refine zCh ?_;refine zAa (zBf rfl rfl q3) ?_)|refine xst ?_|(refine xsa ?_;intro _)|(refine xsb ?_ ?_ <;>intro _<;>try (exfalso;omega))|refine xsc ?_|fail)
 all_goals (exact xdn ())
theorem code_ct (s:List UInt8) (hs:s.length≤2000000):Ct Tryz.prog W 86 [strV s] [] (fun _:Unit=>.bool (codeB s)) (fun _=>[]):=by
 obtain ⟨r,hr⟩:∃ r,r=codeB s:=⟨_,rfl⟩
 rw [← hr]
 unfold codeB at hr
 refine Ct.enter Tryz.func86 rfl Tryz.ntmps86 (by simp) (fun R=>?_)
 repeat' (first|refine xst ?_|(refine xsa ?_;intro _)|(refine xsb ?_ ?_ <;>intro _<;>try (exfalso;omega))|refine xsc ?_|fail)
 refine zBm (fun i:{k:Nat//k≤s.length∧(s.take k).all capB=true}=>[(0,strV s),(5,.int .i64 (s.length:Nat)),(6,.int .i64 (i.1:Nat))])
  (fun _=>[]++R) (fun i=>s.length-i.1) ⟨0,by omega,rfl⟩ xB (xN) (fun ⟨k,hk,ha⟩=>?_)
 dsimp only
 by_cases hlt:k<s.length
 ·have ql:decide (((k:Nat):Int)<((s.length:Nat):Int))=true:=decide_eq_true (by omega)
  obtain ⟨b,hb⟩:∃ b,s[k]? = some b:=⟨_,List.getElem?_eq_getElem hlt⟩
  cases q1:decide ((b.toNat:Int)<65) with
  |true=>
   have hp:capB b=false:=by have:=of_decide_eq_true q1;unfold capB;rw [decide_eq_false (by omega)];rfl
   rw [all_bad hb hp,Bool.and_false] at hr
   subst hr
   repeat' (first|(refine zAy ?_;refine zAa (zAp rfl rfl (by omega) hb) ?_)|(refine zAm ?_;first|refine zAa (zAe rfl rfl q1) ?_|refine zAa (zAe rfl rfl ql) ?_)|refine xst ?_|(refine xsa ?_;intro _)|(refine xsb ?_ ?_ <;>intro _<;>try (exfalso;omega))|refine xsc ?_|fail)
   all_goals (exact xdn ())
  |false=>
   cases q2:decide ((90:Int)<(b.toNat:Int)) with
   |true=>
    have hp:capB b=false:=by have:=of_decide_eq_true q2;unfold capB;rw [decide_eq_false (show ¬ b.toNat≤90 by omega),Bool.and_false]
    rw [all_bad hb hp,Bool.and_false] at hr
    subst hr
    repeat' (first|(refine zAy ?_;refine zAa (zAp rfl rfl (by omega) hb) ?_)|(refine zAm ?_;first|refine zAa (zAe rfl rfl q1) ?_|refine zAa (zAe rfl rfl ql) ?_)|(refine zBg ?_;refine zAa (zAq rfl rfl q2) ?_)|refine xst ?_|(refine xsa ?_;intro _)|(refine xsb ?_ ?_ <;>intro _<;>try (exfalso;omega))|refine xsc ?_|fail)
    all_goals (exact xdn ())
   |false=>
    have hp:capB b=true:=by have:=of_decide_eq_false q1;have:=of_decide_eq_false q2;unfold capB;rw [decide_eq_true (show 65≤b.toNat by omega),decide_eq_true (show b.toNat≤90 by omega)];rfl
    repeat' (first|(refine zAy ?_;refine zAa (zAp rfl rfl (by omega) hb) ?_)|(refine zAm ?_;first|refine zAa (zAe rfl rfl q1) ?_|refine zAa (zAe rfl rfl ql) ?_)|(refine zBg ?_;refine zAa (zAq rfl rfl q2) ?_)|refine xst ?_|(refine xsa ?_;intro _)|(refine xsb ?_ ?_ <;>intro _<;>try (exfalso;omega))|refine xsc ?_|fail)
    all_goals exact zAu ⟨k+1,by omega,all_next hb ha hp⟩ (by show s.length-(k+1)<s.length-k;omega) xB (xN)
 ·have ql:decide (((k:Nat):Int)<((s.length:Nat):Int))=false:=decide_eq_false (by omega)
  have e:k=s.length:=by omega
  subst e
  rw [List.take_length] at ha
  rw [ha,Bool.and_true] at hr
  have q3:decide (((s.length:Nat):Int)=3)=r:=by rw [hr];exact decide_eq_decide.2 (by omega)
  repeat' (first|(refine zAv ?_;refine zAa (zAh rfl rfl q3) ?_)|(refine zAm ?_;refine zAa (zAe rfl rfl ql) ?_)|refine xst ?_|(refine xsa ?_;intro _)|(refine xsb ?_ ?_ <;>intro _<;>try (exfalso;omega))|refine xsc ?_|fail)
  all_goals (exact xdn ())
theorem system_ct (k:Nat) (hk:k<4) (c:List UInt8) (hs:c.length≤2000000):Ct Tryz.prog W 88 [.int .i64 ((k+2:Nat):Int),strV c] [] (fun _:Unit=>strV (sysT k c)) (fun _=>[]):=by
 have cc:=code_ct (W:=W) c hs
 unfold sysT
 cases h:codeB c with
 |false=>
  rw [h] at cc
  rw [if_neg (by decide)]
  refine Ct.enter Tryz.func88 rfl Tryz.ntmps88 (by simp) (fun R=>?_)
  repeat' (first|(refine zAd ?_;refine zAc xE cc xP rfl (fun _=>?_))|refine xst ?_|(refine xsa ?_;intro _)|(refine xsb ?_ ?_ <;>intro _<;>try (exfalso;omega))|refine xsc ?_|fail)
  all_goals (exact xdn ())
 |true=>
  rw [h] at cc
  rw [if_pos rfl]
  match k,hk with
  |0,_=>
   refine Ct.enter Tryz.func88 rfl Tryz.ntmps88 (by simp) (fun R=>?_)
   repeat' (first|(refine zAd ?_;refine zAc xE cc xP rfl (fun _=>?_))|(refine zAw ?_;refine zAa (Ev_addS (a:=kindT 0) (b:=c) rfl rfl (by show 8+c.length≤_;omega)) ?_)|refine xst ?_|(refine xsa ?_;intro _)|(refine xsb ?_ ?_ <;>intro _<;>try (exfalso;omega))|refine xsc ?_|fail)
   all_goals (exact xdn ())
  |1,_=>
   refine Ct.enter Tryz.func88 rfl Tryz.ntmps88 (by simp) (fun R=>?_)
   repeat' (first|(refine zAd ?_;refine zAc xE cc xP rfl (fun _=>?_))|(refine zAw ?_;refine zAa (Ev_addS (a:=kindT 1) (b:=c) rfl rfl (by show 9+c.length≤_;omega)) ?_)|refine xst ?_|(refine xsa ?_;intro _)|(refine xsb ?_ ?_ <;>intro _<;>try (exfalso;omega))|refine xsc ?_|fail)
   all_goals (exact xdn ())
  |2,_=>
   refine Ct.enter Tryz.func88 rfl Tryz.ntmps88 (by simp) (fun R=>?_)
   repeat' (first|(refine zAd ?_;refine zAc xE cc xP rfl (fun _=>?_))|(refine zAw ?_;refine zAa (Ev_addS (a:=kindT 2) (b:=c) rfl rfl (by show 9+c.length≤_;omega)) ?_)|refine xst ?_|(refine xsa ?_;intro _)|(refine xsb ?_ ?_ <;>intro _<;>try (exfalso;omega))|refine xsc ?_|fail)
   all_goals (exact xdn ())
  |3,_=>
   refine Ct.enter Tryz.func88 rfl Tryz.ntmps88 (by simp) (fun R=>?_)
   repeat' (first|(refine zAd ?_;refine zAc xE cc xP rfl (fun _=>?_))|(refine zAw ?_;refine zAa (Ev_addS (a:=kindT 3) (b:=c) rfl rfl (by show 5+c.length≤_;omega)) ?_)|refine xst ?_|(refine xsa ?_;intro _)|(refine xsb ?_ ?_ <;>intro _<;>try (exfalso;omega))|refine xsc ?_|fail)
   all_goals (exact xdn ())
end
end Go.Proofs.YtnbgcimalpdfoaaGreatDoor
namespace Go.Proofs.YtnbgcimalpdfoaaGreatDoor
open Go Go.RowKit
theorem Ev_sliceTo_p {P:Program} {W:World} {n:Nat} {E:Env} {H:List SP} {t:TypeId} {x z:Operand} {l r:List UInt8} {j:Int} {kj:IntKind} (hx:Env.ev E x=some (strV l)) (hz:Env.ev E z=some (.int kj j)) [hu:UIs P t .string] (hb:0≤j∧j≤l.length) (h:l.take j.toNat=r):Ev P W n E H (.slice t x none (some z) none) (strV r):=by subst h;exact Ev_sliceStrTo hx hz hb
theorem Ev_sliceFrom_p {P:Program} {W:World} {n:Nat} {E:Env} {H:List SP} {t:TypeId} {x y:Operand} {l r:List UInt8} {i:Int} {ki:IntKind} (hx:Env.ev E x=some (strV l)) (hy:Env.ev E y=some (.int ki i)) [hu:UIs P t .string] (hb:0≤i∧i≤l.length) (h:l.drop i.toNat=r):Ev P W n E H (.slice t x (some y) none none) (strV r):=by subst h;exact Ev_sliceStrFrom hx hy hb
end Go.Proofs.YtnbgcimalpdfoaaGreatDoor
namespace Go.Proofs.YtnbgcimalpdfoaaGreatDoor
open Go Go.RowKit
theorem formA_eq (s:List UInt8):formA s=(decide (4≤s.length) && partsB (s.take 2) (s.drop 4) && ((s.drop 2).take 2).all digB):=by
 unfold formA partsB
 rw [List.length_take,List.length_drop]
 by_cases h:4≤s.length
 ·have e1:decide (min 2 s.length=2)=true:=decide_eq_true (by omega)
  have e2:decide (1≤s.length-4)=decide (5≤s.length):=decide_eq_decide.2 (by omega)
  have e3:decide (s.length-4≤30)=decide (s.length≤34):=decide_eq_decide.2 (by omega)
  rw [e1,e2,e3,decide_eq_true h]
  cases decide (5≤s.length) <;> cases decide (s.length≤34) <;> cases (s.take 2).all capB <;> cases ((s.drop 2).take 2).all digB <;> cases (s.drop 4).all (fun x=>capB x || digB x) <;> rfl
 ·rw [decide_eq_false h,decide_eq_false (show ¬ 5≤s.length by omega)];rfl
theorem body_some {s:List UInt8} (h:formA s=true):∃ r,restG (s.drop 4++s.take 2++[48,48]) 0=some r:=by
 have hh:=restG_all (s.drop 4++s.take 2++[48,48]) 0
 unfold formA at h
 simp only [Bool.and_eq_true,decide_eq_true_eq] at h
 have e:((s.drop 4++s.take 2++[48,48]).all fun b=>digB b || capB b)=true:=by
  rw [List.all_append,List.all_append]
  have a1:((s.drop 4).all fun b=>digB b || capB b)=true:=by
   rw [List.all_eq_true]
   exact fun x hx=>by rw [Bool.or_comm];exact List.all_eq_true.1 h.2 x hx
  have a2:((s.take 2).all fun b=>digB b || capB b)=true:=by
   rw [List.all_eq_true]
   exact fun x hx=>by rw [List.all_eq_true.1 h.1.1.2 x hx,Bool.or_true]
  rw [a1,a2];rfl
 rw [e] at hh
 exact Option.isSome_iff_exists.1 hh
section
variable {W:World} {F:Nat→Addr}
theorem icheck_ct (s:List UInt8) (hs:s.length≤2000000) (e7:W.cell? ⟨3,0,none⟩=some (errV F 7)) (e8:W.cell? ⟨19,0,none⟩=some (errV F 8)) :
 Ct Tryz.prog W 85 [strV s] [] (fun _:Unit=>errV F (accE s)) (fun _=>[]):=by
 by_cases h4:4≤s.length
 case neg=>
  have e:accE s=7:=by unfold accE;rw [if_pos];rw [formA_eq,decide_eq_false h4];rfl
  rw [e]
  have q:decide (((s.length:Nat):Int)<4)=true:=decide_eq_true (by omega)
  refine Ct.enter Tryz.func85 rfl Tryz.ntmps85 (by simp) (fun R=>?_)
  repeat' (first|(refine zAn ?_;refine zAa (zAr rfl e7) ?_)|(refine zAm ?_;refine zAa (zAe rfl rfl q) ?_)|refine xst ?_|(refine xsa ?_;intro _)|(refine xsb ?_ ?_ <;>intro _<;>try (exfalso;omega))|refine xsc ?_|(refine zAb (id:=1) plUDF1 (by kernel_rfl) (by kernel_rfl) ?_)|(refine zAb (id:=3) plUDF2 (by kernel_rfl) (by kernel_rfl) ?_)|refine zAj ?_ ?_|refine zAi rfl rfl rfl rfl rfl ?_ ?_|refine zAf ?_ ?_|exact Rech.nil|fail)
  all_goals (exact xdn ())
 have q4:decide (((s.length:Nat):Int)<4)=false:=decide_eq_false (by omega)
 have s1:s.take (2:Int).toNat=s.take 2:=rfl
 have s2:s.drop (4:Int).toNat=s.drop 4:=rfl
 have s3:(s.take (4:Int).toNat).drop (2:Int).toNat=(s.drop 2).take 2:=by
  show (s.take 4).drop 2=_
  rw [List.drop_take]
 have cp:=parts_ct (W:=W) (s.take 2) (s.drop 4) (by rw [List.length_take];omega) (by rw [List.length_drop];omega)
 have ca:=iall_ct (W:=W) (f:=137) (p:=digB) ((s.drop 2).take 2) (by rw [List.length_take];omega) (fun b=>idig_ct b)
 have hform:=formA_eq s
 rw [decide_eq_true h4,Bool.true_and] at hform
 cases hp:partsB (s.take 2) (s.drop 4) with
 |false=>
  rw [hp] at cp hform
  rw [Bool.false_and] at hform
  have e:accE s=7:=by unfold accE;rw [if_pos hform]
  rw [e]
  refine Ct.enter Tryz.func85 rfl Tryz.ntmps85 (by simp) (fun R=>?_)
  repeat' (first|(refine zAd ?_;refine zAc xE cp xP rfl (fun _=>?_))|(refine zAn ?_;refine zAa (zAr rfl e7) ?_)|(refine zCf ?_;first|refine zAa (Ev_sliceFrom_p rfl rfl (by omega) s2) ?_|refine zAa (Ev_sliceTo_p rfl rfl (by omega) s1) ?_)|(refine zAm ?_;refine zAa (zAe rfl rfl q4) ?_)|refine xst ?_|(refine xsa ?_;intro _)|(refine xsb ?_ ?_ <;>intro _<;>try (exfalso;omega))|refine xsc ?_|(refine zAb (id:=1) plUDF1 (by kernel_rfl) (by kernel_rfl) ?_)|(refine zAb (id:=3) plUDF2 (by kernel_rfl) (by kernel_rfl) ?_)|refine zAj ?_ ?_|refine zAi rfl rfl rfl rfl rfl ?_ ?_|refine zAf ?_ ?_|exact Rech.nil|fail)
  all_goals (exact xdn ())
 |true=>
  rw [hp] at cp hform
  rw [Bool.true_and] at hform
  cases hd:((s.drop 2).take 2).all digB with
  |false=>
   rw [hd] at ca hform
   have e:accE s=7:=by unfold accE;rw [if_pos hform]
   rw [e]
   refine Ct.enter Tryz.func85 rfl Tryz.ntmps85 (by simp) (fun R=>?_)
   repeat' (first|(refine zAd ?_;first|(refine zAc xE ca xP rfl (fun _=>?_))|(refine zAc xE cp xP rfl (fun _=>?_)))|(refine zAn ?_;refine zAa (zAr rfl e7) ?_)|(refine zCf ?_;first|refine zAa (Ev_sliceStr_t rfl rfl rfl (by omega) s3) ?_|refine zAa (Ev_sliceFrom_p rfl rfl (by omega) s2) ?_|refine zAa (Ev_sliceTo_p rfl rfl (by omega) s1) ?_)|(refine zAm ?_;refine zAa (zAe rfl rfl q4) ?_)|refine xst ?_|(refine xsa ?_;intro _)|(refine xsb ?_ ?_ <;>intro _<;>try (exfalso;omega))|refine xsc ?_|(refine zAb (id:=1) plUDF1 (by kernel_rfl) (by kernel_rfl) ?_)|(refine zAb (id:=3) plUDF2 (by kernel_rfl) (by kernel_rfl) ?_)|refine zAj ?_ ?_|refine zAi rfl rfl rfl rfl rfl ?_ ?_|refine zAf ?_ ?_|exact Rech.nil|fail)
   all_goals (exact xdn ())
  |true=>
   rw [hd] at ca hform
   have h5:5≤s.length:=by
    have:=hform
    unfold formA at this
    simp only [Bool.and_eq_true,decide_eq_true_eq] at this
    omega
   obtain ⟨r,hr⟩:=body_some hform
   have hne:s.drop 4++s.take 2≠[]:=by
    intro q
    have:=congrArg List.length q
    rw [List.length_append,List.length_drop] at this
    simp at this;omega
   have cd:Ct Tryz.prog W 138 [strV (s.drop 4++s.take 2)] [] (fun _:Unit=>.tuple #[strV (dig2 r),errV F 0]) (fun _=>[]):=digits_ct (W:=W) (F:=F) (s.drop 4++s.take 2) (by rw [List.length_append,List.length_drop,List.length_take];omega) hne e7 (some r) hr
   have hdig:digits2 (s.drop 4++s.take 2)=some (dig2 r):=by unfold digits2;rw [if_neg hne,hr];rfl
   by_cases hx:dig2 r=(s.drop 2).take 2
   ·have e:accE s=0:=by unfold accE;rw [if_neg (by rw [hform];decide),if_pos (by rw [hdig,hx])]
    rw [e]
    refine Ct.enter Tryz.func85 rfl Tryz.ntmps85 (by simp) (fun R=>?_)
    repeat' (first|(refine zAd ?_;first|(refine zAc xE cd xP rfl (fun _=>?_))|(refine zAc xE ca xP rfl (fun _=>?_))|(refine zAc xE cp xP rfl (fun _=>?_)))|(refine zCf ?_;first|refine zAa (Ev_sliceStr_t rfl rfl rfl (by omega) s3) ?_|refine zAa (Ev_sliceFrom_p rfl rfl (by omega) s2) ?_|refine zAa (Ev_sliceTo_p rfl rfl (by omega) s1) ?_)|(refine zAw ?_;refine zAa (Ev_addS rfl rfl (by rw [List.length_drop,List.length_take];omega)) ?_)|(refine zAx ?_;refine zAa (Ev_neqS_f rfl rfl hx) ?_)|(refine zAm ?_;refine zAa (zAe rfl rfl q4) ?_)|refine xst ?_|(refine xsa ?_;intro _)|(refine xsb ?_ ?_ <;>intro _<;>try (exfalso;omega))|refine xsc ?_|(refine zAb (id:=1) plUDF1 (by kernel_rfl) (by kernel_rfl) ?_)|(refine zAb (id:=3) plUDF2 (by kernel_rfl) (by kernel_rfl) ?_)|refine zAj ?_ ?_|refine zAi rfl rfl rfl rfl rfl ?_ ?_|refine zAf ?_ ?_|exact Rech.nil|fail)
    all_goals (exact xdn ())
   ·have e:accE s=8:=by unfold accE;rw [if_neg (by rw [hform];decide),if_neg (by rw [hdig];exact fun q=>hx (Option.some.inj q))]
    rw [e]
    refine Ct.enter Tryz.func85 rfl Tryz.ntmps85 (by simp) (fun R=>?_)
    repeat' (first|(refine zAd ?_;first|(refine zAc xE cd xP rfl (fun _=>?_))|(refine zAc xE ca xP rfl (fun _=>?_))|(refine zAc xE cp xP rfl (fun _=>?_)))|(refine zAn ?_;refine zAa (zAr rfl e8) ?_)|(refine zCf ?_;first|refine zAa (Ev_sliceStr_t rfl rfl rfl (by omega) s3) ?_|refine zAa (Ev_sliceFrom_p rfl rfl (by omega) s2) ?_|refine zAa (Ev_sliceTo_p rfl rfl (by omega) s1) ?_)|(refine zAw ?_;refine zAa (Ev_addS rfl rfl (by rw [List.length_drop,List.length_take];omega)) ?_)|(refine zAx ?_;refine zAa (Ev_neqS_t rfl rfl hx) ?_)|(refine zAm ?_;refine zAa (zAe rfl rfl q4) ?_)|refine xst ?_|(refine xsa ?_;intro _)|(refine xsb ?_ ?_ <;>intro _<;>try (exfalso;omega))|refine xsc ?_|(refine zAb (id:=1) plUDF1 (by kernel_rfl) (by kernel_rfl) ?_)|(refine zAb (id:=3) plUDF2 (by kernel_rfl) (by kernel_rfl) ?_)|refine zAj ?_ ?_|refine zAi rfl rfl rfl rfl rfl ?_ ?_|refine zAf ?_ ?_|exact Rech.nil|fail)
    all_goals (exact xdn ())
end
end Go.Proofs.YtnbgcimalpdfoaaGreatDoor
