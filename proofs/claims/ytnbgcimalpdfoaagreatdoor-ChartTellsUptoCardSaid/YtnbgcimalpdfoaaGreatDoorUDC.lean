/-
  PoW1, PoW2.
-/
import Derived.Test.YtnbgcimalpdfoaaGreatDoorUCX
import Derived.Test.YtnbgcimalpdfoaaGreatDoorUEB
import Derived.Test.YtnbgcimalpdfoaaGreatDoorUDG
set_option maxHeartbeats 64000000
namespace Go.Proofs.YtnbgcimalpdfoaaGreatDoor
open Go Go.RowKit
abbrev plUDC0:Pl:=(.op 0 (.op 1 (.op 2 .nil)))
theorem all_next {s:List UInt8} {p:UInt8→Bool} {k:Nat} {b:UInt8} (hb:s[k]? = some b) (h:(s.take k).all p=true) (hp:p b=true):(s.take (k+1)).all p=true:=by
 rw [List.take_add_one,hb,List.all_append,h,Option.toList_some,List.all_cons,hp,List.all_nil];rfl
theorem all_bad {s:List UInt8} {p:UInt8→Bool} {k:Nat} {b:UInt8} (hb:s[k]? = some b) (hp:p b=false):s.all p=false:=by
 rw [List.all_eq_false];exact ⟨b,List.mem_of_getElem? hb,by rw [hp];simp⟩
theorem dec_r {p q:Prop} [Decidable p] [Decidable q] {r:Bool} (h:decide p=r) (e:q↔p):decide q=r:=by rw [← h];exact decide_eq_decide.2 e
section
variable {W:World} {F:Nat→Addr}
theorem range_ct (lo hi:Nat) (b:UInt8):(decide ((lo:Int)≤(b.toNat:Int))=decide (lo≤b.toNat))∧(decide ((b.toNat:Int)≤(hi:Int))=decide (b.toNat≤hi)):=⟨decide_eq_decide.2 (by omega),decide_eq_decide.2 (by omega)⟩
theorem isdig_ct (b:UInt8):Ct Tryz.prog W 221 [bv b] [] (fun _:Unit=>.bool (digB b)) (fun _=>[]):=by
 unfold digB
 cases h1:decide (48≤b.toNat) <;> cases h2:decide (b.toNat≤57)
 all_goals have q1:=(range_ct 48 57 b).1.trans h1
 all_goals have q2:=(range_ct 48 57 b).2.trans h2
 all_goals refine Ct.enter Tryz.func221 rfl Tryz.ntmps221 (by simp) (fun R=>?_)
 all_goals repeat' (first|(refine ek_leq ?_;refine zAa (zBy rfl rfl q2) ?_)|(refine zCh ?_;refine zAa (zBf rfl rfl q1) ?_)|refine xst ?_|(refine xsa ?_;intro _)|(refine xsb ?_ ?_ <;>intro _<;>try (exfalso;omega))|refine xsc ?_|fail)
 all_goals (exact xdn ())
theorem icap_ct (b:UInt8):Ct Tryz.prog W 188 [bv b] [] (fun _:Unit=>.bool (capB b)) (fun _=>[]):=by
 unfold capB
 cases h1:decide (65≤b.toNat) <;> cases h2:decide (b.toNat≤90)
 all_goals have q1:=(range_ct 65 90 b).1.trans h1
 all_goals have q2:=(range_ct 65 90 b).2.trans h2
 all_goals refine Ct.enter Tryz.func188 rfl Tryz.ntmps188 (by simp) (fun R=>?_)
 all_goals repeat' (first|(refine ek_leq ?_;refine zAa (zBy rfl rfl q2) ?_)|(refine zCh ?_;refine zAa (zBf rfl rfl q1) ?_)|refine xst ?_|(refine xsa ?_;intro _)|(refine xsb ?_ ?_ <;>intro _<;>try (exfalso;omega))|refine xsc ?_|fail)
 all_goals (exact xdn ())
theorem idig_ct (b:UInt8):Ct Tryz.prog W 137 [bv b] [] (fun _:Unit=>.bool (digB b)) (fun _=>[]):=by
 unfold digB
 cases h1:decide (48≤b.toNat) <;> cases h2:decide (b.toNat≤57)
 all_goals have q1:=(range_ct 48 57 b).1.trans h1
 all_goals have q2:=(range_ct 48 57 b).2.trans h2
 all_goals refine Ct.enter Tryz.func137 rfl Tryz.ntmps137 (by simp) (fun R=>?_)
 all_goals repeat' (first|(refine ek_leq ?_;refine zAa (zBy rfl rfl q2) ?_)|(refine zCh ?_;refine zAa (zBf rfl rfl q1) ?_)|refine xst ?_|(refine xsa ?_;intro _)|(refine xsb ?_ ?_ <;>intro _<;>try (exfalso;omega))|refine xsc ?_|fail)
 all_goals (exact xdn ())
theorem iplain_ct (b:UInt8):Ct Tryz.prog W 220 [bv b] [] (fun _:Unit=>.bool (capB b || digB b)) (fun _=>[]):=by
 have c1:=icap_ct (W:=W) b
 have c2:=idig_ct (W:=W) b
 cases h1:capB b <;> cases h2:digB b
 all_goals rw [h1] at c1
 all_goals rw [h2] at c2
 all_goals refine Ct.enter Tryz.func220 rfl Tryz.ntmps220 (by simp) (fun R=>?_)
 all_goals repeat' (first|(refine zAd ?_;first|(refine zAc xE c2 xP rfl (fun _=>?_))|(refine zAc xE c1 xP rfl (fun _=>?_)))|refine xst ?_|(refine xsa ?_;intro _)|(refine xsb ?_ ?_ <;>intro _<;>try (exfalso;omega))|refine xsc ?_|fail)
 all_goals (exact xdn ())
theorem iall_ct {f:FuncId} [FnIs Tryz.prog f] {p:UInt8→Bool} (s:List UInt8) (hs:s.length≤9223372036854775800) (hf:∀ b,Ct Tryz.prog W f [bv b] [] (fun _:Unit=>.bool (p b)) (fun _=>[])) :
 Ct Tryz.prog W 136 [strV s,.func (.func f) #[] #[]] [] (fun _:Unit=>.bool (s.all p)) (fun _=>[]):=by
 refine Ct.enter Tryz.func136 rfl Tryz.ntmps136 (by simp) (fun R=>?_)
 repeat' (first|refine xst ?_|(refine xsa ?_;intro _)|(refine xsb ?_ ?_ <;>intro _<;>try (exfalso;omega))|refine xsc ?_|fail)
 refine zBm (fun i:{k:Nat//k≤s.length∧(s.take k).all p=true}=>[(0,strV s),(1,.func (.func f) #[] #[]),(7,.int .i64 (s.length:Nat)),(8,.int .i64 (i.1:Nat))])
  (fun _=>[]++R) (fun i=>s.length-i.1) ⟨0,by omega,rfl⟩ xB (xN) (fun ⟨k,hk,ha⟩=>?_)
 dsimp only
 by_cases hlt:k<s.length
 ·have ql:decide (((k:Nat):Int)<((s.length:Nat):Int))=true:=decide_eq_true (by omega)
  obtain ⟨b,hb⟩:∃ b,s[k]? = some b:=⟨_,List.getElem?_eq_getElem hlt⟩
  have cf:=hf b
  cases hp:p b with
  |true=>
   rw [hp] at cf
   repeat' (first|(refine is_callV ?_;refine KJ_callF rfl xE cf xP rfl (fun _=>?_))|(refine zAy ?_;refine zAa (zAp rfl rfl (by omega) hb) ?_)|(refine zAm ?_;refine zAa (zAe rfl rfl ql) ?_)|refine xst ?_|(refine xsa ?_;intro _)|(refine xsb ?_ ?_ <;>intro _<;>try (exfalso;omega))|refine xsc ?_|fail)
   all_goals exact zAu ⟨k+1,by omega,all_next hb ha hp⟩ (by show s.length-(k+1)<s.length-k;omega) xB (xN)
  |false=>
   rw [hp] at cf
   rw [all_bad hb hp]
   repeat' (first|(refine is_callV ?_;refine KJ_callF rfl xE cf xP rfl (fun _=>?_))|(refine zAy ?_;refine zAa (zAp rfl rfl (by omega) hb) ?_)|(refine zAm ?_;refine zAa (zAe rfl rfl ql) ?_)|refine xst ?_|(refine xsa ?_;intro _)|(refine xsb ?_ ?_ <;>intro _<;>try (exfalso;omega))|refine xsc ?_|fail)
   all_goals (exact xdn ())
 ·have ql:decide (((k:Nat):Int)<((s.length:Nat):Int))=false:=decide_eq_false (by omega)
  have e:k=s.length:=by omega
  subst e
  rw [List.take_length] at ha
  rw [ha]
  repeat' (first|(refine zAm ?_;refine zAa (zAe rfl rfl ql) ?_)|refine xst ?_|(refine xsa ?_;intro _)|(refine xsb ?_ ?_ <;>intro _<;>try (exfalso;omega))|refine xsc ?_|fail)
  all_goals (exact xdn ())
end
end Go.Proofs.YtnbgcimalpdfoaaGreatDoor
namespace Go.Proofs.YtnbgcimalpdfoaaGreatDoor
open Go Go.RowKit
theorem Ev_sub_w {P:Program} {W:World} {n:Nat} {E:Env} {H:List SP} {t u:TypeId} {x y:Operand} {k:IntKind} {i j r:Int} (hx:Env.ev E x=some (.int k i)) (hy:Env.ev E y=some (.int k j)) (h:k.wrap (i-j)=r):Ev P W n E H (.binOp .sub t x y u) (.int k r):=by subst h;exact Ev_sub hx hy
theorem restG_dig {b:UInt8} {l:List UInt8} {r:Nat} (h:digB b=true):restG (b::l) r=restG l ((10*r+(b.toNat-48)) % 97):=by
 show (if digB b=true then _ else _)=_
 rw [if_pos h]
theorem restG_cap {b:UInt8} {l:List UInt8} {r:Nat} (h:digB b=false) (h2:capB b=true):restG (b::l) r=restG l ((100*r+(b.toNat-65)+10) % 97):=by
 show (if digB b=true then _ else if capB b=true then _ else _)=_
 rw [if_neg (by rw [h];decide),if_pos h2]
theorem restG_bad {b:UInt8} {l:List UInt8} {r:Nat} (h:digB b=false) (h2:capB b=false):restG (b::l) r=none:=by
 show (if digB b=true then _ else if capB b=true then _ else _)=_
 rw [if_neg (by rw [h];decide),if_neg (by rw [h2];decide)]
section
variable {W:World} {F:Nat→Addr}
def rstE (q:Option Nat):Nat:=if q.isSome=true then 0 else 7
theorem rest_ct (s:List UInt8) (hs:s.length≤9223372036854775800) (hne:s≠[]) (e7:W.cell? ⟨3,0,none⟩=some (errV F 7)) (q:Option Nat) (hq:restG s 0=q) :
 Ct Tryz.prog W 190 [strV s] [] (fun _:Unit=>.tuple #[.int .i64 (q.getD 0:Nat),errV F (rstE q)]) (fun _=>[]):=by
 refine Ct.enter Tryz.func190 rfl Tryz.ntmps190 (by simp) (fun R=>?_)
 repeat' (first|(refine zAv ?_;refine zAa (Ev_eqlS_f rfl rfl hne) ?_)|refine xst ?_|(refine xsa ?_;intro _)|(refine xsb ?_ ?_ <;>intro _<;>try (exfalso;omega))|refine xsc ?_|(refine zAb (id:=2) plUDC0 (by kernel_rfl) (by kernel_rfl) ?_)|(refine zAb (id:=8) plUDC0 (by kernel_rfl) (by kernel_rfl) ?_)|refine zAj ?_ ?_|refine zAi rfl rfl rfl rfl rfl ?_ ?_|refine zAf ?_ ?_|exact Rech.nil|fail)
 refine zBm (fun i:{x:Nat × Nat//x.1≤s.length∧x.2<97∧restG (s.drop x.1) x.2=q}=>[(0,strV s),(4,.int .i64 (i.1.2:Nat)),(5,.int .i64 (i.1.1:Nat))])
  (fun _=>[]++R) (fun i=>s.length-i.1.1) ⟨(0,0),by omega,by omega,hq⟩ xB (xN) (fun ⟨(k,r),hk,hr,ha⟩=>?_)
 dsimp only at hk hr ha ⊢
 by_cases hlt:k<s.length
 ·have ql:decide (((k:Nat):Int)<((s.length:Nat):Int))=true:=decide_eq_true (by omega)
  obtain ⟨b,hb⟩:∃ b,s[k]? = some b:=⟨_,List.getElem?_eq_getElem hlt⟩
  rw [drop_get hb] at ha
  have hb8:b.toNat<256:=b.toNat_lt
  have cd:=isdig_ct (W:=W) b
  cases h1:digB b with
  |true=>
   rw [h1] at cd
   have hd:=h1
   unfold digB at hd
   simp only [Bool.and_eq_true,decide_eq_true_eq] at hd
   have w1:IntKind.u8.wrap ((b.toNat:Int)-48)=((b.toNat-48:Nat):Int):=by
    simp only [IntKind.wrap,IntKind.signed,IntKind.bits];simp;omega
   have m1:(10*((r:Nat):Int)+((b.toNat-48:Nat):Int)) % 97=(((10*r+(b.toNat-48)) % 97:Nat):Int):=by omega
   repeat' (first|(refine zAd ?_;refine zAc xE cd xP rfl (fun _=>?_))|(refine zAy ?_;refine zAa (zAp rfl rfl (by omega) hb) ?_)|(refine ek_sub ?_;refine zAa (Ev_sub_w rfl rfl w1) ?_)|(refine ek_rem ?_;refine zAa (Ev_rem_w rfl rfl (by omega) m1) ?_)|(refine zAm ?_;refine zAa (zAe rfl rfl ql) ?_)|refine xst ?_|(refine xsa ?_;intro _)|(refine xsb ?_ ?_ <;>intro _<;>try (exfalso;omega))|refine xsc ?_|(refine zAb (id:=2) plUDC0 (by kernel_rfl) (by kernel_rfl) ?_)|(refine zAb (id:=8) plUDC0 (by kernel_rfl) (by kernel_rfl) ?_)|refine zAj ?_ ?_|refine zAi rfl rfl rfl rfl rfl ?_ ?_|refine zAf ?_ ?_|exact Rech.nil|fail)
   all_goals exact zAu ⟨(k+1,(10*r+(b.toNat-48)) % 97),by show k+1≤s.length;omega,Nat.mod_lt _ (by omega),by rw [← ha,restG_dig h1]⟩ (by show s.length-(k+1)<s.length-k;omega) xB (xN)
  |false=>
   rw [h1] at cd
   cases h2:capB b with
   |true=>
    have hd:=h2
    unfold capB at hd
    simp only [Bool.and_eq_true,decide_eq_true_eq] at hd
    have q1:decide ((65:Int)≤(b.toNat:Int))=true:=decide_eq_true (by omega)
    have q2:decide ((b.toNat:Int)≤90)=true:=decide_eq_true (by omega)
    have w1:IntKind.u8.wrap ((b.toNat:Int)-65)=((b.toNat-65:Nat):Int):=by
     simp only [IntKind.wrap,IntKind.signed,IntKind.bits];simp;omega
    have m1:(100*((r:Nat):Int)+((b.toNat-65:Nat):Int)+10) % 97=(((100*r+(b.toNat-65)+10) % 97:Nat):Int):=by omega
    repeat' (first|(refine zAd ?_;refine zAc xE cd xP rfl (fun _=>?_))|(refine zAy ?_;refine zAa (zAp rfl rfl (by omega) hb) ?_)|(refine ek_sub ?_;refine zAa (Ev_sub_w rfl rfl w1) ?_)|(refine ek_rem ?_;refine zAa (Ev_rem_w rfl rfl (by omega) m1) ?_)|(refine zAm ?_;refine zAa (zAe rfl rfl ql) ?_)|(refine ek_leq ?_;refine zAa (zBy rfl rfl q2) ?_)|(refine zCh ?_;refine zAa (zBf rfl rfl q1) ?_)|refine xst ?_|(refine xsa ?_;intro _)|(refine xsb ?_ ?_ <;>intro _<;>try (exfalso;omega))|refine xsc ?_|(refine zAb (id:=2) plUDC0 (by kernel_rfl) (by kernel_rfl) ?_)|(refine zAb (id:=8) plUDC0 (by kernel_rfl) (by kernel_rfl) ?_)|refine zAj ?_ ?_|refine zAi rfl rfl rfl rfl rfl ?_ ?_|refine zAf ?_ ?_|exact Rech.nil|fail)
    all_goals exact zAu ⟨(k+1,(100*r+(b.toNat-65)+10) % 97),by show k+1≤s.length;omega,Nat.mod_lt _ (by omega),by rw [← ha,restG_cap h1 h2]⟩ (by show s.length-(k+1)<s.length-k;omega) xB (xN)
   |false=>
    rw [restG_bad h1 h2] at ha
    subst ha
    cases q1:decide ((65:Int)≤(b.toNat:Int)) <;> cases q2:decide ((b.toNat:Int)≤90)
    case true.true=>
     exfalso
     have a1:=of_decide_eq_true q1
     have a2:=of_decide_eq_true q2
     unfold capB at h2
     rw [decide_eq_true (show 65≤b.toNat by omega),decide_eq_true (show b.toNat≤90 by omega)] at h2
     cases h2
    all_goals repeat' (first|(refine zAd ?_;refine zAc xE cd xP rfl (fun _=>?_))|(refine zAn ?_;refine zAa (zAr rfl e7) ?_)|(refine zAy ?_;refine zAa (zAp rfl rfl (by omega) hb) ?_)|(refine zAm ?_;refine zAa (zAe rfl rfl ql) ?_)|(refine ek_leq ?_;refine zAa (zBy rfl rfl q2) ?_)|(refine zCh ?_;refine zAa (zBf rfl rfl q1) ?_)|refine xst ?_|(refine xsa ?_;intro _)|(refine xsb ?_ ?_ <;>intro _<;>try (exfalso;omega))|refine xsc ?_|(refine zAb (id:=2) plUDC0 (by kernel_rfl) (by kernel_rfl) ?_)|(refine zAb (id:=8) plUDC0 (by kernel_rfl) (by kernel_rfl) ?_)|refine zAj ?_ ?_|refine zAi rfl rfl rfl rfl rfl ?_ ?_|refine zAf ?_ ?_|exact Rech.nil|fail)
    all_goals (exact xdn ())
 ·have ql:decide (((k:Nat):Int)<((s.length:Nat):Int))=false:=decide_eq_false (by omega)
  have e:k=s.length:=by omega
  subst e
  rw [List.drop_length] at ha
  have ha:some r=q:=ha
  subst ha
  repeat' (first|(refine zAm ?_;refine zAa (zAe rfl rfl ql) ?_)|refine xst ?_|(refine xsa ?_;intro _)|(refine xsb ?_ ?_ <;>intro _<;>try (exfalso;omega))|refine xsc ?_|(refine zAb (id:=2) plUDC0 (by kernel_rfl) (by kernel_rfl) ?_)|(refine zAb (id:=8) plUDC0 (by kernel_rfl) (by kernel_rfl) ?_)|refine zAj ?_ ?_|refine zAi rfl rfl rfl rfl rfl ?_ ?_|refine zAf ?_ ?_|exact Rech.nil|fail)
  all_goals (exact xdn ())
end
end Go.Proofs.YtnbgcimalpdfoaaGreatDoor
