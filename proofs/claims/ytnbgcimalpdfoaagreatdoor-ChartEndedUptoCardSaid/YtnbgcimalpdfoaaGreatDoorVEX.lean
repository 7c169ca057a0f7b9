/-
  PoW1, PoW2, PoW4, PoW3, PoW5.
-/
import Derived.Test.YtnbgcimalpdfoaaGreatDoorVFR
import Derived.Test.YtnbgcimalpdfoaaGreatDoorVER
import Derived.Test.YtnbgcimalpdfoaaGreatDoorVEY
set_option maxHeartbeats 64000000
namespace Go.Proofs.YtnbgcimalpdfoaaGreatDoor
open Go Go.RowKit
abbrev plVEX0:Pl:=(.op 0 (.op 1 (.op 2 .nil)))
abbrev plVEX1:Pl:=(.op 0 (.op 1 (.op 2 (.op 3 (.op 4 (.op 5 (.op 6 (.op 7 (.ef 8 [] (.op 9 (.op 10 (.op 11 (.op 12 (.op 13 (.ef 14 [] (.op 15 (.op 16 .nil)))))))))))))))))
abbrev plVEX2:Pl:=(.op 0 (.op 1 (.op 2 (.op 3 (.op 4 (.ef 5 [] (.op 6 (.op 7 (.op 8 (.op 9 (.op 10 .nil)))))))))))
theorem all_next {s:List UInt8} {p:UInt8→Bool} {k:Nat} {b:UInt8} (hb:s[k]? = some b) (h:(s.take k).all p=true) (hp:p b=true):(s.take (k+1)).all p=true:=by
 rw [List.take_add_one,hb,List.all_append,h,Option.toList_some,List.all_cons,hp,List.all_nil];rfl
theorem all_bad {s:List UInt8} {p:UInt8→Bool} {k:Nat} {b:UInt8} (hb:s[k]? = some b) (hp:p b=false):s.all p=false:=by
 rw [List.all_eq_false];exact ⟨b,List.mem_of_getElem? hb,by rw [hp];simp⟩
theorem dec_r {p q:Prop} [Decidable p] [Decidable q] {r:Bool} (h:decide p=r) (e:q↔p):decide q=r:=by rw [← h];exact decide_eq_decide.2 e
section
variable {W:World} {F:Nat→Addr}
theorem range_ct (lo hi:Nat) (b:UInt8):(decide ((lo:Int)≤(b.toNat:Int))=decide (lo≤b.toNat))∧(decide ((b.toNat:Int)≤(hi:Int))=decide (b.toNat≤hi)):=⟨decide_eq_decide.2 (by omega),decide_eq_decide.2 (by omega)⟩
theorem isdig_ct (b:UInt8):Ct Tryz.prog W 221 [bv b] [] (fun _:Unit=>.bool (digB b)) (fun _=>[]):=by
 unfold digB
 cases h1:decide (48≤b.toNat) <;> cases h2:decide (b.toNat≤57)
 all_goals have q1:=(range_ct 48 57 b).1.trans h1
 all_goals have q2:=(range_ct 48 57 b).2.trans h2
 all_goals refine Ct.enter Tryz.func221 rfl Tryz.ntmps221 (by simp) (fun R=>?_)
 all_goals repeat' (first|(refine ek_leq ?_;refine zAb (zBf rfl rfl q2) ?_)|(refine zCa ?_;refine zAb (zAv rfl rfl q1) ?_)|refine xst ?_|(refine xsa ?_;intro _)|(refine xsb ?_ ?_ <;>intro _<;>try (exfalso;omega))|refine xsc ?_|fail)
 all_goals (exact xdn ())
theorem icap_ct (b:UInt8):Ct Tryz.prog W 188 [bv b] [] (fun _:Unit=>.bool (capB b)) (fun _=>[]):=by
 unfold capB
 cases h1:decide (65≤b.toNat) <;> cases h2:decide (b.toNat≤90)
 all_goals have q1:=(range_ct 65 90 b).1.trans h1
 all_goals have q2:=(range_ct 65 90 b).2.trans h2
 all_goals refine Ct.enter Tryz.func188 rfl Tryz.ntmps188 (by simp) (fun R=>?_)
 all_goals repeat' (first|(refine ek_leq ?_;refine zAb (zBf rfl rfl q2) ?_)|(refine zCa ?_;refine zAb (zAv rfl rfl q1) ?_)|refine xst ?_|(refine xsa ?_;intro _)|(refine xsb ?_ ?_ <;>intro _<;>try (exfalso;omega))|refine xsc ?_|fail)
 all_goals (exact xdn ())
theorem idig_ct (b:UInt8):Ct Tryz.prog W 137 [bv b] [] (fun _:Unit=>.bool (digB b)) (fun _=>[]):=by
 unfold digB
 cases h1:decide (48≤b.toNat) <;> cases h2:decide (b.toNat≤57)
 all_goals have q1:=(range_ct 48 57 b).1.trans h1
 all_goals have q2:=(range_ct 48 57 b).2.trans h2
 all_goals refine Ct.enter Tryz.func137 rfl Tryz.ntmps137 (by simp) (fun R=>?_)
 all_goals repeat' (first|(refine ek_leq ?_;refine zAb (zBf rfl rfl q2) ?_)|(refine zCa ?_;refine zAb (zAv rfl rfl q1) ?_)|refine xst ?_|(refine xsa ?_;intro _)|(refine xsb ?_ ?_ <;>intro _<;>try (exfalso;omega))|refine xsc ?_|fail)
 all_goals (exact xdn ())
theorem iplain_ct (b:UInt8):Ct Tryz.prog W 220 [bv b] [] (fun _:Unit=>.bool (capB b || digB b)) (fun _=>[]):=by
 have c1:=icap_ct (W:=W) b
 have c2:=idig_ct (W:=W) b
 cases h1:capB b <;> cases h2:digB b
 all_goals rw [h1] at c1
 all_goals rw [h2] at c2
 all_goals refine Ct.enter Tryz.func220 rfl Tryz.ntmps220 (by simp) (fun R=>?_)
 all_goals repeat' (first|(refine zAe ?_;first|(refine zAa xE c2 xP rfl (fun _=>?_))|(refine zAa xE c1 xP rfl (fun _=>?_)))|refine xst ?_|(refine xsa ?_;intro _)|(refine xsb ?_ ?_ <;>intro _<;>try (exfalso;omega))|refine xsc ?_|fail)
 all_goals (exact xdn ())
theorem iall_ct {f:FuncId} [FnIs Tryz.prog f] {p:UInt8→Bool} (s:List UInt8) (hs:s.length≤9223372036854775800) (hf:∀ b,Ct Tryz.prog W f [bv b] [] (fun _:Unit=>.bool (p b)) (fun _=>[])) :
 Ct Tryz.prog W 136 [strV s,.func (.func f) #[] #[]] [] (fun _:Unit=>.bool (s.all p)) (fun _=>[]):=by
 refine Ct.enter Tryz.func136 rfl Tryz.ntmps136 (by simp) (fun R=>?_)
 repeat' (first|refine xst ?_|(refine xsa ?_;intro _)|(refine xsb ?_ ?_ <;>intro _<;>try (exfalso;omega))|refine xsc ?_|fail)
 refine zBe (fun i:{k:Nat//k≤s.length∧(s.take k).all p=true}=>[(0,strV s),(1,.func (.func f) #[] #[]),(7,.int .i64 (s.length:Nat)),(8,.int .i64 (i.1:Nat))])
  (fun _=>[]++R) (fun i=>s.length-i.1) ⟨0,by omega,rfl⟩ xB (xN) (fun ⟨k,hk,ha⟩=>?_)
 dsimp only
 by_cases hlt:k<s.length
 ·have ql:decide (((k:Nat):Int)<((s.length:Nat):Int))=true:=decide_eq_true (by omega)
  obtain ⟨b,hb⟩:∃ b,s[k]? = some b:=⟨_,List.getElem?_eq_getElem hlt⟩
  have cf:=hf b
  cases hp:p b with
  |true=>
   rw [hp] at cf
   repeat' (first|(refine is_callV ?_;refine KJ_callF rfl xE cf xP rfl (fun _=>?_))|(refine zBj ?_;refine zAb (zAt rfl rfl (by omega) hb) ?_)|(refine zAi ?_;refine zAb (zAd rfl rfl ql) ?_)|refine xst ?_|(refine xsa ?_;intro _)|(refine xsb ?_ ?_ <;>intro _<;>try (exfalso;omega))|refine xsc ?_|fail)
   all_goals exact zAr ⟨k+1,by omega,all_next hb ha hp⟩ (by show s.length-(k+1)<s.length-k;omega) xB (xN)
  |false=>
   rw [hp] at cf
   rw [all_bad hb hp]
   repeat' (first|(refine is_callV ?_;refine KJ_callF rfl xE cf xP rfl (fun _=>?_))|(refine zBj ?_;refine zAb (zAt rfl rfl (by omega) hb) ?_)|(refine zAi ?_;refine zAb (zAd rfl rfl ql) ?_)|refine xst ?_|(refine xsa ?_;intro _)|(refine xsb ?_ ?_ <;>intro _<;>try (exfalso;omega))|refine xsc ?_|fail)
   all_goals (exact xdn ())
 ·have ql:decide (((k:Nat):Int)<((s.length:Nat):Int))=false:=decide_eq_false (by omega)
  have e:k=s.length:=by omega
  subst e
  rw [List.take_length] at ha
  rw [ha]
  repeat' (first|(refine zAi ?_;refine zAb (zAd rfl rfl ql) ?_)|refine xst ?_|(refine xsa ?_;intro _)|(refine xsb ?_ ?_ <;>intro _<;>try (exfalso;omega))|refine xsc ?_|fail)
  all_goals (exact xdn ())
end
end Go.Proofs.YtnbgcimalpdfoaaGreatDoor
namespace Go.Proofs.YtnbgcimalpdfoaaGreatDoor
open Go Go.RowKit
theorem Ev_sub_w {P:Program} {W:World} {n:Nat} {E:Env} {H:List SP} {t u:TypeId} {x y:Operand} {k:IntKind} {i j r:Int} (hx:Env.ev E x=some (.int k i)) (hy:Env.ev E y=some (.int k j)) (h:k.wrap (i-j)=r):Ev P W n E H (.binOp .sub t x y u) (.int k r):=by subst h;exact Ev_sub hx hy
theorem restG_dig {b:UInt8} {l:List UInt8} {r:Nat} (h:digB b=true):restG (b::l) r=restG l ((10*r+(b.toNat-48)) % 97):=by
 show (if digB b=true then _ else _)=_
 rw [if_pos h]
theorem restG_cap {b:UInt8} {l:List UInt8} {r:Nat} (h:digB b=false) (h2:capB b=true):restG (b::l) r=restG l ((100*r+(b.toNat-65)+10) % 97):=by
 show (if digB b=true then _ else if capB b=true then _ else _)=_
 rw [if_neg (by rw [h];decide),if_pos h2]
theorem restG_bad {b:UInt8} {l:List UInt8} {r:Nat} (h:digB b=false) (h2:capB b=false):restG (b::l) r=none:=by
 show (if digB b=true then _ else if capB b=true then _ else _)=_
 rw [if_neg (by rw [h];decide),if_neg (by rw [h2];decide)]
section
variable {W:World} {F:Nat→Addr}
def rstE (q:Option Nat):Nat:=if q.isSome=true then 0 else 7
theorem rest_ct (s:List UInt8) (hs:s.length≤9223372036854775800) (hne:s≠[]) (e7:W.cell? ⟨3,0,none⟩=some (errV F 7)) (q:Option Nat) (hq:restG s 0=q) :
 Ct Tryz.prog W 190 [strV s] [] (fun _:Unit=>.tuple #[.int .i64 (q.getD 0:Nat),errV F (rstE q)]) (fun _=>[]):=by
 refine Ct.enter Tryz.func190 rfl Tryz.ntmps190 (by simp) (fun R=>?_)
 repeat' (first|(refine zAx ?_;refine zAb (Ev_eqlS_f rfl rfl hne) ?_)|refine xst ?_|(refine xsa ?_;intro _)|(refine xsb ?_ ?_ <;>intro _<;>try (exfalso;omega))|refine xsc ?_|(refine zAc (id:=2) plVEX0 (by kernel_rfl) (by kernel_rfl) ?_)|(refine zAc (id:=8) plVEX0 (by kernel_rfl) (by kernel_rfl) ?_)|refine zAm ?_ ?_|refine zAk rfl rfl rfl rfl rfl ?_ ?_|refine zAg ?_ ?_|exact Rech.nil|fail)
 refine zBe (fun i:{x:Nat × Nat//x.1≤s.length∧x.2<97∧restG (s.drop x.1) x.2=q}=>[(0,strV s),(4,.int .i64 (i.1.2:Nat)),(5,.int .i64 (i.1.1:Nat))])
  (fun _=>[]++R) (fun i=>s.length-i.1.1) ⟨(0,0),by omega,by omega,hq⟩ xB (xN) (fun ⟨(k,r),hk,hr,ha⟩=>?_)
 dsimp only at hk hr ha ⊢
 by_cases hlt:k<s.length
 ·have ql:decide (((k:Nat):Int)<((s.length:Nat):Int))=true:=decide_eq_true (by omega)
  obtain ⟨b,hb⟩:∃ b,s[k]? = some b:=⟨_,List.getElem?_eq_getElem hlt⟩
  rw [drop_get hb] at ha
  have hb8:b.toNat<256:=b.toNat_lt
  have cd:=isdig_ct (W:=W) b
  cases h1:digB b with
  |true=>
   rw [h1] at cd
   have hd:=h1
   unfold digB at hd
   simp only [Bool.and_eq_true,decide_eq_true_eq] at hd
   have w1:IntKind.u8.wrap ((b.toNat:Int)-48)=((b.toNat-48:Nat):Int):=by
    simp only [IntKind.wrap,IntKind.signed,IntKind.bits];simp;omega
   have m1:(10*((r:Nat):Int)+((b.toNat-48:Nat):Int)) % 97=(((10*r+(b.toNat-48)) % 97:Nat):Int):=by omega
   repeat' (first|(refine zAe ?_;refine zAa xE cd xP rfl (fun _=>?_))|(refine zBj ?_;refine zAb (zAt rfl rfl (by omega) hb) ?_)|(refine ek_sub ?_;refine zAb (Ev_sub_w rfl rfl w1) ?_)|(refine ek_rem ?_;refine zAb (Ev_rem_w rfl rfl (by omega) m1) ?_)|(refine zAi ?_;refine zAb (zAd rfl rfl ql) ?_)|refine xst ?_|(refine xsa ?_;intro _)|(refine xsb ?_ ?_ <;>intro _<;>try (exfalso;omega))|refine xsc ?_|(refine zAc (id:=2) plVEX0 (by kernel_rfl) (by kernel_rfl) ?_)|(refine zAc (id:=8) plVEX0 (by kernel_rfl) (by kernel_rfl) ?_)|refine zAm ?_ ?_|refine zAk rfl rfl rfl rfl rfl ?_ ?_|refine zAg ?_ ?_|exact Rech.nil|fail)
   all_goals exact zAr ⟨(k+1,(10*r+(b.toNat-48)) % 97),by show k+1≤s.length;omega,Nat.mod_lt _ (by omega),by rw [← ha,restG_dig h1]⟩ (by show s.length-(k+1)<s.length-k;omega) xB (xN)
  |false=>
   rw [h1] at cd
   cases h2:capB b with
   |true=>
    have hd:=h2
    unfold capB at hd
    simp only [Bool.and_eq_true,decide_eq_true_eq] at hd
    have q1:decide ((65:Int)≤(b.toNat:Int))=true:=decide_eq_true (by omega)
    have q2:decide ((b.toNat:Int)≤90)=true:=decide_eq_true (by omega)
    have w1:IntKind.u8.wrap ((b.toNat:Int)-65)=((b.toNat-65:Nat):Int):=by
     simp only [IntKind.wrap,IntKind.signed,IntKind.bits];simp;omega
    have m1:(100*((r:Nat):Int)+((b.toNat-65:Nat):Int)+10) % 97=(((100*r+(b.toNat-65)+10) % 97:Nat):Int):=by omega
    repeat' (first|(refine zAe ?_;refine zAa xE cd xP rfl (fun _=>?_))|(refine zBj ?_;refine zAb (zAt rfl rfl (by omega) hb) ?_)|(refine ek_sub ?_;refine zAb (Ev_sub_w rfl rfl w1) ?_)|(refine ek_rem ?_;refine zAb (Ev_rem_w rfl rfl (by omega) m1) ?_)|(refine zAi ?_;refine zAb (zAd rfl rfl ql) ?_)|(refine ek_leq ?_;refine zAb (zBf rfl rfl q2) ?_)|(refine zCa ?_;refine zAb (zAv rfl rfl q1) ?_)|refine xst ?_|(refine xsa ?_;intro _)|(refine xsb ?_ ?_ <;>intro _<;>try (exfalso;omega))|refine xsc ?_|(refine zAc (id:=2) plVEX0 (by kernel_rfl) (by kernel_rfl) ?_)|(refine zAc (id:=8) plVEX0 (by kernel_rfl) (by kernel_rfl) ?_)|refine zAm ?_ ?_|refine zAk rfl rfl rfl rfl rfl ?_ ?_|refine zAg ?_ ?_|exact Rech.nil|fail)
    all_goals exact zAr ⟨(k+1,(100*r+(b.toNat-65)+10) % 97),by show k+1≤s.length;omega,Nat.mod_lt _ (by omega),by rw [← ha,restG_cap h1 h2]⟩ (by show s.length-(k+1)<s.length-k;omega) xB (xN)
   |false=>
    rw [restG_bad h1 h2] at ha
    subst ha
    cases q1:decide ((65:Int)≤(b.toNat:Int)) <;> cases q2:decide ((b.toNat:Int)≤90)
    case true.true=>
     exfalso
     have a1:=of_decide_eq_true q1
     have a2:=of_decide_eq_true q2
     unfold capB at h2
     rw [decide_eq_true (show 65≤b.toNat by omega),decide_eq_true (show b.toNat≤90 by omega)] at h2
     cases h2
    all_goals repeat' (first|(refine zAe ?_;refine zAa xE cd xP rfl (fun _=>?_))|(refine zAp ?_;refine zAb (zAq rfl e7) ?_)|(refine zBj ?_;refine zAb (zAt rfl rfl (by omega) hb) ?_)|(refine zAi ?_;refine zAb (zAd rfl rfl ql) ?_)|(refine ek_leq ?_;refine zAb (zBf rfl rfl q2) ?_)|(refine zCa ?_;refine zAb (zAv rfl rfl q1) ?_)|refine xst ?_|(refine xsa ?_;intro _)|(refine xsb ?_ ?_ <;>intro _<;>try (exfalso;omega))|refine xsc ?_|(refine zAc (id:=2) plVEX0 (by kernel_rfl) (by kernel_rfl) ?_)|(refine zAc (id:=8) plVEX0 (by kernel_rfl) (by kernel_rfl) ?_)|refine zAm ?_ ?_|refine zAk rfl rfl rfl rfl rfl ?_ ?_|refine zAg ?_ ?_|exact Rech.nil|fail)
    all_goals (exact xdn ())
 ·have ql:decide (((k:Nat):Int)<((s.length:Nat):Int))=false:=decide_eq_false (by omega)
  have e:k=s.length:=by omega
  subst e
  rw [List.drop_length] at ha
  have ha:some r=q:=ha
  subst ha
  repeat' (first|(refine zAi ?_;refine zAb (zAd rfl rfl ql) ?_)|refine xst ?_|(refine xsa ?_;intro _)|(refine xsb ?_ ?_ <;>intro _<;>try (exfalso;omega))|refine xsc ?_|(refine zAc (id:=2) plVEX0 (by kernel_rfl) (by kernel_rfl) ?_)|(refine zAc (id:=8) plVEX0 (by kernel_rfl) (by kernel_rfl) ?_)|refine zAm ?_ ?_|refine zAk rfl rfl rfl rfl rfl ?_ ?_|refine zAg ?_ ?_|exact Rech.nil|fail)
  all_goals (exact xdn ())
end
end Go.Proofs.YtnbgcimalpdfoaaGreatDoor
namespace Go.Proofs.YtnbgcimalpdfoaaGreatDoor
open Go Go.RowKit
def partsB (c b:List UInt8):Bool:=decide (c.length=2) && c.all capB && decide (1≤b.length) && decide (b.length≤30) && b.all fun x=>capB x || digB x
def kindT (k:Nat):List UInt8:=kinds4.getD k []
def sysT (k:Nat) (c:List UInt8):List UInt8:=if codeB c=true then kindT k++c else []
theorem u8_of (m:Nat):IntKind.u8.wrap ((m:Nat):Int)=((UInt8.ofNat m).toNat:Int):=by
 simp only [IntKind.wrap,IntKind.signed,IntKind.bits,UInt8.toNat_ofNat']
 simp
section
variable {W:World} {F:Nat→Addr}
theorem digits_ct (s:List UInt8) (hs:s.length≤2000000) (hne:s≠[]) (e7:W.cell? ⟨3,0,none⟩=some (errV F 7)) (q:Option Nat) (hq:restG (s++[48,48]) 0=q) :
 Ct Tryz.prog W 138 [strV s] [] (fun _:Unit=>.tuple #[strV ((q.map dig2).getD []),errV F (rstE q)]) (fun _=>[]):=by
 have cr:=rest_ct (W:=W) (F:=F) (s++[48,48]) (by rw [List.length_append];simp;omega) (by simp) e7 q hq
 cases q with
 |none=>
  have hne2:=errNe (F:=F) (show (7:Nat)≠0 by decide)
  have cr:Ct Tryz.prog W 190 [strV (s++[48,48])] [] (fun _:Unit=>.tuple #[.int .i64 0,errV F 7]) (fun _=>[]):=cr
  refine Ct.enter Tryz.func138 rfl Tryz.ntmps138 (by simp) (fun R=>?_)
  repeat' (first|(refine zAe ?_;refine zAa xE cr xP rfl (fun _=>?_))|(refine zAu ?_;refine zAb (Ev_addS (a:=s) (b:=[48,48]) rfl rfl (by simp;omega)) ?_)|(refine zAx ?_;refine zAb (Ev_eqlS_f rfl rfl hne) ?_)|(refine zBc ?_;refine zAb (zCh rfl hne2) ?_)|refine xst ?_|(refine xsa ?_;intro _)|(refine xsb ?_ ?_ <;>intro _<;>try (exfalso;omega))|refine xsc ?_|(refine zAc (id:=2) plVEX0 (by kernel_rfl) (by kernel_rfl) ?_)|refine zAm ?_ ?_|refine zAk rfl rfl rfl rfl rfl ?_ ?_|refine zAg ?_ ?_|exact Rech.nil|fail)
  all_goals (exact xdn ())
 |some r=>
  have hr:=restG_lt _ (by omega) hq
  have cr:Ct Tryz.prog W 190 [strV (s++[48,48])] [] (fun _:Unit=>.tuple #[.int .i64 ((r:Nat):Int),errV F 0]) (fun _=>[]):=cr
  have w1:IntKind.u8.wrap (48+(98-((r:Nat):Int)) / 10)=((UInt8.ofNat (48+(98-r) / 10)).toNat:Int):=by
   rw [← u8_of];congr 1;omega
  have w2:IntKind.u8.wrap (48+(98-((r:Nat):Int)) % 10)=((UInt8.ofNat (48+(98-r) % 10)).toNat:Int):=by
   rw [← u8_of];congr 1;omega
  refine Ct.enter Tryz.func138 rfl Tryz.ntmps138 (by simp) (fun R=>?_)
  repeat' (first|(refine zAe ?_;refine zAa xE cr xP rfl (fun _=>?_))|(refine zAw ?_;refine KJ_bsliceN (len:=2) (places:=[(0,1),(1,1)]) (base:=[.int .u8 0,.int .u8 0]) xV (by rfl) (by rfl) xW (by omega) rfl (fun gb=>?_))|(refine zBi ?_;first|refine zAb (zAs rfl w2) ?_|refine zAb (zAs rfl w1) ?_|refine zAb (Ev_bytesStr0 (l:=dig2 r) rfl xS rfl) ?_)|(refine zAu ?_;refine zAb (Ev_addS (a:=s) (b:=[48,48]) rfl rfl (by simp;omega)) ?_)|(refine zAx ?_;refine zAb (Ev_eqlS_f rfl rfl hne) ?_)|refine xst ?_|(refine xsa ?_;intro _)|(refine xsb ?_ ?_ <;>intro _<;>try (exfalso;omega))|refine xsc ?_|(refine zAc (id:=2) plVEX0 (by kernel_rfl) (by kernel_rfl) ?_)|refine zAm ?_ ?_|refine zAk rfl rfl rfl rfl rfl ?_ ?_|refine zAg ?_ ?_|exact Rech.nil|fail)
  all_goals (exact xdn ())
theorem plain_ct (s:List UInt8) (hs:s.length≤2000000):Ct Tryz.prog W 189 [strV s] [] (fun _:Unit=>.bool (s.all fun x=>capB x || digB x)) (fun _=>[]):=by
 have ca:=iall_ct (W:=W) (f:=220) (p:=fun x=>capB x || digB x) s (by omega) (fun b=>iplain_ct b)
 refine Ct.enter Tryz.func189 rfl Tryz.ntmps189 (by simp) (fun R=>?_)
 repeat' (first|(refine zAe ?_;refine zAa xE ca xP rfl (fun _=>?_))|refine xst ?_|(refine xsa ?_;intro _)|(refine xsb ?_ ?_ <;>intro _<;>try (exfalso;omega))|refine xsc ?_|fail)
 all_goals (exact xdn ())
theorem parts_ct (c b:List UInt8) (hc:c.length≤2000000) (hb:b.length≤2000000):Ct Tryz.prog W 135 [strV c,strV b] [] (fun _:Unit=>.bool (partsB c b)) (fun _=>[]):=by
 have c1:=iall_ct (W:=W) (f:=188) (p:=capB) c (by omega) (fun b=>icap_ct b)
 have c2:=plain_ct (W:=W) b hb
 obtain ⟨r,hr⟩:∃ r,r=partsB c b:=⟨_,rfl⟩
 rw [← hr]
 unfold partsB at hr
 cases h1:decide (c.length=2)
 ·rw [h1] at hr
  have hr:r=false:=by simpa using hr
  subst hr
  have q1:decide (((c.length:Nat):Int)=2)=false:=dec_r h1 (by omega)
  refine Ct.enter Tryz.func135 rfl Tryz.ntmps135 (by simp) (fun R=>?_)
  repeat' (first|(refine zAx ?_;refine zAb (zAf rfl rfl q1) ?_)|refine xst ?_|(refine xsa ?_;intro _)|(refine xsb ?_ ?_ <;>intro _<;>try (exfalso;omega))|refine xsc ?_|fail)
  all_goals (exact xdn ())
 have q1:decide (((c.length:Nat):Int)=2)=true:=dec_r h1 (by omega)
 cases h2:c.all capB
 ·rw [h1,h2] at hr
  have hr:r=false:=by simpa using hr
  subst hr
  rw [h2] at c1
  refine Ct.enter Tryz.func135 rfl Tryz.ntmps135 (by simp) (fun R=>?_)
  repeat' (first|(refine zAe ?_;refine zAa xE c1 xP rfl (fun _=>?_))|(refine zAx ?_;refine zAb (zAf rfl rfl q1) ?_)|refine xst ?_|(refine xsa ?_;intro _)|(refine xsb ?_ ?_ <;>intro _<;>try (exfalso;omega))|refine xsc ?_|fail)
  all_goals (exact xdn ())
 rw [h2] at c1
 cases h3:decide (1≤b.length)
 ·rw [h1,h2,h3] at hr
  have hr:r=false:=by simpa using hr
  subst hr
  have q3:decide ((1:Int)≤((b.length:Nat):Int))=false:=dec_r h3 (by omega)
  refine Ct.enter Tryz.func135 rfl Tryz.ntmps135 (by simp) (fun R=>?_)
  repeat' (first|(refine zAe ?_;refine zAa xE c1 xP rfl (fun _=>?_))|(refine zAx ?_;refine zAb (zAf rfl rfl q1) ?_)|(refine zCa ?_;refine zAb (zAv rfl rfl q3) ?_)|refine xst ?_|(refine xsa ?_;intro _)|(refine xsb ?_ ?_ <;>intro _<;>try (exfalso;omega))|refine xsc ?_|fail)
  all_goals (exact xdn ())
 have q3:decide ((1:Int)≤((b.length:Nat):Int))=true:=dec_r h3 (by omega)
 cases h4:decide (b.length≤30)
 ·rw [h1,h2,h3,h4] at hr
  have hr:r=false:=by simpa using hr
  subst hr
  have q4:decide (((b.length:Nat):Int)≤30)=false:=dec_r h4 (by omega)
  refine Ct.enter Tryz.func135 rfl Tryz.ntmps135 (by simp) (fun R=>?_)
  repeat' (first|(refine zAe ?_;refine zAa xE c1 xP rfl (fun _=>?_))|(refine zAx ?_;refine zAb (zAf rfl rfl q1) ?_)|(refine ek_leq ?_;refine zAb (zBf rfl rfl q4) ?_)|(refine zCa ?_;refine zAb (zAv rfl rfl q3) ?_)|refine xst ?_|(refine xsa ?_;intro _)|(refine xsb ?_ ?_ <;>intro _<;>try (exfalso;omega))|refine xsc ?_|fail)
  all_goals (exact xdn ())
 have q4:decide (((b.length:Nat):Int)≤30)=true:=dec_r h4 (by omega)
 rw [h1,h2,h3,h4] at hr
 have hr:r=b.all fun x=>capB x || digB x:=by simpa using hr
 rw [← hr] at c2
 refine Ct.enter Tryz.func135 rfl Tryz.ntmps135 (by simp) (fun R=>?_)
 repeat' (first|(refine zAe ?_;first|(refine zAa xE c2 xP rfl (fun _=>?_))|(refine zAa xE c1 xP rfl (fun _=>?_)))|(refine zAx ?_;refine zAb (zAf rfl rfl q1) ?_)|(refine ek_leq ?_;refine zAb (zBf rfl rfl q4) ?_)|(refine zCa ?_;refine zAb (zAv rfl rfl q3) ?_)|refine xst ?_|(refine xsa ?_;intro _)|(refine xsb ?_ ?_ <;>intro _<;>try (exfalso;omega))|refine xsc ?_|fail)
 all_goals (exact xdn ())
theorem code_ct (s:List UInt8) (hs:s.length≤2000000):Ct Tryz.prog W 86 [strV s] [] (fun _:Unit=>.bool (codeB s)) (fun _=>[]):=by
 obtain ⟨r,hr⟩:∃ r,r=codeB s:=⟨_,rfl⟩
 rw [← hr]
 unfold codeB at hr
 refine Ct.enter Tryz.func86 rfl Tryz.ntmps86 (by simp) (fun R=>?_)
 repeat' (first|refine xst ?_|(refine xsa ?_;intro _)|(refine xsb ?_ ?_ <;>intro _<;>try (exfalso;omega))|refine xsc ?_|fail)
 refine zBe (fun i:{k:Nat//k≤s.length∧(s.take k).all capB=true}=>[(0,strV s),(5,.int .i64 (s.length:Nat)),(6,.int .i64 (i.1:Nat))])
  (fun _=>[]++R) (fun i=>s.length-i.1) ⟨0,by omega,rfl⟩ xB (xN) (fun ⟨k,hk,ha⟩=>?_)
 dsimp only
 by_cases hlt:k<s.length
 ·have ql:decide (((k:Nat):Int)<((s.length:Nat):Int))=true:=decide_eq_true (by omega)
  obtain ⟨b,hb⟩:∃ b,s[k]? = some b:=⟨_,List.getElem?_eq_getElem hlt⟩
  cases q1:decide ((b.toNat:Int)<65) with
  |true=>
   have hp:capB b=false:=by have:=of_decide_eq_true q1;unfold capB;rw [decide_eq_false (by omega)];rfl
   rw [all_bad hb hp,Bool.and_false] at hr
   subst hr
   repeat' (first|(refine zBj ?_;refine zAb (zAt rfl rfl (by omega) hb) ?_)|(refine zAi ?_;first|refine zAb (zAd rfl rfl q1) ?_|refine zAb (zAd rfl rfl ql) ?_)|refine xst ?_|(refine xsa ?_;intro _)|(refine xsb ?_ ?_ <;>intro _<;>try (exfalso;omega))|refine xsc ?_|fail)
   all_goals (exact xdn ())
  |false=>
   cases q2:decide ((90:Int)<(b.toNat:Int)) with
   |true=>
    have hp:capB b=false:=by have:=of_decide_eq_true q2;unfold capB;rw [decide_eq_false (show ¬ b.toNat≤90 by omega),Bool.and_false]
    rw [all_bad hb hp,Bool.and_false] at hr
    subst hr
    repeat' (first|(refine zBj ?_;refine zAb (zAt rfl rfl (by omega) hb) ?_)|(refine zAi ?_;first|refine zAb (zAd rfl rfl q1) ?_|refine zAb (zAd rfl rfl ql) ?_)|(refine zAz ?_;refine zAb (zAj rfl rfl q2) ?_)|refine xst ?_|(refine xsa ?_;intro _)|(refine xsb ?_ ?_ <;>intro _<;>try (exfalso;omega))|refine xsc ?_|fail)
    all_goals (exact xdn ())
   |false=>
    have hp:capB b=true:=by have:=of_decide_eq_false q1;have:=of_decide_eq_false q2;unfold capB;rw [decide_eq_true (show 65≤b.toNat by omega),decide_eq_true (show b.toNat≤90 by omega)];rfl
    repeat' (first|(refine zBj ?_;refine zAb (zAt rfl rfl (by omega) hb) ?_)|(refine zAi ?_;first|refine zAb (zAd rfl rfl q1) ?_|refine zAb (zAd rfl rfl ql) ?_)|(refine zAz ?_;refine zAb (zAj rfl rfl q2) ?_)|refine xst ?_|(refine xsa ?_;intro _)|(refine xsb ?_ ?_ <;>intro _<;>try (exfalso;omega))|refine xsc ?_|fail)
    all_goals exact zAr ⟨k+1,by omega,all_next hb ha hp⟩ (by show s.length-(k+1)<s.length-k;omega) xB (xN)
 ·have ql:decide (((k:Nat):Int)<((s.length:Nat):Int))=false:=decide_eq_false (by omega)
  have e:k=s.length:=by omega
  subst e
  rw [List.take_length] at ha
  rw [ha,Bool.and_true] at hr
  have q3:decide (((s.length:Nat):Int)=3)=r:=by rw [hr];exact decide_eq_decide.2 (by omega)
  repeat' (first|(refine zAx ?_;refine zAb (zAf rfl rfl q3) ?_)|(refine zAi ?_;refine zAb (zAd rfl rfl ql) ?_)|refine xst ?_|(refine xsa ?_;intro _)|(refine xsb ?_ ?_ <;>intro _<;>try (exfalso;omega))|refine xsc ?_|fail)
  all_goals (exact xdn ())
theorem system_ct (k:Nat) (hk:k<4) (c:List UInt8) (hs:c.length≤2000000):Ct Tryz.prog W 88 [.int .i64 ((k+2:Nat):Int),strV c] [] (fun _:Unit=>strV (sysT k c)) (fun _=>[]):=by
 have cc:=code_ct (W:=W) c hs
 unfold sysT
 cases h:codeB c with
 |false=>
  rw [h] at cc
  rw [if_neg (by decide)]
  refine Ct.enter Tryz.func88 rfl Tryz.ntmps88 (by simp) (fun R=>?_)
  repeat' (first|(refine zAe ?_;refine zAa xE cc xP rfl (fun _=>?_))|refine xst ?_|(refine xsa ?_;intro _)|(refine xsb ?_ ?_ <;>intro _<;>try (exfalso;omega))|refine xsc ?_|fail)
  all_goals (exact xdn ())
 |true=>
  rw [h] at cc
  rw [if_pos rfl]
  match k,hk with
  |0,_=>
   refine Ct.enter Tryz.func88 rfl Tryz.ntmps88 (by simp) (fun R=>?_)
   repeat' (first|(refine zAe ?_;refine zAa xE cc xP rfl (fun _=>?_))|(refine zAu ?_;refine zAb (Ev_addS (a:=kindT 0) (b:=c) rfl rfl (by show 8+c.length≤_;omega)) ?_)|refine xst ?_|(refine xsa ?_;intro _)|(refine xsb ?_ ?_ <;>intro _<;>try (exfalso;omega))|refine xsc ?_|fail)
   all_goals (exact xdn ())
  |1,_=>
   refine Ct.enter Tryz.func88 rfl Tryz.ntmps88 (by simp) (fun R=>?_)
   repeat' (first|(refine zAe ?_;refine zAa xE cc xP rfl (fun _=>?_))|(refine zAu ?_;refine zAb (Ev_addS (a:=kindT 1) (b:=c) rfl rfl (by show 9+c.length≤_;omega)) ?_)|refine xst ?_|(refine xsa ?_;intro _)|(refine xsb ?_ ?_ <;>intro _<;>try (exfalso;omega))|refine xsc ?_|fail)
   all_goals (exact xdn ())
  |2,_=>
   refine Ct.enter Tryz.func88 rfl Tryz.ntmps88 (by simp) (fun R=>?_)
   repeat' (first|(refine zAe ?_;refine zAa xE cc xP rfl (fun _=>?_))|(refine zAu ?_;refine zAb (Ev_addS (a:=kindT 2) (b:=c) rfl rfl (by show 9+c.length≤_;omega)) ?_)|refine xst ?_|(refine xsa ?_;intro _)|(refine xsb ?_ ?_ <;>intro _<;>try (exfalso;omega))|refine xsc ?_|fail)
   all_goals (exact xdn ())
  |3,_=>
   refine Ct.enter Tryz.func88 rfl Tryz.ntmps88 (by simp) (fun R=>?_)
   repeat' (first|(refine zAe ?_;refine zAa xE cc xP rfl (fun _=>?_))|(refine zAu ?_;refine zAb (Ev_addS (a:=kindT 3) (b:=c) rfl rfl (by show 5+c.length≤_;omega)) ?_)|refine xst ?_|(refine xsa ?_;intro _)|(refine xsb ?_ ?_ <;>intro _<;>try (exfalso;omega))|refine xsc ?_|fail)
   all_goals (exact xdn ())
end
end Go.Proofs.YtnbgcimalpdfoaaGreatDoor
namespace Go.Proofs.YtnbgcimalpdfoaaGreatDoor
open Go Go.RowKit
theorem Ev_sliceTo_p {P:Program} {W:World} {n:Nat} {E:Env} {H:List SP} {t:TypeId} {x z:Operand} {l r:List UInt8} {j:Int} {kj:IntKind} (hx:Env.ev E x=some (strV l)) (hz:Env.ev E z=some (.int kj j)) [hu:UIs P t .string] (hb:0≤j∧j≤l.length) (h:l.take j.toNat=r):Ev P W n E H (.slice t x none (some z) none) (strV r):=by subst h;exact Ev_sliceStrTo hx hz hb
theorem Ev_sliceFrom_p {P:Program} {W:World} {n:Nat} {E:Env} {H:List SP} {t:TypeId} {x y:Operand} {l r:List UInt8} {i:Int} {ki:IntKind} (hx:Env.ev E x=some (strV l)) (hy:Env.ev E y=some (.int ki i)) [hu:UIs P t .string] (hb:0≤i∧i≤l.length) (h:l.drop i.toNat=r):Ev P W n E H (.slice t x (some y) none none) (strV r):=by subst h;exact Ev_sliceStrFrom hx hy hb
end Go.Proofs.YtnbgcimalpdfoaaGreatDoor
namespace Go.Proofs.YtnbgcimalpdfoaaGreatDoor
open Go Go.RowKit
theorem formA_eq (s:List UInt8):formA s=(decide (4≤s.length) && partsB (s.take 2) (s.drop 4) && ((s.drop 2).take 2).all digB):=by
 unfold formA partsB
 rw [List.length_take,List.length_drop]
 by_cases h:4≤s.length
 ·have e1:decide (min 2 s.length=2)=true:=decide_eq_true (by omega)
  have e2:decide (1≤s.length-4)=decide (5≤s.length):=decide_eq_decide.2 (by omega)
  have e3:decide (s.length-4≤30)=decide (s.length≤34):=decide_eq_decide.2 (by omega)
  rw [e1,e2,e3,decide_eq_true h]
  cases decide (5≤s.length) <;> cases decide (s.length≤34) <;> cases (s.take 2).all capB <;> cases ((s.drop 2).take 2).all digB <;> cases (s.drop 4).all (fun x=>capB x || digB x) <;> rfl
 ·rw [decide_eq_false h,decide_eq_false (show ¬ 5≤s.length by omega)];rfl
theorem body_some {s:List UInt8} (h:formA s=true):∃ r,restG (s.drop 4++s.take 2++[48,48]) 0=some r:=by
 have hh:=restG_all (s.drop 4++s.take 2++[48,48]) 0
 unfold formA at h
 simp only [Bool.and_eq_true,decide_eq_true_eq] at h
 have e:((s.drop 4++s.take 2++[48,48]).all fun b=>digB b || capB b)=true:=by
  rw [List.all_append,List.all_append]
  have a1:((s.drop 4).all fun b=>digB b || capB b)=true:=by
   rw [List.all_eq_true]
   exact fun x hx=>by rw [Bool.or_comm];exact List.all_eq_true.1 h.2 x hx
  have a2:((s.take 2).all fun b=>digB b || capB b)=true:=by
   rw [List.all_eq_true]
   exact fun x hx=>by rw [List.all_eq_true.1 h.1.1.2 x hx,Bool.or_true]
  rw [a1,a2];rfl
 rw [e] at hh
 exact Option.isSome_iff_exists.1 hh
section
variable {W:World} {F:Nat→Addr}
theorem icheck_ct (s:List UInt8) (hs:s.length≤2000000) (e7:W.cell? ⟨3,0,none⟩=some (errV F 7)) (e8:W.cell? ⟨19,0,none⟩=some (errV F 8)) :
 Ct Tryz.prog W 85 [strV s] [] (fun _:Unit=>errV F (accE s)) (fun _=>[]):=by
 by_cases h4:4≤s.length
 case neg=>
  have e:accE s=7:=by unfold accE;rw [if_pos];rw [formA_eq,decide_eq_false h4];rfl
  rw [e]
  have q:decide (((s.length:Nat):Int)<4)=true:=decide_eq_true (by omega)
  refine Ct.enter Tryz.func85 rfl Tryz.ntmps85 (by simp) (fun R=>?_)
  repeat' (first|(refine zAp ?_;refine zAb (zAq rfl e7) ?_)|(refine zAi ?_;refine zAb (zAd rfl rfl q) ?_)|refine xst ?_|(refine xsa ?_;intro _)|(refine xsb ?_ ?_ <;>intro _<;>try (exfalso;omega))|refine xsc ?_|(refine zAc (id:=1) plVEX1 (by kernel_rfl) (by kernel_rfl) ?_)|(refine zAc (id:=3) plVEX2 (by kernel_rfl) (by kernel_rfl) ?_)|refine zAm ?_ ?_|refine zAk rfl rfl rfl rfl rfl ?_ ?_|refine zAg ?_ ?_|exact Rech.nil|fail)
  all_goals (exact xdn ())
 have q4:decide (((s.length:Nat):Int)<4)=false:=decide_eq_false (by omega)
 have s1:s.take (2:Int).toNat=s.take 2:=rfl
 have s2:s.drop (4:Int).toNat=s.drop 4:=rfl
 have s3:(s.take (4:Int).toNat).drop (2:Int).toNat=(s.drop 2).take 2:=by
  show (s.take 4).drop 2=_
  rw [List.drop_take]
 have cp:=parts_ct (W:=W) (s.take 2) (s.drop 4) (by rw [List.length_take];omega) (by rw [List.length_drop];omega)
 have ca:=iall_ct (W:=W) (f:=137) (p:=digB) ((s.drop 2).take 2) (by rw [List.length_take];omega) (fun b=>idig_ct b)
 have hform:=formA_eq s
 rw [decide_eq_true h4,Bool.true_and] at hform
 cases hp:partsB (s.take 2) (s.drop 4) with
 |false=>
  rw [hp] at cp hform
  rw [Bool.false_and] at hform
  have e:accE s=7:=by unfold accE;rw [if_pos hform]
  rw [e]
  refine Ct.enter Tryz.func85 rfl Tryz.ntmps85 (by simp) (fun R=>?_)
  repeat' (first|(refine zAe ?_;refine zAa xE cp xP rfl (fun _=>?_))|(refine zAp ?_;refine zAb (zAq rfl e7) ?_)|(refine zCb ?_;first|refine zAb (Ev_sliceFrom_p rfl rfl (by omega) s2) ?_|refine zAb (Ev_sliceTo_p rfl rfl (by omega) s1) ?_)|(refine zAi ?_;refine zAb (zAd rfl rfl q4) ?_)|refine xst ?_|(refine xsa ?_;intro _)|(refine xsb ?_ ?_ <;>intro _<;>try (exfalso;omega))|refine xsc ?_|(refine zAc (id:=1) plVEX1 (by kernel_rfl) (by kernel_rfl) ?_)|(refine zAc (id:=3) plVEX2 (by kernel_rfl) (by kernel_rfl) ?_)|refine zAm ?_ ?_|refine zAk rfl rfl rfl rfl rfl ?_ ?_|refine zAg ?_ ?_|exact Rech.nil|fail)
  all_goals (exact xdn ())
 |true=>
  rw [hp] at cp hform
  rw [Bool.true_and] at hform
  cases hd:((s.drop 2).take 2).all digB with
  |false=>
   rw [hd] at ca hform
   have e:accE s=7:=by unfold accE;rw [if_pos hform]
   rw [e]
   refine Ct.enter Tryz.func85 rfl Tryz.ntmps85 (by simp) (fun R=>?_)
   repeat' (first|(refine zAe ?_;first|(refine zAa xE ca xP rfl (fun _=>?_))|(refine zAa xE cp xP rfl (fun _=>?_)))|(refine zAp ?_;refine zAb (zAq rfl e7) ?_)|(refine zCb ?_;first|refine zAb (Ev_sliceStr_t rfl rfl rfl (by omega) s3) ?_|refine zAb (Ev_sliceFrom_p rfl rfl (by omega) s2) ?_|refine zAb (Ev_sliceTo_p rfl rfl (by omega) s1) ?_)|(refine zAi ?_;refine zAb (zAd rfl rfl q4) ?_)|refine xst ?_|(refine xsa ?_;intro _)|(refine xsb ?_ ?_ <;>intro _<;>try (exfalso;omega))|refine xsc ?_|(refine zAc (id:=1) plVEX1 (by kernel_rfl) (by kernel_rfl) ?_)|(refine zAc (id:=3) plVEX2 (by kernel_rfl) (by kernel_rfl) ?_)|refine zAm ?_ ?_|refine zAk rfl rfl rfl rfl rfl ?_ ?_|refine zAg ?_ ?_|exact Rech.nil|fail)
   all_goals (exact xdn ())
  |true=>
   rw [hd] at ca hform
   have h5:5≤s.length:=by
    have:=hform
    unfold formA at this
    simp only [Bool.and_eq_true,decide_eq_true_eq] at this
    omega
   obtain ⟨r,hr⟩:=body_some hform
   have hne:s.drop 4++s.take 2≠[]:=by
    intro q
    have:=congrArg List.length q
    rw [List.length_append,List.length_drop] at this
    simp at this;omega
   have cd:Ct Tryz.prog W 138 [strV (s.drop 4++s.take 2)] [] (fun _:Unit=>.tuple #[strV (dig2 r),errV F 0]) (fun _=>[]):=digits_ct (W:=W) (F:=F) (s.drop 4++s.take 2) (by rw [List.length_append,List.length_drop,List.length_take];omega) hne e7 (some r) hr
   have hdig:digits2 (s.drop 4++s.take 2)=some (dig2 r):=by unfold digits2;rw [if_neg hne,hr];rfl
   by_cases hx:dig2 r=(s.drop 2).take 2
   ·have e:accE s=0:=by unfold accE;rw [if_neg (by rw [hform];decide),if_pos (by rw [hdig,hx])]
    rw [e]
    refine Ct.enter Tryz.func85 rfl Tryz.ntmps85 (by simp) (fun R=>?_)
    repeat' (first|(refine zAe ?_;first|(refine zAa xE cd xP rfl (fun _=>?_))|(refine zAa xE ca xP rfl (fun _=>?_))|(refine zAa xE cp xP rfl (fun _=>?_)))|(refine zCb ?_;first|refine zAb (Ev_sliceStr_t rfl rfl rfl (by omega) s3) ?_|refine zAb (Ev_sliceFrom_p rfl rfl (by omega) s2) ?_|refine zAb (Ev_sliceTo_p rfl rfl (by omega) s1) ?_)|(refine zAu ?_;refine zAb (Ev_addS rfl rfl (by rw [List.length_drop,List.length_take];omega)) ?_)|(refine zBc ?_;refine zAb (Ev_neqS_f rfl rfl hx) ?_)|(refine zAi ?_;refine zAb (zAd rfl rfl q4) ?_)|refine xst ?_|(refine xsa ?_;intro _)|(refine xsb ?_ ?_ <;>intro _<;>try (exfalso;omega))|refine xsc ?_|(refine zAc (id:=1) plVEX1 (by kernel_rfl) (by kernel_rfl) ?_)|(refine zAc (id:=3) plVEX2 (by kernel_rfl) (by kernel_rfl) ?_)|refine zAm ?_ ?_|refine zAk rfl rfl rfl rfl rfl ?_ ?_|refine zAg ?_ ?_|exact Rech.nil|fail)
    all_goals (exact xdn ())
   ·have e:accE s=8:=by unfold accE;rw [if_neg (by rw [hform];decide),if_neg (by rw [hdig];exact fun q=>hx (Option.some.inj q))]
    rw [e]
    refine Ct.enter Tryz.func85 rfl Tryz.ntmps85 (by simp) (fun R=>?_)
    repeat' (first|(refine zAe ?_;first|(refine zAa xE cd xP rfl (fun _=>?_))|(refine zAa xE ca xP rfl (fun _=>?_))|(refine zAa xE cp xP rfl (fun _=>?_)))|(refine zAp ?_;refine zAb (zAq rfl e8) ?_)|(refine zCb ?_;first|refine zAb (Ev_sliceStr_t rfl rfl rfl (by omega) s3) ?_|refine zAb (Ev_sliceFrom_p rfl rfl (by omega) s2) ?_|refine zAb (Ev_sliceTo_p rfl rfl (by omega) s1) ?_)|(refine zAu ?_;refine zAb (Ev_addS rfl rfl (by rw [List.length_drop,List.length_take];omega)) ?_)|(refine zBc ?_;refine zAb (Ev_neqS_t rfl rfl hx) ?_)|(refine zAi ?_;refine zAb (zAd rfl rfl q4) ?_)|refine xst ?_|(refine xsa ?_;intro _)|(refine xsb ?_ ?_ <;>intro _<;>try (exfalso;omega))|refine xsc ?_|(refine zAc (id:=1) plVEX1 (by kernel_rfl) (by kernel_rfl) ?_)|(refine zAc (id:=3) plVEX2 (by kernel_rfl) (by kernel_rfl) ?_)|refine zAm ?_ ?_|refine zAk rfl rfl rfl rfl rfl ?_ ?_|refine zAg ?_ ?_|exact Rech.nil|fail)
    all_goals (exact xdn ())
end
end Go.Proofs.YtnbgcimalpdfoaaGreatDoor
