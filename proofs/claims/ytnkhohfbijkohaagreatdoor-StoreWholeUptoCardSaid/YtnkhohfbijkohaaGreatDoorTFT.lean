/-
  RdW5, RdW6.
-/
import Derived.Test.YtnkhohfbijkohaaGreatDoorTEV
import Derived.Test.YtnkhohfbijkohaaGreatDoorTFA
import Derived.Test.YtnkhohfbijkohaaGreatDoorTDU
set_option maxHeartbeats 64000000
namespace Go.Proofs.YtnkhohfbijkohaaGreatDoor
open Go Go.RowKit
abbrev plTFT0:Pl:=(.op 0 (.op 1 (.ef 2 [1] (.op 3 .nil))))
theorem rdOp_cases (f:Bool) (last:List UInt8) (l:List UInt8):(l=[]∧rdOp f last l=.bad 1)∨(∃ b t,l=b::t∧1<b.toNat∧rdOp f last l=.bad 7)∨(∃ b t,l=b::t∧¬ 1<b.toNat∧((∃ e,rtx 2147483647 t=.bad e∧rdOp f last l=.bad e)∨
 (∃ k u,rtx 2147483647 t=.ok k u∧((f=false∧Op.bytesLess last k=false∧rdOp f last l=.bad 4)∨((f=true∨Op.bytesLess last k=true)∧((b.toNat=1∧rdOp f last l=.ok ⟨true,k,[]⟩ u)∨(b.toNat=0∧∃ e,rtx 2147483647 u=.bad e∧rdOp f last l=.bad e)∨(b.toNat=0∧∃ v w,rtx 2147483647 u=.ok v w∧rdOp f last l=.ok ⟨false,k,v⟩ w)))))) ):=by
 cases l with
 |nil=>exact .inl ⟨rfl,rfl⟩
 |cons b t=>
  unfold rdOp;dsimp only
  by_cases h1:1<b.toNat
  ·rw [if_pos h1];exact .inr (.inl ⟨b,t,rfl,h1,rfl⟩)
  rw [if_neg h1]
  refine .inr (.inr ⟨b,t,rfl,h1,?_⟩)
  cases hk:rtx 2147483647 t with
  |bad e=>exact .inl ⟨e,rfl,rfl⟩
  |ok k u=>
   refine .inr ⟨k,u,rfl,?_⟩
   dsimp only
   by_cases h2:f=false∧Op.bytesLess last k=false
   ·rw [if_pos h2];exact .inl ⟨h2.1,h2.2,rfl⟩
   rw [if_neg h2]
   refine .inr ⟨?_,?_⟩
   ·cases f
    ·cases h:Op.bytesLess last k
     ·exact absurd ⟨rfl,h⟩ h2
     ·exact .inr rfl
    ·exact .inl rfl
   by_cases h3:b.toNat=1
   ·rw [if_pos h3];exact .inl ⟨h3,rfl⟩
   rw [if_neg h3]
   refine .inr ?_
   cases hv:rtx 2147483647 u with
   |bad e=>exact .inl ⟨by omega,e,rfl,rfl⟩
   |ok v w=>exact .inr ⟨by omega,v,w,rfl,rfl⟩
section
variable {W:World} {F:Nat→Addr} {p:Nat} {s:List UInt8} {a:Nat}
theorem readOp_bad (ha:a≤s.length) (hs:s.length≤9223372036854775800) (e1:W.cell? ⟨7,0,none⟩=some (errV F 1)) (e2:W.cell? ⟨8,0,none⟩=some (errV F 2)) (e3:W.cell? ⟨9,0,none⟩=some (errV F 3)) (e4:W.cell? ⟨10,0,none⟩=some (errV F 4)) (e7:W.cell? ⟨0,0,none⟩=some (errV F 7)) (first:Bool) (last:List UInt8) (e:Nat) (hq:rdOp first last (s.drop a)=.bad e) :
 Ct Tryz.prog W 233 [.pointer (some ⟨p,0,none⟩),.bool first,strV last] [rdP p s a] (fun x:BOp × Nat=>.tuple #[.agg (opC x.1).toArray,errV F e]) (fun x=>[rdP p s x.2]):=by
 rcases rdOp_cases first last (s.drop a) with ⟨hl,h1⟩|⟨b,t,hl,hb,h1⟩|⟨b,t,hl,hb,hk⟩
 ·rw [hq] at h1
  cases h1
  have han:a=s.length:=by have:=congrArg List.length hl;rw [List.length_drop,List.length_nil] at this;omega
  have cb:=rbyte_no (W:=W) (F:=F) (p:=p) (s:=s) (a:=a) han (by omega) e1
  refine Ct.enter Tryz.func233 rfl Tryz.ntmps233 (by simp) (fun R=>?_)
  repeat' (first|(refine zBf ?_;refine zBb rfl (fun g=>?_))|(refine zAd ?_;refine zAa xE cb xP rfl (fun _=>?_))|refine xst ?_|(refine xsa ?_;intro _)|(refine xsb ?_ ?_ <;>intro _<;>try (exfalso;omega))|refine xsc ?_|(refine zAb (id:=6) plTFT0 (by kernel_rfl) (by kernel_rfl) ?_)|(refine zAb (id:=12) plTFT0 (by kernel_rfl) (by kernel_rfl) ?_)|refine zAn ?_ ?_|refine zAm rfl rfl rfl rfl rfl ?_ ?_|refine zAf ?_ ?_|exact Rech.nil|fail)
  all_goals (refine is_ex ?_;exact KJ_done (by first|exact Or.inl rfl|exact Or.inr rfl) rfl (Rvs.agg (T:=73) rfl inferInstance inferInstance xS xC (Rvs.tmp rfl Rvs.nil)) (⟨false,[],[]⟩,a) (by rfl) (xN))
 ·rw [hq] at h1
  cases h1
  have hb0:s[a]? = some b:=by have:=congrArg (fun l=>l[0]?) hl;simpa [List.getElem?_drop] using this
  have hlt:=(List.getElem?_eq_some_iff.1 hb0).1
  have ht:t=s.drop (a+1):=by rw [← List.drop_drop,hl];rfl
  have cb:=rbyte_ct (W:=W) (p:=p) (s:=s) (a:=a) hb0 (by omega)
  have qb:decide ((1:Int)<(b.toNat:Int))=true:=decide_eq_true (by omega)
  refine Ct.enter Tryz.func233 rfl Tryz.ntmps233 (by simp) (fun R=>?_)
  repeat' (first|(refine zBf ?_;refine zBb rfl (fun g=>?_))|(refine zAd ?_;refine zAa xE cb xP rfl (fun _=>?_))|(refine zAh ?_;refine zAc (zAp rfl e7) ?_)|(refine zBa ?_;refine zAc (zAg rfl rfl qb) ?_)|refine xst ?_|(refine xsa ?_;intro _)|(refine xsb ?_ ?_ <;>intro _<;>try (exfalso;omega))|refine xsc ?_|(refine zAb (id:=6) plTFT0 (by kernel_rfl) (by kernel_rfl) ?_)|(refine zAb (id:=12) plTFT0 (by kernel_rfl) (by kernel_rfl) ?_)|refine zAn ?_ ?_|refine zAm rfl rfl rfl rfl rfl ?_ ?_|refine zAf ?_ ?_|exact Rech.nil|fail)
  all_goals (refine is_ex ?_;exact KJ_done (by first|exact Or.inl rfl|exact Or.inr rfl) rfl (Rvs.agg (T:=73) rfl inferInstance inferInstance xS xC (Rvs.tmp rfl Rvs.nil)) (⟨false,[],[]⟩,a+1) (by rfl) (xN))
 ·
  have hb0:s[a]? = some b:=by have:=congrArg (fun l=>l[0]?) hl;simpa [List.getElem?_drop] using this
  have hlt:=(List.getElem?_eq_some_iff.1 hb0).1
  have ht:t=s.drop (a+1):=by rw [← List.drop_drop,hl];rfl
  have cb:=rbyte_ct (W:=W) (p:=p) (s:=s) (a:=a) hb0 (by omega)
  have qb:decide ((1:Int)<(b.toNat:Int))=false:=decide_eq_false (by omega)
  obtain ⟨d,hd⟩:∃ d,decide ((b.toNat:Int)=1)=d:=⟨_,rfl⟩
  rw [ht] at hk
  rcases hk with ⟨e',hk,h1⟩|⟨k,u,hk,hk2⟩
  ·rw [hq] at h1
   cases h1
   have ck:=rtext_ct (W:=W) (F:=F) (p:=p) (s:=s) (a:=a+1) 2147483647 (by omega) (by omega) (by omega) e1 e2 e3 _ hk
   have hne:=errNe (F:=F) (e:=e) (by rcases rtx_err hk with h|h|h <;> omega)
   rw [show rdT (.bad e)=0 from rfl,Nat.add_zero] at ck
   refine Ct.enter Tryz.func233 rfl Tryz.ntmps233 (by simp) (fun R=>?_)
   repeat' (first|(refine zBf ?_;refine zBb rfl (fun g=>?_))|(refine zAd ?_;first|(refine zAa xE ck xP rfl (fun _=>?_))|(refine zAa xE cb xP rfl (fun _=>?_)))|(refine zBe ?_;refine zAc (zAk rfl rfl hd) ?_)|(refine zBh ?_;refine zAc (Ev_neqNil rfl hne) ?_)|(refine zBa ?_;refine zAc (zAg rfl rfl qb) ?_)|refine xst ?_|(refine xsa ?_;intro _)|(refine xsb ?_ ?_ <;>intro _<;>try (exfalso;omega))|refine xsc ?_|(refine zAb (id:=6) plTFT0 (by kernel_rfl) (by kernel_rfl) ?_)|(refine zAb (id:=12) plTFT0 (by kernel_rfl) (by kernel_rfl) ?_)|refine zAn ?_ ?_|refine zAm rfl rfl rfl rfl rfl ?_ ?_|refine zAf ?_ ?_|exact Rech.nil|fail)
   all_goals (refine is_ex ?_;exact KJ_done (by first|exact Or.inl rfl|exact Or.inr rfl) rfl (Rvs.agg (T:=73) rfl inferInstance inferInstance xS xC (Rvs.tmp rfl Rvs.nil)) (⟨d,[],[]⟩,a+1) (by rfl) (xN))
  have ck:=rtext_ct (W:=W) (F:=F) (p:=p) (s:=s) (a:=a+1) 2147483647 (by omega) (by omega) (by omega) e1 e2 e3 _ hk
  rw [show rdT (.ok k u)=(tx k).length from rfl,show rdS (.ok k u)=k from rfl] at ck
  have hkf:=rtx_fit hk
  have hu:=rtx_drop hk
  obtain ⟨a2,ha2⟩:∃ a2,a2=a+1+(tx k).length:=⟨_,rfl⟩
  rw [← ha2] at ck hkf hu
  have hle:=leq_not k last
  rcases hk2 with ⟨rfl,hle2,h1⟩|⟨hor,hk2⟩
  ·rw [hq] at h1
   cases h1
   rw [hle2,Bool.not_false] at hle
   refine Ct.enter Tryz.func233 rfl Tryz.ntmps233 (by simp) (fun R=>?_)
   repeat' (first|(refine zBf ?_;refine zBb rfl (fun g=>?_))|(refine zAd ?_;first|(refine zAa xE ck xP rfl (fun _=>?_))|(refine zAa xE cb xP rfl (fun _=>?_)))|(refine zAh ?_;refine zAc (zAp rfl e4) ?_)|(refine zBe ?_;refine zAc (zAk rfl rfl hd) ?_)|(refine ek_leq ?_;refine zAc (Ev_leqS_q rfl rfl hle) ?_)|(refine zBa ?_;refine zAc (zAg rfl rfl qb) ?_)|refine xst ?_|(refine xsa ?_;intro _)|(refine xsb ?_ ?_ <;>intro _<;>try (exfalso;omega))|refine xsc ?_|(refine zAb (id:=6) plTFT0 (by kernel_rfl) (by kernel_rfl) ?_)|(refine zAb (id:=12) plTFT0 (by kernel_rfl) (by kernel_rfl) ?_)|refine zAn ?_ ?_|refine zAm rfl rfl rfl rfl rfl ?_ ?_|refine zAf ?_ ?_|exact Rech.nil|fail)
   all_goals (refine is_ex ?_;exact KJ_done (by first|exact Or.inl rfl|exact Or.inr rfl) rfl (Rvs.agg (T:=73) rfl inferInstance inferInstance xS xC (Rvs.tmp rfl Rvs.nil)) (⟨d,k,[]⟩,a2) (by rfl) (xN))
  rcases hk2 with ⟨hb1,h1⟩|⟨hb1,e',hv,h1⟩|⟨hb1,v,w,hv,h1⟩
  ·rw [hq] at h1;cases h1
  ·rw [hq] at h1
   cases h1
   rw [hu] at hv
   have cv:=rtext_ct (W:=W) (F:=F) (p:=p) (s:=s) (a:=a2) 2147483647 (by omega) hkf (by omega) e1 e2 e3 _ hv
   rw [show rdT (.bad e)=0 from rfl,Nat.add_zero] at cv
   have hd0:d=false:=by rw [← hd];exact decide_eq_false (by omega)
   subst hd0
   rcases hor with rfl|hlt2
   ·
    refine Ct.enter Tryz.func233 rfl Tryz.ntmps233 (by simp) (fun R=>?_)
    repeat' (first|(refine zBf ?_;refine zBb rfl (fun g=>?_))|(refine zAd ?_;first|(refine zAa xE cv xP rfl (fun _=>?_))|(refine zAa xE ck xP rfl (fun _=>?_))|(refine zAa xE cb xP rfl (fun _=>?_)))|(refine zBe ?_;refine zAc (zAk rfl rfl hd) ?_)|(refine zBa ?_;refine zAc (zAg rfl rfl qb) ?_)|refine xst ?_|(refine xsa ?_;intro _)|(refine xsb ?_ ?_ <;>intro _<;>try (exfalso;omega))|refine xsc ?_|(refine zAb (id:=6) plTFT0 (by kernel_rfl) (by kernel_rfl) ?_)|(refine zAb (id:=12) plTFT0 (by kernel_rfl) (by kernel_rfl) ?_)|refine zAn ?_ ?_|refine zAm rfl rfl rfl rfl rfl ?_ ?_|refine zAf ?_ ?_|exact Rech.nil|fail)
    all_goals (refine is_ex ?_;exact KJ_done (by first|exact Or.inl rfl|exact Or.inr rfl) rfl (Rvs.agg (T:=73) rfl inferInstance inferInstance xS xC (Rvs.tmp rfl Rvs.nil)) (⟨false,k,[]⟩,a2) (by rfl) (xN))
   ·rw [hlt2,Bool.not_true] at hle
    cases first
    ·
     refine Ct.enter Tryz.func233 rfl Tryz.ntmps233 (by simp) (fun R=>?_)
     repeat' (first|(refine zBf ?_;refine zBb rfl (fun g=>?_))|(refine zAd ?_;first|(refine zAa xE cv xP rfl (fun _=>?_))|(refine zAa xE ck xP rfl (fun _=>?_))|(refine zAa xE cb xP rfl (fun _=>?_)))|(refine zBe ?_;refine zAc (zAk rfl rfl hd) ?_)|(refine ek_leq ?_;refine zAc (Ev_leqS_q rfl rfl hle) ?_)|(refine zBa ?_;refine zAc (zAg rfl rfl qb) ?_)|refine xst ?_|(refine xsa ?_;intro _)|(refine xsb ?_ ?_ <;>intro _<;>try (exfalso;omega))|refine xsc ?_|(refine zAb (id:=6) plTFT0 (by kernel_rfl) (by kernel_rfl) ?_)|(refine zAb (id:=12) plTFT0 (by kernel_rfl) (by kernel_rfl) ?_)|refine zAn ?_ ?_|refine zAm rfl rfl rfl rfl rfl ?_ ?_|refine zAf ?_ ?_|exact Rech.nil|fail)
     all_goals (refine is_ex ?_;exact KJ_done (by first|exact Or.inl rfl|exact Or.inr rfl) rfl (Rvs.agg (T:=73) rfl inferInstance inferInstance xS xC (Rvs.tmp rfl Rvs.nil)) (⟨false,k,[]⟩,a2) (by rfl) (xN))
    ·
     refine Ct.enter Tryz.func233 rfl Tryz.ntmps233 (by simp) (fun R=>?_)
     repeat' (first|(refine zBf ?_;refine zBb rfl (fun g=>?_))|(refine zAd ?_;first|(refine zAa xE cv xP rfl (fun _=>?_))|(refine zAa xE ck xP rfl (fun _=>?_))|(refine zAa xE cb xP rfl (fun _=>?_)))|(refine zBe ?_;refine zAc (zAk rfl rfl hd) ?_)|(refine ek_leq ?_;refine zAc (Ev_leqS_q rfl rfl hle) ?_)|(refine zBa ?_;refine zAc (zAg rfl rfl qb) ?_)|refine xst ?_|(refine xsa ?_;intro _)|(refine xsb ?_ ?_ <;>intro _<;>try (exfalso;omega))|refine xsc ?_|(refine zAb (id:=6) plTFT0 (by kernel_rfl) (by kernel_rfl) ?_)|(refine zAb (id:=12) plTFT0 (by kernel_rfl) (by kernel_rfl) ?_)|refine zAn ?_ ?_|refine zAm rfl rfl rfl rfl rfl ?_ ?_|refine zAf ?_ ?_|exact Rech.nil|fail)
     all_goals (refine is_ex ?_;exact KJ_done (by first|exact Or.inl rfl|exact Or.inr rfl) rfl (Rvs.agg (T:=73) rfl inferInstance inferInstance xS xC (Rvs.tmp rfl Rvs.nil)) (⟨false,k,[]⟩,a2) (by rfl) (xN))
  ·rw [hq] at h1;cases h1
theorem readOp_ct (_ha:a≤s.length) (hs:s.length≤9223372036854775800) (e1:W.cell? ⟨7,0,none⟩=some (errV F 1)) (e2:W.cell? ⟨8,0,none⟩=some (errV F 2)) (e3:W.cell? ⟨9,0,none⟩=some (errV F 3)) (_e4:W.cell? ⟨10,0,none⟩=some (errV F 4)) (_e7:W.cell? ⟨0,0,none⟩=some (errV F 7)) (first:Bool) (last:List UInt8) (op:BOp) (t':List UInt8) (hq:rdOp first last (s.drop a)=.ok op t') :
 Ct Tryz.prog W 233 [.pointer (some ⟨p,0,none⟩),.bool first,strV last] [rdP p s a] (fun _:Unit=>.tuple #[.agg (opC op).toArray,.nilIface]) (fun _=>[rdP p s (a+(encOp op).length)]):=by
 rcases rdOp_cases first last (s.drop a) with ⟨hl,h1⟩|⟨b,t,hl,hb,h1⟩|⟨b,t,hl,hb,hk⟩
 ·rw [hq] at h1;cases h1
 ·rw [hq] at h1;cases h1
 ·
  have hb0:s[a]? = some b:=by have:=congrArg (fun l=>l[0]?) hl;simpa [List.getElem?_drop] using this
  have hlt:=(List.getElem?_eq_some_iff.1 hb0).1
  have ht:t=s.drop (a+1):=by rw [← List.drop_drop,hl];rfl
  have cb:=rbyte_ct (W:=W) (p:=p) (s:=s) (a:=a) hb0 (by omega)
  have qb:decide ((1:Int)<(b.toNat:Int))=false:=decide_eq_false (by omega)
  rw [ht] at hk
  rcases hk with ⟨e',hk,h1⟩|⟨k,u,hk,hk2⟩
  ·rw [hq] at h1;cases h1
  have ck:=rtext_ct (W:=W) (F:=F) (p:=p) (s:=s) (a:=a+1) 2147483647 (by omega) (by omega) (by omega) e1 e2 e3 _ hk
  rw [show rdT (.ok k u)=(tx k).length from rfl,show rdS (.ok k u)=k from rfl] at ck
  have hkf:=rtx_fit hk
  have hu:=rtx_drop hk
  have hle:=leq_not k last
  rcases hk2 with ⟨rfl,hle2,h1⟩|⟨hor,hk2⟩
  ·rw [hq] at h1;cases h1
  rcases hk2 with ⟨hb1,h1⟩|⟨hb1,e',hv,h1⟩|⟨hb1,v,w,hv,h1⟩
  ·rw [hq] at h1
   cases h1
   have hd:decide ((b.toNat:Int)=1)=true:=decide_eq_true (by omega)
   have hA:a+(encOp ⟨true,k,[]⟩).length=a+1+(tx k).length:=by rw [encOp_del,List.length_cons];omega
   rw [hA]
   obtain ⟨a2,ha2⟩:∃ a2,a2=a+1+(tx k).length:=⟨_,rfl⟩
   rw [← ha2] at ck hkf hu ⊢
   rcases hor with rfl|hlt2
   ·
    refine Ct.enter Tryz.func233 rfl Tryz.ntmps233 (by simp) (fun R=>?_)
    repeat' (first|(refine zBf ?_;refine zBb rfl (fun g=>?_))|(refine zAd ?_;first|(refine zAa xE ck xP rfl (fun _=>?_))|(refine zAa xE cb xP rfl (fun _=>?_)))|(refine zBe ?_;refine zAc (zAk rfl rfl hd) ?_)|(refine zBa ?_;refine zAc (zAg rfl rfl qb) ?_)|refine xst ?_|(refine xsa ?_;intro _)|(refine xsb ?_ ?_ <;>intro _<;>try (exfalso;omega))|refine xsc ?_|(refine zAb (id:=6) plTFT0 (by kernel_rfl) (by kernel_rfl) ?_)|(refine zAb (id:=12) plTFT0 (by kernel_rfl) (by kernel_rfl) ?_)|refine zAn ?_ ?_|refine zAm rfl rfl rfl rfl rfl ?_ ?_|refine zAf ?_ ?_|exact Rech.nil|fail)
    all_goals (refine is_ex ?_;exact KJ_done (by first|exact Or.inl rfl|exact Or.inr rfl) rfl (Rvs.agg (T:=73) rfl inferInstance inferInstance xS xC (Rvs.tmp rfl Rvs.nil)) () (by rfl) (xN))
   ·rw [hlt2,Bool.not_true] at hle
    cases first
    ·
     refine Ct.enter Tryz.func233 rfl Tryz.ntmps233 (by simp) (fun R=>?_)
     repeat' (first|(refine zBf ?_;refine zBb rfl (fun g=>?_))|(refine zAd ?_;first|(refine zAa xE ck xP rfl (fun _=>?_))|(refine zAa xE cb xP rfl (fun _=>?_)))|(refine zBe ?_;refine zAc (zAk rfl rfl hd) ?_)|(refine ek_leq ?_;refine zAc (Ev_leqS_q rfl rfl hle) ?_)|(refine zBa ?_;refine zAc (zAg rfl rfl qb) ?_)|refine xst ?_|(refine xsa ?_;intro _)|(refine xsb ?_ ?_ <;>intro _<;>try (exfalso;omega))|refine xsc ?_|(refine zAb (id:=6) plTFT0 (by kernel_rfl) (by kernel_rfl) ?_)|(refine zAb (id:=12) plTFT0 (by kernel_rfl) (by kernel_rfl) ?_)|refine zAn ?_ ?_|refine zAm rfl rfl rfl rfl rfl ?_ ?_|refine zAf ?_ ?_|exact Rech.nil|fail)
     all_goals (refine is_ex ?_;exact KJ_done (by first|exact Or.inl rfl|exact Or.inr rfl) rfl (Rvs.agg (T:=73) rfl inferInstance inferInstance xS xC (Rvs.tmp rfl Rvs.nil)) () (by rfl) (xN))
    ·
     refine Ct.enter Tryz.func233 rfl Tryz.ntmps233 (by simp) (fun R=>?_)
     repeat' (first|(refine zBf ?_;refine zBb rfl (fun g=>?_))|(refine zAd ?_;first|(refine zAa xE ck xP rfl (fun _=>?_))|(refine zAa xE cb xP rfl (fun _=>?_)))|(refine zBe ?_;refine zAc (zAk rfl rfl hd) ?_)|(refine ek_leq ?_;refine zAc (Ev_leqS_q rfl rfl hle) ?_)|(refine zBa ?_;refine zAc (zAg rfl rfl qb) ?_)|refine xst ?_|(refine xsa ?_;intro _)|(refine xsb ?_ ?_ <;>intro _<;>try (exfalso;omega))|refine xsc ?_|(refine zAb (id:=6) plTFT0 (by kernel_rfl) (by kernel_rfl) ?_)|(refine zAb (id:=12) plTFT0 (by kernel_rfl) (by kernel_rfl) ?_)|refine zAn ?_ ?_|refine zAm rfl rfl rfl rfl rfl ?_ ?_|refine zAf ?_ ?_|exact Rech.nil|fail)
     all_goals (refine is_ex ?_;exact KJ_done (by first|exact Or.inl rfl|exact Or.inr rfl) rfl (Rvs.agg (T:=73) rfl inferInstance inferInstance xS xC (Rvs.tmp rfl Rvs.nil)) () (by rfl) (xN))
  ·rw [hq] at h1;cases h1
  ·rw [hq] at h1
   cases h1
   rw [hu] at hv
   have hd:decide ((b.toNat:Int)=1)=false:=decide_eq_false (by omega)
   have cv:=rtext_ct (W:=W) (F:=F) (p:=p) (s:=s) (a:=a+1+(tx k).length) 2147483647 (by omega) hkf (by omega) e1 e2 e3 _ hv
   rw [show rdT (.ok v t')=(tx v).length from rfl,show rdS (.ok v t')=v from rfl] at cv
   have hA:a+(encOp ⟨false,k,v⟩).length=a+1+(tx k).length+(tx v).length:=by rw [encOp_put,List.length_cons,List.length_append];omega
   rw [hA]
   obtain ⟨a2,ha2⟩:∃ a2,a2=a+1+(tx k).length:=⟨_,rfl⟩
   rw [← ha2] at ck hkf hu cv ⊢
   rcases hor with rfl|hlt2
   ·
    refine Ct.enter Tryz.func233 rfl Tryz.ntmps233 (by simp) (fun R=>?_)
    repeat' (first|(refine zBf ?_;refine zBb rfl (fun g=>?_))|(refine zAd ?_;first|(refine zAa xE cv xP rfl (fun _=>?_))|(refine zAa xE ck xP rfl (fun _=>?_))|(refine zAa xE cb xP rfl (fun _=>?_)))|(refine zBe ?_;refine zAc (zAk rfl rfl hd) ?_)|(refine zBa ?_;refine zAc (zAg rfl rfl qb) ?_)|refine xst ?_|(refine xsa ?_;intro _)|(refine xsb ?_ ?_ <;>intro _<;>try (exfalso;omega))|refine xsc ?_|(refine zAb (id:=6) plTFT0 (by kernel_rfl) (by kernel_rfl) ?_)|(refine zAb (id:=12) plTFT0 (by kernel_rfl) (by kernel_rfl) ?_)|refine zAn ?_ ?_|refine zAm rfl rfl rfl rfl rfl ?_ ?_|refine zAf ?_ ?_|exact Rech.nil|fail)
    all_goals (refine is_ex ?_;exact KJ_done (by first|exact Or.inl rfl|exact Or.inr rfl) rfl (Rvs.agg (T:=73) rfl inferInstance inferInstance xS xC (Rvs.tmp rfl Rvs.nil)) () (by rfl) (xN))
   ·rw [hlt2,Bool.not_true] at hle
    cases first
    ·
     refine Ct.enter Tryz.func233 rfl Tryz.ntmps233 (by simp) (fun R=>?_)
     repeat' (first|(refine zBf ?_;refine zBb rfl (fun g=>?_))|(refine zAd ?_;first|(refine zAa xE cv xP rfl (fun _=>?_))|(refine zAa xE ck xP rfl (fun _=>?_))|(refine zAa xE cb xP rfl (fun _=>?_)))|(refine zBe ?_;refine zAc (zAk rfl rfl hd) ?_)|(refine ek_leq ?_;refine zAc (Ev_leqS_q rfl rfl hle) ?_)|(refine zBa ?_;refine zAc (zAg rfl rfl qb) ?_)|refine xst ?_|(refine xsa ?_;intro _)|(refine xsb ?_ ?_ <;>intro _<;>try (exfalso;omega))|refine xsc ?_|(refine zAb (id:=6) plTFT0 (by kernel_rfl) (by kernel_rfl) ?_)|(refine zAb (id:=12) plTFT0 (by kernel_rfl) (by kernel_rfl) ?_)|refine zAn ?_ ?_|refine zAm rfl rfl rfl rfl rfl ?_ ?_|refine zAf ?_ ?_|exact Rech.nil|fail)
     all_goals (refine is_ex ?_;exact KJ_done (by first|exact Or.inl rfl|exact Or.inr rfl) rfl (Rvs.agg (T:=73) rfl inferInstance inferInstance xS xC (Rvs.tmp rfl Rvs.nil)) () (by rfl) (xN))
    ·
     refine Ct.enter Tryz.func233 rfl Tryz.ntmps233 (by simp) (fun R=>?_)
     repeat' (first|(refine zBf ?_;refine zBb rfl (fun g=>?_))|(refine zAd ?_;first|(refine zAa xE cv xP rfl (fun _=>?_))|(refine zAa xE ck xP rfl (fun _=>?_))|(refine zAa xE cb xP rfl (fun _=>?_)))|(refine zBe ?_;refine zAc (zAk rfl rfl hd) ?_)|(refine ek_leq ?_;refine zAc (Ev_leqS_q rfl rfl hle) ?_)|(refine zBa ?_;refine zAc (zAg rfl rfl qb) ?_)|refine xst ?_|(refine xsa ?_;intro _)|(refine xsb ?_ ?_ <;>intro _<;>try (exfalso;omega))|refine xsc ?_|(refine zAb (id:=6) plTFT0 (by kernel_rfl) (by kernel_rfl) ?_)|(refine zAb (id:=12) plTFT0 (by kernel_rfl) (by kernel_rfl) ?_)|refine zAn ?_ ?_|refine zAm rfl rfl rfl rfl rfl ?_ ?_|refine zAf ?_ ?_|exact Rech.nil|fail)
     all_goals (refine is_ex ?_;exact KJ_done (by first|exact Or.inl rfl|exact Or.inr rfl) rfl (Rvs.agg (T:=73) rfl inferInstance inferInstance xS xC (Rvs.tmp rfl Rvs.nil)) () (by rfl) (xN))
end
end Go.Proofs.YtnkhohfbijkohaaGreatDoor
namespace Go.Proofs.YtnkhohfbijkohaaGreatDoor
open Go Go.RowKit
def joinR (acc:List BOp):Rd (List BOp)→Rd (List BOp)
 |.bad e=>.bad e
 |.ok os t=>.ok (acc++os) t
structure RopI (s:List UInt8) (n:Nat) (R:Rd (List BOp)) (i:Nat) (acc:List BOp) (last:List UInt8) (a:Nat):Prop where
 len:acc.length=i
 le:i≤n
 fit:a≤s.length
 two:2*i≤a
 go:joinR acc (rdOps (n-i) (decide (i=0)) last (s.drop a))=R
theorem RopI.start {s t:List UInt8} {n a:Nat} (ha:a≤s.length) (ht:t=s.drop a):RopI s n (rdOps n true [] t) 0 [] [] a:=⟨rfl,by omega,ha,by omega,by
 subst ht
 show joinR [] (rdOps n true [] (s.drop a))=_
 cases rdOps n true [] (s.drop a) <;> rfl⟩
section
variable {s:List UInt8} {n i a:Nat} {R:Rd (List BOp)} {acc:List BOp} {last:List UInt8}
theorem RopI.bad (h:RopI s n R i acc last a) (hi:i<n) {e:Nat} (hq:rdOp (decide (i=0)) last (s.drop a)=.bad e):R=.bad e:=by
 have:=h.go
 rw [show n-i=(n-i-1)+1 by omega] at this
 unfold rdOps at this
 rw [hq] at this
 exact this.symm
theorem RopI.next (h:RopI s n R i acc last a) (hi:i<n) {o:BOp} {t:List UInt8} (hq:rdOp (decide (i=0)) last (s.drop a)=.ok o t):RopI s n R (i+1) (acc++[o]) o.key (a+(encOp o).length):=by
 have hg:=h.go
 have hl:=h.len
 have h2:=h.two
 have he:=encOp_len o
 have hd:=rdOp_drop hq
 refine ⟨by simp [hl],by omega,rdOp_fit hq,by omega,?_⟩
 rw [← hg,show n-i=(n-(i+1))+1 by omega]
 conv=>rhs;unfold rdOps
 rw [hq,← hd,show decide (i+1=0)=false from rfl]
 dsimp only
 cases rdOps (n-(i+1)) false o.key t <;> simp [joinR]
theorem RopI.stop (h:RopI s n R i acc last a) (hi:¬ i<n):R=.ok acc (s.drop a):=by
 have hg:=h.go
 have hle:=h.le
 rw [show n-i=0 by omega] at hg
 rw [← hg]
 show joinR acc (.ok [] (s.drop a))=_
 simp [joinR]
end
theorem decode_bad {s:List UInt8} {e:Nat} (h:ru s=.bad e):decode s=([],e):=by unfold decode;rw [h]
theorem decode_bad2 {s t:List UInt8} {n e:Nat} (h:ru s=.ok n t) (h2:rdOps n true [] t=.bad e):decode s=([],e):=by unfold decode;rw [h];dsimp only;rw [h2]
theorem decode_tail {s t u:List UInt8} {n:Nat} {os:List BOp} (h:ru s=.ok n t) (h2:rdOps n true [] t=.ok os u) (hu:u≠[]):decode s=([],5):=by unfold decode;rw [h];dsimp only;rw [h2];dsimp only;rw [if_neg hu]
theorem decode_ok {s t u:List UInt8} {n:Nat} {os:List BOp} (h:ru s=.ok n t) (h2:rdOps n true [] t=.ok os u) (hu:u=[]):decode s=(os,0):=by unfold decode;rw [h];dsimp only;rw [h2];dsimp only;rw [if_pos hu]
section
variable {W:World} {F:Nat→Addr}
theorem bdecode_ct (s:List UInt8) (hs:s.length≤4398046511104) (hE:ErrsOn L16 W F) :
 Ct Tryz.prog W 182 [strV s] [] (fun x:Option Addr × Nat=>.tuple #[.slice x.1 (decode s).1.length x.2,errV F (decode s).2]) (fun x=>[lsP opC 73 3 (.slice x.1 (decode s).1.length x.2) (decode s).1]):=by
 have e1:W.cell? ⟨7,0,none⟩=some (errV F 1):=hE.at_ 1 (by decide)
 have e2:W.cell? ⟨8,0,none⟩=some (errV F 2):=hE.at_ 2 (by decide)
 have e3:W.cell? ⟨9,0,none⟩=some (errV F 3):=hE.at_ 3 (by decide)
 have e4:W.cell? ⟨10,0,none⟩=some (errV F 4):=hE.at_ 4 (by decide)
 have e5:W.cell? ⟨11,0,none⟩=some (errV F 5):=hE.at_ 5 (by decide)
 have e7:W.cell? ⟨0,0,none⟩=some (errV F 7):=hE.at_ 7 (by decide)
 have cr:=rread_ct (W:=W) s
 have cu0:=fun p q hq=>ruint_ct (W:=W) (F:=F) (p:=p) (s:=s) (a:=0) (by omega) (by omega) e1 e2 q hq
 rw [List.drop_zero] at cu0
 refine Ct.enter Tryz.func182 rfl Tryz.ntmps182 (by simp) (fun R=>?_)
 cases hn:ru s with
 |bad e=>
  have cu:=fun p=>cu0 p _ hn
  have hne:=errNe (F:=F) (e:=e) (by rcases ru_err hn with h|h <;> omega)
  have hd:=decode_bad hn
  repeat' (first|(refine zAd ?_;first|(refine zAa xE (cu _) xP rfl (fun _=>?_))|(refine zAa xE cr xP rfl (fun p=>?_)))|(refine zBh ?_;refine zAc (Ev_neqNil rfl hne) ?_)|refine xst ?_|(refine xsa ?_;intro _)|(refine xsb ?_ ?_ <;>intro _<;>try (exfalso;omega))|refine xsc ?_|fail)
  all_goals rw [hd]
  all_goals refine KJ.nilrow 73 3 ?_
  all_goals (exact xdn (none,0))
 |ok n t=>
  have cu:=fun p=>cu0 p _ hn
  have hf:=ru_fit (a:=0) (s:=s) (by rw [List.drop_zero];exact hn)
  have htd:=ru_drop (a:=0) (s:=s) (by rw [List.drop_zero];exact hn)
  rw [show rdL (.ok n t)=(vu n).length from rfl,show rdN (.ok n t)=n from rfl,show rdE (.ok n t)=0 from rfl] at cu
  obtain ⟨a0,ha0⟩:∃ a0,a0=0+(vu n).length:=⟨_,rfl⟩
  rw [← ha0] at hf htd cu
  repeat' (first|(refine zAd ?_;first|(refine zAa xE (cu _) xP rfl (fun _=>?_))|(refine zAa xE cr xP rfl (fun p=>?_)))|refine xst ?_|(refine xsa ?_;intro _)|(refine xsb ?_ ?_ <;>intro _<;>try (exfalso;omega))|refine xsc ?_|fail)
  refine KJ.nilrow 73 3 ?_
  refine zBz (fun x:{x:Nat × List BOp × List UInt8 × Nat × Option Addr × Nat//RopI s n (rdOps n true [] t) x.1 x.2.1 x.2.2.1 x.2.2.2.1}=>[(4,.pointer (some ⟨p,0,none⟩)),(5,.int .u64 (n:Nat)),(7,.slice x.1.2.2.2.2.1 x.1.2.1.length x.1.2.2.2.2.2),(8,strV x.1.2.2.1),(9,.int .u64 (x.1.1:Nat))])
   (fun x=>[rdP p s x.1.2.2.2.1,lsP opC 73 3 (.slice x.1.2.2.2.2.1 x.1.2.1.length x.1.2.2.2.2.2) x.1.2.1]++R) (fun x=>n-x.1.1) ⟨(0,[],[],a0,none,0),RopI.start hf htd⟩ xB (xN) (fun ⟨(i,acc,last,a,sa,sc),hi⟩=>?_)
  dsimp only at hi ⊢
  have hlen:=hi.len
  have htwo:=hi.two
  have hfit:=hi.fit
  by_cases hlt:i<n
  ·have ql:decide (((i:Nat):Int)<((n:Nat):Int))=true:=decide_eq_true (by omega)
   have qf:decide (((i:Nat):Int)=0)=decide (i=0):=by by_cases h:i=0 <;> simp [h]
   have b1:(acc.length+1)*40≤140737488355328:=by omega
   have b2:acc.length+1≤9223372036854775807:=by omega
   cases hq:rdOp (decide (i=0)) last (s.drop a) with
   |bad e=>
    have hb:=hi.bad hlt hq
    have hne:=errNe (F:=F) (e:=e) (by have:=rdOp_err hq;omega)
    have hd:=decode_bad2 hn hb
    have co:=readOp_bad (W:=W) (F:=F) (p:=p) (s:=s) (a:=a) hfit (by omega) e1 e2 e3 e4 e7 (decide (i=0)) last e hq
    repeat' (first|(refine zBf ?_;refine zBb rfl (fun g=>?_))|(refine zAd ?_;refine zAa xE co xP rfl (fun x=>?_);obtain ⟨o',a'⟩:=x)|(refine zBe ?_;refine zAc (zAk rfl rfl qf) ?_)|(refine zBh ?_;refine zAc (Ev_neqNil rfl hne) ?_)|(refine zAs ?_;refine zAc (zAe rfl rfl ql) ?_)|refine xst ?_|(refine xsa ?_;intro _)|(refine xsb ?_ ?_ <;>intro _<;>try (exfalso;omega))|refine xsc ?_|fail)
    all_goals rw [hd]
    all_goals refine KJ.nilrow 73 3 ?_
    all_goals (exact xdn (none,0))
   |ok o u=>
    have hnx:=hi.next hlt hq
    have hno:n<18446744073709551616:=(vu_ru hn).2
    have co:=readOp_ct (W:=W) (F:=F) (p:=p) (s:=s) (a:=a) hfit (by omega) e1 e2 e3 e4 e7 (decide (i=0)) last o u hq
    have ha:IntKind.u64.wrap ((i:Int)+1)=((i+1:Nat):Int):=by
     rw [show (i:Int)+1=((i+1:Nat):Int) by omega];exact zBw _ (by omega)
    repeat' (first|(refine zBf ?_;refine zBb rfl (fun g=>?_))|(refine zAd ?_;refine zAa xE co xP rfl (fun _=>?_))|(refine is_append ?_;refine KJ_appOne (a:=o) enc_op rfl rfl rfl xS xS b1 b2 rfl (fun g1 c1=>?_))|(refine zCi ?_;refine KJ_bslice1 rfl xF (by rfl) (by omega) rfl (fun gb=>?_))|(refine zBk ?_;refine zAc (Ev_add_w rfl rfl ha) ?_)|(refine zBe ?_;refine zAc (zAk rfl rfl qf) ?_)|(refine zAs ?_;refine zAc (zAe rfl rfl ql) ?_)|refine xst ?_|(refine xsa ?_;intro _)|(refine xsb ?_ ?_ <;>intro _<;>try (exfalso;omega))|refine xsc ?_|fail)
    all_goals refine zBd ⟨(i+1,acc++[o],o.key,a+(encOp o).length,some ⟨g1,0,none⟩,c1),hnx⟩ (by show n-(i+1)<n-i;omega) xB (xN)
  ·have ql:decide (((i:Nat):Int)<((n:Nat):Int))=false:=decide_eq_false (by omega)
   have hst:=hi.stop hlt
   have cd:=rdone_ct (W:=W) (F:=F) (p:=p) (s:=s) (a:=a) hfit (by omega) e5
   by_cases hend:a<s.length
   ·have hd:=decode_tail hn hst (by intro h;have:=congrArg List.length h;rw [List.length_drop,List.length_nil] at this;omega)
    rw [if_pos hend] at cd
    repeat' (first|(refine zAd ?_;refine zAa xE cd xP rfl (fun _=>?_))|(refine zAs ?_;refine zAc (zAe rfl rfl ql) ?_)|refine xst ?_|(refine xsa ?_;intro _)|(refine xsb ?_ ?_ <;>intro _<;>try (exfalso;omega))|refine xsc ?_|fail)
    all_goals rw [hd]
    all_goals refine KJ.nilrow 73 3 ?_
    all_goals (exact xdn (none,0))
   ·have hd:=decode_ok hn hst (List.drop_of_length_le (by omega))
    rw [if_neg hend] at cd
    repeat' (first|(refine zAd ?_;refine zAa xE cd xP rfl (fun _=>?_))|(refine zAs ?_;refine zAc (zAe rfl rfl ql) ?_)|refine xst ?_|(refine xsa ?_;intro _)|(refine xsb ?_ ?_ <;>intro _<;>try (exfalso;omega))|refine xsc ?_|fail)
    all_goals rw [hd]
    all_goals (exact xdn (sa,sc))
end
end Go.Proofs.YtnkhohfbijkohaaGreatDoor
