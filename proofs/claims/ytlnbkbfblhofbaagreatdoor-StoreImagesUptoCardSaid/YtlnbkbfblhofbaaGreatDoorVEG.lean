/-
  RdW5, RdW6.
-/
import Derived.Test.YtlnbkbfblhofbaaGreatDoorVDU
set_option maxHeartbeats 64000000
namespace Go.Proofs.YtlnbkbfblhofbaaGreatDoor
open Go Go.RowKit
open Go.Proofs.Tryz
abbrev yBZ:Pl:=(.op 0 (.op 1 (.ef 2 [1] (.op 3 .nil))))
theorem yFT (f:Bool) (last:List UInt8) (l:List UInt8):(l=[]∧yHs f last l=.bad 1)∨(∃ b t,l=b::t∧1<b.toNat∧yHs f last l=.bad 7)∨(∃ b t,l=b::t∧¬ 1<b.toNat∧((∃ e,rtx 2147483647 t=.bad e∧yHs f last l=.bad e)∨
 (∃ k u,rtx 2147483647 t=.ok k u∧((f=false∧Op.bytesLess last k=false∧yHs f last l=.bad 4)∨((f=true∨Op.bytesLess last k=true)∧((b.toNat=1∧yHs f last l=.ok ⟨true,k,[]⟩ u)∨(b.toNat=0∧∃ e,rtx 2147483647 u=.bad e∧yHs f last l=.bad e)∨(b.toNat=0∧∃ v w,rtx 2147483647 u=.ok v w∧yHs f last l=.ok ⟨false,k,v⟩ w)))))) ):=by
 cases l with
 |nil=>exact .inl ⟨rfl,rfl⟩
 |cons b t=>
  unfold yHs;dsimp only
  by_cases h1:1<b.toNat
  ·rw [if_pos h1];exact .inr (.inl ⟨b,t,rfl,h1,rfl⟩)
  rw [if_neg h1]
  refine .inr (.inr ⟨b,t,rfl,h1,?_⟩)
  cases hk:rtx 2147483647 t with
  |bad e=>exact .inl ⟨e,rfl,rfl⟩
  |ok k u=>
   refine .inr ⟨k,u,rfl,?_⟩
   dsimp only
   by_cases h2:f=false∧Op.bytesLess last k=false
   ·rw [if_pos h2];exact .inl ⟨h2.1,h2.2,rfl⟩
   rw [if_neg h2]
   refine .inr ⟨?_,?_⟩
   ·cases f
    ·cases h:Op.bytesLess last k
     ·exact absurd ⟨rfl,h⟩ h2
     ·exact .inr rfl
    ·exact .inl rfl
   by_cases h3:b.toNat=1
   ·rw [if_pos h3];exact .inl ⟨h3,rfl⟩
   rw [if_neg h3]
   refine .inr ?_
   cases hv:rtx 2147483647 u with
   |bad e=>exact .inl ⟨zO,e,rfl,rfl⟩
   |ok v w=>exact .inr ⟨zO,v,w,rfl,rfl⟩
section
variable {W:World} {F:Nat→Addr} {p:Nat} {s:List UInt8} {a:Nat}
theorem yQG (ha:a≤s.length) (hs:s.length≤9223372036854775800) (e1:W.cell? ⟨7,0,none⟩=some (yAr F 1)) (e2:W.cell? ⟨8,0,none⟩=some (yAr F 2)) (e3:W.cell? ⟨9,0,none⟩=some (yAr F 3)) (e4:W.cell? ⟨10,0,none⟩=some (yAr F 4)) (e7:W.cell? ⟨0,0,none⟩=some (yAr F 7)) (first:Bool) (last:List UInt8) (e:Nat) (hq:yHs first last (s.drop a)=.bad e) :
 Ct prog W 138 [zPp p,.bool first,strV last] [rdP p s a] (fun x:BOp × Nat=>.tuple #[.agg (opC x.1).toArray,yAr F e]) (fun x=>[rdP p s x.2]):=by
 rcases yFT first last (s.drop a) with ⟨hl,h1⟩|⟨b,t,hl,hb,h1⟩|⟨b,t,hl,hb,hk⟩
 ·rw [hq] at h1
  cases h1
  have han:a=s.length:=by have:=congrArg List.length hl;rw [zLf,List.length_nil] at this;omega
  have cb:=yVi (W:=W) (F:=F) (p:=p) (s:=s) (a:=a) han zO e1
  refine Ct.enter func138 rfl ntmps138 zW (fun R=>?_)
  repeat' (first|refine yAs ?_;refine yAq rfl (fun g=>?_)|refine yAb ?_;refine xca cb fun _=>?_|refine xst ?_|refine xsa ?_;intro _|refine xsb ?_ ?_<;>intro _<;>try omega|refine xsc ?_|refine xdr 6 yBZ ?_|refine xdr 12 yBZ ?_|refine xsd ?_ ?_|exact Rech.nil|fail)
  all_goals (refine yCy ?_;exact yAR (by first|exact Or.inl rfl|exact Or.inr rfl) rfl (Rvs.agg (T:=60) rfl inferInstance inferInstance xS xC (Rvs.tmp rfl Rvs.nil)) (⟨false,[],[]⟩,a) (by rfl) (xN))
 ·rw [hq] at h1
  cases h1
  have hb0:s[a]? = some b:=by have:=congrArg (fun l=>l[0]?) hl;simpa [zLC] using this
  have hlt:=(zLc.1 hb0).1
  have ht:t=s.drop (a+1):=by rw [← List.drop_drop,hl];rfl
  have cb:=yLA (W:=W) (p:=p) (s:=s) (a:=a) hb0 zO
  have qb:decide ((1:Int)<(b.toNat:Int))=true:=zY zO
  refine Ct.enter func138 rfl ntmps138 zW (fun R=>?_)
  repeat' (first|refine yAs ?_;refine yAq rfl (fun g=>?_)|refine yAb ?_;refine xca cb fun _=>?_|refine yAj ?_;refine yAa (yAn rfl e7) ?_|refine yAa (yAe rfl rfl qb) ?_|refine xst ?_|refine xsa ?_;intro _|refine xsb ?_ ?_<;>intro _<;>try omega|refine xsc ?_|refine xdr 6 yBZ ?_|refine xdr 12 yBZ ?_|refine xsd ?_ ?_|exact Rech.nil|fail)
  all_goals (refine yCy ?_;exact yAR (by first|exact Or.inl rfl|exact Or.inr rfl) rfl (Rvs.agg (T:=60) rfl inferInstance inferInstance xS xC (Rvs.tmp rfl Rvs.nil)) (⟨false,[],[]⟩,a+1) (by rfl) (xN))
 ·
  have hb0:s[a]? = some b:=by have:=congrArg (fun l=>l[0]?) hl;simpa [zLC] using this
  have hlt:=(zLc.1 hb0).1
  have ht:t=s.drop (a+1):=by rw [← List.drop_drop,hl];rfl
  have cb:=yLA (W:=W) (p:=p) (s:=s) (a:=a) hb0 zO
  have qb:decide ((1:Int)<(b.toNat:Int))=false:=zZ zO
  obtain ⟨d,hd⟩:∃ d,decide ((b.toNat:Int)=1)=d:=⟨_,rfl⟩
  rw [ht] at hk
  rcases hk with ⟨e',hk,h1⟩|⟨k,u,hk,hk2⟩
  ·rw [hq] at h1
   cases h1
   have ck:=yDA (W:=W) (F:=F) (p:=p) (s:=s) (a:=a+1) 2147483647 zO zO zO e1 e2 e3 _ hk
   have hne:=yIs (F:=F) (e:=e) (by rcases yEj hk with h|h|h <;> omega)
   rw [show rdT (.bad e)=0 from rfl,zLz] at ck
   refine Ct.enter func138 rfl ntmps138 zW (fun R=>?_)
   repeat' (first|refine yAs ?_;refine yAq rfl (fun g=>?_)|(refine yAb ?_;first|refine xca ck fun _=>?_|refine xca cb fun _=>?_)|refine yAa (yAf rfl rfl hd) ?_|refine yAa (yCc rfl hne) ?_|refine yAa (yAe rfl rfl qb) ?_|refine xst ?_|refine xsa ?_;intro _|refine xsb ?_ ?_<;>intro _<;>try omega|refine xsc ?_|refine xdr 6 yBZ ?_|refine xdr 12 yBZ ?_|refine xsd ?_ ?_|exact Rech.nil|fail)
   all_goals (refine yCy ?_;exact yAR (by first|exact Or.inl rfl|exact Or.inr rfl) rfl (Rvs.agg (T:=60) rfl inferInstance inferInstance xS xC (Rvs.tmp rfl Rvs.nil)) (⟨d,[],[]⟩,a+1) (by rfl) (xN))
  have ck:=yDA (W:=W) (F:=F) (p:=p) (s:=s) (a:=a+1) 2147483647 zO zO zO e1 e2 e3 _ hk
  rw [show rdT (.ok k u)=(tx k).length from rfl,show rdS (.ok k u)=k from rfl] at ck
  have hkf:=yES hk
  have hu:=yDy hk
  obtain ⟨a2,ha2⟩:∃ a2,a2=a+1+(tx k).length:=⟨_,rfl⟩
  rw [← ha2] at ck hkf hu
  have hle:=yHL k last
  rcases hk2 with ⟨rfl,hle2,h1⟩|⟨hor,hk2⟩
  ·rw [hq] at h1
   cases h1
   rw [hle2,Bool.not_false] at hle
   refine Ct.enter func138 rfl ntmps138 zW (fun R=>?_)
   repeat' (first|refine yAs ?_;refine yAq rfl (fun g=>?_)|(refine yAb ?_;first|refine xca ck fun _=>?_|refine xca cb fun _=>?_)|refine yAj ?_;refine yAa (yAn rfl e4) ?_|refine yAa (yAf rfl rfl hd) ?_|refine yAa (yBb rfl rfl hle) ?_|refine yAa (yAe rfl rfl qb) ?_|refine xst ?_|refine xsa ?_;intro _|refine xsb ?_ ?_<;>intro _<;>try omega|refine xsc ?_|refine xdr 6 yBZ ?_|refine xdr 12 yBZ ?_|refine xsd ?_ ?_|exact Rech.nil|fail)
   all_goals (refine yCy ?_;exact yAR (by first|exact Or.inl rfl|exact Or.inr rfl) rfl (Rvs.agg (T:=60) rfl inferInstance inferInstance xS xC (Rvs.tmp rfl Rvs.nil)) (⟨d,k,[]⟩,a2) (by rfl) (xN))
  rcases hk2 with ⟨hb1,h1⟩|⟨hb1,e',hv,h1⟩|⟨hb1,v,w,hv,h1⟩
  ·rw [hq] at h1;cases h1
  ·rw [hq] at h1
   cases h1
   rw [hu] at hv
   have cv:=yDA (W:=W) (F:=F) (p:=p) (s:=s) (a:=a2) 2147483647 zO hkf zO e1 e2 e3 _ hv
   rw [show rdT (.bad e)=0 from rfl,zLz] at cv
   have hd0:d=false:=by rw [← hd];exact zZ zO
   subst hd0
   rcases hor with rfl|hlt2
   ·
    refine Ct.enter func138 rfl ntmps138 zW (fun R=>?_)
    repeat' (first|refine yAs ?_;refine yAq rfl (fun g=>?_)|(refine yAb ?_;first|refine xca cv fun _=>?_|refine xca ck fun _=>?_|refine xca cb fun _=>?_)|refine yAa (yAf rfl rfl hd) ?_|refine yAa (yAe rfl rfl qb) ?_|refine xst ?_|refine xsa ?_;intro _|refine xsb ?_ ?_<;>intro _<;>try omega|refine xsc ?_|refine xdr 6 yBZ ?_|refine xdr 12 yBZ ?_|refine xsd ?_ ?_|exact Rech.nil|fail)
    all_goals (refine yCy ?_;exact yAR (by first|exact Or.inl rfl|exact Or.inr rfl) rfl (Rvs.agg (T:=60) rfl inferInstance inferInstance xS xC (Rvs.tmp rfl Rvs.nil)) (⟨false,k,[]⟩,a2) (by rfl) (xN))
   ·rw [hlt2,Bool.not_true] at hle
    cases first
    ·
     refine Ct.enter func138 rfl ntmps138 zW (fun R=>?_)
     repeat' (first|refine yAs ?_;refine yAq rfl (fun g=>?_)|(refine yAb ?_;first|refine xca cv fun _=>?_|refine xca ck fun _=>?_|refine xca cb fun _=>?_)|refine yAa (yAf rfl rfl hd) ?_|refine yAa (yBb rfl rfl hle) ?_|refine yAa (yAe rfl rfl qb) ?_|refine xst ?_|refine xsa ?_;intro _|refine xsb ?_ ?_<;>intro _<;>try omega|refine xsc ?_|refine xdr 6 yBZ ?_|refine xdr 12 yBZ ?_|refine xsd ?_ ?_|exact Rech.nil|fail)
     all_goals (refine yCy ?_;exact yAR (by first|exact Or.inl rfl|exact Or.inr rfl) rfl (Rvs.agg (T:=60) rfl inferInstance inferInstance xS xC (Rvs.tmp rfl Rvs.nil)) (⟨false,k,[]⟩,a2) (by rfl) (xN))
    ·
     refine Ct.enter func138 rfl ntmps138 zW (fun R=>?_)
     repeat' (first|refine yAs ?_;refine yAq rfl (fun g=>?_)|(refine yAb ?_;first|refine xca cv fun _=>?_|refine xca ck fun _=>?_|refine xca cb fun _=>?_)|refine yAa (yAf rfl rfl hd) ?_|refine yAa (yBb rfl rfl hle) ?_|refine yAa (yAe rfl rfl qb) ?_|refine xst ?_|refine xsa ?_;intro _|refine xsb ?_ ?_<;>intro _<;>try omega|refine xsc ?_|refine xdr 6 yBZ ?_|refine xdr 12 yBZ ?_|refine xsd ?_ ?_|exact Rech.nil|fail)
     all_goals (refine yCy ?_;exact yAR (by first|exact Or.inl rfl|exact Or.inr rfl) rfl (Rvs.agg (T:=60) rfl inferInstance inferInstance xS xC (Rvs.tmp rfl Rvs.nil)) (⟨false,k,[]⟩,a2) (by rfl) (xN))
  ·rw [hq] at h1;cases h1
theorem yTc (_ha:a≤s.length) (hs:s.length≤9223372036854775800) (e1:W.cell? ⟨7,0,none⟩=some (yAr F 1)) (e2:W.cell? ⟨8,0,none⟩=some (yAr F 2)) (e3:W.cell? ⟨9,0,none⟩=some (yAr F 3)) (_e4:W.cell? ⟨10,0,none⟩=some (yAr F 4)) (_e7:W.cell? ⟨0,0,none⟩=some (yAr F 7)) (first:Bool) (last:List UInt8) (op:BOp) (t':List UInt8) (hq:yHs first last (s.drop a)=.ok op t') :
 CtU prog W 138 [zPp p,.bool first,strV last] [rdP p s a] (.tuple #[.agg (opC op).toArray,.nilIface]) [rdP p s (a+(yDw op).length)]:=by
 rcases yFT first last (s.drop a) with ⟨hl,h1⟩|⟨b,t,hl,hb,h1⟩|⟨b,t,hl,hb,hk⟩
 ·rw [hq] at h1;cases h1
 ·rw [hq] at h1;cases h1
 ·
  have hb0:s[a]? = some b:=by have:=congrArg (fun l=>l[0]?) hl;simpa [zLC] using this
  have hlt:=(zLc.1 hb0).1
  have ht:t=s.drop (a+1):=by rw [← List.drop_drop,hl];rfl
  have cb:=yLA (W:=W) (p:=p) (s:=s) (a:=a) hb0 zO
  have qb:decide ((1:Int)<(b.toNat:Int))=false:=zZ zO
  rw [ht] at hk
  rcases hk with ⟨e',hk,h1⟩|⟨k,u,hk,hk2⟩
  ·rw [hq] at h1;cases h1
  have ck:=yDA (W:=W) (F:=F) (p:=p) (s:=s) (a:=a+1) 2147483647 zO zO zO e1 e2 e3 _ hk
  rw [show rdT (.ok k u)=(tx k).length from rfl,show rdS (.ok k u)=k from rfl] at ck
  have hkf:=yES hk
  have hu:=yDy hk
  have hle:=yHL k last
  rcases hk2 with ⟨rfl,hle2,h1⟩|⟨hor,hk2⟩
  ·rw [hq] at h1;cases h1
  rcases hk2 with ⟨hb1,h1⟩|⟨hb1,e',hv,h1⟩|⟨hb1,v,w,hv,h1⟩
  ·rw [hq] at h1
   cases h1
   have hd:decide ((b.toNat:Int)=1)=true:=zY zO
   have hA:a+(yDw ⟨true,k,[]⟩).length=a+1+(tx k).length:=by rw [yJf,zLj];omega
   rw [hA]
   obtain ⟨a2,ha2⟩:∃ a2,a2=a+1+(tx k).length:=⟨_,rfl⟩
   rw [← ha2] at ck hkf hu ⊢
   rcases hor with rfl|hlt2
   ·
    refine Ct.enter func138 rfl ntmps138 zW (fun R=>?_)
    repeat' (first|refine yAs ?_;refine yAq rfl (fun g=>?_)|(refine yAb ?_;first|refine xca ck fun _=>?_|refine xca cb fun _=>?_)|refine yAa (yAf rfl rfl hd) ?_|refine yAa (yAe rfl rfl qb) ?_|refine xst ?_|refine xsa ?_;intro _|refine xsb ?_ ?_<;>intro _<;>try omega|refine xsc ?_|refine xdr 6 yBZ ?_|refine xdr 12 yBZ ?_|refine xsd ?_ ?_|exact Rech.nil|fail)
    all_goals (refine yCy ?_;exact yAR (by first|exact Or.inl rfl|exact Or.inr rfl) rfl (Rvs.agg (T:=60) rfl inferInstance inferInstance xS xC (Rvs.tmp rfl Rvs.nil)) () (by rfl) (xN))
   ·rw [hlt2,Bool.not_true] at hle
    cases first
    ·
     refine Ct.enter func138 rfl ntmps138 zW (fun R=>?_)
     repeat' (first|refine yAs ?_;refine yAq rfl (fun g=>?_)|(refine yAb ?_;first|refine xca ck fun _=>?_|refine xca cb fun _=>?_)|refine yAa (yAf rfl rfl hd) ?_|refine yAa (yBb rfl rfl hle) ?_|refine yAa (yAe rfl rfl qb) ?_|refine xst ?_|refine xsa ?_;intro _|refine xsb ?_ ?_<;>intro _<;>try omega|refine xsc ?_|refine xdr 6 yBZ ?_|refine xdr 12 yBZ ?_|refine xsd ?_ ?_|exact Rech.nil|fail)
     all_goals (refine yCy ?_;exact yAR (by first|exact Or.inl rfl|exact Or.inr rfl) rfl (Rvs.agg (T:=60) rfl inferInstance inferInstance xS xC (Rvs.tmp rfl Rvs.nil)) () (by rfl) (xN))
    ·
     refine Ct.enter func138 rfl ntmps138 zW (fun R=>?_)
     repeat' (first|refine yAs ?_;refine yAq rfl (fun g=>?_)|(refine yAb ?_;first|refine xca ck fun _=>?_|refine xca cb fun _=>?_)|refine yAa (yAf rfl rfl hd) ?_|refine yAa (yBb rfl rfl hle) ?_|refine yAa (yAe rfl rfl qb) ?_|refine xst ?_|refine xsa ?_;intro _|refine xsb ?_ ?_<;>intro _<;>try omega|refine xsc ?_|refine xdr 6 yBZ ?_|refine xdr 12 yBZ ?_|refine xsd ?_ ?_|exact Rech.nil|fail)
     all_goals (refine yCy ?_;exact yAR (by first|exact Or.inl rfl|exact Or.inr rfl) rfl (Rvs.agg (T:=60) rfl inferInstance inferInstance xS xC (Rvs.tmp rfl Rvs.nil)) () (by rfl) (xN))
  ·rw [hq] at h1;cases h1
  ·rw [hq] at h1
   cases h1
   rw [hu] at hv
   have hd:decide ((b.toNat:Int)=1)=false:=zZ zO
   have cv:=yDA (W:=W) (F:=F) (p:=p) (s:=s) (a:=a+1+(tx k).length) 2147483647 zO hkf zO e1 e2 e3 _ hv
   rw [show rdT (.ok v t')=(tx v).length from rfl,show rdS (.ok v t')=v from rfl] at cv
   have hA:a+(yDw ⟨false,k,v⟩).length=a+1+(tx k).length+(tx v).length:=by rw [yJg,zLj,zLa];omega
   rw [hA]
   obtain ⟨a2,ha2⟩:∃ a2,a2=a+1+(tx k).length:=⟨_,rfl⟩
   rw [← ha2] at ck hkf hu cv ⊢
   rcases hor with rfl|hlt2
   ·
    refine Ct.enter func138 rfl ntmps138 zW (fun R=>?_)
    repeat' (first|refine yAs ?_;refine yAq rfl (fun g=>?_)|(refine yAb ?_;first|refine xca cv fun _=>?_|refine xca ck fun _=>?_|refine xca cb fun _=>?_)|refine yAa (yAf rfl rfl hd) ?_|refine yAa (yAe rfl rfl qb) ?_|refine xst ?_|refine xsa ?_;intro _|refine xsb ?_ ?_<;>intro _<;>try omega|refine xsc ?_|refine xdr 6 yBZ ?_|refine xdr 12 yBZ ?_|refine xsd ?_ ?_|exact Rech.nil|fail)
    all_goals (refine yCy ?_;exact yAR (by first|exact Or.inl rfl|exact Or.inr rfl) rfl (Rvs.agg (T:=60) rfl inferInstance inferInstance xS xC (Rvs.tmp rfl Rvs.nil)) () (by rfl) (xN))
   ·rw [hlt2,Bool.not_true] at hle
    cases first
    ·
     refine Ct.enter func138 rfl ntmps138 zW (fun R=>?_)
     repeat' (first|refine yAs ?_;refine yAq rfl (fun g=>?_)|(refine yAb ?_;first|refine xca cv fun _=>?_|refine xca ck fun _=>?_|refine xca cb fun _=>?_)|refine yAa (yAf rfl rfl hd) ?_|refine yAa (yBb rfl rfl hle) ?_|refine yAa (yAe rfl rfl qb) ?_|refine xst ?_|refine xsa ?_;intro _|refine xsb ?_ ?_<;>intro _<;>try omega|refine xsc ?_|refine xdr 6 yBZ ?_|refine xdr 12 yBZ ?_|refine xsd ?_ ?_|exact Rech.nil|fail)
     all_goals (refine yCy ?_;exact yAR (by first|exact Or.inl rfl|exact Or.inr rfl) rfl (Rvs.agg (T:=60) rfl inferInstance inferInstance xS xC (Rvs.tmp rfl Rvs.nil)) () (by rfl) (xN))
    ·
     refine Ct.enter func138 rfl ntmps138 zW (fun R=>?_)
     repeat' (first|refine yAs ?_;refine yAq rfl (fun g=>?_)|(refine yAb ?_;first|refine xca cv fun _=>?_|refine xca ck fun _=>?_|refine xca cb fun _=>?_)|refine yAa (yAf rfl rfl hd) ?_|refine yAa (yBb rfl rfl hle) ?_|refine yAa (yAe rfl rfl qb) ?_|refine xst ?_|refine xsa ?_;intro _|refine xsb ?_ ?_<;>intro _<;>try omega|refine xsc ?_|refine xdr 6 yBZ ?_|refine xdr 12 yBZ ?_|refine xsd ?_ ?_|exact Rech.nil|fail)
     all_goals (refine yCy ?_;exact yAR (by first|exact Or.inl rfl|exact Or.inr rfl) rfl (Rvs.agg (T:=60) rfl inferInstance inferInstance xS xC (Rvs.tmp rfl Rvs.nil)) () (by rfl) (xN))
end
def yTd (acc:List BOp):Rd (List BOp)→Rd (List BOp)
 |.bad e=>.bad e
 |.ok os t=>.ok (acc++os) t
structure RopI (s:List UInt8) (n:Nat) (R:Rd (List BOp)) (i:Nat) (acc:List BOp) (last:List UInt8) (a:Nat):Prop where
 len:acc.length=i
 le:i≤n
 fit:a≤s.length
 two:2*i≤a
 go:yTd acc (yDj (n-i) (decide (i=0)) last (s.drop a))=R
theorem RopI.start {s t:List UInt8} {n a:Nat} (ha:a≤s.length) (ht:t=s.drop a):RopI s n (yDj n true [] t) 0 [] [] a:=⟨rfl,zO,ha,zO,by
 subst ht
 show yTd [] (yDj n true [] (s.drop a))=_
 cases yDj n true [] (s.drop a) <;> rfl⟩
section
variable {s:List UInt8} {n i a:Nat} {R:Rd (List BOp)} {acc:List BOp} {last:List UInt8}
theorem RopI.bad (h:RopI s n R i acc last a) (hi:i<n) {e:Nat} (hq:yHs (decide (i=0)) last (s.drop a)=.bad e):R=.bad e:=by
 have:=h.go
 rw [show n-i=(n-i-1)+1 by omega] at this
 unfold yDj at this
 rw [hq] at this
 exact this.symm
theorem RopI.next (h:RopI s n R i acc last a) (hi:i<n) {o:BOp} {t:List UInt8} (hq:yHs (decide (i=0)) last (s.drop a)=.ok o t):RopI s n R (i+1) (acc++[o]) o.key (a+(yDw o).length):=by
 have hg:=h.go
 have hl:=h.len
 have h2:=h.two
 have he:=yJj o
 have hd:=ySY hq
 refine ⟨by simp [hl],zO,yVh hq,zO,?_⟩
 rw [← hg,show n-i=(n-(i+1))+1 by omega]
 conv=>rhs;unfold yDj
 rw [hq,← hd,show decide (i+1=0)=false from rfl]
 dsimp only
 cases yDj (n-(i+1)) false o.key t <;> simp [yTd]
theorem RopI.stop (h:RopI s n R i acc last a) (hi:¬ i<n):R=.ok acc (s.drop a):=by
 have hg:=h.go
 have hle:=h.le
 rw [show n-i=0 by omega] at hg
 rw [← hg]
 show yTd acc (.ok [] (s.drop a))=_
 simp [yTd]
end
theorem yKw {s:List UInt8} {e:Nat} (h:ru s=.bad e):yAE s=([],e):=by unfold yAE;rw [h]
theorem yJx {s t:List UInt8} {n e:Nat} (h:ru s=.ok n t) (h2:yDj n true [] t=.bad e):yAE s=([],e):=by unfold yAE;rw [h];dsimp only;rw [h2]
theorem yJy {s t u:List UInt8} {n:Nat} {os:List BOp} (h:ru s=.ok n t) (h2:yDj n true [] t=.ok os u) (hu:u≠[]):yAE s=([],5):=by unfold yAE;rw [h];dsimp only;rw [h2];dsimp only;rw [if_neg hu]
theorem yMW {s t u:List UInt8} {n:Nat} {os:List BOp} (h:ru s=.ok n t) (h2:yDj n true [] t=.ok os u) (hu:u=[]):yAE s=(os,0):=by unfold yAE;rw [h];dsimp only;rw [h2];dsimp only;rw [if_pos hu]
section
variable {W:World} {F:Nat→Addr}
theorem yFU (s:List UInt8) (hs:s.length≤4398046511104) (hE:ErrsOn L16 W F) :
 Ct prog W 93 [strV s] [] (fun x:Option Addr × Nat=>.tuple #[.slice x.1 (yAE s).1.length x.2,yAr F (yAE s).2]) (fun x=>[lsP opC 60 3 (.slice x.1 (yAE s).1.length x.2) (yAE s).1]):=by
 have e1:W.cell? ⟨7,0,none⟩=some (yAr F 1):=hE.at_ 1 zX
 have e2:W.cell? ⟨8,0,none⟩=some (yAr F 2):=hE.at_ 2 zX
 have e3:W.cell? ⟨9,0,none⟩=some (yAr F 3):=hE.at_ 3 zX
 have e4:W.cell? ⟨10,0,none⟩=some (yAr F 4):=hE.at_ 4 zX
 have e5:W.cell? ⟨11,0,none⟩=some (yAr F 5):=hE.at_ 5 zX
 have e7:W.cell? ⟨0,0,none⟩=some (yAr F 7):=hE.at_ 7 zX
 have cr:=yDb (W:=W) s
 have cu0:=fun p q hq=>yDz (W:=W) (F:=F) (p:=p) (s:=s) (a:=0) zO zO e1 e2 q hq
 rw [zLo] at cu0
 refine Ct.enter func93 rfl ntmps93 zW (fun R=>?_)
 cases hn:ru s with
 |bad e=>
  have cu:=fun p=>cu0 p _ hn
  have hne:=yIs (F:=F) (e:=e) (by rcases yC2 hn with h|h <;> omega)
  have hd:=yKw hn
  repeat' (first|(refine yAb ?_;first|refine xca (cu _) fun _=>?_|refine xca cr fun p=>?_)|refine yAa (yCc rfl hne) ?_|refine xst ?_|refine xsa ?_;intro _|refine xsb ?_ ?_<;>intro _<;>try omega|refine xsc ?_|fail)
  all_goals rw [hd]
  all_goals refine KJ.nilrow 60 3 ?_
  all_goals (exact xdn (none,0))
 |ok n t=>
  have cu:=fun p=>cu0 p _ hn
  have hf:=yEc (a:=0) (s:=s) (by rw [zLo];exact hn)
  have htd:=yCX (a:=0) (s:=s) (by rw [zLo];exact hn)
  rw [show rdL (.ok n t)=(vu n).length from rfl,show rdN (.ok n t)=n from rfl,show rdE (.ok n t)=0 from rfl] at cu
  obtain ⟨a0,ha0⟩:∃ a0,a0=0+(vu n).length:=⟨_,rfl⟩
  rw [← ha0] at hf htd cu
  repeat' (first|(refine yAb ?_;first|refine xca (cu _) fun _=>?_|refine xca cr fun p=>?_)|refine xst ?_|refine xsa ?_;intro _|refine xsb ?_ ?_<;>intro _<;>try omega|refine xsc ?_|fail)
  refine KJ.nilrow 60 3 ?_
  refine yAz (fun x:{x:Nat × List BOp × List UInt8 × Nat × Option Addr × Nat//RopI s n (yDj n true [] t) x.1 x.2.1 x.2.2.1 x.2.2.2.1}=>[(4,zPp p),(5,.int .u64 (n:Nat)),(7,.slice x.1.2.2.2.2.1 x.1.2.1.length x.1.2.2.2.2.2),(8,strV x.1.2.2.1),(9,.int .u64 (x.1.1:Nat))])
   (fun x=>[rdP p s x.1.2.2.2.1,lsP opC 60 3 (.slice x.1.2.2.2.2.1 x.1.2.1.length x.1.2.2.2.2.2) x.1.2.1]++R) (fun x=>n-x.1.1) ⟨(0,[],[],a0,none,0),RopI.start hf htd⟩ xB (xN) (fun ⟨(i,acc,last,a,sa,sc),hi⟩=>?_)
  dsimp only at hi ⊢
  have hlen:=hi.len
  have htwo:=hi.two
  have hfit:=hi.fit
  by_cases hlt:i<n
  ·have ql:decide (((i:Nat):Int)<((n:Nat):Int))=true:=zY zO
   have qf:decide (((i:Nat):Int)=0)=decide (i=0):=by by_cases h:i=0 <;> simp [h]
   have b1:(acc.length+1)*40≤140737488355328:=zO
   have b2:acc.length+1≤9223372036854775807:=zO
   cases hq:yHs (decide (i=0)) last (s.drop a) with
   |bad e=>
    have hb:=hi.bad hlt hq
    have hne:=yIs (F:=F) (e:=e) (by have:=yLz hq;omega)
    have hd:=yJx hn hb
    have co:=yQG (W:=W) (F:=F) (p:=p) (s:=s) (a:=a) hfit zO e1 e2 e3 e4 e7 (decide (i=0)) last e hq
    repeat' (first|refine yAs ?_;refine yAq rfl (fun g=>?_)|refine yAb ?_;refine xca co fun x=>?_;obtain ⟨o',a'⟩:=x|refine yAa (yAf rfl rfl qf) ?_|refine yAa (yCc rfl hne) ?_|refine yAa (yAc rfl rfl ql) ?_|refine xst ?_|refine xsa ?_;intro _|refine xsb ?_ ?_<;>intro _<;>try omega|refine xsc ?_|fail)
    all_goals rw [hd]
    all_goals refine KJ.nilrow 60 3 ?_
    all_goals (exact xdn (none,0))
   |ok o u=>
    have hnx:=hi.next hlt hq
    have hno:n<18446744073709551616:=(yGO hn).2
    have co:=yTc (W:=W) (F:=F) (p:=p) (s:=s) (a:=a) hfit zO e1 e2 e3 e4 e7 (decide (i=0)) last o u hq
    have ha:IntKind.u64.wrap ((i:Int)+1)=((i+1:Nat):Int):=by
     rw [show (i:Int)+1=((i+1:Nat):Int) by omega];exact yAo _ zO
    repeat' (first|refine yAs ?_;refine yAq rfl (fun g=>?_)|refine yAb ?_;refine xca co fun _=>?_|refine yAH ?_;refine yBV (a:=o) yBy rfl rfl rfl xS xS b1 b2 rfl (fun g1 c1=>?_)|refine yAF ?_;refine yAI rfl xF (by rfl) zO rfl (fun gb=>?_)|refine yAa (yB8 rfl rfl ha) ?_|refine yAa (yAf rfl rfl qf) ?_|refine yAa (yAc rfl rfl ql) ?_|refine xst ?_|refine xsa ?_;intro _|refine xsb ?_ ?_<;>intro _<;>try omega|refine xsc ?_|fail)
    all_goals refine yAp ⟨(i+1,acc++[o],o.key,a+(yDw o).length,some ⟨g1,0,none⟩,c1),hnx⟩ (by show n-(i+1)<n-i;omega) xB (xN)
  ·have ql:decide (((i:Nat):Int)<((n:Nat):Int))=false:=zZ zO
   have hst:=hi.stop hlt
   have cd:=yDc (W:=W) (F:=F) (p:=p) (s:=s) (a:=a) hfit zO e5
   by_cases hend:a<s.length
   ·have hd:=yJy hn hst (by intro h;have:=congrArg List.length h;rw [zLf,List.length_nil] at this;omega)
    rw [if_pos hend] at cd
    repeat' (first|refine yAb ?_;refine xca cd fun _=>?_|refine yAa (yAc rfl rfl ql) ?_|refine xst ?_|refine xsa ?_;intro _|refine xsb ?_ ?_<;>intro _<;>try omega|refine xsc ?_|fail)
    all_goals rw [hd]
    all_goals refine KJ.nilrow 60 3 ?_
    all_goals (exact xdn (none,0))
   ·have hd:=yMW hn hst (zLl zO)
    rw [if_neg hend] at cd
    repeat' (first|refine yAb ?_;refine xca cd fun _=>?_|refine yAa (yAc rfl rfl ql) ?_|refine xst ?_|refine xsa ?_;intro _|refine xsb ?_ ?_<;>intro _<;>try omega|refine xsc ?_|fail)
    all_goals rw [hd]
    all_goals (exact xdn (sa,sc))
end
end Go.Proofs.YtlnbkbfblhofbaaGreatDoor
