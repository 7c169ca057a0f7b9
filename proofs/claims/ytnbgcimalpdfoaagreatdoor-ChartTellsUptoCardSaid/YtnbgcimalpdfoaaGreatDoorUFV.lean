/-
  RhW1, RhW2.
-/
import Derived.Test.YtnbgcimalpdfoaaGreatDoorUFE
set_option maxHeartbeats 64000000
namespace Go.Proofs.YtnbgcimalpdfoaaGreatDoor
open Go Go.RowKit
abbrev plUFV0:Pl:=(.op 0 (.op 1 (.op 2 (.op 3 (.op 4 (.op 5 (.ef 6 [] (.op 7 (.op 8 (.op 9 (.op 10 (.op 11 (.op 12 (.op 13 (.op 14 (.op 15 (.op 16 (.ef 17 [] (.op 18 (.op 19 (.op 20 (.op 21 (.op 22 (.op 23 (.op 24 (.op 25 (.ef 26 [] (.op 27 (.op 28 .nil)))))))))))))))))))))))))))))
theorem lend_open {A:SP} {L R:List SP} {key:Nat} {g:Hl} (q:zBi (A::allP key L::R) g):zBi (L++A::R) g:=all_open (starL_swap _ q)
theorem lend_shut {A:SP} {L R:List SP} {key:Nat} {g:Hl} (q:zBi (L++A::R) g):zBi (A::allP key L::R) g:=starL_swap _ (all_shut q)
section
variable {W:World} {N:List Nd} {L:Rows} {J S:Nat→SP} {f:FuncId} {cs:List Value}
theorem rising_b [FnIs Tryz.prog f] (lo:List UInt8) (hy:∀ i p,L[i]? = some p→Ct Tryz.prog W f ([strV p.1,strV p.2]++cs) [arP N,J i] (fun b:Bool=>.bool b) (fun b=>match b with|true=>[arP N,J (i+1)]|false=>[arP N,S i])):∀ (t:Tr) (a:Option Addr) (i0 M:Nat),TrAt N a t→M=i0+(t.frm lo).length→(∀ j p,(t.frm lo)[j]? = some p→L[i0+j]? = some p)→
 Ct Tryz.prog W 185 [.pointer a,strV lo,.func (.func f) #[] cs.toArray] [arP N,J i0] (fun x:{x:Option Nat//∀ m,x=some m→m<M}=>.bool x.1.isNone) (fun x=>[arP N,jsP J S M x.1]):=by
 intro t
 induction t with
 |nil=>
  intro a i0 M hT hM hL
  cases hT
  have hM:M=i0:=hM
  subst hM
  refine Ct.enter Tryz.func185 rfl Tryz.ntmps185 (by simp) (fun R=>?_)
  repeat' (first|refine xst ?_|(refine xsa ?_;intro _)|(refine xsb ?_ ?_ <;>intro _<;>try (exfalso;omega))|refine xsc ?_|(refine zAb (id:=5) plUFV0 (by kernel_rfl) (by kernel_rfl) ?_)|refine zAj ?_ ?_|refine zAi rfl rfl rfl rfl rfl ?_ ?_|refine zAf ?_ ?_|exact Rech.nil|fail)
  all_goals (exact xdn ⟨none,fun m h=>by cases h⟩)
 |node yl yk yv' yr yh ys ihl ihr=>
  intro a i0 M hT hM hL
  obtain ⟨b,al,ar,rfl,hm,hal,har⟩:=hT
  by_cases c:Op.bytesLess yk lo=true
  ·rw [frm_lo c] at hM hL
   have cr:=ihr ar i0 M har hM hL
   refine Ct.enter Tryz.func185 rfl Tryz.ntmps185 (by simp) (fun R=>?_)
   repeat' (first|(refine zAd ?_;refine zAc xE cr xP rfl (fun x=>?_))|(refine zAn ?_;refine zAa (zAt (nd:=⟨b,yk,yv',al,ar,yh,ys⟩) rfl xS hm rfl) ?_)|(refine zAm ?_;refine zAa (Ev_lssS_q rfl rfl c) ?_)|refine xst ?_|(refine xsa ?_;intro _)|(refine xsb ?_ ?_ <;>intro _<;>try (exfalso;omega))|refine xsc ?_|(refine zAb (id:=5) plUFV0 (by kernel_rfl) (by kernel_rfl) ?_)|refine zAj ?_ ?_|refine zAi rfl rfl rfl rfl rfl ?_ ?_|refine zAf ?_ ?_|exact Rech.nil|fail)
   all_goals (exact xdn x)
  ·have c:Op.bytesLess yk lo=false:=by simpa using c
   rw [frm_hi c] at hM hL
   rw [List.length_append,List.length_cons] at hM
   have cl:=ihl al i0 (i0+(yl.frm lo).length) hal rfl (fun j p h=>hL j p (by rw [List.getElem?_append_left (List.getElem?_eq_some_iff.1 h).1];exact h))
   have hyy:=hy (i0+(yl.frm lo).length) (yk,yv') (hL (yl.frm lo).length (yk,yv') (by rw [List.getElem?_append_right (Nat.le_refl _),Nat.sub_self];rfl))
   have cr:=ihr ar (i0+(yl.frm lo).length+1) M har (by omega) (fun j p h=>by
    have:=hL ((yl.frm lo).length+(j+1)) p (by rw [List.getElem?_append_right (by omega),Nat.add_sub_cancel_left,List.getElem?_cons_succ];exact h)
    rwa [← Nat.add_assoc,← Nat.add_assoc,Nat.add_right_comm (i0+_) j 1] at this)
   obtain ⟨m0,hm0⟩:∃ z,z=i0+(yl.frm lo).length:=⟨_,rfl⟩
   rw [← hm0] at cl hyy cr
   refine Ct.enter Tryz.func185 rfl Tryz.ntmps185 (by simp) (fun R=>?_)
   repeat' (first|(refine zAd ?_;refine zAc xE cl xP rfl (fun x=>?_);obtain ⟨x,hx⟩:=x;refine hold ?_)|(refine zAn ?_;refine zAa (zAt (nd:=⟨b,yk,yv',al,ar,yh,ys⟩) rfl xS hm rfl) ?_)|(refine zAm ?_;refine zAa (Ev_lssS_q rfl rfl c) ?_)|refine xst ?_|(refine xsa ?_;intro _)|(refine xsb ?_ ?_ <;>intro _<;>try (exfalso;omega))|refine xsc ?_|(refine zAb (id:=5) plUFV0 (by kernel_rfl) (by kernel_rfl) ?_)|refine zAj ?_ ?_|refine zAi rfl rfl rfl rfl rfl ?_ ?_|refine zAf ?_ ?_|exact Rech.nil|fail)
   refine Hold.mk ?_
   dsimp only at hx ⊢
   cases x with
   |some j=>
    have hj:=hx j rfl
    dsimp only [jsP,Option.isNone]
    repeat' (first|(refine zAn ?_;refine zAa (zAt (nd:=⟨b,yk,yv',al,ar,yh,ys⟩) rfl xS hm rfl) ?_)|refine xst ?_|(refine xsa ?_;intro _)|(refine xsb ?_ ?_ <;>intro _<;>try (exfalso;omega))|refine xsc ?_|(refine zAb (id:=5) plUFV0 (by kernel_rfl) (by kernel_rfl) ?_)|refine zAj ?_ ?_|refine zAi rfl rfl rfl rfl rfl ?_ ?_|refine zAf ?_ ?_|exact Rech.nil|fail)
    all_goals exact xdn ⟨some j,fun m h=>by cases h;omega⟩ (hE:=by dsimp only [jsP];exact (xN))
   |none=>
    dsimp only [jsP,Option.isNone]
    repeat' (first|(refine is_callV ?_;refine hold ?_)|(refine zAn ?_;refine zAa (zAt (nd:=⟨b,yk,yv',al,ar,yh,ys⟩) rfl xS hm rfl) ?_)|refine xst ?_|(refine xsa ?_;intro _)|(refine xsb ?_ ?_ <;>intro _<;>try (exfalso;omega))|refine xsc ?_|(refine zAb (id:=5) plUFV0 (by kernel_rfl) (by kernel_rfl) ?_)|refine zAj ?_ ?_|refine zAi rfl rfl rfl rfl rfl ?_ ?_|refine zAf ?_ ?_|exact Rech.nil|fail)
    refine Hold.mk ?_
    refine KJ_callV (f:=f) (fs:=#[]) (cs:=cs.toArray) (us:=[strV yk,strV yv']++cs) (vs:=[strV yk,strV yv']) rfl xE (by simp) hyy xP rfl (fun y=>?_)
    cases y with
    |false=>
     dsimp only
     repeat' (first|(refine zAn ?_;refine zAa (zAt (nd:=⟨b,yk,yv',al,ar,yh,ys⟩) rfl xS hm rfl) ?_)|refine xst ?_|(refine xsa ?_;intro _)|(refine xsb ?_ ?_ <;>intro _<;>try (exfalso;omega))|refine xsc ?_|(refine zAb (id:=5) plUFV0 (by kernel_rfl) (by kernel_rfl) ?_)|refine zAj ?_ ?_|refine zAi rfl rfl rfl rfl rfl ?_ ?_|refine zAf ?_ ?_|exact Rech.nil|fail)
     all_goals exact xdn ⟨some m0,fun m h=>by cases h;omega⟩ (hE:=by dsimp only [jsP];exact (xN))
    |true=>
     dsimp only
     repeat' (first|(refine zAd ?_;refine zAc xE cr xP rfl (fun z=>?_))|(refine zAn ?_;refine zAa (zAt (nd:=⟨b,yk,yv',al,ar,yh,ys⟩) rfl xS hm rfl) ?_)|refine xst ?_|(refine xsa ?_;intro _)|(refine xsb ?_ ?_ <;>intro _<;>try (exfalso;omega))|refine xsc ?_|(refine zAb (id:=5) plUFV0 (by kernel_rfl) (by kernel_rfl) ?_)|refine zAj ?_ ?_|refine zAi rfl rfl rfl rfl rfl ?_ ?_|refine zAf ?_ ?_|exact Rech.nil|fail)
     all_goals (exact xdn z)
end
section
variable {W:World} {N:List Nd} {gh gy lp:Nat} {k v hi:List UInt8} {J J1 S:SP}
theorem rng11b_yes (hl:Op.bytesLess k hi=true) (hy:Yt Tryz.prog W lp [strV k,strV v] [arP N,J] (fun b:Bool=>b) (fun b=>match b with|true=>[arP N,J1]|false=>[arP N,S])) :
 Ct Tryz.prog W 186 [strV k,strV v,.pointer (some ⟨gh,0,none⟩),.pointer (some ⟨gy,0,none⟩)] [arP N,allP 61 (rgL J gh gy hi lp)] (fun b:Bool=>.bool b) (fun b=>match b with|true=>[arP N,allP 61 (rgL J1 gh gy hi lp)]|false=>[arP N,allP 61 (rgL S gh gy hi lp)]):=by
 refine Ct.enter Tryz.func186 rfl Tryz.ntmps186 (by simp) (fun R=>?_)
 refine KJ.allOpen (L:=rgL J gh gy hi lp) xS ?_
 repeat' (first|(refine is_callV ?_;refine KJ_yield rfl xE hy xP rfl (fun y=>?_);refine hold ?_)|(refine zAm ?_;refine zAa (Ev_lssS_q rfl rfl hl) ?_)|refine xst ?_|(refine xsa ?_;intro _)|(refine xsb ?_ ?_ <;>intro _<;>try (exfalso;omega))|refine xsc ?_|fail)
 refine Hold.mk ?_
 cases y with
 |false=>
  dsimp only
  refine KJ.allShut (L:=rgL S gh gy hi lp) 61 xP ?_
  repeat' (first|refine xst ?_|(refine xsa ?_;intro _)|(refine xsb ?_ ?_ <;>intro _<;>try (exfalso;omega))|refine xsc ?_|fail)
  all_goals (exact xdn false)
 |true=>
  dsimp only
  refine KJ.allShut (L:=rgL J1 gh gy hi lp) 61 xP ?_
  repeat' (first|refine xst ?_|(refine xsa ?_;intro _)|(refine xsb ?_ ?_ <;>intro _<;>try (exfalso;omega))|refine xsc ?_|fail)
  all_goals (exact xdn true)
theorem rng11b_no (hl:Op.bytesLess k hi=false) :
 Ct Tryz.prog W 186 [strV k,strV v,.pointer (some ⟨gh,0,none⟩),.pointer (some ⟨gy,0,none⟩)] [arP N,allP 61 (rgL J gh gy hi lp)] (fun b:Bool=>.bool b) (fun b=>match b with|true=>[arP N,allP 61 (rgL J1 gh gy hi lp)]|false=>[arP N,allP 61 (rgL J gh gy hi lp)]):=by
 refine Ct.enter Tryz.func186 rfl Tryz.ntmps186 (by simp) (fun R=>?_)
 refine KJ.allOpen (L:=rgL J gh gy hi lp) xS ?_
 repeat' (first|(refine zAm ?_;refine zAa (Ev_lssS_q rfl rfl hl) ?_)|refine xst ?_|(refine xsa ?_;intro _)|(refine xsb ?_ ?_ <;>intro _<;>try (exfalso;omega))|refine xsc ?_|fail)
 all_goals refine KJ.allShut (L:=rgL J gh gy hi lp) 61 xP ?_
 all_goals (exact xdn false)
end
section
variable {W:World} {N:List Nd} {gh gy lp:Nat} {k v hi:List UInt8} {X:Type}
theorem rng11b_abs {r:X→Value} {H':X→List SP} :
 Ct Tryz.prog W 186 [strV k,strV v,.pointer (some ⟨gh,0,none⟩),.pointer (some ⟨gy,0,none⟩)] [arP N,allP 61 (rgL (factP False) gh gy hi lp)] r H':=by
 refine Ct.enter Tryz.func186 rfl Tryz.ntmps186 (by simp) (fun R=>?_)
 refine KJ.allOpen (L:=rgL (factP False) gh gy hi lp) xS ?_
 exact KJ.absurdF xS
end
section
variable {W:World} {N:List Nd} {a:Option Addr} {t:Tr} {lo hi:List UInt8} {m lp:Nat} {J S:Nat→SP} {x:Nat × Nat × Nat}
theorem rng11b_ct {gh gy:Nat} (hR:RgOk N a t lo hi m) (hy:∀ i p,(t.frm lo)[i]? = some p→i<m→Yt Tryz.prog W lp [strV p.1,strV p.2] [arP N,J i] (fun b:Bool=>b) (fun b=>match b with|true=>[arP N,J (i+1)]|false=>[arP N,S i])) (i:Nat) (p:List UInt8 × List UInt8) (hp:(t.frm lo)[i]? = some p) :
 Ct Tryz.prog W 186 ([strV p.1,strV p.2]++[.pointer (some ⟨gh,0,none⟩),.pointer (some ⟨gy,0,none⟩)]) [arP N,allP 61 (rgL (jxP J m i) gh gy hi lp)] (fun b:Bool=>.bool b) (fun b=>match b with|true=>[arP N,allP 61 (rgL (jxP J m (i+1)) gh gy hi lp)]|false=>[arP N,allP 61 (rgL (sxP J S m i) gh gy hi lp)]):=by
 by_cases h1:i<m
 ·have e1:jxP J m i=J i:=if_pos (by omega)
  have e2:jxP J m (i+1)=J (i+1):=if_pos (by omega)
  have e3:sxP J S m i=S i:=if_pos h1
  rw [e1,e2,e3]
  exact rng11b_yes (hR.yes i p hp h1) (hy i p hp h1)
 ·by_cases h2:i=m
  ·subst h2
   have e1:jxP J i i=J i:=if_pos (Nat.le_refl _)
   have e3:sxP J S i i=J i:=if_neg h1
   rw [e1,e3]
   exact rng11b_no (hR.no p hp)
  ·have e1:jxP J m i=factP False:=if_neg (by omega)
   rw [e1]
   exact rng11b_abs
theorem rng1b_ct (hR:RgOk N a t lo hi m) (hy:∀ i p,(t.frm lo)[i]? = some p→i<m→Yt Tryz.prog W lp [strV p.1,strV p.2] [arP N,J i] (fun b:Bool=>b) (fun b=>match b with|true=>[arP N,J (i+1)]|false=>[arP N,S i])) :
 Ct Tryz.prog W 184 [yv lp,.pointer (some ⟨x.1,0,none⟩),.pointer (some ⟨x.2.1,0,none⟩),.pointer (some ⟨x.2.2,0,none⟩)] ([J 0]++(rngP x a lo hi++[arP N]))
  (fun _:{y:Option Nat//∀ i,y=some i→i<m}=>.tuple #[]) (fun y=>[jsP J S m y.1]++(rngP x a lo hi++[arP N])):=by
 have cr:=fun gy=>rising_b (W:=W) (N:=N) (L:=t.frm lo) (f:=186) (cs:=[.pointer (some ⟨x.2.2,0,none⟩),.pointer (some ⟨gy,0,none⟩)]) (J:=fun i=>allP 61 (rgL (jxP J m i) x.2.2 gy hi lp)) (S:=fun i=>allP 61 (rgL (sxP J S m i) x.2.2 gy hi lp)) lo (fun i p hp=>rng11b_ct hR hy i p hp) t a 0 (t.frm lo).length hR.at_ (by omega) (fun j p h=>by rw [Nat.zero_add];exact h)
 have hle:=hR.le
 have e0:jxP J m 0=J 0:=if_pos (Nat.zero_le _)
 obtain ⟨x1,x2,x3⟩:=x
 dsimp only at cr ⊢
 rw [e0] at cr
 refine Ct.enter Tryz.func184 rfl Tryz.ntmps184 (by simp) (fun R=>?_)
 repeat' (first|(refine zBu ?_;refine zBr rfl xF rfl (fun gy=>?_);refine KJ.allShut (L:=rgL (J 0) x3 gy hi lp) 61 xP ?_)|(refine zAd ?_;refine zAc xE (cr _) xP rfl (fun y=>?_);obtain ⟨y,hyl⟩:=y;refine hold ?_)|(refine ek_mkFunc ?_;refine zAa (Ev_mkFunc2 rfl rfl) ?_)|refine xst ?_|(refine xsa ?_;intro _)|(refine xsb ?_ ?_ <;>intro _<;>try (exfalso;omega))|refine xsc ?_|fail)
 all_goals refine Hold.mk ?_
 all_goals dsimp only at hyl ⊢
 cases y with
 |none=>
  dsimp only [jsP]
  refine KJ.allOpen (L:=rgL (jxP J m (t.frm lo).length) x3 gy hi lp) xS ?_
  by_cases hM:(t.frm lo).length≤m
  ·have eM:jxP J m (t.frm lo).length=J m:=by rw [show (t.frm lo).length=m by omega];exact if_pos (Nat.le_refl _)
   rw [eM]
   repeat' (first|refine xst ?_|(refine xsa ?_;intro _)|(refine xsb ?_ ?_ <;>intro _<;>try (exfalso;omega))|refine xsc ?_|fail)
   all_goals (refine is_ex ?_;exact zBq (by first|exact Or.inl rfl|exact Or.inr rfl) rfl Rvs.nil ⟨none,fun i h=>by cases h⟩ (by rfl) (by dsimp only [jsP];exact (xN)))
  ·have eM:jxP J m (t.frm lo).length=factP False:=if_neg hM
   rw [eM]
   exact KJ.absurdF xS
 |some i=>
  dsimp only [jsP]
  refine KJ.allOpen (L:=rgL (sxP J S m i) x3 gy hi lp) xS ?_
  by_cases hM:i<m
  ·have eM:sxP J S m i=S i:=if_pos hM
   rw [eM]
   repeat' (first|refine xst ?_|(refine xsa ?_;intro _)|(refine xsb ?_ ?_ <;>intro _<;>try (exfalso;omega))|refine xsc ?_|fail)
   all_goals (refine is_ex ?_;exact zBq (by first|exact Or.inl rfl|exact Or.inr rfl) rfl Rvs.nil ⟨some i,fun j h=>by cases h;exact hM⟩ (by rfl) (by dsimp only [jsP];exact (xN)))
  ·have eM:sxP J S m i=J m:=if_neg hM
   rw [eM]
   repeat' (first|refine xst ?_|(refine xsa ?_;intro _)|(refine xsb ?_ ?_ <;>intro _<;>try (exfalso;omega))|refine xsc ?_|fail)
   all_goals (refine is_ex ?_;exact zBq (by first|exact Or.inl rfl|exact Or.inr rfl) rfl Rvs.nil ⟨none,fun i h=>by cases h⟩ (by rfl) (by dsimp only [jsP];exact (xN)))
theorem KJ_rangeRngB {n:Nat} {q:QQ} {gop:Operand} {En:Env} {H R:List SP} {psl:List Tmp} {asg bd:Code} (hro:q.ro=none) (hg:Env.ev En gop=some (rngV x)) (hR:RgOk N a t lo hi m) (hpl:psl.length=2) (hpn:∀ p ∈ psl,p<n)
 (J S:Nat→SP) (jump:Code) (hp:Pick ([J 0]++(rngP x a lo hi++[arP N])) H R)
 (hb:∀ l i p,(t.frm lo)[i]? = some p→i<m→∀ R,KJ W n (.code Tryz.prog asg (asgQ Tryz.prog l bd (roundPost Tryz.prog l (RPost W (fun b:Bool=>b) (fun b=>if b then recP l .ready none n En psl.toArray asg bd::[J (i+1),arP N] else recP l .done (some jump) n En psl.toArray asg bd::[S i,arP N]) R)))) (Env.ofPs psl [strV p.1,strV p.2] En) (recP l .ready none n En psl.toArray asg bd::[J i,arP N]++R))
 (h0:KJ W n (.ex q .normal) En ([J m]++(rngP x a lo hi++[arP N])++R)) (h1:∀ i,i<m→KJ W n (.code Tryz.prog jump q) En ([S i]++(rngP x a lo hi++[arP N])++R)):KJ W n (.code Tryz.prog (Code.rangeFunc gop psl.toArray asg bd) q) En H:=by
 refine KJ_range (X:={y:Option Nat//∀ i,y=some i→i<m}) (lb:=[.pointer (some ⟨x.1,0,none⟩),.pointer (some ⟨x.2.1,0,none⟩),.pointer (some ⟨x.2.2,0,none⟩)]) (pe:=fun y=>match y.1 with|none=>none|some _=>some jump) (Hp:=fun y=>[jsP J S m y.1]++(rngP x a lo hi++[arP N])) (v:=fun _=>.tuple #[]) hro hg (fun l=>?_) hp (fun y hx=>?_) (fun y cc hx=>?_)
 ·have key:=rng1b_ct (W:=W) (lp:=l) (x:=x) (J:=fun i=>allP l [recP l .ready none n En psl.toArray asg bd,J i]) (S:=fun i=>allP l [recP l .done (some jump) n En psl.toArray asg bd,S i]) hR (fun i p hi hm=>by
   have hy:=Yt.of (n:=n) (Hpre:=[J i,arP N]) (by rw [hpl];rfl) hpn (fun R=>hb l i p hi hm R)
   refine hy.conv (fun R g q=>lend_open (L:=[recP l .ready none n En psl.toArray asg bd,J i]) q) (fun b R g q=>?_)
   cases b
   ·exact lend_shut (L:=[recP l .done (some jump) n En psl.toArray asg bd,S i]) q
   ·exact lend_shut (L:=[recP l .ready none n En psl.toArray asg bd,J (i+1)]) q)
  refine key.conv (fun R g q=>all_shut (L:=[recP l .ready none n En psl.toArray asg bd,J 0]) q) (fun y R g q=>?_)
  obtain ⟨y,hy⟩:=y
  cases y
  ·exact all_open (L:=[recP l .ready none n En psl.toArray asg bd,J m]) q
  ·exact all_open (L:=[recP l .done (some jump) n En psl.toArray asg bd,S _]) q
 ·obtain ⟨y,hx'⟩:=y
  cases y with
  |none=>exact h0
  |some i=>cases hx
 ·obtain ⟨y,hx'⟩:=y
  cases y with
  |none=>cases hx
  |some i=>
   cases hx
   exact h1 i (hx' i rfl)
end
end Go.Proofs.YtnbgcimalpdfoaaGreatDoor
namespace Go.Proofs.YtnbgcimalpdfoaaGreatDoor
open Go Go.RowKit
section
variable {W:World} {F:Nat→Addr} {N:List Nd} {a:Option Addr} {t:Tr} {lo hi:List UInt8} {m lp g:Nat} {J S:Nat→SP} {x:Nat × Nat × Nat}
theorem all1b_ct (hE:ErrsOn L37 W F) (hR:RgOk N a t lo hi m) (hk:∀ p ∈ t.frm lo,p.1.length≤2000000∧p.2.length≤9223372036854775000)
 (hy:∀ j ac,(zBw ((t.frm lo).take m))[j]? = some ac→Yt Tryz.prog W lp [acV ac] [arP N,J j] (fun b:Bool=>b) (fun b=>match b with|true=>[arP N,J (j+1)]|false=>[arP N,S j])) :
 Ct Tryz.prog W 92 [yv lp,.pointer (some ⟨g,0,none⟩)] ([J 0]++(zAk g [rngV x] 142::(rngP x a lo hi++[arP N])))
  (fun _:{y:Option Nat//∀ i,y=some i→i<(zBw ((t.frm lo).take m)).length}=>.tuple #[]) (fun y=>[jsP J S (zBw ((t.frm lo).take m)).length y.1]++(zAk g [rngV x] 142::(rngP x a lo hi++[arP N]))):=by
 have e7:W.cell? ⟨3,0,none⟩=some (errV F 7):=hE.at_ 7 (by decide)
 have n7:=errNe (F:=F) (e:=7) (by omega)
 have n15:=errNe (F:=F) (e:=15) (by omega)
 have hle:=hR.le
 obtain ⟨L,hL⟩:∃ L,L=t.frm lo:=⟨_,rfl⟩
 obtain ⟨x1,x2,x3⟩:=x
 refine Ct.enter Tryz.func92 rfl Tryz.ntmps92 (by simp) (fun R=>?_)
 repeat' (first|(refine zBu ?_;refine zBr rfl xF rfl (fun gy=>?_))|refine xst ?_|(refine xsa ?_;intro _)|(refine xsb ?_ ?_ <;>intro _<;>try (exfalso;omega))|refine xsc ?_|fail)
 refine KJ.allShut (L:=[J (zBw ((t.frm lo).take 0)).length,zAk gy [yv lp] 131]) 62 xP ?_
 refine KJ_rangeRngB (x:=(x1,x2,x3)) (m:=m) rfl rfl hR rfl (by decide) (fun i=>aJ J (t.frm lo) gy lp i) (fun i=>aS S (t.frm lo) gy lp m i) .ret xP (fun l i p hp him R'=>?_) ?_ (fun i him=>?_)
 ·have hpm:p ∈ t.frm lo:=List.mem_of_getElem? hp
  obtain ⟨hk1,hk2⟩:=hk p hpm
  have cs:=ksplit_ct (W:=W) (F:=F) p.1 (by omega) e7
  dsimp only [Env.ofPs]
  obtain ⟨c,hc⟩:∃ c,c=(zBw ((t.frm lo).take i)).length:=⟨_,rfl⟩
  have same:accR p=none→aJ J (t.frm lo) gy lp (i+1)=allP 62 [J c,zAk gy [yv lp] 131]:=fun h=>by
   show allP 62 [J (zBw ((t.frm lo).take (i+1))).length,_]=_
   rw [acctsOf_next hp,h,hc]
   simp
  have more:∀ ac,accR p=some ac→aJ J (t.frm lo) gy lp (i+1)=allP 62 [J (c+1),zAk gy [yv lp] 131]:=fun ac h=>by
   show allP 62 [J (zBw ((t.frm lo).take (i+1))).length,_]=_
   rw [acctsOf_next hp,h,hc]
   simp
  refine KJ.allOpen (L:=[J (zBw ((t.frm lo).take i)).length,zAk gy [yv lp] 131]) xS ?_
  rw [← hc]
  cases hsp:zCd p.1 with
  |none=>
   rw [hsp] at cs
   rw [same (accR_none hsp)]
   have cs:Ct Tryz.prog W 93 [strV p.1] [] (fun _:Option Addr × Nat=>.tuple #[.slice none 0 0,errV F 7]) _:=cs
   repeat' (first|(refine is_begin ?_;refine KJ_begin xS ?_)|(refine zAd ?_;refine zAc xE cs xP rfl (fun _=>?_))|(refine zAx ?_;refine zAa (zCi rfl n7) ?_)|refine xst ?_|(refine xsa ?_;intro _)|(refine xsb ?_ ?_ <;>intro _<;>try (exfalso;omega))|refine xsc ?_|fail)
   refine KJ.allShut (L:=[J c,zAk gy [yv lp] 131]) 62 xP ?_
   exact KJ_round_t xS (xN)
  |some Lp=>
   rw [hsp] at cs
   have cs:Ct Tryz.prog W 93 [strV p.1] [] (fun z:Option Addr × Nat=>.tuple #[.slice z.1 Lp.length z.2,.nilIface]) (fun z=>[lsP kqC 94 3 (.slice z.1 Lp.length z.2) Lp]):=cs
   by_cases h2:Lp.length=2
   rotate_left
   ·have q2:decide (((Lp.length:Nat):Int)≠2)=true:=decide_eq_true (by omega)
    rw [same (accR_other hsp h2)]
    repeat' (first|(refine is_begin ?_;refine KJ_begin xS ?_)|(refine zAd ?_;refine zAc xE cs xP rfl (fun _=>?_))|(refine zAx ?_;refine zAa (zBk rfl rfl q2) ?_)|refine xst ?_|(refine xsa ?_;intro _)|(refine xsb ?_ ?_ <;>intro _<;>try (exfalso;omega))|refine xsc ?_|fail)
    refine KJ.allShut (L:=[J c,zAk gy [yv lp] 131]) 62 xP ?_
    exact KJ_round_t xS (xN)
   match Lp,h2,hsp,cs with
   |[q0,⟨num,nn,sid⟩],_,hsp,cs=>
    have hacc:=accR_two hsp
    have hsl:sid.length≤2000000:=Nat.le_trans (splitP_len _ (Nat.le_refl _) hsp ⟨num,nn,sid⟩ (by simp)) hk1
    have hq1:([q0,⟨num,nn,sid⟩]:List KPt)[1]? = some ⟨num,nn,sid⟩:=rfl
    have hpos:0<([q0,⟨num,nn,sid⟩]:List KPt).length:=Nat.succ_pos _
    cases num with
    |true=>
     rw [same hacc]
     repeat' (first|(refine is_begin ?_;refine KJ_begin xS ?_)|(refine zAd ?_;refine zAc xE cs xP rfl (fun z=>?_);obtain ⟨za,zc⟩:=z;refine KJ.lsSome (a:=za) (c:=zc) (m:=2) xS hpos (fun g9 hg9=>?_);subst hg9)|(refine zAn ?_;first|refine zAa (Ev_loadLsF (j:=0) kq_ok rfl xS rfl (by rfl) hq1 rfl) ?_|refine zAa (Ev_loadLsF (j:=2) kq_ok rfl xS rfl (by rfl) hq1 rfl) ?_)|(refine zAx ?_;refine zAa (zBk (q:=false) rfl rfl rfl) ?_)|refine xst ?_|(refine xsa ?_;intro _)|(refine xsb ?_ ?_ <;>intro _<;>try (exfalso;omega))|refine xsc ?_|fail)
     refine KJ.allShut (L:=[J c,zAk gy [yv lp] 131]) 62 xP ?_
     exact KJ_round_t xS (xN)
    |false=>
     have hacc:accR p=decA sid p.2:=hacc
     have cd:=chdec_ct (W:=W) (F:=F) (id:=sid) (s:=p.2) hsl hk2 hE
     cases hd:decA sid p.2 with
     |none=>
      rw [hd] at cd hacc
      have cd:Ct Tryz.prog W 30 [strV sid,strV p.2] [] (fun _:Unit=>.tuple #[acV ac0,errV F 15]) (fun _=>[]):=cd
      rw [same hacc]
      repeat' (first|(refine is_begin ?_;refine KJ_begin xS ?_)|(refine zAd ?_;first|(refine zAc xE cs xP rfl (fun z=>?_);obtain ⟨za,zc⟩:=z;refine KJ.lsSome (a:=za) (c:=zc) (m:=2) xS hpos (fun g9 hg9=>?_);subst hg9)|(refine zAc xE cd xP rfl (fun _=>?_)))|(refine zAn ?_;first|refine zAa (Ev_loadLsF (j:=0) kq_ok rfl xS rfl (by rfl) hq1 rfl) ?_|refine zAa (Ev_loadLsF (j:=2) kq_ok rfl xS rfl (by rfl) hq1 rfl) ?_)|(refine zAv ?_;refine zAa (Ev_eqlNil rfl n15) ?_)|(refine zAx ?_;refine zAa (zBk (q:=false) rfl rfl rfl) ?_)|refine xst ?_|(refine xsa ?_;intro _)|(refine xsb ?_ ?_ <;>intro _<;>try (exfalso;omega))|refine xsc ?_|fail)
      refine KJ.allShut (L:=[J c,zAk gy [yv lp] 131]) 62 xP ?_
      exact KJ_round_t xS (xN)
     |some ac=>
      rw [hd] at cd hacc
      have cd:Ct Tryz.prog W 30 [strV sid,strV p.2] [] (fun _:Unit=>.tuple #[acV ac,.nilIface]) (fun _=>[]):=cd
      have hat:=acctsOf_at hp him hacc
      rw [← hc] at hat
      have hyy:=hy c ac hat
      have hcl:c<(zBw ((t.frm lo).take m)).length:=(List.getElem?_eq_some_iff.1 hat).1
      have hsI:aS S (t.frm lo) gy lp m i=allP 62 [S c,zAk gy [yv lp] 131]:=by
       show allP 62 [sI S (t.frm lo) m i,_]=_
       unfold sI
       rw [← hc,if_pos hcl]
      rw [more ac hacc,hsI]
      repeat' (first|(refine is_begin ?_;refine KJ_begin xS ?_)|(refine zAd ?_;first|(refine zAc xE cs xP rfl (fun z=>?_);obtain ⟨za,zc⟩:=z;refine KJ.lsSome (a:=za) (c:=zc) (m:=2) xS hpos (fun g9 hg9=>?_);subst hg9)|(refine zAc xE cd xP rfl (fun _=>?_)))|(refine is_callV ?_;refine KJ_yield rfl xE hyy xP rfl (fun y=>?_);refine hold ?_)|(refine zAn ?_;first|refine zAa (Ev_loadLsF (j:=0) kq_ok rfl xS rfl (by rfl) hq1 rfl) ?_|refine zAa (Ev_loadLsF (j:=2) kq_ok rfl xS rfl (by rfl) hq1 rfl) ?_)|(refine zAx ?_;refine zAa (zBk (q:=false) rfl rfl rfl) ?_)|refine xst ?_|(refine xsa ?_;intro _)|(refine xsb ?_ ?_ <;>intro _<;>try (exfalso;omega))|refine xsc ?_|fail)
      refine Hold.mk ?_
      cases y with
      |true=>
       dsimp only
       repeat' (first|refine xst ?_|(refine xsa ?_;intro _)|(refine xsb ?_ ?_ <;>intro _<;>try (exfalso;omega))|refine xsc ?_|fail)
       refine KJ.allShut (L:=[J (c+1),zAk gy [yv lp] 131]) 62 xP ?_
       exact KJ_round_t xS (xN)
      |false=>
       dsimp only
       repeat' (first|refine xst ?_|(refine xsa ?_;intro _)|(refine xsb ?_ ?_ <;>intro _<;>try (exfalso;omega))|refine xsc ?_|fail)
       refine KJ.allShut (L:=[S c,zAk gy [yv lp] 131]) 62 xP ?_
       exact KJ_round_r xS (xN)
 ·refine KJ.allOpen (L:=[J (zBw ((t.frm lo).take m)).length,zAk gy [yv lp] 131]) xS ?_
  repeat' (first|refine xst ?_|(refine xsa ?_;intro _)|(refine xsb ?_ ?_ <;>intro _<;>try (exfalso;omega))|refine xsc ?_|fail)
  all_goals (refine is_ex ?_;exact zBq (by first|exact Or.inl rfl|exact Or.inr rfl) rfl Rvs.nil ⟨none,fun i h=>by cases h⟩ (by rfl) (by dsimp only [jsP];exact (xN)))
 ·refine KJ.allOpen (L:=[sI S (t.frm lo) m i,zAk gy [yv lp] 131]) xS ?_
  by_cases hcl:(zBw ((t.frm lo).take i)).length<(zBw ((t.frm lo).take m)).length
  ·have e:sI S (t.frm lo) m i=S (zBw ((t.frm lo).take i)).length:=if_pos hcl
   rw [e]
   repeat' (first|refine xst ?_|(refine xsa ?_;intro _)|(refine xsb ?_ ?_ <;>intro _<;>try (exfalso;omega))|refine xsc ?_|fail)
   all_goals (refine is_ex ?_;exact zBq (by first|exact Or.inl rfl|exact Or.inr rfl) rfl Rvs.nil ⟨some (zBw ((t.frm lo).take i)).length,fun j h=>by cases h;exact hcl⟩ (by rfl) (by dsimp only [jsP];exact (xN)))
  ·have e:sI S (t.frm lo) m i=factP False:=if_neg hcl
   rw [e]
   exact KJ.absurdF xS
end
section
variable {W:World} {F:Nat→Addr} {N:List Nd} {a:Option Addr} {t:Tr} {lo hi:List UInt8} {m g:Nat} {x:Nat × Nat × Nat}
theorem KJ_rangeAllB {n:Nat} {q:QQ} {gop:Operand} {En:Env} {H R:List SP} {psl:List Tmp} {asg bd:Code} (hE:ErrsOn L37 W F) (hro:q.ro=none) (hg:Env.ev En gop=some (allV g)) (hR:RgOk N a t lo hi m) (hk:∀ p ∈ t.frm lo,p.1.length≤2000000∧p.2.length≤9223372036854775000) (hpl:psl.length=1) (hpn:∀ p ∈ psl,p<n)
 (A:List Acct) (hA:A=zBw ((t.frm lo).take m)) (J S:Nat→SP) (jmp:Code) (hp:Pick ([J 0]++allC g x a lo hi N) H R)
 (hb:∀ l i ac,A[i]? = some ac→∀ R,KJ W n (.code Tryz.prog asg (asgQ Tryz.prog l bd (roundPost Tryz.prog l (RPost W (fun b:Bool=>b) (fun b=>if b then recP l .ready none n En psl.toArray asg bd::[J (i+1),arP N] else recP l .done (some jmp) n En psl.toArray asg bd::[S i,arP N]) R)))) (Env.ofPs psl [acV ac] En) (recP l .ready none n En psl.toArray asg bd::[J i,arP N]++R))
 (h0:KJ W n (.ex q .normal) En ([J A.length]++allC g x a lo hi N++R)) (h1:∀ i,i<A.length→KJ W n (.code Tryz.prog jmp q) En ([S i]++allC g x a lo hi N++R)):KJ W n (.code Tryz.prog (Code.rangeFunc gop psl.toArray asg bd) q) En H:=by
 subst hA
 refine KJ_range (X:={y:Option Nat//∀ i,y=some i→i<(zBw ((t.frm lo).take m)).length}) (lb:=[.pointer (some ⟨g,0,none⟩)]) (pe:=fun y=>match y.1 with|none=>none|some _=>some jmp) (Hp:=fun y=>[jsP J S (zBw ((t.frm lo).take m)).length y.1]++allC g x a lo hi N) (v:=fun _=>.tuple #[]) hro hg (fun l=>?_) hp (fun y hx=>?_) (fun y cc hx=>?_)
 ·have key:=all1b_ct (W:=W) (F:=F) (lp:=l) (g:=g) (x:=x) (J:=fun i=>allP l [recP l .ready none n En psl.toArray asg bd,J i]) (S:=fun i=>allP l [recP l .done (some jmp) n En psl.toArray asg bd,S i]) hE hR hk (fun i ac hi=>by
   have hy:=Yt.of (n:=n) (Hpre:=[J i,arP N]) (by rw [hpl];rfl) hpn (fun R=>hb l i ac hi R)
   refine hy.conv (fun R g q=>lend_open (L:=[recP l .ready none n En psl.toArray asg bd,J i]) q) (fun b R g q=>?_)
   cases b
   ·exact lend_shut (L:=[recP l .done (some jmp) n En psl.toArray asg bd,S i]) q
   ·exact lend_shut (L:=[recP l .ready none n En psl.toArray asg bd,J (i+1)]) q)
  refine key.conv (fun R g q=>all_shut (L:=[recP l .ready none n En psl.toArray asg bd,J 0]) q) (fun y R g q=>?_)
  obtain ⟨y,hy⟩:=y
  cases y
  ·exact all_open (L:=[recP l .ready none n En psl.toArray asg bd,J _]) q
  ·exact all_open (L:=[recP l .done (some jmp) n En psl.toArray asg bd,S _]) q
 ·obtain ⟨y,hx'⟩:=y
  cases y with
  |none=>exact h0
  |some i=>cases hx
 ·obtain ⟨y,hx'⟩:=y
  cases y with
  |none=>cases hx
  |some i=>
   cases hx
   exact h1 i (hx' i rfl)
end
end Go.Proofs.YtnbgcimalpdfoaaGreatDoor
