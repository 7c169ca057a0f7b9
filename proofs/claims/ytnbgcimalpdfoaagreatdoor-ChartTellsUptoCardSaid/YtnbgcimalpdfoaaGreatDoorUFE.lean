/-
  RgW1, RgW2, RgW3, RgW4, ChA.
-/
import Derived.Test.YtnbgcimalpdfoaaGreatDoorUCS
import Derived.Test.YtnbgcimalpdfoaaGreatDoorUEV
import Derived.Test.YtnbgcimalpdfoaaGreatDoorUFB
set_option maxHeartbeats 64000000
namespace Go.Proofs.YtnbgcimalpdfoaaGreatDoor
open Go Go.RowKit
abbrev plUFE0:Pl:=(.op 0 (.op 1 (.op 2 (.op 3 (.op 4 (.op 5 (.ef 6 [] (.op 7 (.op 8 (.op 9 (.op 10 (.op 11 (.op 12 (.op 13 (.op 14 (.op 15 (.op 16 (.ef 17 [] (.op 18 (.op 19 (.op 20 (.op 21 (.op 22 (.op 23 (.op 24 (.op 25 (.ef 26 [] (.op 27 (.op 28 .nil)))))))))))))))))))))))))))))
theorem KJ.absurdF {W:World} {n:Nat} {k:KK} {E:Env} {H R:List SP} (hs:Sel (factP False) H R):KJ W n k E H:=⟨fun _ _ _ s=>(s.left.fact hs).elim⟩
section
variable {W:World} {N:List Nd} {L:Rows} {J S:Nat→SP} {f:FuncId} {cs:List Value}
theorem rising_f [FnIs Tryz.prog f] (lo:List UInt8) (hy:∀ i p,L[i]? = some p→Ct Tryz.prog W f ([strV p.1,strV p.2]++cs) [J i] (fun b:Bool=>.bool b) (fun b=>match b with|true=>[J (i+1)]|false=>[S i])):∀ (t:Tr) (a:Option Addr) (i0 M:Nat),TrAt N a t→M=i0+(t.frm lo).length→(∀ j p,(t.frm lo)[j]? = some p→L[i0+j]? = some p)→
 Ct Tryz.prog W 185 [.pointer a,strV lo,.func (.func f) #[] cs.toArray] [arP N,J i0] (fun x:{x:Option Nat//∀ m,x=some m→m<M}=>.bool x.1.isNone) (fun x=>[arP N,jsP J S M x.1]):=by
 intro t
 induction t with
 |nil=>
  intro a i0 M hT hM hL
  cases hT
  have hM:M=i0:=hM
  subst hM
  refine Ct.enter Tryz.func185 rfl Tryz.ntmps185 (by simp) (fun R=>?_)
  repeat' (first|refine xst ?_|(refine xsa ?_;intro _)|(refine xsb ?_ ?_ <;>intro _<;>try (exfalso;omega))|refine xsc ?_|(refine zAb (id:=5) plUFE0 (by kernel_rfl) (by kernel_rfl) ?_)|refine zAj ?_ ?_|refine zAi rfl rfl rfl rfl rfl ?_ ?_|refine zAf ?_ ?_|exact Rech.nil|fail)
  all_goals (exact xdn ⟨none,fun m h=>by cases h⟩)
 |node yl yk yv' yr yh ys ihl ihr=>
  intro a i0 M hT hM hL
  obtain ⟨b,al,ar,rfl,hm,hal,har⟩:=hT
  by_cases c:Op.bytesLess yk lo=true
  ·rw [frm_lo c] at hM hL
   have cr:=ihr ar i0 M har hM hL
   refine Ct.enter Tryz.func185 rfl Tryz.ntmps185 (by simp) (fun R=>?_)
   repeat' (first|(refine zAd ?_;refine zAc xE cr xP rfl (fun x=>?_))|(refine zAn ?_;refine zAa (zAt (nd:=⟨b,yk,yv',al,ar,yh,ys⟩) rfl xS hm rfl) ?_)|(refine zAm ?_;refine zAa (Ev_lssS_q rfl rfl c) ?_)|refine xst ?_|(refine xsa ?_;intro _)|(refine xsb ?_ ?_ <;>intro _<;>try (exfalso;omega))|refine xsc ?_|(refine zAb (id:=5) plUFE0 (by kernel_rfl) (by kernel_rfl) ?_)|refine zAj ?_ ?_|refine zAi rfl rfl rfl rfl rfl ?_ ?_|refine zAf ?_ ?_|exact Rech.nil|fail)
   all_goals (exact xdn x)
  ·have c:Op.bytesLess yk lo=false:=by simpa using c
   rw [frm_hi c] at hM hL
   rw [List.length_append,List.length_cons] at hM
   have cl:=ihl al i0 (i0+(yl.frm lo).length) hal rfl (fun j p h=>hL j p (by rw [List.getElem?_append_left (List.getElem?_eq_some_iff.1 h).1];exact h))
   have hyy:=hy (i0+(yl.frm lo).length) (yk,yv') (hL (yl.frm lo).length (yk,yv') (by rw [List.getElem?_append_right (Nat.le_refl _),Nat.sub_self];rfl))
   have cr:=ihr ar (i0+(yl.frm lo).length+1) M har (by omega) (fun j p h=>by
    have:=hL ((yl.frm lo).length+(j+1)) p (by rw [List.getElem?_append_right (by omega),Nat.add_sub_cancel_left,List.getElem?_cons_succ];exact h)
    rwa [← Nat.add_assoc,← Nat.add_assoc,Nat.add_right_comm (i0+_) j 1] at this)
   obtain ⟨m0,hm0⟩:∃ z,z=i0+(yl.frm lo).length:=⟨_,rfl⟩
   rw [← hm0] at cl hyy cr
   refine Ct.enter Tryz.func185 rfl Tryz.ntmps185 (by simp) (fun R=>?_)
   repeat' (first|(refine zAd ?_;refine zAc xE cl xP rfl (fun x=>?_);obtain ⟨x,hx⟩:=x;refine hold ?_)|(refine zAn ?_;refine zAa (zAt (nd:=⟨b,yk,yv',al,ar,yh,ys⟩) rfl xS hm rfl) ?_)|(refine zAm ?_;refine zAa (Ev_lssS_q rfl rfl c) ?_)|refine xst ?_|(refine xsa ?_;intro _)|(refine xsb ?_ ?_ <;>intro _<;>try (exfalso;omega))|refine xsc ?_|(refine zAb (id:=5) plUFE0 (by kernel_rfl) (by kernel_rfl) ?_)|refine zAj ?_ ?_|refine zAi rfl rfl rfl rfl rfl ?_ ?_|refine zAf ?_ ?_|exact Rech.nil|fail)
   refine Hold.mk ?_
   dsimp only at hx ⊢
   cases x with
   |some j=>
    have hj:=hx j rfl
    dsimp only [jsP,Option.isNone]
    repeat' (first|(refine zAn ?_;refine zAa (zAt (nd:=⟨b,yk,yv',al,ar,yh,ys⟩) rfl xS hm rfl) ?_)|refine xst ?_|(refine xsa ?_;intro _)|(refine xsb ?_ ?_ <;>intro _<;>try (exfalso;omega))|refine xsc ?_|(refine zAb (id:=5) plUFE0 (by kernel_rfl) (by kernel_rfl) ?_)|refine zAj ?_ ?_|refine zAi rfl rfl rfl rfl rfl ?_ ?_|refine zAf ?_ ?_|exact Rech.nil|fail)
    all_goals exact xdn ⟨some j,fun m h=>by cases h;omega⟩ (hE:=by dsimp only [jsP];exact (xN))
   |none=>
    dsimp only [jsP,Option.isNone]
    repeat' (first|(refine is_callV ?_;refine hold ?_)|(refine zAn ?_;refine zAa (zAt (nd:=⟨b,yk,yv',al,ar,yh,ys⟩) rfl xS hm rfl) ?_)|refine xst ?_|(refine xsa ?_;intro _)|(refine xsb ?_ ?_ <;>intro _<;>try (exfalso;omega))|refine xsc ?_|(refine zAb (id:=5) plUFE0 (by kernel_rfl) (by kernel_rfl) ?_)|refine zAj ?_ ?_|refine zAi rfl rfl rfl rfl rfl ?_ ?_|refine zAf ?_ ?_|exact Rech.nil|fail)
    refine Hold.mk ?_
    refine KJ_callV (f:=f) (fs:=#[]) (cs:=cs.toArray) (us:=[strV yk,strV yv']++cs) (vs:=[strV yk,strV yv']) rfl xE (by simp) hyy xP rfl (fun y=>?_)
    cases y with
    |false=>
     dsimp only
     repeat' (first|(refine zAn ?_;refine zAa (zAt (nd:=⟨b,yk,yv',al,ar,yh,ys⟩) rfl xS hm rfl) ?_)|refine xst ?_|(refine xsa ?_;intro _)|(refine xsb ?_ ?_ <;>intro _<;>try (exfalso;omega))|refine xsc ?_|(refine zAb (id:=5) plUFE0 (by kernel_rfl) (by kernel_rfl) ?_)|refine zAj ?_ ?_|refine zAi rfl rfl rfl rfl rfl ?_ ?_|refine zAf ?_ ?_|exact Rech.nil|fail)
     all_goals exact xdn ⟨some m0,fun m h=>by cases h;omega⟩ (hE:=by dsimp only [jsP];exact (xN))
    |true=>
     dsimp only
     repeat' (first|(refine zAd ?_;refine zAc xE cr xP rfl (fun z=>?_))|(refine zAn ?_;refine zAa (zAt (nd:=⟨b,yk,yv',al,ar,yh,ys⟩) rfl xS hm rfl) ?_)|refine xst ?_|(refine xsa ?_;intro _)|(refine xsb ?_ ?_ <;>intro _<;>try (exfalso;omega))|refine xsc ?_|(refine zAb (id:=5) plUFE0 (by kernel_rfl) (by kernel_rfl) ?_)|refine zAj ?_ ?_|refine zAi rfl rfl rfl rfl rfl ?_ ?_|refine zAf ?_ ?_|exact Rech.nil|fail)
     all_goals (exact xdn z)
end
abbrev rgL (X:SP) (gh gy:Nat) (hi:List UInt8) (lp:Nat):List SP:=[X,zAk gh [strV hi] 9,zAk gy [yv lp] 129]
section
variable {W:World} {gh gy lp:Nat} {k v hi:List UInt8} {J J1 S:SP}
instance fn_rng11:FnIs Tryz.prog 186:=⟨by kernel_rfl⟩
instance fn_rng1:FnIs Tryz.prog 184:=⟨by kernel_rfl⟩
theorem rng11_yes (hl:Op.bytesLess k hi=true) (hy:Yt Tryz.prog W lp [strV k,strV v] [J] (fun b:Bool=>b) (fun b=>match b with|true=>[J1]|false=>[S])) :
 Ct Tryz.prog W 186 [strV k,strV v,.pointer (some ⟨gh,0,none⟩),.pointer (some ⟨gy,0,none⟩)] [allP 61 (rgL J gh gy hi lp)] (fun b:Bool=>.bool b) (fun b=>match b with|true=>[allP 61 (rgL J1 gh gy hi lp)]|false=>[allP 61 (rgL S gh gy hi lp)]):=by
 refine Ct.enter Tryz.func186 rfl Tryz.ntmps186 (by simp) (fun R=>?_)
 refine KJ.allOpen (L:=rgL J gh gy hi lp) xS ?_
 repeat' (first|(refine is_callV ?_;refine KJ_yield rfl xE hy xP rfl (fun y=>?_);refine hold ?_)|(refine zAm ?_;refine zAa (Ev_lssS_q rfl rfl hl) ?_)|refine xst ?_|(refine xsa ?_;intro _)|(refine xsb ?_ ?_ <;>intro _<;>try (exfalso;omega))|refine xsc ?_|fail)
 refine Hold.mk ?_
 cases y with
 |false=>
  dsimp only
  refine KJ.allShut (L:=rgL S gh gy hi lp) 61 xP ?_
  repeat' (first|refine xst ?_|(refine xsa ?_;intro _)|(refine xsb ?_ ?_ <;>intro _<;>try (exfalso;omega))|refine xsc ?_|fail)
  all_goals (exact xdn false)
 |true=>
  dsimp only
  refine KJ.allShut (L:=rgL J1 gh gy hi lp) 61 xP ?_
  repeat' (first|refine xst ?_|(refine xsa ?_;intro _)|(refine xsb ?_ ?_ <;>intro _<;>try (exfalso;omega))|refine xsc ?_|fail)
  all_goals (exact xdn true)
theorem rng11_no (hl:Op.bytesLess k hi=false) :
 Ct Tryz.prog W 186 [strV k,strV v,.pointer (some ⟨gh,0,none⟩),.pointer (some ⟨gy,0,none⟩)] [allP 61 (rgL J gh gy hi lp)] (fun b:Bool=>.bool b) (fun b=>match b with|true=>[allP 61 (rgL J1 gh gy hi lp)]|false=>[allP 61 (rgL J gh gy hi lp)]):=by
 refine Ct.enter Tryz.func186 rfl Tryz.ntmps186 (by simp) (fun R=>?_)
 refine KJ.allOpen (L:=rgL J gh gy hi lp) xS ?_
 repeat' (first|(refine zAm ?_;refine zAa (Ev_lssS_q rfl rfl hl) ?_)|refine xst ?_|(refine xsa ?_;intro _)|(refine xsb ?_ ?_ <;>intro _<;>try (exfalso;omega))|refine xsc ?_|fail)
 all_goals refine KJ.allShut (L:=rgL J gh gy hi lp) 61 xP ?_
 all_goals (exact xdn false)
end
end Go.Proofs.YtnbgcimalpdfoaaGreatDoor
namespace Go.Proofs.YtnbgcimalpdfoaaGreatDoor
open Go Go.RowKit
section
variable {W:World} {gh gy lp:Nat} {k v hi:List UInt8} {X:Type}
theorem rng11_abs {r:X→Value} {H':X→List SP} :
 Ct Tryz.prog W 186 [strV k,strV v,.pointer (some ⟨gh,0,none⟩),.pointer (some ⟨gy,0,none⟩)] [allP 61 (rgL (factP False) gh gy hi lp)] r H':=by
 refine Ct.enter Tryz.func186 rfl Tryz.ntmps186 (by simp) (fun R=>?_)
 refine KJ.allOpen (L:=rgL (factP False) gh gy hi lp) xS ?_
 exact KJ.absurdF xS
end
section
variable {W:World} {N:List Nd} {a:Option Addr} {t:Tr} {lo hi:List UInt8} {m lp:Nat} {J S:Nat→SP} {x:Nat × Nat × Nat}
structure RgOk (N:List Nd) (a:Option Addr) (t:Tr) (lo hi:List UInt8) (m:Nat):Prop where
 at_:TrAt N a t
 le:m≤(t.frm lo).length
 yes:∀ i p,(t.frm lo)[i]? = some p→i<m→Op.bytesLess p.1 hi=true
 no:∀ p,(t.frm lo)[m]? = some p→Op.bytesLess p.1 hi=false
def jxP (J:Nat→SP) (m i:Nat):SP:=if i≤m then J i else factP False
def sxP (J S:Nat→SP) (m i:Nat):SP:=if i<m then S i else J m
theorem rng11_ct {gh gy:Nat} (hR:RgOk N a t lo hi m) (hy:∀ i p,(t.frm lo)[i]? = some p→i<m→Yt Tryz.prog W lp [strV p.1,strV p.2] [J i] (fun b:Bool=>b) (fun b=>match b with|true=>[J (i+1)]|false=>[S i])) (i:Nat) (p:List UInt8 × List UInt8) (hp:(t.frm lo)[i]? = some p) :
 Ct Tryz.prog W 186 ([strV p.1,strV p.2]++[.pointer (some ⟨gh,0,none⟩),.pointer (some ⟨gy,0,none⟩)]) [allP 61 (rgL (jxP J m i) gh gy hi lp)] (fun b:Bool=>.bool b) (fun b=>match b with|true=>[allP 61 (rgL (jxP J m (i+1)) gh gy hi lp)]|false=>[allP 61 (rgL (sxP J S m i) gh gy hi lp)]):=by
 by_cases h1:i<m
 ·have e1:jxP J m i=J i:=if_pos (by omega)
  have e2:jxP J m (i+1)=J (i+1):=if_pos (by omega)
  have e3:sxP J S m i=S i:=if_pos h1
  rw [e1,e2,e3]
  exact rng11_yes (hR.yes i p hp h1) (hy i p hp h1)
 ·by_cases h2:i=m
  ·subst h2
   have e1:jxP J i i=J i:=if_pos (Nat.le_refl _)
   have e3:sxP J S i i=J i:=if_neg h1
   rw [e1,e3]
   exact rng11_no (hR.no p hp)
  ·have e1:jxP J m i=factP False:=if_neg (by omega)
   rw [e1]
   exact rng11_abs
theorem rng1_ct (hR:RgOk N a t lo hi m) (hy:∀ i p,(t.frm lo)[i]? = some p→i<m→Yt Tryz.prog W lp [strV p.1,strV p.2] [J i] (fun b:Bool=>b) (fun b=>match b with|true=>[J (i+1)]|false=>[S i])) :
 Ct Tryz.prog W 184 [yv lp,.pointer (some ⟨x.1,0,none⟩),.pointer (some ⟨x.2.1,0,none⟩),.pointer (some ⟨x.2.2,0,none⟩)] ([J 0]++(rngP x a lo hi++[arP N]))
  (fun _:{y:Option Nat//∀ i,y=some i→i<m}=>.tuple #[]) (fun y=>[jsP J S m y.1]++(rngP x a lo hi++[arP N])):=by
 have cr:=fun gy=>rising_f (W:=W) (N:=N) (L:=t.frm lo) (f:=186) (cs:=[.pointer (some ⟨x.2.2,0,none⟩),.pointer (some ⟨gy,0,none⟩)]) (J:=fun i=>allP 61 (rgL (jxP J m i) x.2.2 gy hi lp)) (S:=fun i=>allP 61 (rgL (sxP J S m i) x.2.2 gy hi lp)) lo (fun i p hp=>rng11_ct hR hy i p hp) t a 0 (t.frm lo).length hR.at_ (by omega) (fun j p h=>by rw [Nat.zero_add];exact h)
 have hle:=hR.le
 have e0:jxP J m 0=J 0:=if_pos (Nat.zero_le _)
 obtain ⟨x1,x2,x3⟩:=x
 dsimp only at cr ⊢
 rw [e0] at cr
 refine Ct.enter Tryz.func184 rfl Tryz.ntmps184 (by simp) (fun R=>?_)
 repeat' (first|(refine zBu ?_;refine zBr rfl xF rfl (fun gy=>?_);refine KJ.allShut (L:=rgL (J 0) x3 gy hi lp) 61 xP ?_)|(refine zAd ?_;refine zAc xE (cr _) xP rfl (fun y=>?_);obtain ⟨y,hyl⟩:=y;refine hold ?_)|(refine ek_mkFunc ?_;refine zAa (Ev_mkFunc2 rfl rfl) ?_)|refine xst ?_|(refine xsa ?_;intro _)|(refine xsb ?_ ?_ <;>intro _<;>try (exfalso;omega))|refine xsc ?_|fail)
 all_goals refine Hold.mk ?_
 all_goals dsimp only at hyl ⊢
 cases y with
 |none=>
  dsimp only [jsP]
  refine KJ.allOpen (L:=rgL (jxP J m (t.frm lo).length) x3 gy hi lp) xS ?_
  by_cases hM:(t.frm lo).length≤m
  ·have eM:jxP J m (t.frm lo).length=J m:=by rw [show (t.frm lo).length=m by omega];exact if_pos (Nat.le_refl _)
   rw [eM]
   repeat' (first|refine xst ?_|(refine xsa ?_;intro _)|(refine xsb ?_ ?_ <;>intro _<;>try (exfalso;omega))|refine xsc ?_|fail)
   all_goals (refine is_ex ?_;exact zBq (by first|exact Or.inl rfl|exact Or.inr rfl) rfl Rvs.nil ⟨none,fun i h=>by cases h⟩ (by rfl) (by dsimp only [jsP];exact (xN)))
  ·have eM:jxP J m (t.frm lo).length=factP False:=if_neg hM
   rw [eM]
   exact KJ.absurdF xS
 |some i=>
  dsimp only [jsP]
  refine KJ.allOpen (L:=rgL (sxP J S m i) x3 gy hi lp) xS ?_
  by_cases hM:i<m
  ·have eM:sxP J S m i=S i:=if_pos hM
   rw [eM]
   repeat' (first|refine xst ?_|(refine xsa ?_;intro _)|(refine xsb ?_ ?_ <;>intro _<;>try (exfalso;omega))|refine xsc ?_|fail)
   all_goals (refine is_ex ?_;exact zBq (by first|exact Or.inl rfl|exact Or.inr rfl) rfl Rvs.nil ⟨some i,fun j h=>by cases h;exact hM⟩ (by rfl) (by dsimp only [jsP];exact (xN)))
  ·have eM:sxP J S m i=J m:=if_neg hM
   rw [eM]
   repeat' (first|refine xst ?_|(refine xsa ?_;intro _)|(refine xsb ?_ ?_ <;>intro _<;>try (exfalso;omega))|refine xsc ?_|fail)
   all_goals (refine is_ex ?_;exact zBq (by first|exact Or.inl rfl|exact Or.inr rfl) rfl Rvs.nil ⟨none,fun i h=>by cases h⟩ (by rfl) (by dsimp only [jsP];exact (xN)))
theorem KJ_rangeRng {n:Nat} {q:QQ} {gop:Operand} {En:Env} {H R:List SP} {psl:List Tmp} {asg bd:Code} (hro:q.ro=none) (hg:Env.ev En gop=some (rngV x)) (hR:RgOk N a t lo hi m) (hpl:psl.length=2) (hpn:∀ p ∈ psl,p<n)
 (J S:Nat→SP) (jump:Code) (hp:Pick ([J 0]++(rngP x a lo hi++[arP N])) H R)
 (hb:∀ l i p,(t.frm lo)[i]? = some p→i<m→∀ R,KJ W n (.code Tryz.prog asg (asgQ Tryz.prog l bd (roundPost Tryz.prog l (RPost W (fun b:Bool=>b) (fun b=>if b then recP l .ready none n En psl.toArray asg bd::[J (i+1)] else recP l .done (some jump) n En psl.toArray asg bd::[S i]) R)))) (Env.ofPs psl [strV p.1,strV p.2] En) (recP l .ready none n En psl.toArray asg bd::[J i]++R))
 (h0:KJ W n (.ex q .normal) En ([J m]++(rngP x a lo hi++[arP N])++R)) (h1:∀ i,i<m→KJ W n (.code Tryz.prog jump q) En ([S i]++(rngP x a lo hi++[arP N])++R)):KJ W n (.code Tryz.prog (Code.rangeFunc gop psl.toArray asg bd) q) En H:=by
 refine KJ_range (X:={y:Option Nat//∀ i,y=some i→i<m}) (lb:=[.pointer (some ⟨x.1,0,none⟩),.pointer (some ⟨x.2.1,0,none⟩),.pointer (some ⟨x.2.2,0,none⟩)]) (pe:=fun y=>match y.1 with|none=>none|some _=>some jump) (Hp:=fun y=>[jsP J S m y.1]++(rngP x a lo hi++[arP N])) (v:=fun _=>.tuple #[]) hro hg (fun l=>?_) hp (fun y hx=>?_) (fun y cc hx=>?_)
 ·have key:=rng1_ct (W:=W) (lp:=l) (x:=x) (J:=fun i=>allP l [recP l .ready none n En psl.toArray asg bd,J i]) (S:=fun i=>allP l [recP l .done (some jump) n En psl.toArray asg bd,S i]) hR (fun i p hi hm=>by
   have hy:=Yt.of (n:=n) (Hpre:=[J i]) (by rw [hpl];rfl) hpn (fun R=>hb l i p hi hm R)
   refine hy.conv (fun R g q=>all_open q) (fun b R g q=>?_)
   cases b
   ·exact all_shut (L:=[recP l .done (some jump) n En psl.toArray asg bd,S i]) q
   ·exact all_shut (L:=[recP l .ready none n En psl.toArray asg bd,J (i+1)]) q)
  refine key.conv (fun R g q=>all_shut (L:=[recP l .ready none n En psl.toArray asg bd,J 0]) q) (fun y R g q=>?_)
  obtain ⟨y,hy⟩:=y
  cases y
  ·exact all_open (L:=[recP l .ready none n En psl.toArray asg bd,J m]) q
  ·exact all_open (L:=[recP l .done (some jump) n En psl.toArray asg bd,S _]) q
 ·obtain ⟨y,hx'⟩:=y
  cases y with
  |none=>exact h0
  |some i=>cases hx
 ·obtain ⟨y,hx'⟩:=y
  cases y with
  |none=>cases hx
  |some i=>
   cases hx
   exact h1 i (hx' i rfl)
end
end Go.Proofs.YtnbgcimalpdfoaaGreatDoor
namespace Go.Proofs.YtnbgcimalpdfoaaGreatDoor
open Go Go.RowKit
def accR (p:List UInt8 × List UInt8):Option Acct:=match zCd p.1 with
 |some [_,q]=>if q.num=true then none else decA q.s p.2
 |_=>none
def zBw (L:Rows):List Acct:=L.filterMap accR
theorem acctsOf_next {L:Rows} {i:Nat} {p:List UInt8 × List UInt8} (h:L[i]? = some p):zBw (L.take (i+1))=zBw (L.take i)++(accR p).toList:=by
 unfold zBw
 rw [List.take_add_one,h,List.filterMap_append]
 cases hp:accR p <;> simp [hp]
theorem firstP_len {k t:List UInt8} {p:KPt} (h:firstP k=some (p,t)):p.s.length≤k.length:=by
 match k,h with
 |m::l,h=>
  by_cases h1:m=1
  ·subst h1
   rw [firstP_one] at h
   split at h
   ·cases h
   ·cases h;exact Nat.zero_le _
  ·by_cases h2:m=2
   ·subst h2
    rw [firstP_two] at h
    obtain ⟨x,hx,e⟩:=map_some_iff h
    simp only [Prod.mk.injEq] at e
    have:=congrArg List.length (textP_some _ (l:=l) (s:=x.1) (t:=x.2) (Nat.le_refl _) hx)
    have hg:=esc_ge x.1
    rw [List.length_append] at this
    rw [← e.1,List.length_cons]
    show x.1.length≤_
    omega
   ·rw [firstP_else h1 h2] at h;cases h
theorem splitP_len:∀ (n:Nat) {k:List UInt8} {L:List KPt},k.length≤n→zCd k=some L→∀ q ∈ L,q.s.length≤k.length:=by
 intro n
 induction n with
 |zero=>
  intro k L hn h
  obtain rfl:k=[]:=List.length_eq_zero_iff.1 (by omega)
  rw [splitP_nil] at h
  cases h
  intro q hq;cases hq
 |succ n ih=>
  intro k L hn h
  by_cases hk:k=[]
  ·subst hk
   rw [splitP_nil] at h
   cases h
   intro q hq;cases hq
  ·cases hf:firstP k with
   |none=>rw [splitP_none hk hf] at h;cases h
   |some x=>
    rw [splitP_some (p:=x.1) (t:=x.2) hf] at h
    obtain ⟨M,hM,e⟩:=map_some_iff h
    have hs:=firstP_short (p:=x.1) (t:=x.2) hf
    have hl:=firstP_len (p:=x.1) (t:=x.2) hf
    intro q hq
    rw [← e] at hq
    rcases List.mem_cons.1 hq with rfl|hq
    ·exact hl
    ·exact Nat.le_trans (ih (by omega) hM q hq) (by omega)
theorem acctsOf_at {L:Rows} {i m:Nat} {p:List UInt8 × List UInt8} {ac:Acct} (h:L[i]? = some p) (hm:i<m) (hp:accR p=some ac):(zBw (L.take m))[(zBw (L.take i)).length]? = some ac:=by
 have e:L.take m=L.take (i+1)++(L.take m).drop (i+1):=by
  have h1:=List.take_append_drop (i+1) (L.take m)
  rw [List.take_take,Nat.min_eq_left (by omega)] at h1
  exact h1.symm
 have e2:zBw (L.take m)=zBw (L.take (i+1))++zBw ((L.take m).drop (i+1)):=by
  conv=>lhs;rw [e]
  unfold zBw
  rw [List.filterMap_append]
 have e3:zBw (L.take (i+1))=zBw (L.take i)++[ac]:=by rw [acctsOf_next h,hp];rfl
 rw [e2,e3,List.append_assoc,List.getElem?_append_right (Nat.le_refl _),Nat.sub_self]
 rfl
theorem accR_none {p:List UInt8 × List UInt8} (h:zCd p.1=none):accR p=none:=by unfold accR;rw [h]
theorem accR_other {p:List UInt8 × List UInt8} {L:List KPt} (h:zCd p.1=some L) (hl:L.length≠2):accR p=none:=by
 unfold accR
 rw [h]
 match L,hl with
 |[],_=>rfl
 |[_],_=>rfl
 |_::_::_::_,_=>rfl
theorem accR_two {p:List UInt8 × List UInt8} {q0 q1:KPt} (h:zCd p.1=some [q0,q1]):accR p=if q1.num=true then none else decA q1.s p.2:=by unfold accR;rw [h]
section
variable {W:World} {F:Nat→Addr} {N:List Nd} {a:Option Addr} {t:Tr} {lo hi:List UInt8} {m lp g:Nat} {J S:Nat→SP} {x:Nat × Nat × Nat}
instance fn_all1:FnIs Tryz.prog 92:=⟨by kernel_rfl⟩
def sI (S:Nat→SP) (L:Rows) (m i:Nat):SP:=if (zBw (L.take i)).length<(zBw (L.take m)).length then S (zBw (L.take i)).length else factP False
abbrev aS (S:Nat→SP) (L:Rows) (gy lp m i:Nat):SP:=allP 62 [sI S L m i,zAk gy [yv lp] 131]
abbrev aJ (J:Nat→SP) (L:Rows) (gy lp i:Nat):SP:=allP 62 [J (zBw (L.take i)).length,zAk gy [yv lp] 131]
end
end Go.Proofs.YtnbgcimalpdfoaaGreatDoor
namespace Go.Proofs.YtnbgcimalpdfoaaGreatDoor
open Go Go.RowKit
section
variable {W:World} {F:Nat→Addr} {N:List Nd} {a:Option Addr} {t:Tr} {lo hi:List UInt8} {m g:Nat} {x:Nat × Nat × Nat}
abbrev allV (g:Nat):Value:=.func (.func 92) #[] #[.pointer (some ⟨g,0,none⟩)]
abbrev allC (g:Nat) (x:Nat × Nat × Nat) (a:Option Addr) (lo hi:List UInt8) (N:List Nd):List SP:=zAk g [rngV x] 142::(rngP x a lo hi++[arP N])
end
section
variable {W:World} {t s l:Nat} {y:TxH}
theorem txrange_open (lo hi:List UInt8):Ct Tryz.prog W 82 [.pointer (some ⟨t,0,none⟩),strV lo,strV hi] [zAk t (txC s y l false) 128,tbP y.q y.a y.b] rngV (fun x=>[zAk t (txC s y l false) 128,tbP y.q y.a y.b]++rngP x y.a lo hi):=by
 have cr:=tbrange_ct (W:=W) (p:=y.q) (a:=y.a) (b:=y.b) lo hi
 refine Ct.enter Tryz.func82 rfl Tryz.ntmps82 (by simp) (fun R=>?_)
 repeat' (first|(refine zAd ?_;refine zAc xE cr xP rfl (fun z=>?_);obtain ⟨y1,y2,y3⟩:=z)|refine xst ?_|(refine xsa ?_;intro _)|(refine xsb ?_ ?_ <;>intro _<;>try (exfalso;omega))|refine xsc ?_|fail)
 all_goals (exact xdn (y1,y2,y3))
theorem chall_open:Ct Tryz.prog W 48 [.pointer (some ⟨t,0,none⟩)] [zAk t (txC s y l false) 128,tbP y.q y.a y.b] (fun z:Nat × Nat × Nat × Nat=>allV z.1) (fun z=>[zAk t (txC s y l false) 128,tbP y.q y.a y.b,zAk z.1 [rngV z.2] 142]++rngP z.2 y.a aLo aHi):=by
 have c1:=ktext_ct (W:=W) [97]
 have cj:∀ gb,Ct Tryz.prog W 64 [.slice (some ⟨gb,0,none⟩) 1 1] [zAk gb (kpC [97]) 94] (fun _:Unit=>strV aLo) (fun _=>[zAk gb (kpC [97]) 94]):=fun gb=>
  kjoin_ct (W:=W) (zAk gb (kpC [97]) 94) (some ⟨gb,0,none⟩) 1 [[97]] (Lv.cells (by simp)) (by simp) (by decide) (by simp)
 have ca:Ct Tryz.prog W 91 [strV aLo] [] (fun _:Unit=>.tuple #[strV aHi,.bool true]) (fun _=>[]):=kafter_ct (W:=W) [2,97,0] 1 (by decide) (by decide)
 have cr:=txrange_open (W:=W) (t:=t) (s:=s) (l:=l) (y:=y) aLo aHi
 refine Ct.enter Tryz.func48 rfl Tryz.ntmps48 (by simp) (fun R=>?_)
 repeat' (first|(refine zBd ?_;refine zAz rfl (fun g6=>?_))|(refine zAd ?_;first|(refine zAc xE cr xP rfl (fun x=>?_);obtain ⟨x1,x2,x3⟩:=x)|(refine zAc xE ca xP rfl (fun _=>?_))|(refine zAc xE (cj _) xP rfl (fun _=>?_))|(refine zAc xE c1 xP rfl (fun _=>?_)))|(refine zBa ?_;refine zBh rfl xF (by rfl) (by omega) rfl (fun gb=>?_))|(refine ek_mkFunc ?_;refine zAa (Ev_mkFunc1 rfl) ?_)|refine xst ?_|(refine xsa ?_;intro _)|(refine xsb ?_ ?_ <;>intro _<;>try (exfalso;omega))|refine xsc ?_|fail)
 all_goals (exact xdn (g6,x1,x2,x3))
end
end Go.Proofs.YtnbgcimalpdfoaaGreatDoor
namespace Go.Proofs.YtnbgcimalpdfoaaGreatDoor
open Go Go.RowKit
theorem frm_rows (lo:List UInt8):∀ (t:Tr),RisR t.rows→t.frm lo=t.rows.filter fun p=>!Op.bytesLess p.1 lo
 |.nil,_=>rfl
 |.node l k v r h s,hr=>by
  have hr:RisR (l.rows++(k,v)::r.rows):=hr
  obtain ⟨h1,h2,h3⟩:=List.pairwise_append.1 hr
  obtain ⟨h4,h5⟩:=List.pairwise_cons.1 h2
  show _=(l.rows++(k,v)::r.rows).filter fun p=>!Op.bytesLess p.1 lo
  rw [List.filter_append,List.filter_cons]
  cases c:Op.bytesLess k lo with
  |true=>
   rw [frm_lo c,frm_rows lo r h5]
   have e:l.rows.filter (fun p=>!Op.bytesLess p.1 lo)=[]:=List.filter_eq_nil_iff.2 fun p hp=>by
    have:=tl_tr (h3 p hp (k,v) (by simp)) c
    rw [this];decide
   rw [e,if_neg (by decide)]
   rfl
  |false=>
   rw [frm_hi c,frm_rows lo l h1,frm_rows lo r h5,if_pos (by decide)]
theorem cut_ris (hi:List UInt8):∀ {L:Rows},RisR L→∃ m,m≤L.length∧L.take m=L.filter (fun p=>Op.bytesLess p.1 hi)∧(∀ i p,L[i]? = some p→i<m→Op.bytesLess p.1 hi=true)∧(∀ p,L[m]? = some p→Op.bytesLess p.1 hi=false)
 |[],_=>⟨0,Nat.le_refl _,rfl,fun i p h=>by simp at h,fun p h=>by simp at h⟩
 |p::L,h=>by
  obtain ⟨h1,h2⟩:=List.pairwise_cons.1 h
  cases c:Op.bytesLess p.1 hi with
  |true=>
   obtain ⟨m,m1,m2,m3,m4⟩:=cut_ris hi (L:=L) h2
   refine ⟨m+1,by rw [List.length_cons];omega,by rw [List.take_succ_cons,m2,List.filter_cons,if_pos c],fun i q hq hi'=>?_,fun q hq=>m4 q (by simpa using hq)⟩
   cases i with
   |zero=>
    rw [List.getElem?_cons_zero] at hq
    cases hq;exact c
   |succ i=>exact m3 i q (by simpa using hq) (by omega)
  |false=>
   have e:L.filter (fun p=>Op.bytesLess p.1 hi)=[]:=List.filter_eq_nil_iff.2 fun q hq hl=>by
    have:=tl_tr (h1 q hq) hl
    rw [c] at this;cases this
   refine ⟨0,Nat.zero_le _,by rw [List.filter_cons,if_neg (by rw [c];decide),e];rfl,fun i q _ hi'=>absurd hi' (by omega),fun q hq=>?_⟩
   rw [List.getElem?_cons_zero] at hq
   cases hq;exact c
theorem less_step {a b:UInt8} {k x y:List UInt8} (h1:Op.bytesLess (a::k) (b::x)=false) (h2:Op.bytesLess (a::k) (b::y)=true):a=b∧Op.bytesLess k x=false∧Op.bytesLess k y=true:=by
 simp only [Op.bytesLess,Bool.or_eq_true,decide_eq_true_eq,Bool.and_eq_true,beq_iff_eq,Bool.or_eq_false_iff,decide_eq_false_iff_not,Bool.and_eq_false_iff] at h1 h2
 rcases h2 with h2|⟨rfl,h2⟩
 ·exact absurd h2 h1.1
 ·rcases h1.2 with h|h
  ·simp at h
  ·exact ⟨rfl,h,h2⟩
theorem less_nil_false (x:List UInt8):Op.bytesLess x []=false:=by cases x <;> rfl
theorem range_a {k:List UInt8} (h1:Op.bytesLess k [2,97,0,1]=false) (h2:Op.bytesLess k [2,97,0,2]=true):∃ u,k=keyT [97]++u:=by
 match k,h1,h2 with
 |[],h1,_=>simp [Op.bytesLess] at h1
 |a::k1,h1,h2=>
  obtain ⟨rfl,h1,h2⟩:=less_step h1 h2
  match k1,h1,h2 with
  |[],h1,_=>simp [Op.bytesLess] at h1
  |b::k2,h1,h2=>
   obtain ⟨rfl,h1,h2⟩:=less_step h1 h2
   match k2,h1,h2 with
   |[],h1,_=>simp [Op.bytesLess] at h1
   |c::k3,h1,h2=>
    obtain ⟨rfl,h1,h2⟩:=less_step h1 h2
    match k3,h1,h2 with
    |[],h1,_=>simp [Op.bytesLess] at h1
    |d::u,h1,h2=>
     refine ⟨u,?_⟩
     simp only [Op.bytesLess,less_nil_false,Bool.and_false,Bool.or_false,decide_eq_true_eq,decide_eq_false_iff_not] at h1 h2
     have hd:d=1:=by
      rw [UInt8.lt_iff_toNat_lt] at h1 h2
      apply UInt8.toNat_inj.1
      have e1:(1:UInt8).toNat=1:=rfl
      have e2:(2:UInt8).toNat=2:=rfl
      omega
     rw [hd];rfl
theorem a_range (u:List UInt8):Op.bytesLess (keyT [97]++u) [2,97,0,1]=false∧Op.bytesLess (keyT [97]++u) [2,97,0,2]=true:=by
 constructor
 ·show Op.bytesLess (2::97::0::1::u) [2,97,0,1]=false
  simp [Op.bytesLess,less_nil_false]
 ·show Op.bytesLess (2::97::0::1::u) [2,97,0,2]=true
  simp [Op.bytesLess]
def accD (p:List UInt8 × List UInt8):Option Acct:=match zCd p.1 with
 |some [q0,q1]=>if q0=kT [97]∧q1.num=false then decA q1.s p.2 else none
 |_=>none
def acctsD (r:Rows):List Acct:=r.filterMap accD
theorem accD_two {p:List UInt8 × List UInt8} {q0 q1:KPt} (h:zCd p.1=some [q0,q1]):accD p=if q0=kT [97]∧q1.num=false then decA q1.s p.2 else none:=by unfold accD;rw [h]
theorem accD_none {p:List UInt8 × List UInt8} (h:zCd p.1=none):accD p=none:=by unfold accD;rw [h]
theorem accD_other {p:List UInt8 × List UInt8} {L:List KPt} (h:zCd p.1=some L) (hl:L.length≠2):accD p=none:=by
 unfold accD
 rw [h]
 match L,hl with
 |[],_=>rfl
 |[_],_=>rfl
 |_::_::_::_,_=>rfl
theorem acc_in {p:List UInt8 × List UInt8} {u:List UInt8} (h:p.1=keyT [97]++u):accR p=accD p:=by
 have hs:zCd p.1=(zCd u).map (kT [97] :: ·):=by rw [h];exact splitP_some (firstP_text [97] u)
 cases hu:zCd u with
 |none=>
  rw [hu] at hs
  rw [accR_none hs,accD_none hs]
 |some L=>
  rw [hu] at hs
  have hs:zCd p.1=some (kT [97]::L):=hs
  by_cases hl:(kT [97]::L).length=2
  ·match L,hl with
   |[q1],_=>
    rw [accR_two hs,accD_two hs]
    cases hq:q1.num with
    |true=>rw [if_pos rfl,if_neg (by simp)]
    |false=>rw [if_neg (by decide),if_pos ⟨rfl,rfl⟩]
  ·rw [accR_other hs hl,accD_other hs hl]
theorem firstP_of_split {k:List UInt8} {q:KPt} {L:List KPt} (h:zCd k=some (q::L)):∃ u,firstP k=some (q,u)∧zCd u=some L:=by
 cases hf:firstP k with
 |none=>
  by_cases hk:k=[]
  ·rw [hk,splitP_nil] at h;cases h
  ·rw [splitP_none hk hf] at h;cases h
 |some x=>
  rw [splitP_some (p:=x.1) (t:=x.2) hf] at h
  obtain ⟨M,hM,e⟩:=map_some_iff h
  simp only [List.cons.injEq] at e
  exact ⟨x.2,by rw [← e.1],by rw [hM,e.2]⟩
theorem acc_out {p:List UInt8 × List UInt8} (h:¬ ∃ u,p.1=keyT [97]++u):accD p=none:=by
 cases hs:zCd p.1 with
 |none=>exact accD_none hs
 |some L=>
  by_cases hl:L.length=2
  ·match L,hl,hs with
   |[q0,q1],_,hs=>
    rw [accD_two hs]
    refine if_neg fun hq=>h ?_
    obtain ⟨u,hu,-⟩:=firstP_of_split hs
    rw [hq.1] at hu
    exact ⟨u,firstP_kT hu⟩
  ·exact accD_other hs hl
theorem accts_filter:∀ (r:Rows),zBw ((r.filter fun p=>!Op.bytesLess p.1 [2,97,0,1]).filter fun p=>Op.bytesLess p.1 [2,97,0,2])=acctsD r
 |[]=>rfl
 |p::r=>by
  have ih:=accts_filter r
  unfold zBw acctsD at ih ⊢
  rw [List.filterMap_cons]
  by_cases hu:∃ u,p.1=keyT [97]++u
  ·obtain ⟨u,hu'⟩:=hu
   obtain ⟨h1,h2⟩:=a_range u
   rw [← hu'] at h1 h2
   rw [List.filter_cons,if_pos (by rw [h1];rfl),List.filter_cons,if_pos h2,List.filterMap_cons,acc_in hu',ih]
  ·rw [acc_out hu]
   dsimp only
   rw [List.filter_cons]
   cases h1:Op.bytesLess p.1 [2,97,0,1] with
   |true=>rw [if_neg (by decide)];exact ih
   |false=>
    rw [if_pos (by decide),List.filter_cons]
    cases h2:Op.bytesLess p.1 [2,97,0,2] with
    |true=>exact absurd (range_a h1 h2) hu
    |false=>rw [if_neg (by decide)];exact ih
theorem rg_all {N:List Nd} {a:Option Addr} {r:Rows} (h:TbOk N a r):∃ (t:Tr) (m:Nat),RgOk N a t [2,97,0,1] [2,97,0,2] m∧(∀ p ∈ t.frm [2,97,0,1],p ∈ r)∧zBw ((t.frm [2,97,0,1]).take m)=acctsD r:=by
 obtain ⟨t,h1,-,h3,h4⟩:=h
 have hf:=frm_rows [2,97,0,1] t (by rw [h3];exact h4)
 rw [h3] at hf
 have hris:RisR (t.frm [2,97,0,1]):=by rw [hf];exact List.Pairwise.sublist List.filter_sublist h4
 obtain ⟨m,m1,m2,m3,m4⟩:=cut_ris [2,97,0,2] hris
 refine ⟨t,m,⟨h1,m1,m3,m4⟩,fun p hp=>by rw [hf] at hp;exact (List.mem_filter.1 hp).1,?_⟩
 rw [m2,hf]
 exact accts_filter r
end Go.Proofs.YtnbgcimalpdfoaaGreatDoor
