/-
  RngT, RgW1, RgW2, RgV.
-/
import Derived.Test.YtgipenahkmbelaaGreatDoorTDG
import Derived.Test.YtgipenahkmbelaaGreatDoorTEI
import Derived.Test.YtgipenahkmbelaaGreatDoorTEX
set_option maxHeartbeats 64000000
namespace Go.Proofs.YtgipenahkmbelaaGreatDoor
open Go Go.RowKit
abbrev plTFL0:Pl:=(.op 0 (.op 1 (.op 2 (.op 3 (.op 4 (.op 5 (.ef 6 [] (.op 7 (.op 8 (.op 9 (.op 10 (.op 11 (.op 12 (.op 13 (.op 14 (.op 15 (.op 16 (.ef 17 [] (.op 18 (.op 19 (.op 20 (.op 21 (.op 22 (.op 23 (.op 24 (.op 25 (.ef 26 [] (.op 27 (.op 28 .nil)))))))))))))))))))))))))))))
theorem frm_rows (lo:List UInt8):∀ (t:Tr),RisR t.rows→t.frm lo=t.rows.filter fun p=>!Op.bytesLess p.1 lo
 |.nil,_=>rfl
 |.node l k v r h s,hr=>by
  have hr:RisR (l.rows++(k,v)::r.rows):=hr
  obtain ⟨h1,h2,h3⟩:=List.pairwise_append.1 hr
  obtain ⟨h4,h5⟩:=List.pairwise_cons.1 h2
  show _=(l.rows++(k,v)::r.rows).filter fun p=>!Op.bytesLess p.1 lo
  rw [List.filter_append,List.filter_cons]
  cases c:Op.bytesLess k lo with
  |true=>
   rw [frm_lo c,frm_rows lo r h5]
   have e:l.rows.filter (fun p=>!Op.bytesLess p.1 lo)=[]:=List.filter_eq_nil_iff.2 fun p hp=>by
    have:=tl_tr (h3 p hp (k,v) (by simp)) c
    rw [this];decide
   rw [e,if_neg (by decide)]
   rfl
  |false=>
   rw [frm_hi c,frm_rows lo l h1,frm_rows lo r h5,if_pos (by decide)]
section
variable {W:World} {M:List Nd} {F:Nat→Addr} {r:Rows} {t m:Nat}
abbrev rngV (x:Nat × Nat × Nat):Value:=.func (.func 77) #[] #[.pointer (some ⟨x.1,0,none⟩),.pointer (some ⟨x.2.1,0,none⟩),.pointer (some ⟨x.2.2,0,none⟩)]
abbrev rngP (x:Nat × Nat × Nat) (a:Option Addr) (lo hi:List UInt8):List SP:=[zAh x.1 [.pointer a] 119,zAh x.2.1 [strV lo] 9,zAh x.2.2 [strV hi] 9]
theorem tbrange_ct {p:Nat} {a:Option Addr} {b:Int} (lo hi:List UInt8):Ct Tryz.prog W 49 [.pointer (some ⟨p,0,none⟩),strV lo,strV hi] [tbP p a b] rngV (fun x=>tbP p a b::rngP x a lo hi):=by
 refine Ct.enter Tryz.func49 rfl Tryz.ntmps49 (by simp) (fun R=>?_)
 repeat' (first|(refine zBc ?_;refine zAu rfl (fun g7=>?_))|(refine zBe ?_;first|(refine zBb (d:=5) rfl xF rfl (fun g5=>?_))|(refine zBb (d:=4) rfl xF rfl (fun g4=>?_)))|(refine ek_mkFunc ?_;refine zAb (Ev_mkFunc3 rfl rfl rfl) ?_)|refine xst ?_|(refine xsa ?_;intro _)|(refine xsb ?_ ?_ <;>intro _<;>try (exfalso;omega))|refine xsc ?_|fail)
 all_goals (exact xdn (g7,g4,g5))
end
end Go.Proofs.YtgipenahkmbelaaGreatDoor
namespace Go.Proofs.YtgipenahkmbelaaGreatDoor
open Go Go.RowKit
theorem KJ.absurdF {W:World} {n:Nat} {k:KK} {E:Env} {H R:List SP} (hs:Sel (factP False) H R):KJ W n k E H:=⟨fun _ _ _ s=>(s.left.fact hs).elim⟩
section
variable {W:World} {N:List Nd} {L:Rows} {J S:Nat→SP} {f:FuncId} {cs:List Value}
theorem rising_f [FnIs Tryz.prog f] (lo:List UInt8) (hy:∀ i p,L[i]? = some p→Ct Tryz.prog W f ([strV p.1,strV p.2]++cs) [J i] (fun b:Bool=>.bool b) (fun b=>match b with|true=>[J (i+1)]|false=>[S i])):∀ (t:Tr) (a:Option Addr) (i0 M:Nat),TrAt N a t→M=i0+(t.frm lo).length→(∀ j p,(t.frm lo)[j]? = some p→L[i0+j]? = some p)→
 Ct Tryz.prog W 78 [.pointer a,strV lo,.func (.func f) #[] cs.toArray] [arP N,J i0] (fun x:{x:Option Nat//∀ m,x=some m→m<M}=>.bool x.1.isNone) (fun x=>[arP N,jsP J S M x.1]):=by
 intro t
 induction t with
 |nil=>
  intro a i0 M hT hM hL
  cases hT
  have hM:M=i0:=hM
  subst hM
  refine Ct.enter Tryz.func78 rfl Tryz.ntmps78 (by simp) (fun R=>?_)
  repeat' (first|refine xst ?_|(refine xsa ?_;intro _)|(refine xsb ?_ ?_ <;>intro _<;>try (exfalso;omega))|refine xsc ?_|(refine zAa (id:=5) plTFL0 (by kernel_rfl) (by kernel_rfl) ?_)|refine zAp ?_ ?_|refine zAn rfl rfl rfl rfl rfl ?_ ?_|refine zAg ?_ ?_|exact Rech.nil|fail)
  all_goals (exact xdn ⟨none,fun m h=>by cases h⟩)
 |node yl yk yv' yr yh ys ihl ihr=>
  intro a i0 M hT hM hL
  obtain ⟨b,al,ar,rfl,hm,hal,har⟩:=hT
  by_cases c:Op.bytesLess yk lo=true
  ·rw [frm_lo c] at hM hL
   have cr:=ihr ar i0 M har hM hL
   refine Ct.enter Tryz.func78 rfl Tryz.ntmps78 (by simp) (fun R=>?_)
   repeat' (first|(refine zAd ?_;refine zAc xE cr xP rfl (fun x=>?_))|(refine zAm ?_;refine zAb (zAx (nd:=⟨b,yk,yv',al,ar,yh,ys⟩) rfl xS hm rfl) ?_)|(refine zAq ?_;refine zAb (Ev_lssS_q rfl rfl c) ?_)|refine xst ?_|(refine xsa ?_;intro _)|(refine xsb ?_ ?_ <;>intro _<;>try (exfalso;omega))|refine xsc ?_|(refine zAa (id:=5) plTFL0 (by kernel_rfl) (by kernel_rfl) ?_)|refine zAp ?_ ?_|refine zAn rfl rfl rfl rfl rfl ?_ ?_|refine zAg ?_ ?_|exact Rech.nil|fail)
   all_goals (exact xdn x)
  ·have c:Op.bytesLess yk lo=false:=by simpa using c
   rw [frm_hi c] at hM hL
   rw [List.length_append,List.length_cons] at hM
   have cl:=ihl al i0 (i0+(yl.frm lo).length) hal rfl (fun j p h=>hL j p (by rw [List.getElem?_append_left (List.getElem?_eq_some_iff.1 h).1];exact h))
   have hyy:=hy (i0+(yl.frm lo).length) (yk,yv') (hL (yl.frm lo).length (yk,yv') (by rw [List.getElem?_append_right (Nat.le_refl _),Nat.sub_self];rfl))
   have cr:=ihr ar (i0+(yl.frm lo).length+1) M har (by omega) (fun j p h=>by
    have:=hL ((yl.frm lo).length+(j+1)) p (by rw [List.getElem?_append_right (by omega),Nat.add_sub_cancel_left,List.getElem?_cons_succ];exact h)
    rwa [← Nat.add_assoc,← Nat.add_assoc,Nat.add_right_comm (i0+_) j 1] at this)
   obtain ⟨m0,hm0⟩:∃ z,z=i0+(yl.frm lo).length:=⟨_,rfl⟩
   rw [← hm0] at cl hyy cr
   refine Ct.enter Tryz.func78 rfl Tryz.ntmps78 (by simp) (fun R=>?_)
   repeat' (first|(refine zAd ?_;refine zAc xE cl xP rfl (fun x=>?_);obtain ⟨x,hx⟩:=x;refine hold ?_)|(refine zAm ?_;refine zAb (zAx (nd:=⟨b,yk,yv',al,ar,yh,ys⟩) rfl xS hm rfl) ?_)|(refine zAq ?_;refine zAb (Ev_lssS_q rfl rfl c) ?_)|refine xst ?_|(refine xsa ?_;intro _)|(refine xsb ?_ ?_ <;>intro _<;>try (exfalso;omega))|refine xsc ?_|(refine zAa (id:=5) plTFL0 (by kernel_rfl) (by kernel_rfl) ?_)|refine zAp ?_ ?_|refine zAn rfl rfl rfl rfl rfl ?_ ?_|refine zAg ?_ ?_|exact Rech.nil|fail)
   refine Hold.mk ?_
   dsimp only at hx ⊢
   cases x with
   |some j=>
    have hj:=hx j rfl
    dsimp only [jsP,Option.isNone]
    repeat' (first|(refine zAm ?_;refine zAb (zAx (nd:=⟨b,yk,yv',al,ar,yh,ys⟩) rfl xS hm rfl) ?_)|refine xst ?_|(refine xsa ?_;intro _)|(refine xsb ?_ ?_ <;>intro _<;>try (exfalso;omega))|refine xsc ?_|(refine zAa (id:=5) plTFL0 (by kernel_rfl) (by kernel_rfl) ?_)|refine zAp ?_ ?_|refine zAn rfl rfl rfl rfl rfl ?_ ?_|refine zAg ?_ ?_|exact Rech.nil|fail)
    all_goals exact xdn ⟨some j,fun m h=>by cases h;omega⟩ (hE:=by dsimp only [jsP];exact (xN))
   |none=>
    dsimp only [jsP,Option.isNone]
    repeat' (first|(refine is_callV ?_;refine hold ?_)|(refine zAm ?_;refine zAb (zAx (nd:=⟨b,yk,yv',al,ar,yh,ys⟩) rfl xS hm rfl) ?_)|refine xst ?_|(refine xsa ?_;intro _)|(refine xsb ?_ ?_ <;>intro _<;>try (exfalso;omega))|refine xsc ?_|(refine zAa (id:=5) plTFL0 (by kernel_rfl) (by kernel_rfl) ?_)|refine zAp ?_ ?_|refine zAn rfl rfl rfl rfl rfl ?_ ?_|refine zAg ?_ ?_|exact Rech.nil|fail)
    refine Hold.mk ?_
    refine KJ_callV (f:=f) (fs:=#[]) (cs:=cs.toArray) (us:=[strV yk,strV yv']++cs) (vs:=[strV yk,strV yv']) rfl xE (by simp) hyy xP rfl (fun y=>?_)
    cases y with
    |false=>
     dsimp only
     repeat' (first|(refine zAm ?_;refine zAb (zAx (nd:=⟨b,yk,yv',al,ar,yh,ys⟩) rfl xS hm rfl) ?_)|refine xst ?_|(refine xsa ?_;intro _)|(refine xsb ?_ ?_ <;>intro _<;>try (exfalso;omega))|refine xsc ?_|(refine zAa (id:=5) plTFL0 (by kernel_rfl) (by kernel_rfl) ?_)|refine zAp ?_ ?_|refine zAn rfl rfl rfl rfl rfl ?_ ?_|refine zAg ?_ ?_|exact Rech.nil|fail)
     all_goals exact xdn ⟨some m0,fun m h=>by cases h;omega⟩ (hE:=by dsimp only [jsP];exact (xN))
    |true=>
     dsimp only
     repeat' (first|(refine zAd ?_;refine zAc xE cr xP rfl (fun z=>?_))|(refine zAm ?_;refine zAb (zAx (nd:=⟨b,yk,yv',al,ar,yh,ys⟩) rfl xS hm rfl) ?_)|refine xst ?_|(refine xsa ?_;intro _)|(refine xsb ?_ ?_ <;>intro _<;>try (exfalso;omega))|refine xsc ?_|(refine zAa (id:=5) plTFL0 (by kernel_rfl) (by kernel_rfl) ?_)|refine zAp ?_ ?_|refine zAn rfl rfl rfl rfl rfl ?_ ?_|refine zAg ?_ ?_|exact Rech.nil|fail)
     all_goals (exact xdn z)
end
abbrev rgL (X:SP) (gh gy:Nat) (hi:List UInt8) (lp:Nat):List SP:=[X,zAh gh [strV hi] 9,zAh gy [yv lp] 88]
section
variable {W:World} {gh gy lp:Nat} {k v hi:List UInt8} {J J1 S:SP}
instance fn_rng11:FnIs Tryz.prog 79:=⟨by kernel_rfl⟩
instance fn_rng1:FnIs Tryz.prog 77:=⟨by kernel_rfl⟩
theorem rng11_yes (hl:Op.bytesLess k hi=true) (hy:Yt Tryz.prog W lp [strV k,strV v] [J] (fun b:Bool=>b) (fun b=>match b with|true=>[J1]|false=>[S])) :
 Ct Tryz.prog W 79 [strV k,strV v,.pointer (some ⟨gh,0,none⟩),.pointer (some ⟨gy,0,none⟩)] [allP 61 (rgL J gh gy hi lp)] (fun b:Bool=>.bool b) (fun b=>match b with|true=>[allP 61 (rgL J1 gh gy hi lp)]|false=>[allP 61 (rgL S gh gy hi lp)]):=by
 refine Ct.enter Tryz.func79 rfl Tryz.ntmps79 (by simp) (fun R=>?_)
 refine KJ.allOpen (L:=rgL J gh gy hi lp) xS ?_
 repeat' (first|(refine is_callV ?_;refine KJ_yield rfl xE hy xP rfl (fun y=>?_);refine hold ?_)|(refine zAq ?_;refine zAb (Ev_lssS_q rfl rfl hl) ?_)|refine xst ?_|(refine xsa ?_;intro _)|(refine xsb ?_ ?_ <;>intro _<;>try (exfalso;omega))|refine xsc ?_|fail)
 refine Hold.mk ?_
 cases y with
 |false=>
  dsimp only
  refine KJ.allShut (L:=rgL S gh gy hi lp) 61 xP ?_
  repeat' (first|refine xst ?_|(refine xsa ?_;intro _)|(refine xsb ?_ ?_ <;>intro _<;>try (exfalso;omega))|refine xsc ?_|fail)
  all_goals (exact xdn false)
 |true=>
  dsimp only
  refine KJ.allShut (L:=rgL J1 gh gy hi lp) 61 xP ?_
  repeat' (first|refine xst ?_|(refine xsa ?_;intro _)|(refine xsb ?_ ?_ <;>intro _<;>try (exfalso;omega))|refine xsc ?_|fail)
  all_goals (exact xdn true)
theorem rng11_no (hl:Op.bytesLess k hi=false) :
 Ct Tryz.prog W 79 [strV k,strV v,.pointer (some ⟨gh,0,none⟩),.pointer (some ⟨gy,0,none⟩)] [allP 61 (rgL J gh gy hi lp)] (fun b:Bool=>.bool b) (fun b=>match b with|true=>[allP 61 (rgL J1 gh gy hi lp)]|false=>[allP 61 (rgL J gh gy hi lp)]):=by
 refine Ct.enter Tryz.func79 rfl Tryz.ntmps79 (by simp) (fun R=>?_)
 refine KJ.allOpen (L:=rgL J gh gy hi lp) xS ?_
 repeat' (first|(refine zAq ?_;refine zAb (Ev_lssS_q rfl rfl hl) ?_)|refine xst ?_|(refine xsa ?_;intro _)|(refine xsb ?_ ?_ <;>intro _<;>try (exfalso;omega))|refine xsc ?_|fail)
 all_goals refine KJ.allShut (L:=rgL J gh gy hi lp) 61 xP ?_
 all_goals (exact xdn false)
end
end Go.Proofs.YtgipenahkmbelaaGreatDoor
namespace Go.Proofs.YtgipenahkmbelaaGreatDoor
open Go Go.RowKit
section
variable {W:World} {gh gy lp:Nat} {k v hi:List UInt8} {X:Type}
theorem rng11_abs {r:X→Value} {H':X→List SP} :
 Ct Tryz.prog W 79 [strV k,strV v,.pointer (some ⟨gh,0,none⟩),.pointer (some ⟨gy,0,none⟩)] [allP 61 (rgL (factP False) gh gy hi lp)] r H':=by
 refine Ct.enter Tryz.func79 rfl Tryz.ntmps79 (by simp) (fun R=>?_)
 refine KJ.allOpen (L:=rgL (factP False) gh gy hi lp) xS ?_
 exact KJ.absurdF xS
end
section
variable {W:World} {N:List Nd} {a:Option Addr} {t:Tr} {lo hi:List UInt8} {m lp:Nat} {J S:Nat→SP} {x:Nat × Nat × Nat}
structure RgOk (N:List Nd) (a:Option Addr) (t:Tr) (lo hi:List UInt8) (m:Nat):Prop where
 at_:TrAt N a t
 le:m≤(t.frm lo).length
 yes:∀ i p,(t.frm lo)[i]? = some p→i<m→Op.bytesLess p.1 hi=true
 no:∀ p,(t.frm lo)[m]? = some p→Op.bytesLess p.1 hi=false
def jxP (J:Nat→SP) (m i:Nat):SP:=if i≤m then J i else factP False
def sxP (J S:Nat→SP) (m i:Nat):SP:=if i<m then S i else J m
theorem rng11_ct {gh gy:Nat} (hR:RgOk N a t lo hi m) (hy:∀ i p,(t.frm lo)[i]? = some p→i<m→Yt Tryz.prog W lp [strV p.1,strV p.2] [J i] (fun b:Bool=>b) (fun b=>match b with|true=>[J (i+1)]|false=>[S i])) (i:Nat) (p:List UInt8 × List UInt8) (hp:(t.frm lo)[i]? = some p) :
 Ct Tryz.prog W 79 ([strV p.1,strV p.2]++[.pointer (some ⟨gh,0,none⟩),.pointer (some ⟨gy,0,none⟩)]) [allP 61 (rgL (jxP J m i) gh gy hi lp)] (fun b:Bool=>.bool b) (fun b=>match b with|true=>[allP 61 (rgL (jxP J m (i+1)) gh gy hi lp)]|false=>[allP 61 (rgL (sxP J S m i) gh gy hi lp)]):=by
 by_cases h1:i<m
 ·have e1:jxP J m i=J i:=if_pos (by omega)
  have e2:jxP J m (i+1)=J (i+1):=if_pos (by omega)
  have e3:sxP J S m i=S i:=if_pos h1
  rw [e1,e2,e3]
  exact rng11_yes (hR.yes i p hp h1) (hy i p hp h1)
 ·by_cases h2:i=m
  ·subst h2
   have e1:jxP J i i=J i:=if_pos (Nat.le_refl _)
   have e3:sxP J S i i=J i:=if_neg h1
   rw [e1,e3]
   exact rng11_no (hR.no p hp)
  ·have e1:jxP J m i=factP False:=if_neg (by omega)
   rw [e1]
   exact rng11_abs
theorem rng1_ct (hR:RgOk N a t lo hi m) (hy:∀ i p,(t.frm lo)[i]? = some p→i<m→Yt Tryz.prog W lp [strV p.1,strV p.2] [J i] (fun b:Bool=>b) (fun b=>match b with|true=>[J (i+1)]|false=>[S i])) :
 Ct Tryz.prog W 77 [yv lp,.pointer (some ⟨x.1,0,none⟩),.pointer (some ⟨x.2.1,0,none⟩),.pointer (some ⟨x.2.2,0,none⟩)] ([J 0]++(rngP x a lo hi++[arP N]))
  (fun _:{y:Option Nat//∀ i,y=some i→i<m}=>.tuple #[]) (fun y=>[jsP J S m y.1]++(rngP x a lo hi++[arP N])):=by
 have cr:=fun gy=>rising_f (W:=W) (N:=N) (L:=t.frm lo) (f:=79) (cs:=[.pointer (some ⟨x.2.2,0,none⟩),.pointer (some ⟨gy,0,none⟩)]) (J:=fun i=>allP 61 (rgL (jxP J m i) x.2.2 gy hi lp)) (S:=fun i=>allP 61 (rgL (sxP J S m i) x.2.2 gy hi lp)) lo (fun i p hp=>rng11_ct hR hy i p hp) t a 0 (t.frm lo).length hR.at_ (by omega) (fun j p h=>by rw [Nat.zero_add];exact h)
 have hle:=hR.le
 have e0:jxP J m 0=J 0:=if_pos (Nat.zero_le _)
 obtain ⟨x1,x2,x3⟩:=x
 dsimp only at cr ⊢
 rw [e0] at cr
 refine Ct.enter Tryz.func77 rfl Tryz.ntmps77 (by simp) (fun R=>?_)
 repeat' (first|(refine zBe ?_;refine zBb rfl xF rfl (fun gy=>?_);refine KJ.allShut (L:=rgL (J 0) x3 gy hi lp) 61 xP ?_)|(refine zAd ?_;refine zAc xE (cr _) xP rfl (fun y=>?_);obtain ⟨y,hyl⟩:=y;refine hold ?_)|(refine ek_mkFunc ?_;refine zAb (Ev_mkFunc2 rfl rfl) ?_)|refine xst ?_|(refine xsa ?_;intro _)|(refine xsb ?_ ?_ <;>intro _<;>try (exfalso;omega))|refine xsc ?_|fail)
 all_goals refine Hold.mk ?_
 all_goals dsimp only at hyl ⊢
 cases y with
 |none=>
  dsimp only [jsP]
  refine KJ.allOpen (L:=rgL (jxP J m (t.frm lo).length) x3 gy hi lp) xS ?_
  by_cases hM:(t.frm lo).length≤m
  ·have eM:jxP J m (t.frm lo).length=J m:=by rw [show (t.frm lo).length=m by omega];exact if_pos (Nat.le_refl _)
   rw [eM]
   repeat' (first|refine xst ?_|(refine xsa ?_;intro _)|(refine xsb ?_ ?_ <;>intro _<;>try (exfalso;omega))|refine xsc ?_|fail)
   all_goals (refine is_ex ?_;exact KJ_done (by first|exact Or.inl rfl|exact Or.inr rfl) rfl Rvs.nil ⟨none,fun i h=>by cases h⟩ (by rfl) (by dsimp only [jsP];exact (xN)))
  ·have eM:jxP J m (t.frm lo).length=factP False:=if_neg hM
   rw [eM]
   exact KJ.absurdF xS
 |some i=>
  dsimp only [jsP]
  refine KJ.allOpen (L:=rgL (sxP J S m i) x3 gy hi lp) xS ?_
  by_cases hM:i<m
  ·have eM:sxP J S m i=S i:=if_pos hM
   rw [eM]
   repeat' (first|refine xst ?_|(refine xsa ?_;intro _)|(refine xsb ?_ ?_ <;>intro _<;>try (exfalso;omega))|refine xsc ?_|fail)
   all_goals (refine is_ex ?_;exact KJ_done (by first|exact Or.inl rfl|exact Or.inr rfl) rfl Rvs.nil ⟨some i,fun j h=>by cases h;exact hM⟩ (by rfl) (by dsimp only [jsP];exact (xN)))
  ·have eM:sxP J S m i=J m:=if_neg hM
   rw [eM]
   repeat' (first|refine xst ?_|(refine xsa ?_;intro _)|(refine xsb ?_ ?_ <;>intro _<;>try (exfalso;omega))|refine xsc ?_|fail)
   all_goals (refine is_ex ?_;exact KJ_done (by first|exact Or.inl rfl|exact Or.inr rfl) rfl Rvs.nil ⟨none,fun i h=>by cases h⟩ (by rfl) (by dsimp only [jsP];exact (xN)))
theorem KJ_rangeRng {n:Nat} {q:QQ} {gop:Operand} {En:Env} {H R:List SP} {psl:List Tmp} {asg bd:Code} (hro:q.ro=none) (hg:Env.ev En gop=some (rngV x)) (hR:RgOk N a t lo hi m) (hpl:psl.length=2) (hpn:∀ p ∈ psl,p<n)
 (J S:Nat→SP) (jump:Code) (hp:Pick ([J 0]++(rngP x a lo hi++[arP N])) H R)
 (hb:∀ l i p,(t.frm lo)[i]? = some p→i<m→∀ R,KJ W n (.code Tryz.prog asg (asgQ Tryz.prog l bd (roundPost Tryz.prog l (RPost W (fun b:Bool=>b) (fun b=>if b then recP l .ready none n En psl.toArray asg bd::[J (i+1)] else recP l .done (some jump) n En psl.toArray asg bd::[S i]) R)))) (Env.ofPs psl [strV p.1,strV p.2] En) (recP l .ready none n En psl.toArray asg bd::[J i]++R))
 (h0:KJ W n (.ex q .normal) En ([J m]++(rngP x a lo hi++[arP N])++R)) (h1:∀ i,i<m→KJ W n (.code Tryz.prog jump q) En ([S i]++(rngP x a lo hi++[arP N])++R)):KJ W n (.code Tryz.prog (Code.rangeFunc gop psl.toArray asg bd) q) En H:=by
 refine KJ_range (X:={y:Option Nat//∀ i,y=some i→i<m}) (lb:=[.pointer (some ⟨x.1,0,none⟩),.pointer (some ⟨x.2.1,0,none⟩),.pointer (some ⟨x.2.2,0,none⟩)]) (pe:=fun y=>match y.1 with|none=>none|some _=>some jump) (Hp:=fun y=>[jsP J S m y.1]++(rngP x a lo hi++[arP N])) (v:=fun _=>.tuple #[]) hro hg (fun l=>?_) hp (fun y hx=>?_) (fun y cc hx=>?_)
 ·have key:=rng1_ct (W:=W) (lp:=l) (x:=x) (J:=fun i=>allP l [recP l .ready none n En psl.toArray asg bd,J i]) (S:=fun i=>allP l [recP l .done (some jump) n En psl.toArray asg bd,S i]) hR (fun i p hi hm=>by
   have hy:=Yt.of (n:=n) (Hpre:=[J i]) (by rw [hpl];rfl) hpn (fun R=>hb l i p hi hm R)
   refine hy.conv (fun R g q=>all_open q) (fun b R g q=>?_)
   cases b
   ·exact all_shut (L:=[recP l .done (some jump) n En psl.toArray asg bd,S i]) q
   ·exact all_shut (L:=[recP l .ready none n En psl.toArray asg bd,J (i+1)]) q)
  refine key.conv (fun R g q=>all_shut (L:=[recP l .ready none n En psl.toArray asg bd,J 0]) q) (fun y R g q=>?_)
  obtain ⟨y,hy⟩:=y
  cases y
  ·exact all_open (L:=[recP l .ready none n En psl.toArray asg bd,J m]) q
  ·exact all_open (L:=[recP l .done (some jump) n En psl.toArray asg bd,S _]) q
 ·obtain ⟨y,hx'⟩:=y
  cases y with
  |none=>exact h0
  |some i=>cases hx
 ·obtain ⟨y,hx'⟩:=y
  cases y with
  |none=>cases hx
  |some i=>
   cases hx
   exact h1 i (hx' i rfl)
end
end Go.Proofs.YtgipenahkmbelaaGreatDoor
namespace Go.Proofs.YtgipenahkmbelaaGreatDoor
open Go Go.RowKit
def fromR (lo:List UInt8) (r:Rows):Rows:=r.filter fun p=>!Op.bytesLess p.1 lo
def zBw (lo hi:List UInt8) (r:Rows):Rows:=(fromR lo r).filter fun p=>Op.bytesLess p.1 hi
theorem fromR_ris {r:Rows} (h:RisR r) (lo:List UInt8):RisR (fromR lo r):=List.Pairwise.sublist List.filter_sublist h
theorem rangeR_take {r:Rows} (h:RisR r) (lo hi:List UInt8):zBw lo hi r=(fromR lo r).take (visN hi (fromR lo r)):=visN_filter (fromR_ris h lo)
theorem frm_fromR (lo:List UInt8):∀ (t:Tr),RisR t.rows→t.frm lo=fromR lo t.rows:=frm_rows lo
theorem rg_of {N:List Nd} {a:Option Addr} {r:Rows} (h:TbOk N a r) (lo hi:List UInt8):∃ t:Tr,RgOk N a t lo hi (visN hi (fromR lo r))∧t.frm lo=fromR lo r:=by
 obtain ⟨t,h1,-,h3,h4⟩:=h
 have hf:t.frm lo=fromR lo r:=by
  rw [frm_fromR lo t (by rw [h3];exact h4),h3]
 have k1:=visN_in hi (fromR lo r)
 have k2:=visN_out hi (fromR lo r)
 have k3:=visN_le hi (fromR lo r)
 refine ⟨t,?_,hf⟩
 generalize visN hi (fromR lo r)=m at k1 k2 k3 ⊢
 rw [← hf] at k1 k2 k3
 exact ⟨h1,k3,k1,k2⟩
theorem RgOk.mono {N M:List Nd} {a:Option Addr} {t:Tr} {lo hi:List UInt8} {m:Nat} (h:RgOk N a t lo hi m) (hs:∀ x ∈ N,x ∈ M):RgOk M a t lo hi m:=⟨h.at_.mono hs,h.le,h.yes,h.no⟩
end Go.Proofs.YtgipenahkmbelaaGreatDoor
