/-
  StP6.
-/
import Derived.Test.YtnkhohfbijkohaaGreatDoorTEN
import Derived.Test.YtnkhohfbijkohaaGreatDoorTDP
set_option maxHeartbeats 64000000
namespace Go.Proofs.YtnkhohfbijkohaaGreatDoor
open Go Go.RowKit
theorem normD_nil {ops:List BOp}:zAr ops=[]↔ops=[]:=by
 constructor
 ·intro h
  cases ops with
  |nil=>rfl
  |cons o l=>
   obtain ⟨x,hx⟩:=lastOf_has (List.mem_cons_self (a:=o) (l:=l))
   have hk:=(lastOf_some hx).1
   have hm:x ∈ zAr (o::l):=(normD_mem _ _).2 (by rw [hk];exact hx)
   rw [h] at hm
   cases hm
 ·intro h
  rw [h]
  rfl
theorem commE_cases (n:Nat) (r:Rows) (ops:List BOp):commE n r ops=0∨(commE n r ops=17∧ops≠[]∧234*layA n<(zAj (zAu r (zAr ops))).length)∨(commE n r ops=18∧ops≠[]):=by
 have h:=commE.eq_def n r ops
 by_cases h0:zAr ops=[]
 ·rw [if_pos h0] at h;exact .inl h
 rw [if_neg h0] at h
 have hn:ops≠[]:=fun e=>h0 (normD_nil.2 e)
 by_cases h1:zBi (logN n:Nat)<((zAx (zAr ops)).length:Nat)
 ·rw [if_pos h1] at h;exact .inr (.inr ⟨h,hn⟩)
 rw [if_neg h1] at h
 by_cases h2:234*layA n<(zAj (zAu r (zAr ops))).length
 ·rw [if_pos h2] at h;exact .inr (.inl ⟨h,hn,h2⟩)
 ·rw [if_neg h2] at h;exact .inl h
theorem commR_yes {n:Nat} {r:Rows} (hr:RisR r) {ops:List BOp} (h:commE n r ops=0):commR n r ops=zAu r ops:=by
 unfold commR
 rw [if_pos h,apply_normD hr]
end Go.Proofs.YtnkhohfbijkohaaGreatDoor
