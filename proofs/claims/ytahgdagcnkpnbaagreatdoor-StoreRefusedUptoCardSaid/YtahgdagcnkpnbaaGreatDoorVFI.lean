/-
  StP6.
-/
import Derived.Test.YtahgdagcnkpnbaaGreatDoorVEM
import Derived.Test.YtahgdagcnkpnbaaGreatDoorVDO
set_option maxHeartbeats 64000000
namespace Go.Proofs.YtahgdagcnkpnbaaGreatDoor
open Go Go.RowKit
theorem normD_nil {ops:List BOp}:zBa ops=[]↔ops=[]:=by
 constructor
 ·intro h
  cases ops with
  |nil=>rfl
  |cons o l=>
   obtain ⟨x,hx⟩:=lastOf_has (List.mem_cons_self (a:=o) (l:=l))
   have hk:=(lastOf_some hx).1
   have hm:x ∈ zBa (o::l):=(normD_mem _ _).2 (by rw [hk];exact hx)
   rw [h] at hm
   cases hm
 ·intro h
  rw [h]
  rfl
theorem commE_cases (n:Nat) (r:Rows) (ops:List BOp):commE n r ops=0∨(commE n r ops=17∧ops≠[]∧234*layA n<(zAr (zAy r (zBa ops))).length)∨(commE n r ops=18∧ops≠[]):=by
 have h:=commE.eq_def n r ops
 by_cases h0:zBa ops=[]
 ·rw [if_pos h0] at h;exact .inl h
 rw [if_neg h0] at h
 have hn:ops≠[]:=fun e=>h0 (normD_nil.2 e)
 by_cases h1:zBq (logN n:Nat)<((zBz (zBa ops)).length:Nat)
 ·rw [if_pos h1] at h;exact .inr (.inr ⟨h,hn⟩)
 rw [if_neg h1] at h
 by_cases h2:234*layA n<(zAr (zAy r (zBa ops))).length
 ·rw [if_pos h2] at h;exact .inr (.inl ⟨h,hn,h2⟩)
 ·rw [if_neg h2] at h;exact .inl h
theorem commR_yes {n:Nat} {r:Rows} (hr:RisR r) {ops:List BOp} (h:commE n r ops=0):commR n r ops=zAy r ops:=by
 unfold commR
 rw [if_pos h,apply_normD hr]
theorem commR_no {n:Nat} {r:Rows} {ops:List BOp} (h:commE n r ops≠0):commR n r ops=r:=if_neg h
theorem commR_ris {n:Nat} {r:Rows} (hr:RisR r) (ops:List BOp):RisR (commR n r ops):=by
 unfold commR
 split
 ·exact applyB_ris hr _
 ·exact hr
theorem commR_room {n:Nat} {r:Rows} {ops:List BOp} (h:(zAr r).length≤234*layA n):(zAr (commR n r ops)).length≤234*layA n:=by
 unfold commR
 split
 ·rename_i h0
  have hc:=commE.eq_def n r ops
  rw [h0] at hc
  by_cases z:zBa ops=[]
  ·rw [z];exact h
  rw [if_neg z] at hc
  by_cases h1:zBq (logN n:Nat)<((zBz (zBa ops)).length:Nat)
  ·rw [if_pos h1] at hc;cases hc
  rw [if_neg h1] at hc
  by_cases h2:234*layA n<(zAr (zAy r (zBa ops))).length
  ·rw [if_pos h2] at hc;cases hc
  ·omega
 ·exact h
theorem fl_sub (f:Int) {k:Nat} (hk:k≤1):Go.RowKit.wrap64 (w64 (f+(1+2*(k:Nat)))-f)=1+2*(k:Nat):=by
 unfold w64 Go.RowKit.wrap64
 omega
theorem fl_ne (f:Int) {k:Nat} (_hk:k≤1):w64 (f+(1+2*(k:Nat)))≠f:=by
 unfold w64 Go.RowKit.wrap64
 omega
end Go.Proofs.YtahgdagcnkpnbaaGreatDoor
