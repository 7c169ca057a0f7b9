/-
  StP6.
-/
import Derived.Test.YtahgdagcnkpnbaaGreatDoorQEM
import Derived.Test.YtahgdagcnkpnbaaGreatDoorQDN
set_option maxHeartbeats 64000000
namespace Go.Proofs.YtahgdagcnkpnbaaGreatDoor
open Go Go.RowKit
theorem commR_yes {n:Nat} {r:Rows} (hr:RisR r) {ops:List BOp} (h:commE n r ops=0):commR n r ops=zAw r ops:=by
 unfold commR
 rw [if_pos h,apply_normD hr]
theorem commR_no {n:Nat} {r:Rows} {ops:List BOp} (h:commE n r ops≠0):commR n r ops=r:=if_neg h
theorem commR_ris {n:Nat} {r:Rows} (hr:RisR r) (ops:List BOp):RisR (commR n r ops):=by
 unfold commR
 split
 ·exact applyB_ris hr _
 ·exact hr
theorem commR_room {n:Nat} {r:Rows} {ops:List BOp} (h:(zAr r).length≤234*layA n):(zAr (commR n r ops)).length≤234*layA n:=by
 unfold commR
 split
 ·rename_i h0
  have hc:=commE.eq_def n r ops
  rw [h0] at hc
  by_cases z:zBf ops=[]
  ·rw [z];exact h
  rw [if_neg z] at hc
  by_cases h1:zCc (logN n:Nat)<((encAll (zBf ops)).length:Nat)
  ·rw [if_pos h1] at hc;cases hc
  rw [if_neg h1] at hc
  by_cases h2:234*layA n<(zAr (zAw r (zBf ops))).length
  ·rw [if_pos h2] at hc;cases hc
  ·omega
 ·exact h
end Go.Proofs.YtahgdagcnkpnbaaGreatDoor
