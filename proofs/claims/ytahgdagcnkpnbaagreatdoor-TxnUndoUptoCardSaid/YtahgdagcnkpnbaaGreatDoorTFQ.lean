/-
  Rf14.
-/
import Derived.Test.YtahgdagcnkpnbaaGreatDoorTCJ
import Derived.Test.YtahgdagcnkpnbaaGreatDoorTEO
import Derived.Test.YtahgdagcnkpnbaaGreatDoorTDN
import Derived.Test.YtahgdagcnkpnbaaGreatDoorTCK
import Derived.Test.YtahgdagcnkpnbaaGreatDoorTEX
set_option maxHeartbeats 64000000
namespace Go.Proofs.YtahgdagcnkpnbaaGreatDoor
open Go Go.RowKit
theorem room400:234*layA 400=30888:=by decide
theorem large400:zCa (logN 400:Nat)=31218:=by
 have:logN 400=134:=by decide
 rw [largest_val (by omega) (by omega),this]
 decide
theorem comm14 {r0 r:Rows} (h0:RisR r0) (h:RisR r):commE 400 r0 (zAn r0 r)=(if zAn r0 r=[] then 0 else if 31218<(zCg (zAn r0 r)).length then 18 else if 30888<(zAv r).length then 17 else 0)∧commR 400 r0 (zAn r0 r)=if commE 400 r0 (zAn r0 r)=0 then r else r0:=by
 have hnb:zBi (zAn r0 r)=zAn r0 r:=by rw [← between_prog h0 h,normD_idem]
 have hap:zAy r0 (zAn r0 r)=r:=between_apply h0 h
 have e:commE 400 r0 (zAn r0 r)=(if zAn r0 r=[] then 0 else if 31218<(zCg (zAn r0 r)).length then 18 else if 30888<(zAv r).length then 17 else 0):=by
  unfold commE
  rw [hnb,hap,large400,room400]
  have q:((31218:Int)<(((zCg (zAn r0 r)).length:Nat):Int))↔31218<(zCg (zAn r0 r)).length:=by omega
  simp only [q]
 refine ⟨e,?_⟩
 unfold commR
 rw [hnb,hap]
end Go.Proofs.YtahgdagcnkpnbaaGreatDoor
