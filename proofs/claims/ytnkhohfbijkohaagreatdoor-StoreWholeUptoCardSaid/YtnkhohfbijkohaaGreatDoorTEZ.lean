/-
  StWE, StWF.
-/
import Derived.Test.YtnkhohfbijkohaaGreatDoorTEX
import Derived.Test.YtnkhohfbijkohaaGreatDoorTEP
import Derived.Test.YtnkhohfbijkohaaGreatDoorTEU
set_option maxHeartbeats 64000000
namespace Go.Proofs.YtnkhohfbijkohaaGreatDoor
open Go Go.RowKit
def fmtD (n:Nat) (r:Rows):Dsk:=fldD (Dsk.blank n) n 1 r
section
variable {W:World} {F:Nat→Addr} {r:Rows} {d n:Nat}
theorem snewF_ct (hE:ErrsOn L16 W F) (hE8:ErrsOn L8 W F) (hN:NibAt W) (h1:64≤n) (h2:n≤4096) (A:SP) (oa:Option Addr) (oc:Nat) (ops:List BOp) (hL:Lv W opC 3 A oa ops) (ho:ops.length≤100000000) (hr:zAu [] ops=r) (hsn:(zAj r).length≤234*layA n) :
 Ct Tryz.prog W 15 [.pointer (some ⟨d,0,none⟩),.slice oa ops.length oc] [A,DiskP d (Dsk.blank n)] (fun _:Unit=>.nilIface) (fun _=>[A,DiskP d (fmtD n r)]):=sformatR_ct hE hE8 hN h1 (by omega) A oa oc ops hL ho r hr hsn
end
end Go.Proofs.YtnkhohfbijkohaaGreatDoor
namespace Go.Proofs.YtnkhohfbijkohaaGreatDoor
open Go Go.RowKit
section
variable {W:World} {F:Nat→Addr} {r:Rows} {s n k:Nat}
theorem StI.len {m:Nat} {x:StH} (h:StI n m r x) (h2:n≤65536):r.length≤10000000:=by
 have h1:=rows_snap r
 have h3:=snap_sum r
 have h4:=h.room
 have hA:=layA_le h2
 have h5:(zAj r).length=(vu r.length).length+(r.flatMap rowB).length:=by unfold zAj;rw [List.length_append]
 omega
end
end Go.Proofs.YtnkhohfbijkohaaGreatDoor
