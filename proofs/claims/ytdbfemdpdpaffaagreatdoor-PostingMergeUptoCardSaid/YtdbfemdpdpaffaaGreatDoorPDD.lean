/-
  PoR3.
-/
import Derived.Test.YtdbfemdpdpaffaaGreatDoorPCQ
import Derived.Test.YtdbfemdpdpaffaaGreatDoorPBX
import Derived.Test.YtdbfemdpdpaffaaGreatDoorPCK
import Derived.Test.YtdbfemdpdpaffaaGreatDoorPBZ
import Derived.Test.YtdbfemdpdpaffaaGreatDoorPBI
import Derived.Test.YtdbfemdpdpaffaaGreatDoorPCT
import Derived.Test.YtdbfemdpdpaffaaGreatDoorPBP
import Derived.Test.YtdbfemdpdpaffaaGreatDoorPCO
import Derived.Test.YtdbfemdpdpaffaaGreatDoorPCU
import Derived.Test.YtdbfemdpdpaffaaGreatDoorPDB
/-
  PostingReverse: the walk.
-/
namespace Go.Proofs.YtdbfemdpdpaffaaGreatDoor
open Go Go.RowKit Go.MapKept
section
variable {W : World} {F : Nat → Addr}
theorem pcheckV (er : PErr W F) (T : SP) (a : Option Addr) (c : Nat) (p : Pst) (hp : PstFit p) (hL : Lv W legC 2 T a p.legs) {vs : List Value} {e : Nat} (hv : pstC p a c = vs) (he : checkE p = e) :
    Ct Tryz.prog W 16 [.agg vs.toArray] [T] (fun _ : Unit => errV F e) (fun _ => [T]) := by
  subst hv he
  exact pcheck_ct er T a c p hp hL
end
end Go.Proofs.YtdbfemdpdpaffaaGreatDoor
