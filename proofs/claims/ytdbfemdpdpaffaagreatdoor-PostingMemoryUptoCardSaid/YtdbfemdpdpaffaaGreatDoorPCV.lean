/-
  PoR2.
-/
import Derived.Test.YtdbfemdpdpaffaaGreatDoorPCQ
import Derived.Test.YtdbfemdpdpaffaaGreatDoorPBX
import Derived.Test.YtdbfemdpdpaffaaGreatDoorPCK
import Derived.Test.YtdbfemdpdpaffaaGreatDoorPBZ
import Derived.Test.YtdbfemdpdpaffaaGreatDoorPBI
import Derived.Test.YtdbfemdpdpaffaaGreatDoorPCS
import Derived.Test.YtdbfemdpdpaffaaGreatDoorPBP
import Derived.Test.YtdbfemdpdpaffaaGreatDoorPCO
import Derived.Test.YtdbfemdpdpaffaaGreatDoorPCU
/-
  PostingPlays: the walk.
-/
namespace Go.Proofs.YtdbfemdpdpaffaaGreatDoor
open Go Go.RowKit Go.MapKept
section
variable {W : World} {F : Nat → Addr}
/-- alike of structs given by their fields -/
theorem alikeV (A B : SP) (a b : Option Addr) (c d : Nat) (p : Pst) (hA : Lv W legC 2 A a p.legs) (hB : Lv W legC 2 B b p.legs) (h1 : p.legs.length ≤ 4611686018427387904) {vs ws : List Value} (hv : pstC p a c = vs) (hw : pstC p b d = ws) :
    Ct Tryz.prog W 13 [.agg vs.toArray, .agg ws.toArray] [A, B] (fun _ : Unit => .bool true) (fun _ => [A, B]) := by
  subst hv hw
  exact alike_ct A B a b c d p hA hB h1
end
end Go.Proofs.YtdbfemdpdpaffaaGreatDoor
