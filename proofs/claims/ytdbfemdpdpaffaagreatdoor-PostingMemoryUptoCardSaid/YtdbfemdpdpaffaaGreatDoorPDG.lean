/-
  PoR3.
-/
import Derived.Test.YtdbfemdpdpaffaaGreatDoorPCV
import Derived.Test.YtdbfemdpdpaffaaGreatDoorPDC
/-
  PostingReverse: the walk.
-/
namespace Go.Proofs.YtdbfemdpdpaffaaGreatDoor
open Go Go.RowKit Go.MapKept
section
variable {W : World} {F : Nat → Addr}
theorem preverseV (T : SP) (a : Option Addr) (c : Nat) (p : Pst) (name : List UInt8) (hL : Lv W legC 2 T a p.legs) (hn : p.legs.length ≤ 2000000) {vs : List Value} {n : Nat} {U : List Leg} (hv : pstC p a c = vs) (h1 : p.legs.length = n) (hU : revL p.legs = U) :
    Ct Tryz.prog W 19 [.agg vs.toArray, strV name] [T] (fun x : Option Addr × Nat => .agg #[strV name, .int .i64 p.tick, strV p.note, .slice x.1 n x.2]) (fun x => [T, lsP legC 55 2 (.slice x.1 n x.2) U]) := by
  subst hv h1 hU
  exact preverse_ct T a c p name hL hn
theorem pcheckV (er : PErr W F) (T : SP) (a : Option Addr) (c : Nat) (p : Pst) (hp : PstFit p) (hL : Lv W legC 2 T a p.legs) {vs : List Value} {e : Nat} (hv : pstC p a c = vs) (he : checkE p = e) :
    Ct Tryz.prog W 16 [.agg vs.toArray] [T] (fun _ : Unit => errV F e) (fun _ => [T]) := by
  subst hv he
  exact pcheck_ct er T a c p hp hL
end
end Go.Proofs.YtdbfemdpdpaffaaGreatDoor
