/-
  EndE.
-/
import Derived.SizedLaws
import Derived.Test.YtoipmnikdiogcaaGreatDoorYCS
set_option maxHeartbeats 64000000
namespace Go.Proofs.YtoipmnikdiogcaaGreatDoor
open Go Go.RowKit
theorem ErrsOn.sub {S T:List Nat} {W:World} {F:Nat→Addr} (h:ErrsOn S W F) (hs:∀ k,k ∈ T→k ∈ S):ErrsOn T W F:=
 ⟨fun k hk=>h.at_ k (hs k hk),fun k hk=>h.obj k (hs k hk),fun j k hj hk=>h.inj j k (hs j hj) (hs k hk),fun k hk=>h.pos k (hs k hk)⟩
end Go.Proofs.YtoipmnikdiogcaaGreatDoor
