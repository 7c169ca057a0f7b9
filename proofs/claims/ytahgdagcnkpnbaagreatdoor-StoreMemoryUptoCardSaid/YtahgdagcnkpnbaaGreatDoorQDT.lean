/-
  ErL.
-/
import Derived.Test.YtahgdagcnkpnbaaGreatDoorQBB
set_option maxHeartbeats 64000000
namespace Go.Proofs.YtahgdagcnkpnbaaGreatDoor
open Go Go.RowKit
abbrev L16:List Nat:=[1,2,3,4,5,6,7,12,13,14,15,16,17,18,19,21]
section
variable {W:World} {F:Nat→Addr}
theorem ErrsOn.lo {S T:List Nat} (h:ErrsOn S W F) (hs:∀ k,k ∈ T→k ∈ S):ErrsOn T W F:=
 ⟨fun k hk=>h.at_ k (hs k hk),fun k hk=>h.obj k (hs k hk),fun j k hj hk=>h.inj j k (hs j hj) (hs k hk),fun k hk=>h.pos k (hs k hk)⟩
theorem ErrsOn.to8 (h:ErrsOn L16 W F):ErrsOn L8 W F:=h.lo (by decide)
theorem ErrsAt.to16 (h:ErrsAt W F):ErrsOn L16 W F:=by
 have hS:∀ k ∈ L16,1≤k∧k≤37:=by decide
 exact ⟨fun k hk=>h.at_ k (hS k hk).1 (hS k hk).2,fun k hk=>h.obj k (hS k hk).1 (hS k hk).2,fun j k hj hk=>h.inj j k (hS j hj).1 (hS j hj).2 (hS k hk).1 (hS k hk).2,fun k hk=>(hS k hk).1⟩
end
end Go.Proofs.YtahgdagcnkpnbaaGreatDoor
