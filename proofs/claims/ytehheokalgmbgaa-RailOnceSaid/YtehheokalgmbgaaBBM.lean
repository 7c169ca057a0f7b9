/-
  RaL3.
-/
import Derived.Test.YtehheokalgmbgaaBBL
/-
  RailPlays.
-/
namespace Go.Proofs.Ytehheokalgmbgaa
open Go Go.RowKit
section
variable {W : World} {N : Int}
theorem hear_len (N : Int) (hs : RH) (m : RMsg) (v : Int) : (hear N hs m v).length ≤ hs.length + 1 := by unfold hear; split <;> simp
end
end Go.Proofs.Ytehheokalgmbgaa
