/-
  WiL3.
-/
import Derived.Test.YtnbgcimalpdfoaaGreatDoorPEL
/-
  WindowsNone (chapter 19).
-/
namespace Go.Proofs.YtnbgcimalpdfoaaGreatDoor
open Go Go.RowKit
section
variable {W : World} {F : Nat → Addr}
instance fn_fixed19 : FnIs Tryz.prog 10 := ⟨by kernel_rfl⟩
instance fn_begun : FnIs Tryz.prog 11 := ⟨by kernel_rfl⟩
end
end Go.Proofs.YtnbgcimalpdfoaaGreatDoor
