/-
  WiL1.
-/
import Derived.Test.YtnbgcimalpdfoaaGreatDoorQCX
import Derived.Test.YtnbgcimalpdfoaaGreatDoorQCY
import Derived.Test.YtnbgcimalpdfoaaGreatDoorQCM
import Derived.Test.YtnbgcimalpdfoaaGreatDoorQAS
import Derived.Test.YtnbgcimalpdfoaaGreatDoorQDQ
import Derived.Test.YtnbgcimalpdfoaaGreatDoorQDJ
import Derived.Test.YtnbgcimalpdfoaaGreatDoorQER
/-
  The laws of chapter 19: a transaction over an empty store; Take and Used over its rows; the calls that are fixed.
-/
namespace Go.Proofs.YtnbgcimalpdfoaaGreatDoor
open Go Go.RowKit
section
variable {W : World} {F : Nat → Addr} {t m : Nat} {r : Rows} {ended : Bool} {acc : List UInt8} {now span most amount : Int}
theorem TxQ.up {t m m' : Nat} {r : Rows} {ended : Bool} (h : m ≤ m') {R : List SP} : ∀ g, starL (TxQ t r ended m :: R) g → starL (TxQ t r ended m' :: R) g := fun g q => by
  obtain ⟨⟨⟨s, K, U⟩, hU⟩, q2⟩ := unpack_star q
  exact TxQ.star (Nat.le_trans hU h) g q2
end
end Go.Proofs.YtnbgcimalpdfoaaGreatDoor
