/-
  WrP.
-/
import Derived.Test.YtehheokalgmbgaaDoorEBA
/-
  Numbers and texts as bytes (chapter 1), plain data: written, read back.
-/
namespace Go.Proofs.YtehheokalgmbgaaDoor
open Go Go.RowKit
/-- an unsigned varint's bytes -/
def vuF : Nat → Nat → List UInt8
  | 0, _ => []
  | f + 1, x => if x < 128 then [UInt8.ofNat x] else UInt8.ofNat (x % 128 + 128) :: vuF f (x / 128)
def vu (x : Nat) : List UInt8 := vuF 10 x
def tx (s : List UInt8) : List UInt8 := vu s.length ++ s
theorem vuF_le : ∀ (f x : Nat), (vuF f x).length ≤ f
  | 0, _ => Nat.le_refl _
  | f + 1, x => by
    unfold vuF
    split
    · simp
    · have := vuF_le f (x / 128); simp; omega
theorem vuF_pos (f x : Nat) : 1 ≤ (vuF (f + 1) x).length := by
  unfold vuF
  split <;> simp
end Go.Proofs.YtehheokalgmbgaaDoor
