/-
  BaE.
-/
import Derived.Test.YtdbfemdpdpaffaaDoorPBE
/-
  Chapter 12 (batch) as plain data: the bytes of a batch, written and read.
-/
namespace Go.Proofs.YtdbfemdpdpaffaaDoor
open Go Go.RowKit
/-- the errors of reads are never 0 -/
theorem ruG_bad : ∀ (l : List UInt8) (i acc e : Nat), ruG l i acc = .bad e → e ≠ 0
  | [], _, _, _, h => by cases h; decide
  | b :: l, i, acc, e, h => by
    unfold ruG at h
    split at h
    · cases h; decide
    split at h
    · split at h
      · cases h; decide
      · cases h
    · exact ruG_bad l _ _ _ h
theorem rtx_bad {most : Nat} {l : List UInt8} {e : Nat} (h : rtx most l = .bad e) : e ≠ 0 := by
  unfold rtx at h
  cases hr : ru l with
  | bad e' => rw [hr] at h; cases h; exact ruG_bad l 0 0 _ hr
  | ok n t =>
    rw [hr] at h
    dsimp only at h
    split at h
    · cases h; decide
    split at h
    · cases h; decide
    · cases h
end Go.Proofs.YtdbfemdpdpaffaaDoor
