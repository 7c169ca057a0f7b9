/-
  Tord.
-/
import Derived.Test.YtdbfemdpdpaffaaGreatDoorPAL
/-
  Texts in order; lists that rise: there is one with given members.
-/
namespace Go.Proofs.YtdbfemdpdpaffaaGreatDoor
open Go Go.RowKit
theorem tl_irr (a : List UInt8) : Op.bytesLess a a = false := by
  induction a with
  | nil => rfl
  | cons x a ih => simp [Op.bytesLess, ih]
theorem tl_tr : ∀ {a b c : List UInt8}, Op.bytesLess a b = true → Op.bytesLess b c = true → Op.bytesLess a c = true := by
  intro a
  induction a with
  | nil =>
    intro b c h1 h2
    cases c with
    | nil => cases b <;> simp [Op.bytesLess] at h2
    | cons z c => rfl
  | cons x a ih =>
    intro b c h1 h2
    cases b with
    | nil => simp [Op.bytesLess] at h1
    | cons y b =>
      cases c with
      | nil => simp [Op.bytesLess] at h2
      | cons z c =>
        simp only [Op.bytesLess, Bool.or_eq_true, decide_eq_true_eq, Bool.and_eq_true, beq_iff_eq] at h1 h2 ⊢
        rcases h1 with h1 | ⟨rfl, h1⟩
        · rcases h2 with h2 | ⟨rfl, h2⟩
          · exact .inl (UInt8.lt_trans h1 h2)
          · exact .inl h1
        · rcases h2 with h2 | ⟨rfl, h2⟩
          · exact .inl h2
          · exact .inr ⟨rfl, ih h1 h2⟩
theorem tl_tot : ∀ (a b : List UInt8), a ≠ b → Op.bytesLess a b = true ∨ Op.bytesLess b a = true := by
  intro a
  induction a with
  | nil => intro b h; cases b with
    | nil => exact absurd rfl h
    | cons y b => exact .inl rfl
  | cons x a ih =>
    intro b h
    cases b with
    | nil => exact .inr rfl
    | cons y b =>
      simp only [Op.bytesLess, Bool.or_eq_true, decide_eq_true_eq, Bool.and_eq_true, beq_iff_eq]
      by_cases e : x = y
      · subst e
        rcases ih b (fun q => h (by rw [q])) with q | q
        · exact .inl (.inr ⟨rfl, q⟩)
        · exact .inr (.inr ⟨rfl, q⟩)
      · rcases UInt8.lt_or_lt_of_ne e with q | q
        · exact .inl (.inl q)
        · exact .inr (.inl q)
theorem tl_asym {a b : List UInt8} (h : Op.bytesLess a b = true) : Op.bytesLess b a = false := by
  cases q : Op.bytesLess b a with
  | false => rfl
  | true => have := tl_tr h q; rw [tl_irr] at this; cases this
theorem tl_not {a b : List UInt8} (h : Op.bytesLess a b = false) (hne : a ≠ b) : Op.bytesLess b a = true := by
  rcases tl_tot a b hne with q | q
  · rw [q] at h; cases h
  · exact q
end Go.Proofs.YtdbfemdpdpaffaaGreatDoor
