/-
  Tord.
-/
import Derived.Test.YtdbfemdpdpaffaaGreatDoorPAL
/-
  Texts in order; lists that rise: there is one with given members.
-/
namespace Go.Proofs.YtdbfemdpdpaffaaGreatDoor
open Go Go.RowKit
theorem tl_irr (a : List UInt8) : Op.bytesLess a a = false := by
  induction a with
  | nil => rfl
  | cons x a ih => simp [Op.bytesLess, ih]
theorem tl_tr : ∀ {a b c : List UInt8}, Op.bytesLess a b = true → Op.bytesLess b c = true → Op.bytesLess a c = true := by
  intro a
  induction a with
  | nil =>
    intro b c h1 h2
    cases c with
    | nil => cases b <;> simp [Op.bytesLess] at h2
    | cons z c => rfl
  | cons x a ih =>
    intro b c h1 h2
    cases b with
    | nil => simp [Op.bytesLess] at h1
    | cons y b =>
      cases c with
      | nil => simp [Op.bytesLess] at h2
      | cons z c =>
        simp only [Op.bytesLess, Bool.or_eq_true, decide_eq_true_eq, Bool.and_eq_true, beq_iff_eq] at h1 h2 ⊢
        rcases h1 with h1 | ⟨rfl, h1⟩
        · rcases h2 with h2 | ⟨rfl, h2⟩
          · exact .inl (UInt8.lt_trans h1 h2)
          · exact .inl h1
        · rcases h2 with h2 | ⟨rfl, h2⟩
          · exact .inl h2
          · exact .inr ⟨rfl, ih h1 h2⟩
theorem tl_tot : ∀ (a b : List UInt8), a ≠ b → Op.bytesLess a b = true ∨ Op.bytesLess b a = true := by
  intro a
  induction a with
  | nil => intro b h; cases b with
    | nil => exact absurd rfl h
    | cons y b => exact .inl rfl
  | cons x a ih =>
    intro b h
    cases b with
    | nil => exact .inr rfl
    | cons y b =>
      simp only [Op.bytesLess, Bool.or_eq_true, decide_eq_true_eq, Bool.and_eq_true, beq_iff_eq]
      by_cases e : x = y
      · subst e
        rcases ih b (fun q => h (by rw [q])) with q | q
        · exact .inl (.inr ⟨rfl, q⟩)
        · exact .inr (.inr ⟨rfl, q⟩)
      · rcases UInt8.lt_or_lt_of_ne e with q | q
        · exact .inl (.inl q)
        · exact .inr (.inl q)
theorem tl_asym {a b : List UInt8} (h : Op.bytesLess a b = true) : Op.bytesLess b a = false := by
  cases q : Op.bytesLess b a with
  | false => rfl
  | true => have := tl_tr h q; rw [tl_irr] at this; cases this
theorem tl_not {a b : List UInt8} (h : Op.bytesLess a b = false) (hne : a ≠ b) : Op.bytesLess b a = true := by
  rcases tl_tot a b hne with q | q
  · rw [q] at h; cases h
  · exact q
/-- a list rises by f -/
def Rising {γ : Type} (f : γ → List UInt8) (l : List γ) : Prop := l.Pairwise fun x y => Op.bytesLess (f x) (f y) = true
theorem rising_eq {γ : Type} {f : γ → List UInt8} : ∀ {l r : List γ}, Rising f l → Rising f r → (∀ x, x ∈ l ↔ x ∈ r) → l = r
  | [], r, _, _, h => by
    cases r with
    | nil => rfl
    | cons y r => exact absurd ((h y).2 (List.mem_cons_self ..)) (by simp)
  | x :: l, r, hl, hr, h => by
    cases r with
    | nil => exact absurd ((h x).1 (List.mem_cons_self ..)) (by simp)
    | cons y r =>
      obtain ⟨l1, l2⟩ := List.pairwise_cons.1 hl
      obtain ⟨r1, r2⟩ := List.pairwise_cons.1 hr
      have hxy : x = y := by
        rcases List.mem_cons.1 ((h x).1 (List.mem_cons_self ..)) with e | e
        · exact e
        · rcases List.mem_cons.1 ((h y).2 (List.mem_cons_self ..)) with e' | e'
          · exact e'.symm
          · have := tl_tr (r1 x e) (l1 y e'); rw [tl_irr] at this; cases this
      subst hxy
      rw [rising_eq l2 r2 (fun z => ?_)]
      constructor
      · intro hz
        rcases List.mem_cons.1 ((h z).1 (List.mem_cons_of_mem _ hz)) with e | e
        · subst e; have := l1 z hz; rw [tl_irr] at this; cases this
        · exact e
      · intro hz
        rcases List.mem_cons.1 ((h z).2 (List.mem_cons_of_mem _ hz)) with e | e
        · subst e; have := r1 z hz; rw [tl_irr] at this; cases this
        · exact e
end Go.Proofs.YtdbfemdpdpaffaaGreatDoor
