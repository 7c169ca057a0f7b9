/-
  BaP.
-/
import Derived.Test.YtehheokalgmbgaaDoorHBB
/-
  Chapter 12 (batch) as plain data: the normal form, rows, the least batch between; bytes.
-/
namespace Go.Proofs.YtehheokalgmbgaaDoor
open Go Go.RowKit
section
variable {γ : Type} (f : γ → List UInt8)
def insB : List γ → γ → List γ
  | [], x => [x]
  | y :: r, x => if Op.bytesLess (f y) (f x) = true then y :: insB r x else x :: y :: r
def atB : List γ → List UInt8 → Nat
  | [], _ => 0
  | y :: r, k => if Op.bytesLess (f y) k = true then atB r k + 1 else 0
def hasB (l : List γ) (k : List UInt8) : Bool := l.any fun x => decide (f x = k)
variable {f}
theorem hasB_true {l : List γ} {k : List UInt8} : hasB f l k = true ↔ ∃ x ∈ l, f x = k := by simp [hasB]
theorem hasB_false {l : List γ} {k : List UInt8} : hasB f l k = false ↔ ∀ x ∈ l, f x ≠ k := by simp [hasB]
theorem atB_le (l : List γ) (k : List UInt8) : atB f l k ≤ l.length := by
  induction l with
  | nil => exact Nat.le_refl _
  | cons y r ih => unfold atB; split <;> simp [ih]
theorem insB_eq (l : List γ) (x : γ) : insB f l x = l.take (atB f l (f x)) ++ [x] ++ l.drop (atB f l (f x)) := by
  induction l with
  | nil => rfl
  | cons y r ih =>
    unfold insB atB
    split
    · rw [ih]; rfl
    · rfl
theorem mem_insB {l : List γ} {x y : γ} : y ∈ insB f l x ↔ y = x ∨ y ∈ l := by
  induction l with
  | nil => simp [insB]
  | cons z r ih =>
    unfold insB
    split
    · rw [List.mem_cons, ih, List.mem_cons]
      constructor
      · rintro (h | h | h)
        · exact .inr (.inl h)
        · exact .inl h
        · exact .inr (.inr h)
      · rintro (h | h | h)
        · exact .inr (.inl h)
        · exact .inl h
        · exact .inr (.inr h)
    · rw [List.mem_cons]
theorem insB_rising {l : List γ} {x : γ} (h : Rising f l) (hx : ∀ y ∈ l, f y ≠ f x) : Rising f (insB f l x) := by
  induction l with
  | nil => exact List.pairwise_cons.2 ⟨fun _ h => absurd h (by simp), List.Pairwise.nil⟩
  | cons z r ih =>
    obtain ⟨h1, h2⟩ := List.pairwise_cons.1 h
    unfold insB
    split
    · rename_i hz
      refine List.pairwise_cons.2 ⟨fun y hy => ?_, ih h2 fun w hw => hx w (List.mem_cons_of_mem _ hw)⟩
      rcases mem_insB.1 hy with hy | hy
      · rw [hy]; exact hz
      · exact h1 y hy
    · rename_i hz
      have hxz : Op.bytesLess (f x) (f z) = true := tl_not (by simpa using hz) (hx z (List.mem_cons_self ..))
      refine List.pairwise_cons.2 ⟨fun y hy => ?_, h⟩
      rcases List.mem_cons.1 hy with hy | hy
      · rw [hy]; exact hxz
      · exact tl_tr hxz (h1 y hy)
/-- the place in a list that rises: all ahead are less, none behind -/
theorem atB_iff {l : List γ} (h : Rising f l) (k : List UInt8) : ∀ (i : Nat) (y : γ), l[i]? = some y → (Op.bytesLess (f y) k = true ↔ i < atB f l k) := by
  induction l with
  | nil => intro i y hy; simp at hy
  | cons z r ih =>
    obtain ⟨h1, h2⟩ := List.pairwise_cons.1 h
    intro i y hy
    unfold atB
    by_cases hz : Op.bytesLess (f z) k = true
    · rw [if_pos hz]
      cases i with
      | zero => cases hy; simp [hz]
      | succ i => rw [ih h2 i y hy]; omega
    · rw [if_neg hz]
      refine ⟨fun q => ?_, fun q => absurd q (Nat.not_lt_zero _)⟩
      cases i with
      | zero => cases hy; exact absurd q hz
      | succ i =>
        have := h1 y (List.mem_of_getElem? hy)
        exact absurd (tl_tr this q) hz
theorem atB_has {l : List γ} (h : Rising f l) (k : List UInt8) : hasB f l k = true ↔ ∃ y, l[atB f l k]? = some y ∧ f y = k := by
  rw [hasB_true]
  constructor
  · rintro ⟨x, hx, rfl⟩
    obtain ⟨i, hi⟩ := List.mem_iff_getElem?.1 hx
    have q := atB_iff h (f x) i x hi
    rw [tl_irr] at q
    have hge : atB f l (f x) ≤ i := by
      by_cases c : i < atB f l (f x)
      · exact absurd (q.2 c) (by decide)
      · omega
    by_cases c : atB f l (f x) = i
    · rw [c]; exact ⟨x, hi, rfl⟩
    · have hil : i < l.length := (List.getElem?_eq_some_iff.1 hi).1
      have hlt : atB f l (f x) < l.length := by omega
      have hb := List.getElem?_eq_getElem hlt
      have q2 := atB_iff h (f x) _ _ hb
      have hno : Op.bytesLess (f l[atB f l (f x)]) (f x) = false := by
        cases e : Op.bytesLess (f l[atB f l (f x)]) (f x) with
        | false => rfl
        | true => exact absurd (q2.1 e) (Nat.lt_irrefl _)
      have hp := (List.pairwise_iff_getElem.1 h) (atB f l (f x)) i hlt hil (by omega)
      rw [(List.getElem?_eq_some_iff.1 hi).2] at hp
      rw [hp] at hno; cases hno
  · rintro ⟨y, hy, e⟩
    exact ⟨y, List.mem_of_getElem? hy, e⟩
theorem rising_uniq {l : List γ} (h : Rising f l) {x y : γ} (hx : x ∈ l) (hy : y ∈ l) (e : f x = f y) : x = y := by
  induction l with
  | nil => simp at hx
  | cons z r ih =>
    obtain ⟨h1, h2⟩ := List.pairwise_cons.1 h
    rcases List.mem_cons.1 hx with a | a
    · rcases List.mem_cons.1 hy with b | b
      · rw [a, b]
      · have := h1 y b; rw [← a, e, tl_irr] at this; cases this
    · rcases List.mem_cons.1 hy with b | b
      · have := h1 x a; rw [← b, e, tl_irr] at this; cases this
      · exact ih h2 a b
theorem rising_len {l r : List γ} (hl : Rising f l) (hr : Rising f r) (h : ∀ x ∈ l, x ∈ r) : l.length ≤ r.length := by
  induction r generalizing l with
  | nil => cases l with
    | nil => exact Nat.le_refl _
    | cons x l => exact absurd (h x (List.mem_cons_self ..)) (by simp)
  | cons y r ih =>
    cases l with
    | nil => exact Nat.zero_le _
    | cons x l =>
      obtain ⟨l1, l2⟩ := List.pairwise_cons.1 hl
      obtain ⟨r1, r2⟩ := List.pairwise_cons.1 hr
      have : ∀ z ∈ l, z ∈ r := fun z hz => by
        rcases List.mem_cons.1 (h z (List.mem_cons_of_mem _ hz)) with e | e
        · rcases List.mem_cons.1 (h x (List.mem_cons_self ..)) with e' | e'
          · have := l1 z hz; rw [e, e', tl_irr] at this; cases this
          · have a := r1 x e'
            have b := l1 z hz
            rw [e] at b
            have := tl_tr a b; rw [tl_irr] at this; cases this
        · exact e
      have := ih l2 r2 this
      simp only [List.length_cons]; omega
end
structure BOp where
  del : Bool
  key : List UInt8
  val : List UInt8
deriving DecidableEq
def BOp.nrm (o : BOp) : BOp := ⟨o.del, o.key, if o.del then [] else o.val⟩
theorem nrm_nrm (o : BOp) : o.nrm.nrm = o.nrm := by
  obtain ⟨d, k, v⟩ := o
  cases d <;> rfl
/-- what is said last of a key -/
def lastOf : List BOp → List UInt8 → Option BOp
  | [], _ => none
  | o :: r, k => (lastOf r k).or (if o.key = k then some o.nrm else none)
theorem lastOf_append (a b : List BOp) (k : List UInt8) : lastOf (a ++ b) k = (lastOf b k).or (lastOf a k) := by
  induction a with
  | nil => simp [lastOf]
  | cons o a ih => rw [List.cons_append, lastOf, ih, lastOf, Option.or_assoc]
theorem lastOf_one (a : List BOp) (o : BOp) (k : List UInt8) : lastOf (a ++ [o]) k = if o.key = k then some o.nrm else lastOf a k := by
  rw [lastOf_append]
  by_cases e : o.key = k <;> simp [lastOf, e]
theorem lastOf_some {l : List BOp} {k : List UInt8} {x : BOp} (h : lastOf l k = some x) : x.key = k ∧ x.nrm = x := by
  induction l with
  | nil => cases h
  | cons o r ih =>
    rw [lastOf] at h
    cases e : lastOf r k with
    | some y => rw [e] at h; cases h; exact ih e
    | none =>
      rw [e, Option.none_or] at h
      split at h
      · rename_i ek; cases h; exact ⟨ek, nrm_nrm o⟩
      · cases h
/-- the normal form, by the last one first -/
def normD : List BOp → List BOp
  | [] => []
  | o :: r => if hasB BOp.key (normD r) o.key = true then normD r else insB BOp.key (normD r) o.nrm
theorem normD_spec (l : List BOp) : Rising BOp.key (normD l) ∧ ∀ x, x ∈ normD l ↔ lastOf l x.key = some x := by
  induction l with
  | nil => exact ⟨List.Pairwise.nil, fun x => by simp [normD, lastOf]⟩
  | cons o r ih =>
    obtain ⟨h1, h2⟩ := ih
    unfold normD
    split
    · rename_i hh
      refine ⟨h1, fun x => ?_⟩
      rw [h2, lastOf]
      obtain ⟨y, hy, ey⟩ := hasB_true.1 hh
      rw [h2] at hy
      cases e : lastOf r x.key with
      | some z => rfl
      | none =>
        by_cases c : o.key = x.key
        · rw [← c, ← ey, hy] at e; cases e
        · simp [c]
    · rename_i hh
      have hf := hasB_false.1 (by simpa using hh)
      have hn : lastOf r o.key = none := by
        cases e : lastOf r o.key with
        | none => rfl
        | some z =>
          have hz := (lastOf_some e).1
          have := (h2 z).2 (by rw [hz]; exact e)
          exact absurd hz (hf z this)
      refine ⟨insB_rising h1 fun y hy => hf y hy, fun x => ?_⟩
      rw [mem_insB, h2, lastOf]
      by_cases c : o.key = x.key
      · rw [← c, hn, if_pos rfl]
        simp [eq_comm]
      · rw [if_neg c, Option.or_none]
        constructor
        · rintro (h | h)
          · exact absurd (by rw [h]; rfl) c
          · exact h
        · exact .inr
theorem normD_rising (l : List BOp) : Rising BOp.key (normD l) := (normD_spec l).1
theorem normD_mem (l : List BOp) (x : BOp) : x ∈ normD l ↔ lastOf l x.key = some x := (normD_spec l).2 x
theorem normD_nrm {l : List BOp} {x : BOp} (h : x ∈ normD l) : x.nrm = x := (lastOf_some ((normD_mem l x).1 h)).2
theorem normD_of {l r : List BOp} (hr : Rising BOp.key r) (h : ∀ x, x ∈ r ↔ lastOf l x.key = some x) : r = normD l := rising_eq hr (normD_rising l) fun x => (h x).trans (normD_mem l x).symm
theorem normD_congr {l r : List BOp} (h : ∀ k, lastOf l k = lastOf r k) : normD l = normD r := normD_of (normD_rising l) fun x => by rw [normD_mem, h]
theorem lastOf_rising {l : List BOp} (hl : Rising BOp.key l) (hn : ∀ x ∈ l, x.nrm = x) (k : List UInt8) : ∀ x, lastOf l k = some x ↔ x ∈ l ∧ x.key = k := by
  induction l with
  | nil => intro x; simp [lastOf]
  | cons o r ih =>
    obtain ⟨h1, h2⟩ := List.pairwise_cons.1 hl
    have ih := fun x => ih h2 (fun y hy => hn y (List.mem_cons_of_mem _ hy)) x
    intro x
    rw [lastOf]
    by_cases e : o.key = k
    · have : lastOf r k = none := by
        cases q : lastOf r k with
        | none => rfl
        | some z =>
          have hz := (lastOf_some q).1
          have hm : z ∈ r := ((ih z).1 q).1
          have := h1 z hm
          rw [e, hz, tl_irr] at this; cases this
      rw [this, if_pos e, Option.none_or, hn o (List.mem_cons_self ..)]
      constructor
      · intro h; cases h; exact ⟨List.mem_cons_self .., e⟩
      · rintro ⟨h, hk⟩
        rw [rising_uniq hl h (List.mem_cons_self ..) (hk.trans e.symm)]
    · rw [if_neg e, Option.or_none, ih, List.mem_cons]
      constructor
      · rintro ⟨a, b⟩; exact ⟨.inr a, b⟩
      · rintro ⟨a | a, b⟩
        · rw [a] at b; exact absurd b e
        · exact ⟨a, b⟩
end Go.Proofs.YtehheokalgmbgaaDoor
