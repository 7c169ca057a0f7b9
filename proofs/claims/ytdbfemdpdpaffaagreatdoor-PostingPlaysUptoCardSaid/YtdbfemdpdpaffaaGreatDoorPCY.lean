/-
  PoN1, PoN3.
-/
import Derived.Test.YtdbfemdpdpaffaaGreatDoorPBY
import Derived.Test.YtdbfemdpdpaffaaGreatDoorPAM
/-
  Merged legs, as plain data: the document's sorted list and its groups; one sum an account.
-/
namespace Go.Proofs.YtdbfemdpdpaffaaGreatDoor
open Go
def legLt (a b : Leg) : Bool := if a.acc = b.acc then decide (a.amt < b.amt) else Op.bytesLess a.acc b.acc
def legLe (a b : Leg) : Bool := !legLt b a
theorem legLe_iff {a b : Leg} : legLe a b = true ↔ (a.acc = b.acc ∧ a.amt ≤ b.amt) ∨ Op.bytesLess a.acc b.acc = true := by
  unfold legLe legLt
  by_cases h : b.acc = a.acc
  · rw [if_pos h, h, tl_irr]
    simp
  · rw [if_neg h]
    cases q : Op.bytesLess b.acc a.acc with
    | true =>
      have := tl_asym q
      have h' : ¬ a.acc = b.acc := fun e => h e.symm
      simp [this, h']
    | false =>
      have := tl_not q h
      simp [this]
theorem legLe_trans (a b c : Leg) (h : legLe a b = true) (g : legLe b c = true) : legLe a c = true := by
  rw [legLe_iff] at *
  rcases h with ⟨h1, h2⟩ | h <;> rcases g with ⟨g1, g2⟩ | g
  · exact .inl ⟨h1.trans g1, Int.le_trans h2 g2⟩
  · exact .inr (by rw [h1]; exact g)
  · exact .inr (by rw [← g1]; exact h)
  · exact .inr (tl_tr h g)
theorem legLe_total (a b : Leg) : (legLe a b || legLe b a) = true := by
  rw [Bool.or_eq_true, legLe_iff, legLe_iff]
  by_cases h : a.acc = b.acc
  · rcases Int.le_total a.amt b.amt with q | q
    · exact .inl (.inl ⟨h, q⟩)
    · exact .inr (.inl ⟨h.symm, q⟩)
  · rcases tl_tot _ _ h with q | q
    · exact .inl (.inr q)
    · exact .inr (.inr q)
theorem legLe_anti {a b : Leg} (h : legLe a b = true) (g : legLe b a = true) : a = b := by
  rw [legLe_iff] at *
  rcases h with ⟨h1, h2⟩ | h <;> rcases g with ⟨g1, g2⟩ | g
  · cases a; cases b; simp only at *; subst h1; congr 1; omega
  · rw [h1, tl_irr] at g; cases g
  · rw [g1, tl_irr] at h; cases h
  · rw [tl_asym h] at g; cases g
/-- the document's sorting: by merging halves -/
def srtL (l : List Leg) : List Leg := if h : l.length < 2 then l else List.merge (srtL (l.take (l.length / 2))) (srtL (l.drop (l.length / 2))) legLe
termination_by l.length
decreasing_by
  · rw [List.length_take]; omega
  · rw [List.length_drop]; omega
theorem srt_small {l : List Leg} (h : l.length < 2) : srtL l = l := by rw [srtL, dif_pos h]
theorem srt_big {l : List Leg} (h : ¬ l.length < 2) : srtL l = List.merge (srtL (l.take (l.length / 2))) (srtL (l.drop (l.length / 2))) legLe := by conv => lhs; rw [srtL, dif_neg h]
theorem srt_perm (l : List Leg) : (srtL l).Perm l := by
  by_cases h : l.length < 2
  · rw [srt_small h]
  · rw [srt_big h]
    refine (List.merge_perm_append (le := legLe)).trans ?_
    have h1 := srt_perm (l.take (l.length / 2))
    have h2 := srt_perm (l.drop (l.length / 2))
    have h3 := h1.append h2
    rwa [List.take_append_drop] at h3
termination_by l.length
decreasing_by
  · rw [List.length_take]; omega
  · rw [List.length_drop]; omega
theorem srt_pair (l : List Leg) : (srtL l).Pairwise (fun a b => legLe a b = true) := by
  by_cases h : l.length < 2
  · rw [srt_small h]
    match l, h with
    | [], _ => exact .nil
    | [x], _ => simp
    | _ :: _ :: _, h => simp at h; omega
  · rw [srt_big h]
    exact List.pairwise_merge legLe_trans legLe_total _ _ (srt_pair _) (srt_pair _)
termination_by l.length
decreasing_by
  · rw [List.length_take]; omega
  · rw [List.length_drop]; omega
theorem srt_len (l : List Leg) : (srtL l).length = l.length := (srt_perm l).length_eq
/-- sorted alike: one permuted into the other -/
theorem srt_eq {l r : List Leg} : srtL l = srtL r ↔ l.Perm r :=
  ⟨fun h => (srt_perm l).symm.trans (by rw [h]; exact srt_perm r), fun h => List.Perm.eq_of_pairwise (le := fun a b => legLe a b = true) (fun _ _ _ _ => legLe_anti) (srt_pair l) (srt_pair r) ((srt_perm l).trans (h.trans (srt_perm r).symm))⟩
def fitsI (x : Int) : Bool := decide (-9223372036854775808 ≤ x) && decide (x ≤ 9223372036854775807)
def heads (l : List Leg) : List (List UInt8) := match l with
  | [] => []
  | x :: r => x.acc :: heads (r.dropWhile fun y => decide (y.acc = x.acc))
termination_by l.length
decreasing_by
  have := (List.dropWhile_sublist (fun y : Leg => decide (y.acc = x.acc)) (l := r)).length_le
  simp only [List.length_cons]
  omega
end Go.Proofs.YtdbfemdpdpaffaaGreatDoor
/-
  The document's whole numbers (chapter 4), as plain data: a high part and a word.
-/
namespace Go.Proofs.YtdbfemdpdpaffaaGreatDoor
open Go
structure Wh where
  hi : Int
  lo : Int
/-- a whole number of this value, its high part small -/
structure WhOk (w : Wh) (v : Int) (b : Int) : Prop where
  l0 : 0 ≤ w.lo
  l1 : w.lo < 18446744073709551616
  val : v = 18446744073709551616 * w.hi + w.lo
  h0 : -b ≤ w.hi
  h1 : w.hi ≤ b
def wholeW (x : Int) : Wh := ⟨if x < 0 then -1 else 0, x % 18446744073709551616⟩
def plusW (a b : Wh) : Wh := ⟨if 18446744073709551616 ≤ a.lo + b.lo then a.hi + b.hi + 1 else a.hi + b.hi, (a.lo + b.lo) % 18446744073709551616⟩
theorem wholeW_ok {x : Int} (h : -9223372036854775808 ≤ x ∧ x ≤ 9223372036854775807) : WhOk (wholeW x) x 1 := by
  unfold wholeW
  by_cases hx : x < 0
  · rw [if_pos hx]
    have e : x % 18446744073709551616 = x + 18446744073709551616 := by omega
    exact ⟨by show 0 ≤ x % 18446744073709551616; omega, by show x % 18446744073709551616 < 18446744073709551616; omega, by show x = 18446744073709551616 * -1 + x % 18446744073709551616; omega, by show -1 ≤ (-1 : Int); omega, by show (-1 : Int) ≤ 1; omega⟩
  · rw [if_neg hx]
    have e : x % 18446744073709551616 = x := by omega
    exact ⟨by show 0 ≤ x % 18446744073709551616; omega, by show x % 18446744073709551616 < 18446744073709551616; omega, by show x = 18446744073709551616 * 0 + x % 18446744073709551616; omega, by show -1 ≤ (0 : Int); omega, by show (0 : Int) ≤ 1; omega⟩
theorem plusW_ok {a b : Wh} {u v c d : Int} (ha : WhOk a u c) (hb : WhOk b v d) : WhOk (plusW a b) (u + v) (c + d + 1) := by
  obtain ⟨a1, a2, a3, a4, a5⟩ := ha
  obtain ⟨b1, b2, b3, b4, b5⟩ := hb
  unfold plusW
  by_cases h : 18446744073709551616 ≤ a.lo + b.lo
  · rw [if_pos h]
    have e : (a.lo + b.lo) % 18446744073709551616 = a.lo + b.lo - 18446744073709551616 := by omega
    exact ⟨by show 0 ≤ (a.lo + b.lo) % 18446744073709551616; omega, by show (a.lo + b.lo) % 18446744073709551616 < 18446744073709551616; omega, by show u + v = 18446744073709551616 * (a.hi + b.hi + 1) + (a.lo + b.lo) % 18446744073709551616; omega, by show -(c + d + 1) ≤ a.hi + b.hi + 1; omega, by show a.hi + b.hi + 1 ≤ c + d + 1; omega⟩
  · rw [if_neg h]
    have e : (a.lo + b.lo) % 18446744073709551616 = a.lo + b.lo := by omega
    exact ⟨by show 0 ≤ (a.lo + b.lo) % 18446744073709551616; omega, by show (a.lo + b.lo) % 18446744073709551616 < 18446744073709551616; omega, by show u + v = 18446744073709551616 * (a.hi + b.hi) + (a.lo + b.lo) % 18446744073709551616; omega, by show -(c + d + 1) ≤ a.hi + b.hi; omega, by show a.hi + b.hi ≤ c + d + 1; omega⟩
/-- the carry is seen in the low word -/
theorem carry_iff {a b : Int} (a0 : 0 ≤ a) (a1 : a < 18446744073709551616) (b0 : 0 ≤ b) (b1 : b < 18446744073709551616) : decide ((a + b) % 18446744073709551616 < a) = decide (18446744073709551616 ≤ a + b) := by
  rw [Bool.eq_iff_iff, decide_eq_true_eq, decide_eq_true_eq]
  omega
/-- it is an int64 -/
theorem whFits {w : Wh} {v c : Int} (h : WhOk w v c) : (decide (w.hi = 0) && decide (w.lo < 9223372036854775808) || decide (w.hi = -1) && decide (9223372036854775808 ≤ w.lo)) = fitsI v := by
  obtain ⟨a1, a2, a3, a4, a5⟩ := h
  unfold fitsI
  rw [Bool.eq_iff_iff]
  simp only [Bool.or_eq_true, Bool.and_eq_true, decide_eq_true_eq]
  omega
theorem whVal0 {w : Wh} {v c : Int} (h : WhOk w v c) (h0 : w.hi = 0) : v = w.lo := by have := h.val; rw [h0] at this; omega
theorem whVal1 {w : Wh} {v c : Int} (h : WhOk w v c) (h0 : w.hi = -1) : v = w.lo - 18446744073709551616 := by have := h.val; rw [h0] at this; omega
end Go.Proofs.YtdbfemdpdpaffaaGreatDoor
