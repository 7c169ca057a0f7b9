/-
  SoP.
-/
import Derived.Test.YtmlnegmabfnaaaaBBG
import Derived.Sort.LotB
/-
  pdqsort by fuel, in plain terms: sizes and ranges.
-/
namespace Go.Proofs.Ytmlnegmabfnaaaa
open Go Go.RowKit Go.Sort
section
variable {α : Type} [Inhabited α] {lt : α → α → Bool}
theorem insInner_size (a : Nat) : ∀ (j : Nat) (d : Array α), (insInner lt a j d).size = d.size := by
  intro j
  induction j with
  | zero => intro d; rfl
  | succ j ih => intro d; unfold insInner; split
                 · rw [ih, size_swp]
                 · rfl
theorem insOuter_size (a b : Nat) : ∀ (m i : Nat) (d : Array α), b - i ≤ m → (insOuter lt a b i d).size = d.size := by
  intro m
  induction m with
  | zero => intro i d h; rw [insOuter_eq, if_neg (by omega)]
  | succ m ih =>
    intro i d h
    rw [insOuter_eq]
    split
    · rw [ih _ _ (by omega), insInner_size]
    · rfl
theorem insertionSort_size (d : Array α) (a b : Nat) : (insertionSort lt d a b).size = d.size := insOuter_size a b _ _ d (Nat.le_refl _)
theorem heapBuild_size (hi first : Nat) : ∀ (k : Nat) (d : Array α), (heapBuild lt hi first k d).size = d.size := by
  intro k
  induction k with
  | zero => intro d; rfl
  | succ k ih => intro d; rw [heapBuild_succ, ih, siftDown_size _ _ _ _ _ (Nat.le_refl _)]
theorem heapPop_size (first : Nat) : ∀ (k : Nat) (d : Array α), (heapPop lt first k d).size = d.size := by
  intro k
  induction k with
  | zero => intro d; rfl
  | succ k ih => intro d; rw [heapPop_succ, ih, siftDown_size _ _ _ _ _ (Nat.le_refl _), size_swp]
theorem heapSort_size (d : Array α) (a b : Nat) : (heapSort lt d a b).size = d.size := by unfold heapSort; rw [heapPop_size, heapBuild_size]
theorem partialIns_size (a b : Nat) : ∀ (s i : Nat) (d : Array α), (partialIns lt a b s i d).1.size = d.size := by
  intro s
  induction s with
  | zero => intro i d; rfl
  | succ s ih =>
    intro i d
    rw [partialIns_succ]
    split
    · rfl
    split
    · rfl
    · rw [ih, fixUp_size, fixDown_size, size_swp]
theorem scanUp_le (p : α → Bool) (d : Array α) {j i b : Nat} (hi : i ≤ b) (hj : j < b) : scanUp p d j i ≤ b := by
  have u := scanUp_spec p d j _ i rfl
  by_cases h : i ≤ j + 1
  · have := u.2.1 h; omega
  · rw [scanUp_stop (fun q => by omega)]; exact hi
theorem partEqLoop_in (a b : Nat) : ∀ (m i j : Nat) (d : Array α), j + 1 - i ≤ m → a + 1 ≤ i → i ≤ b → j < b → a < (partEqLoop lt a i j d).1 ∧ (partEqLoop lt a i j d).1 ≤ b ∧ (partEqLoop lt a i j d).2.size = d.size := by
  intro m
  induction m with
  | zero =>
    intro i j d h h1 h2 h3
    have hs : scanUp (fun x => !lt d[a]! x) d j i = i := scanUp_stop (fun q => by omega)
    have hd : scanDown (fun x => lt d[a]! x) d i j = j := scanDown_stop (fun q => by omega)
    rw [partEqLoop_eq, hs, hd, if_pos (by omega)]
    exact ⟨by dsimp only; omega, by dsimp only; omega, rfl⟩
  | succ m ih =>
    intro i j d h h1 h2 h3
    have v1 := scanUp_ge (fun x => !lt d[a]! x) d j i
    have v2 := scanUp_le (fun x => !lt d[a]! x) d h2 h3
    have v3 := scanDown_le (fun x => lt d[a]! x) d (scanUp (fun x => !lt d[a]! x) d j i) j
    rw [partEqLoop_eq]
    by_cases hg : scanUp (fun x => !lt d[a]! x) d j i > scanDown (fun x => lt d[a]! x) d (scanUp (fun x => !lt d[a]! x) d j i) j
    · rw [if_pos hg]; exact ⟨by dsimp only; omega, v2, rfl⟩
    · rw [if_neg hg]
      have := ih (scanUp (fun x => !lt d[a]! x) d j i + 1) (scanDown (fun x => lt d[a]! x) d (scanUp (fun x => !lt d[a]! x) d j i) j - 1) (swp d (scanUp (fun x => !lt d[a]! x) d j i) (scanDown (fun x => lt d[a]! x) d (scanUp (fun x => !lt d[a]! x) d j i) j)) (by omega) (by omega) (by omega) (by omega)
      rw [size_swp] at this
      exact this
theorem partLoop_in (a b : Nat) : ∀ (m i j : Nat) (d : Array α), j + 1 - i ≤ m → a + 1 ≤ i → i ≤ b → j < b → a ≤ j → a ≤ (partLoop lt a i j d).1 ∧ (partLoop lt a i j d).1 < b ∧ (partLoop lt a i j d).2.size = d.size := by
  intro m
  induction m with
  | zero =>
    intro i j d h h1 h2 h3 h4
    have hs : scanUp (fun x => lt x d[a]!) d j i = i := scanUp_stop (fun q => by omega)
    have hd : scanDown (fun x => !lt x d[a]!) d i j = j := scanDown_stop (fun q => by omega)
    rw [partLoop_eq, hs, hd, if_pos (by omega)]
    exact ⟨h4, h3, rfl⟩
  | succ m ih =>
    intro i j d h h1 h2 h3 h4
    have v1 := scanUp_ge (fun x => lt x d[a]!) d j i
    have v2 := scanUp_le (fun x => lt x d[a]!) d h2 h3
    have v3 := scanDown_le (fun x => !lt x d[a]!) d (scanUp (fun x => lt x d[a]!) d j i) j
    have v4 := (scanDown_spec (fun x => !lt x d[a]!) d (scanUp (fun x => lt x d[a]!) d j i) j).2.1
    have v5 : a ≤ scanDown (fun x => !lt x d[a]!) d (scanUp (fun x => lt x d[a]!) d j i) j := by
      by_cases hq : scanUp (fun x => lt x d[a]!) d j i ≤ j + 1
      · have := v4 hq; omega
      · rw [scanDown_stop (fun q => by omega)]; exact h4
    rw [partLoop_eq]
    by_cases hg : scanUp (fun x => lt x d[a]!) d j i > scanDown (fun x => !lt x d[a]!) d (scanUp (fun x => lt x d[a]!) d j i) j
    · rw [if_pos hg]; exact ⟨v5, by dsimp only; omega, rfl⟩
    · rw [if_neg hg]
      have := ih (scanUp (fun x => lt x d[a]!) d j i + 1) (scanDown (fun x => !lt x d[a]!) d (scanUp (fun x => lt x d[a]!) d j i) j - 1) (swp d (scanUp (fun x => lt x d[a]!) d j i) (scanDown (fun x => !lt x d[a]!) d (scanUp (fun x => lt x d[a]!) d j i) j)) (by omega) (by omega) (by omega) (by omega) (by omega)
      rw [size_swp] at this
      exact this
theorem parteq_in (d : Array α) {a b : Nat} (pv : Nat) (hab : a < b) : a < (partitionEqual lt d a b pv).1 ∧ (partitionEqual lt d a b pv).1 ≤ b ∧ (partitionEqual lt d a b pv).2.size = d.size := by
  have := partEqLoop_in (lt := lt) a b _ (a + 1) (b - 1) (swp d a pv) (Nat.le_refl _) (Nat.le_refl _) (by omega) (by omega)
  rw [size_swp] at this
  exact this
theorem part_in (d : Array α) {a b : Nat} (pv : Nat) (hab : a < b) : a ≤ (partition lt d a b pv).1 ∧ (partition lt d a b pv).1 < b ∧ (partition lt d a b pv).2.2.size = d.size := by
  rw [partition_eq]
  have v1 := scanUp_ge (fun x => lt x (swp d a pv)[a]!) (swp d a pv) (b - 1) (a + 1)
  have v2 := scanUp_le (fun x => lt x (swp d a pv)[a]!) (swp d a pv) (j := b - 1) (i := a + 1) (b := b) (by omega) (by omega)
  have v3 := scanDown_le (fun x => !lt x (swp d a pv)[a]!) (swp d a pv) (scanUp (fun x => lt x (swp d a pv)[a]!) (swp d a pv) (b - 1) (a + 1)) (b - 1)
  have v4 := (scanDown_spec (fun x => !lt x (swp d a pv)[a]!) (swp d a pv) (scanUp (fun x => lt x (swp d a pv)[a]!) (swp d a pv) (b - 1) (a + 1)) (b - 1)).2.1 (by omega)
  split
  · exact ⟨by dsimp only; omega, by dsimp only; omega, by simp only [size_swp]⟩
  · have := partLoop_in (lt := lt) a b _ (scanUp (fun x => lt x (swp d a pv)[a]!) (swp d a pv) (b - 1) (a + 1) + 1) (scanDown (fun x => !lt x (swp d a pv)[a]!) (swp d a pv) (scanUp (fun x => lt x (swp d a pv)[a]!) (swp d a pv) (b - 1) (a + 1)) (b - 1) - 1) (swp (swp d a pv) (scanUp (fun x => lt x (swp d a pv)[a]!) (swp d a pv) (b - 1) (a + 1)) (scanDown (fun x => !lt x (swp d a pv)[a]!) (swp d a pv) (scanUp (fun x => lt x (swp d a pv)[a]!) (swp d a pv) (b - 1) (a + 1)) (b - 1))) (Nat.le_refl _) (by omega) (by omega) (by omega) (by omega)
    simp only [size_swp] at this ⊢
    exact this
/-- what is sorted behind the patterns, the reverse and the small insertions: whether all is done, the row, the pivot -/
def pqPre (lt : α → α → Bool) (d : Array α) (a b : Nat) (wb : Bool) : Array α :=
  let d1 := if wb then d else breakPatterns d a b
  if (choosePivot lt d1 a b).2 = .decreasing then reverseRange d1 a b else d1
def pqPiv (lt : α → α → Bool) (d : Array α) (a b : Nat) (wb : Bool) : Nat :=
  let d1 := if wb then d else breakPatterns d a b
  if (choosePivot lt d1 a b).2 = .decreasing then (b - 1) - ((choosePivot lt d1 a b).1 - a) else (choosePivot lt d1 a b).1
def pqHint (lt : α → α → Bool) (d : Array α) (a b : Nat) (wb : Bool) : Hint :=
  let d1 := if wb then d else breakPatterns d a b
  if (choosePivot lt d1 a b).2 = .decreasing then .increasing else (choosePivot lt d1 a b).2
def pqIns (lt : α → α → Bool) (d : Array α) (a b : Nat) (wb wp : Bool) : Array α × Bool :=
  if wb = true ∧ wp = true ∧ pqHint lt d a b wb = .increasing then partialInsertionSort lt (pqPre lt d a b wb) a b else (pqPre lt d a b wb, false)
/-- pdqsort by fuel -/
def pq (lt : α → α → Bool) : Nat → Array α → Nat → Nat → Nat → Bool → Bool → Array α
  | 0, d, _, _, _, _, _ => d
  | f + 1, d, a, b, limit, wb, wp =>
    if b - a ≤ 12 then insertionSort lt d a b else
    if limit = 0 then heapSort lt d a b else
    if (pqIns lt d a b wb wp).2 then (pqIns lt d a b wb wp).1 else
    if 0 < a ∧ lt (pqIns lt d a b wb wp).1[a - 1]! (pqIns lt d a b wb wp).1[pqPiv lt d a b wb]! = false then
      pq lt f (partitionEqual lt (pqIns lt d a b wb wp).1 a b (pqPiv lt d a b wb)).2 (partitionEqual lt (pqIns lt d a b wb wp).1 a b (pqPiv lt d a b wb)).1 b (if wb then limit else limit - 1) wb wp
    else if (partition lt (pqIns lt d a b wb wp).1 a b (pqPiv lt d a b wb)).1 - a < b - (partition lt (pqIns lt d a b wb wp).1 a b (pqPiv lt d a b wb)).1 then
      pq lt f (pq lt f (partition lt (pqIns lt d a b wb wp).1 a b (pqPiv lt d a b wb)).2.2 a (partition lt (pqIns lt d a b wb wp).1 a b (pqPiv lt d a b wb)).1 (if wb then limit else limit - 1) true true) ((partition lt (pqIns lt d a b wb wp).1 a b (pqPiv lt d a b wb)).1 + 1) b (if wb then limit else limit - 1)
        (decide ((b - a) / 8 ≤ (partition lt (pqIns lt d a b wb wp).1 a b (pqPiv lt d a b wb)).1 - a)) (partition lt (pqIns lt d a b wb wp).1 a b (pqPiv lt d a b wb)).2.1
    else
      pq lt f (pq lt f (partition lt (pqIns lt d a b wb wp).1 a b (pqPiv lt d a b wb)).2.2 ((partition lt (pqIns lt d a b wb wp).1 a b (pqPiv lt d a b wb)).1 + 1) b (if wb then limit else limit - 1) true true) a (partition lt (pqIns lt d a b wb wp).1 a b (pqPiv lt d a b wb)).1 (if wb then limit else limit - 1)
        (decide ((b - a) / 8 ≤ b - (partition lt (pqIns lt d a b wb wp).1 a b (pqPiv lt d a b wb)).1)) (partition lt (pqIns lt d a b wb wp).1 a b (pqPiv lt d a b wb)).2.1
theorem pqPre_size {d : Array α} {a b : Nat} (hab : a ≤ b) (hb : b ≤ d.size) (wb : Bool) : (pqPre lt d a b wb).size = d.size := by
  have key : ∀ d1 : Array α, d1.size = d.size → (if (choosePivot lt d1 a b).2 = .decreasing then reverseRange d1 a b else d1).size = d.size := by
    intro d1 h1
    split
    · rw [(reverseRange_holds d1 a b hab (by rw [h1]; exact hb)).1, h1]
    · exact h1
  unfold pqPre
  dsimp only
  refine key _ ?_
  cases wb
  · exact (breakPatterns_holds d a b hab hb).1
  · rfl
theorem pqIns_size {d : Array α} {a b : Nat} (hab : a ≤ b) (hb : b ≤ d.size) (wb wp : Bool) : (pqIns lt d a b wb wp).1.size = d.size := by
  unfold pqIns
  split
  · unfold partialInsertionSort; rw [partialIns_size, pqPre_size hab hb]
  · exact pqPre_size hab hb wb
theorem pq_size : ∀ (f : Nat) (d : Array α) (a b limit : Nat) (wb wp : Bool), a ≤ b → b ≤ d.size → (pq lt f d a b limit wb wp).size = d.size := by
  intro f
  induction f with
  | zero => intro d a b limit wb wp hab hb; rfl
  | succ f ih =>
    intro d a b limit wb wp hab hb
    unfold pq
    split
    · exact insertionSort_size _ _ _
    rename_i h12
    split
    · exact heapSort_size _ _ _
    have hi := pqIns_size (lt := lt) hab hb wb wp
    split
    · exact hi
    split
    · have hp := parteq_in (lt := lt) (pqIns lt d a b wb wp).1 (pqPiv lt d a b wb) (a := a) (b := b) (by omega)
      rw [ih _ _ _ _ _ _ (by omega) (by rw [hp.2.2, hi]; exact hb), hp.2.2, hi]
    have hp := part_in (lt := lt) (pqIns lt d a b wb wp).1 (pqPiv lt d a b wb) (a := a) (b := b) (by omega)
    have hz : (partition lt (pqIns lt d a b wb wp).1 a b (pqPiv lt d a b wb)).2.2.size = d.size := hp.2.2.trans hi
    split
    · have h2 := ih (partition lt (pqIns lt d a b wb wp).1 a b (pqPiv lt d a b wb)).2.2 a (partition lt (pqIns lt d a b wb wp).1 a b (pqPiv lt d a b wb)).1 (if wb then limit else limit - 1) true true (by omega) (by rw [hz]; omega)
      rw [ih _ _ _ _ _ _ (by omega) (by rw [h2, hz]; exact hb), h2, hz]
    · have h2 := ih (partition lt (pqIns lt d a b wb wp).1 a b (pqPiv lt d a b wb)).2.2 ((partition lt (pqIns lt d a b wb wp).1 a b (pqPiv lt d a b wb)).1 + 1) b (if wb then limit else limit - 1) true true (by omega) (by rw [hz]; omega)
      rw [ih _ _ _ _ _ _ (by omega) (by rw [h2, hz]; omega), h2, hz]
end
end Go.Proofs.Ytmlnegmabfnaaaa
