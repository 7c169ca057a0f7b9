/-
  TmP.
-/
import Derived.Test.YtmlnegmabfnaaaaBAW
/-
  Chapter 21 (timers) as plain data: the heap's list and its calls; two Takes are one.
-/
namespace Go.Proofs.Ytmlnegmabfnaaaa
open Go Go.RowKit
/-- tick and number -/
abbrev Due := Int × Int
def aheadD (a b : Due) : Bool := if a.1 = b.1 then decide (a.2 < b.2) else decide (a.1 < b.1)
def swapD (l : List Due) (i j : Nat) : List Due := match l[i]?, l[j]? with
  | some x, some y => (l.set i y).set j x
  | _, _ => l
/-- is i ahead of j? -/
def aheadAt (l : List Due) (i j : Nat) : Bool := match l[i]?, l[j]? with
  | some x, some y => aheadD x y
  | _, _ => false
def riseD : Nat → List Due → Nat → List Due
  | 0, l, _ => l
  | f + 1, l, i => if 0 < i ∧ aheadAt l i ((i - 1) / 2) = true then riseD f (swapD l i ((i - 1) / 2)) ((i - 1) / 2) else l
/-- the lesser of the two below -/
def below (l : List Due) (i : Nat) : Nat := if 2 * i + 2 < l.length ∧ aheadAt l (2 * i + 2) (2 * i + 1) = true then 2 * i + 2 else 2 * i + 1
def sinkD : Nat → List Due → Nat → List Due
  | 0, l, _ => l
  | f + 1, l, i => if l.length ≤ 2 * i + 1 then l else if aheadAt l (below l i) i = false then l else sinkD f (swapD l i (below l i)) (below l i)
theorem swapD_len (l : List Due) (i j : Nat) : (swapD l i j).length = l.length := by
  unfold swapD
  split
  · rw [List.length_set, List.length_set]
  · rfl
theorem riseD_len : ∀ (f : Nat) (l : List Due) (i : Nat), (riseD f l i).length = l.length
  | 0, _, _ => rfl
  | f + 1, l, i => by
    unfold riseD
    split
    · rw [riseD_len f, swapD_len]
    · rfl
theorem sinkD_len : ∀ (f : Nat) (l : List Due) (i : Nat), (sinkD f l i).length = l.length
  | 0, _, _ => rfl
  | f + 1, l, i => by
    unfold sinkD
    split
    · rfl
    split
    · rfl
    · rw [sinkD_len f, swapD_len]
def putD (l : List Due) (x : Due) : List Due := riseD l.length (l ++ [x]) l.length
/-- number i out -/
def outD (l : List Due) (i : Nat) : List Due :=
  let r := (swapD l i (l.length - 1)).take (l.length - 1)
  if i < l.length - 1 then sinkD r.length (riseD i r i) i else r
theorem outD_len {l : List Due} (i : Nat) : (outD l i).length = l.length - 1 := by
  unfold outD
  dsimp only
  have h : ((swapD l i (l.length - 1)).take (l.length - 1)).length = l.length - 1 := by rw [List.length_take, swapD_len]; omega
  split
  · rw [sinkD_len, riseD_len, h]
  · exact h
def takeD (l : List Due) (x : Due) : List Due := match l.findIdx? (fun y => decide (x = y)) with
  | some i => outD l i
  | none => l
/-- the timers: the heap's list, the ticks by number -/
abbrev Tms := List Due × List (Int × Int)
def cancelT (s : Tms) (n : Int) : Tms := match lk s.2 n with
  | some t => (takeD s.1 (t, n), mdel s.2 n)
  | none => s
def setT (s : Tms) (n t : Int) : Tms := let s := cancelT s n; (putD s.1 (t, n), mput s.2 n t)
/-- all that are due at now -/
def popT (now : Int) : Nat → Tms → List Due × Tms
  | 0, s => ([], s)
  | f + 1, s => match s.1 with
    | [] => ([], s)
    | x :: _ => if x.1 ≤ now then let r := popT now f (outD s.1 0, mdel s.2 x.2); (x :: r.1, r.2) else ([], s)
def popAll (now : Int) (s : Tms) : List Due × Tms := popT now s.1.length s
theorem popT_nil (now : Int) {s : Tms} (h : s.1 = []) : ∀ f, popT now f s = ([], s)
  | 0 => rfl
  | f + 1 => by unfold popT; rw [h]
theorem popT_any (now : Int) : ∀ (f g : Nat) (s : Tms), s.1.length ≤ f → s.1.length ≤ g → popT now f s = popT now g s
  | 0, g, s, h, _ => by
    have e : s.1 = [] := List.length_eq_zero_iff.1 (by omega)
    rw [popT_nil now e, popT_nil now e]
  | f + 1, 0, s, _, h => by
    have e : s.1 = [] := List.length_eq_zero_iff.1 (by omega)
    rw [popT_nil now e, popT_nil now e]
  | f + 1, g + 1, s, hf, hg => by
    cases hs : s.1 with
    | nil => rw [popT_nil now hs, popT_nil now hs]
    | cons x r =>
      rw [hs, List.length_cons] at hf hg
      unfold popT
      rw [hs]
      dsimp only
      have hl : (outD (x :: r) 0).length = r.length := by rw [outD_len]; rfl
      rw [popT_any now f g _ (by dsimp only; omega) (by dsimp only; omega)]
theorem popT_more (now : Int) (f : Nat) (s : Tms) (h : s.1.length ≤ f) : popT now f s = popAll now s := popT_any now f _ s h (Nat.le_refl _)
theorem popAll_stop {now : Int} {s : Tms} (h : ∀ x, s.1[0]? = some x → now < x.1) : popAll now s = ([], s) := by
  unfold popAll
  cases hs : s.1 with
  | nil => rfl
  | cons x r =>
    rw [List.length_cons]
    unfold popT
    rw [hs]
    dsimp only
    rw [if_neg (by have := h x (by rw [hs]; rfl); omega)]
theorem popAll_next {now : Int} {s : Tms} {x : Due} (h : s.1[0]? = some x) (hx : x.1 ≤ now) : popAll now s = (x :: (popAll now (outD s.1 0, mdel s.2 x.2)).1, (popAll now (outD s.1 0, mdel s.2 x.2)).2) := by
  cases hs : s.1 with
  | nil => rw [hs] at h; cases h
  | cons y r =>
    have hy : y = x := by rw [hs] at h; exact Option.some.inj h
    subst hy
    have e : popAll now s = popT now (r.length + 1) s := by unfold popAll; rw [hs, List.length_cons]
    rw [e]
    unfold popT
    rw [hs]
    dsimp only
    rw [if_pos hx, popT_more now r.length _ (by dsimp only; rw [outD_len]; exact Nat.le_refl _)]
/-- two Takes are one -/
theorem popAll_join {a b : Int} (h : a ≤ b) : ∀ (n : Nat) (s : Tms), s.1.length = n → popAll b s = ((popAll a s).1 ++ (popAll b (popAll a s).2).1, (popAll b (popAll a s).2).2) := by
  intro n
  induction n with
  | zero =>
    intro s hs
    have e : s.1 = [] := List.length_eq_zero_iff.1 hs
    rw [popAll_stop (now := a) (s := s) fun x hx => by rw [e] at hx; cases hx]
    rfl
  | succ n ih =>
    intro s hs
    cases hx : s.1[0]? with
    | none => rw [popAll_stop (now := a) (s := s) fun x hx' => by rw [hx] at hx'; cases hx']; rfl
    | some x =>
      by_cases c : x.1 ≤ a
      · have hl : (outD s.1 0, mdel s.2 x.2).1.length = n := by dsimp only; rw [outD_len, hs]; rfl
        rw [popAll_next hx (Int.le_trans c h), popAll_next hx c, ih _ hl]
        rfl
      · rw [popAll_stop (now := a) (s := s) fun y hy => by rw [hx] at hy; cases hy; omega]
        rfl
end Go.Proofs.Ytmlnegmabfnaaaa
