/-
  PoS.
-/
import Derived.Test.YtdbfemdpdpaffaaGreatDoorPBZ
import Derived.Test.YtdbfemdpdpaffaaGreatDoorPAL
/-
  Chapter 16 as plain data: postings that say the same.
-/
namespace Go.Proofs.YtdbfemdpdpaffaaGreatDoor
open Go Go.RowKit
theorem cons_count {α : Type} [DecidableEq α] {x : α} {a b : List α} (h : ∀ y, List.count y (x :: b) ≤ List.count y a) : x ∈ a ∧ ∀ y, List.count y b ≤ List.count y (a.erase x) := by
  have hx : x ∈ a := by
    have := h x
    rw [List.count_cons_self] at this
    exact List.count_pos_iff.1 (by omega)
  refine ⟨hx, fun y => ?_⟩
  have p := (List.perm_cons_erase hx).count_eq y
  have := h y
  rw [p, List.count_cons, List.count_cons] at this
  omega
theorem perm_of_count {α : Type} [DecidableEq α] : ∀ (b a : List α), a.length = b.length → (∀ y, List.count y b ≤ List.count y a) → a.Perm b
  | [], a, hl, _ => by rw [List.length_eq_zero_iff.1 hl]
  | x :: b, a, hl, h => by
    obtain ⟨hx, q⟩ := cons_count h
    have := perm_of_count b (a.erase x) (by rw [List.length_erase_of_mem hx, hl]; rfl) q
    exact (List.perm_cons_erase hx).trans (this.cons x)
/-- posting.Same -/
def sameP (a b : Pst) : Bool := decide (a.id = b.id) && decide (a.note = b.note) && a.legs.isPerm b.legs
theorem sameP_iff {a b : Pst} : sameP a b = true ↔ a.id = b.id ∧ a.note = b.note ∧ a.legs.Perm b.legs := by
  unfold sameP
  simp only [Bool.and_eq_true, decide_eq_true_eq, List.isPerm_iff, and_assoc]
theorem sameP_refl (a : Pst) : sameP a a = true := sameP_iff.2 ⟨rfl, rfl, .refl _⟩
/-- where the counts go wrong -/
theorem count_bad {α : Type} [DecidableEq α] {a b : List α} {k : Nat} {x : α} (hb : b[k]? = some x) (h : List.count x a < List.count x (b.take (k + 1))) : ¬ a.Perm b := fun p => by
  have h1 := p.count_eq x
  have h2 := (List.take_sublist (k + 1) b).count_le x
  omega
theorem count_take {α : Type} [DecidableEq α] {b : List α} {k : Nat} {x : α} (hb : b[k]? = some x) (y : α) : List.count y (b.take (k + 1)) = List.count y (b.take k) + if y = x then 1 else 0 := by
  rw [List.take_add_one, hb, List.count_append, Option.toList_some, List.count_cons, List.count_nil]
  by_cases h : y = x
  · subst h; simp
  · have : ¬ x = y := fun e => h e.symm
    simp [h, this]
section
variable {α : Type} [DecidableEq α]
theorem mput_len {β : Type} (m : List (α × β)) (a : α) (v : β) : (mput m a v).length = if (lk m a).isSome = true then m.length else m.length + 1 := by
  unfold mput
  split <;> simp
def SeenI {β : Type} (l : List α) (m : List (α × β)) : Prop := (∀ a, (lk m a).isSome = true ↔ a ∈ l) ∧ m.length ≤ l.length ∧ (m.length = l.length ↔ l.Nodup)
theorem SeenI.nil {β : Type} : SeenI ([] : List α) ([] : List (α × β)) := ⟨fun a => by simp [lk], by simp, by simp⟩
theorem SeenI.next {β : Type} {l : List α} {m : List (α × β)} (h : SeenI l m) (a : α) (v : β) : SeenI (l ++ [a]) (mput m a v) := by
  obtain ⟨h1, h2, h3⟩ := h
  refine ⟨fun b => ?_, ?_, ?_⟩
  · rw [lk_put, List.mem_append, List.mem_singleton, ← h1 b]
    by_cases e : b = a
    · simp [e]
    · simp [e]
  · rw [mput_len, List.length_append]
    split <;> simp <;> omega
  · rw [mput_len, List.length_append, List.length_singleton, List.nodup_append]
    cases hs : (lk m a).isSome with
    | true =>
      have ha := (h1 a).1 hs
      rw [if_pos rfl]
      constructor
      · intro e; omega
      · intro ⟨_, _, q⟩; exact absurd rfl (q a ha a (by simp))
    | false =>
      have ha : a ∉ l := fun q => by rw [(h1 a).2 q] at hs; cases hs
      rw [if_neg (by decide)]
      constructor
      · intro e
        refine ⟨h3.1 (by omega), by simp, fun x hx y hy => ?_⟩
        rw [List.mem_singleton.1 hy]
        exact fun e => ha (e ▸ hx)
      · intro ⟨q, _, _⟩
        have := h3.2 q
        omega
def CntI (f : α → Int) (m : List (α × Int)) : Prop := ∀ a, (lk m a).getD 0 = f a
theorem CntI.nil : CntI (fun _ : α => 0) [] := fun _ => rfl
theorem CntI.put {f g : α → Int} {m : List (α × Int)} (h : CntI f m) {x : α} {v : Int} (hv : g x = v) (hg : ∀ y, y ≠ x → g y = f y) : CntI g (mput m x v) := fun y => by
  rw [lk_put]
  by_cases e : y = x
  · rw [if_pos e, e, ← hv]; rfl
  · rw [if_neg e, h y, hg y e]
end
end Go.Proofs.YtdbfemdpdpaffaaGreatDoor
