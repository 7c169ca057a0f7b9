/-
  WrP.
-/
import Derived.Test.YtdbfemdpdpaffaaGreatDoorPAM
/-
  Numbers and texts as bytes (chapter 1), plain data: written, read back.
-/
namespace Go.Proofs.YtdbfemdpdpaffaaGreatDoor
open Go Go.RowKit
/-- an unsigned varint's bytes -/
def vuF : Nat → Nat → List UInt8
  | 0, _ => []
  | f + 1, x => if x < 128 then [UInt8.ofNat x] else UInt8.ofNat (x % 128 + 128) :: vuF f (x / 128)
def vu (x : Nat) : List UInt8 := vuF 10 x
/-- a read: the error's number, or what is read and what is left -/
inductive Rd (α : Type) where
  | bad (e : Nat)
  | ok (x : α) (t : List UInt8)
/-- an unsigned varint read, from its byte i on -/
def ruG : List UInt8 → Nat → Nat → Rd Nat
  | [], _, _ => .bad 1
  | b :: t, i, acc => if i = 9 ∧ 1 < b.toNat then .bad 2 else if b.toNat < 128 then (if b.toNat = 0 ∧ 0 < i then .bad 2 else .ok (acc + b.toNat * 2 ^ (7 * i)) t) else ruG t (i + 1) (acc + b.toNat % 128 * 2 ^ (7 * i))
def ru (l : List UInt8) : Rd Nat := ruG l 0 0
def rtx (most : Nat) (l : List UInt8) : Rd (List UInt8) := match ru l with
  | .bad e => .bad e
  | .ok n t => if most < n then .bad 3 else if t.length < n then .bad 1 else .ok (t.take n) (t.drop n)
def tx (s : List UInt8) : List UInt8 := vu s.length ++ s
theorem vuF_le : ∀ (f x : Nat), (vuF f x).length ≤ f
  | 0, _ => Nat.le_refl _
  | f + 1, x => by
    unfold vuF
    split
    · simp
    · have := vuF_le f (x / 128); simp; omega
theorem vuF_pos (f x : Nat) : 1 ≤ (vuF (f + 1) x).length := by
  unfold vuF
  split <;> simp
theorem ruG_vuF : ∀ (f i x acc : Nat) (t : List UInt8), x < 2 ^ (64 - 7 * i) → (0 < i → 0 < x) → f + i = 10 → 1 ≤ f → ruG (vuF f x ++ t) i acc = .ok (acc + x * 2 ^ (7 * i)) t := by
  intro f
  induction f with
  | zero => intro i x acc t _ _ _ h; omega
  | succ f ih =>
    intro i x acc t hx h0 hf _
    by_cases h : x < 128
    · have e : (UInt8.ofNat x).toNat = x := by rw [UInt8.toNat_ofNat']; omega
      have h9 : ¬ (i = 9 ∧ 1 < x) := by
        rintro ⟨rfl, h1⟩
        have : x < 2 ^ 1 := hx
        omega
      unfold vuF
      rw [if_pos h]
      show (if i = 9 ∧ 1 < (UInt8.ofNat x).toNat then _ else _) = _
      rw [e, if_neg h9, if_pos h, if_neg (by omega)]
      rfl
    · have e : (UInt8.ofNat (x % 128 + 128)).toNat = x % 128 + 128 := by rw [UInt8.toNat_ofNat']; omega
      have hi : i < 9 := by
        apply Decidable.byContradiction
        intro hh
        have hi9 : i = 9 := by omega
        subst hi9
        have : x < 2 ^ 1 := hx
        omega
      unfold vuF
      rw [if_neg h]
      show (if i = 9 ∧ 1 < (UInt8.ofNat (x % 128 + 128)).toNat then _ else _) = _
      rw [e, if_neg (by omega), if_neg (by omega)]
      have hx2 : x / 128 < 2 ^ (64 - 7 * (i + 1)) := by
        have e2 : 64 - 7 * i = (64 - 7 * (i + 1)) + 7 := by omega
        rw [e2, Nat.pow_add] at hx
        exact Nat.div_lt_of_lt_mul (by rw [Nat.mul_comm]; exact hx)
      have := ih (i + 1) (x / 128) (acc + (x % 128 + 128) % 128 * 2 ^ (7 * i)) t hx2 (fun _ => by omega) (by omega) (by omega)
      rw [show vuF f (x / 128) ++ t = vuF f (x / 128) ++ t from rfl] at this
      refine this.trans ?_
      congr 1
      have e3 : 2 ^ (7 * (i + 1)) = 128 * 2 ^ (7 * i) := by rw [show 7 * (i + 1) = 7 + 7 * i by omega, Nat.pow_add]
      rw [e3]
      have e4 : (x % 128 + 128) % 128 = x % 128 := by omega
      rw [e4, Nat.add_assoc, ← Nat.mul_assoc, ← Nat.add_mul]
      congr 2
      omega
theorem ru_vu (x : Nat) (hx : x < 2 ^ 64) (t : List UInt8) : ru (vu x ++ t) = .ok x t := by
  have := ruG_vuF 10 0 x 0 t hx (fun h => by omega) rfl (by omega)
  show ruG (vuF 10 x ++ t) 0 0 = _
  simpa using this
/-- what was read was written so -/
theorem vuF_ruG : ∀ (f : Nat) (l : List UInt8) (i acc x : Nat) (t : List UInt8), ruG l i acc = .ok x t → f + i = 10 → 1 ≤ f → ∃ y, x = acc + y * 2 ^ (7 * i) ∧ l = vuF f y ++ t ∧ y < 2 ^ (64 - 7 * i) ∧ (0 < i → 0 < y) := by
  intro f
  induction f with
  | zero => intro l i acc x t _ _ h; omega
  | succ f ih =>
    intro l i acc x t h hf _
    cases l with
    | nil => cases h
    | cons b l =>
      have hb := UInt8.toNat_lt b
      have hu : ruG (b :: l) i acc = if i = 9 ∧ 1 < b.toNat then .bad 2 else if b.toNat < 128 then (if b.toNat = 0 ∧ 0 < i then .bad 2 else .ok (acc + b.toNat * 2 ^ (7 * i)) l) else ruG l (i + 1) (acc + b.toNat % 128 * 2 ^ (7 * i)) := rfl
      rw [hu] at h
      split at h
      · cases h
      rename_i h9
      split at h
      · rename_i h1
        split at h
        · cases h
        rename_i h2
        cases h
        refine ⟨b.toNat, rfl, ?_, ?_, fun h0 => by omega⟩
        · unfold vuF
          rw [if_pos h1, UInt8.ofNat_toNat]; rfl
        · by_cases hi : i = 9
          · subst hi
            show b.toNat < 2 ^ 1
            omega
          · have : 2 ^ 7 ≤ 2 ^ (64 - 7 * i) := Nat.pow_le_pow_right (by omega) (by omega)
            omega
      · rename_i h1
        have hi : i < 9 := by omega
        obtain ⟨y, y1, y2, y3, y4⟩ := ih l (i + 1) _ x t h (by omega) (by omega)
        have e3 : 2 ^ (7 * (i + 1)) = 128 * 2 ^ (7 * i) := by rw [show 7 * (i + 1) = 7 + 7 * i by omega, Nat.pow_add]
        refine ⟨y * 128 + b.toNat % 128, ?_, ?_, ?_, fun _ => by have := y4 (by omega); omega⟩
        · rw [y1, e3, Nat.add_assoc, ← Nat.mul_assoc, ← Nat.add_mul]
          congr 2
          omega
        · have h128 : ¬ y * 128 + b.toNat % 128 < 128 := by have := y4 (by omega); omega
          unfold vuF
          rw [if_neg h128]
          have e1 : (y * 128 + b.toNat % 128) % 128 + 128 = b.toNat := by omega
          have e2 : (y * 128 + b.toNat % 128) / 128 = y := by omega
          rw [e1, e2, UInt8.ofNat_toNat, y2]; rfl
        · have e2 : 64 - 7 * i = (64 - 7 * (i + 1)) + 7 := by omega
          rw [e2, Nat.pow_add]
          omega
theorem vu_ru {l t : List UInt8} {x : Nat} (h : ru l = .ok x t) : l = vu x ++ t ∧ x < 2 ^ 64 := by
  obtain ⟨y, y1, y2, y3, -⟩ := vuF_ruG 10 l 0 0 x t h rfl (by omega)
  have : x = y := by simpa using y1
  subst this
  exact ⟨y2, y3⟩
theorem rtx_tx (most : Nat) (s t : List UInt8) (h : s.length ≤ most) (hl : s.length < 2 ^ 64) : rtx most (tx s ++ t) = .ok s t := by
  unfold rtx tx
  rw [List.append_assoc, ru_vu _ hl]
  dsimp only
  rw [if_neg (by omega), if_neg (by rw [List.length_append]; omega), List.take_left' rfl, List.drop_left' rfl]
theorem tx_rtx {most : Nat} {l s t : List UInt8} (h : rtx most l = .ok s t) : l = tx s ++ t ∧ s.length ≤ most := by
  unfold rtx at h
  cases hr : ru l with
  | bad e => rw [hr] at h; cases h
  | ok n t' =>
    rw [hr] at h
    dsimp only at h
    split at h
    · cases h
    split at h
    · cases h
    cases h
    obtain ⟨e, -⟩ := vu_ru hr
    have hl : (t'.take n).length = n := by rw [List.length_take]; omega
    refine ⟨?_, by omega⟩
    unfold tx
    rw [hl, List.append_assoc, List.take_append_drop, e]
end Go.Proofs.YtdbfemdpdpaffaaGreatDoor
