/-
  PoP, PoQ.
-/
import Derived.Test.YtdbfemdpdpaffaaGreatDoorPAN
import Derived.Test.YtdbfemdpdpaffaaGreatDoorPBP
/-
  Chapters 3, 4, 5 and 16 as plain data: check digits, currencies, account numbers, ids.
-/
namespace Go.Proofs.YtdbfemdpdpaffaaGreatDoor
open Go Go.RowKit
def capB (b : UInt8) : Bool := decide (65 ≤ b.toNat) && decide (b.toNat ≤ 90)
def digB (b : UInt8) : Bool := decide (48 ≤ b.toNat) && decide (b.toNat ≤ 57)
def lowB (b : UInt8) : Bool := decide (97 ≤ b.toNat) && decide (b.toNat ≤ 122)
def idB (b : UInt8) : Bool := capB b || digB b || lowB b || decide (b.toNat = 46) || decide (b.toNat = 95) || decide (b.toNat = 45)
/-- what a text of digits and capitals leaves, divided by 97 -/
def restG : List UInt8 → Nat → Option Nat
  | [], r => some r
  | b :: l, r => if digB b = true then restG l ((10 * r + (b.toNat - 48)) % 97) else if capB b = true then restG l ((100 * r + (b.toNat - 65) + 10) % 97) else none
theorem restG_lt : ∀ (l : List UInt8) {r x : Nat}, r < 97 → restG l r = some x → x < 97
  | [], r, x, h, e => by cases e; exact h
  | b :: l, r, x, h, e => by
    unfold restG at e
    split at e
    · exact restG_lt l (Nat.mod_lt _ (by omega)) e
    split at e
    · exact restG_lt l (Nat.mod_lt _ (by omega)) e
    · cases e
theorem restG_all : ∀ (l : List UInt8) (r : Nat), (restG l r).isSome = l.all fun b => digB b || capB b
  | [], _ => rfl
  | b :: l, r => by
    unfold restG
    cases h1 : digB b with
    | true => rw [if_pos rfl, restG_all]; simp [h1]
    | false =>
      rw [if_neg (by decide)]
      cases h2 : capB b with
      | true => rw [if_pos rfl, restG_all]; simp [h1, h2]
      | false => rw [if_neg (by decide)]; simp [h1, h2]
/-- the two check digits -/
def dig2 (r : Nat) : List UInt8 := [UInt8.ofNat (48 + (98 - r) / 10), UInt8.ofNat (48 + (98 - r) % 10)]
def digits2 (s : List UInt8) : Option (List UInt8) := if s = [] then none else (restG (s ++ [48, 48]) 0).map dig2
/-- an account number's error: 0, 7 (form), 8 (digits) -/
def formA (s : List UInt8) : Bool := decide (5 ≤ s.length) && decide (s.length ≤ 34) && (s.take 2).all capB && ((s.drop 2).take 2).all digB && (s.drop 4).all fun b => capB b || digB b
def accE (s : List UInt8) : Nat := if formA s = false then 7 else if digits2 (s.drop 4 ++ s.take 2) = some ((s.drop 2).take 2) then 0 else 8
def codeB (s : List UInt8) : Bool := decide (s.length = 3) && s.all capB
/-- "outside.", "suspense.", "clearing.", "fees." -/
def kinds4 : List (List UInt8) := [[111, 117, 116, 115, 105, 100, 101, 46], [115, 117, 115, 112, 101, 110, 115, 101, 46], [99, 108, 101, 97, 114, 105, 110, 103, 46], [102, 101, 101, 115, 46]]
def sysB (s : List UInt8) : Bool := kinds4.any fun p => decide (s.take p.length = p) && codeB (s.drop p.length)
/-- a leg's account -/
def accB (s : List UInt8) : Bool := decide (accE s = 0) || sysB s
/-- a payment's or a posting's id -/
def idOk (s : List UInt8) : Bool := decide (1 ≤ s.length) && decide (s.length ≤ 32) && s.all idB
def pidOk (s : List UInt8) : Bool := match s with
  | [] => false
  | b :: l => if b.toNat = 35 then idOk l && decide (l.length ≤ 31) else idOk s
structure Leg where
  acc : List UInt8
  amt : Int
  deriving DecidableEq
structure Pst where
  id : List UInt8
  tick : Int
  note : List UInt8
  legs : List Leg
/-- a posting's error by its legs -/
def legsE (l : List Leg) : Nat := if l.all (fun x => accB x.acc) = false then 20 else if l.all (fun x => decide (x.amt ≠ 0) && decide (x.amt ≤ 4611686018427387904) && decide (-4611686018427387904 ≤ x.amt)) = false then 9
  else if (l.map (·.acc)).Nodup ∧ (l.map (·.amt)).sum = 0 then 0 else 24
def checkE (p : Pst) : Nat := if pidOk p.id = false then 26 else if p.tick < 0 ∨ 1099511627776 < p.tick then 33 else if 255 < p.note.length then 3 else if p.legs.length < 2 ∨ 8 < p.legs.length then 24 else legsE p.legs
def zig (x : Int) : Nat := if x < 0 then (2 * (-(x + 1)) + 1).toNat else (2 * x).toNat
def zag (x : Nat) : Int := if x % 2 = 1 then -((x / 2 : Nat) : Int) - 1 else ((x / 2 : Nat) : Int)
theorem zag_zig (x : Int) : zag (zig x) = x := by
  unfold zag zig
  split <;> split <;> omega
theorem zig_zag (x : Nat) : zig (zag x) = x := by
  unfold zag zig
  split <;> split <;> omega
def encLeg (l : Leg) : List UInt8 := tx l.acc ++ vu (zig l.amt)
def encPst (p : Pst) : List UInt8 := tx p.id ++ vu p.tick.toNat ++ tx p.note ++ vu p.legs.length ++ p.legs.flatMap encLeg
def rup (most : Nat) (l : List UInt8) : Rd Nat := match ru l with
  | .bad e => .bad e
  | .ok n t => if most < n then .bad 3 else .ok n t
def rdLeg (l : List UInt8) : Rd Leg := match rtx 34 l with
  | .bad e => .bad e
  | .ok a t => match ru t with
    | .bad e => .bad e
    | .ok x t => .ok ⟨a, zag x⟩ t
def rdLegs : Nat → List UInt8 → Rd (List Leg)
  | 0, l => .ok [] l
  | n + 1, l => match rdLeg l with
    | .bad e => .bad e
    | .ok x t => match rdLegs n t with
      | .bad e => .bad e
      | .ok xs t => .ok (x :: xs) t
def rdPst (s : List UInt8) : Rd Pst := match rtx 32 s with
  | .bad e => .bad e
  | .ok i t => match rup 1099511627776 t with
    | .bad e => .bad e
    | .ok k t => match rtx 255 t with
      | .bad e => .bad e
      | .ok n t => match rup 8 t with
        | .bad e => .bad e
        | .ok c t => match rdLegs c t with
          | .bad e => .bad e
          | .ok ls t => if t = [] then .ok ⟨i, k, n, ls⟩ [] else .bad 5
/-- Decode: the posting, the error's number -/
def decPst (s : List UInt8) : Pst × Nat := match rdPst s with
  | .bad e => (⟨[], 0, [], []⟩, e)
  | .ok p _ => if checkE p = 0 then (p, 0) else (⟨[], 0, [], []⟩, checkE p)
end Go.Proofs.YtdbfemdpdpaffaaGreatDoor
/-
  Chapter 16 as plain data: a posting there and back, its length; postings that say the same.
-/
namespace Go.Proofs.YtdbfemdpdpaffaaGreatDoor
open Go Go.RowKit
theorem vuF_len : ∀ (f k x : Nat), x < 2 ^ (7 * k) → 1 ≤ k → (vuF f x).length ≤ k
  | 0, k, _, _, _ => Nat.zero_le _
  | f + 1, k, x, h, hk => by
    unfold vuF
    split
    · simpa using hk
    · match k, h, hk with
      | 1, h, _ => omega
      | k + 2, h, _ =>
        have e : 2 ^ (7 * (k + 2)) = 128 * 2 ^ (7 * (k + 1)) := by
          rw [show 7 * (k + 2) = 7 + 7 * (k + 1) by omega, Nat.pow_add]
        have := vuF_len f (k + 1) (x / 128) (Nat.div_lt_of_lt_mul (by omega)) (by omega)
        simp only [List.length_cons]; omega
theorem vu_short {x k : Nat} (h : x < 2 ^ (7 * k)) (hk : 1 ≤ k) : (vu x).length ≤ k := vuF_len 10 k x h hk
theorem formA_len {s : List UInt8} (h : accE s = 0) : s.length ≤ 34 := by
  unfold accE at h
  cases hf : formA s with
  | false => rw [hf] at h; simp at h
  | true => unfold formA at hf; simp only [Bool.and_eq_true, decide_eq_true_eq] at hf; omega
theorem kinds_len {q : List UInt8} (h : q ∈ kinds4) : q.length ≤ 9 := by
  unfold kinds4 at h
  simp only [List.mem_cons, List.not_mem_nil, or_false] at h
  rcases h with rfl | rfl | rfl | rfl <;> decide
theorem sysB_len {s : List UInt8} (h : sysB s = true) : s.length ≤ 12 := by
  unfold sysB at h
  obtain ⟨q, hq, hh⟩ := List.any_eq_true.1 h
  simp only [Bool.and_eq_true, decide_eq_true_eq, codeB, List.length_drop] at hh
  have := kinds_len hq
  omega
theorem accB_len {s : List UInt8} (h : accB s = true) : s.length ≤ 34 := by
  unfold accB at h
  simp only [Bool.or_eq_true, decide_eq_true_eq] at h
  rcases h with h | h
  · exact formA_len h
  · have := sysB_len h; omega
theorem idOk_len {s : List UInt8} (h : idOk s = true) : s.length ≤ 32 := by
  unfold idOk at h
  simp only [Bool.and_eq_true, decide_eq_true_eq] at h; omega
theorem pidOk_len {s : List UInt8} (h : pidOk s = true) : s.length ≤ 32 := by
  cases s with
  | nil => simp
  | cons b l =>
    unfold pidOk at h
    dsimp only at h
    split at h
    · simp only [Bool.and_eq_true, decide_eq_true_eq] at h; simp only [List.length_cons]; omega
    · exact idOk_len h
theorem checkE_zero {p : Pst} (h : checkE p = 0) : pidOk p.id = true ∧ 0 ≤ p.tick ∧ p.tick ≤ 1099511627776 ∧ p.note.length ≤ 255 ∧ 2 ≤ p.legs.length ∧ p.legs.length ≤ 8 ∧ legsE p.legs = 0 := by
  unfold checkE at h
  repeat' split at h
  all_goals first | (exfalso; revert h; decide) | skip
  rename_i h1 h2 h3 h4
  exact ⟨by simpa using h1, by omega, by omega, by omega, by omega, by omega, h⟩
theorem legsE_zero {l : List Leg} (h : legsE l = 0) : (∀ x ∈ l, accB x.acc = true) ∧ (∀ x ∈ l, x.amt ≠ 0 ∧ x.amt ≤ 4611686018427387904 ∧ -4611686018427387904 ≤ x.amt) ∧ (l.map (·.acc)).Nodup ∧ (l.map (·.amt)).sum = 0 := by
  unfold legsE at h
  repeat' split at h
  all_goals first | (exfalso; revert h; decide) | skip
  rename_i h1 h2 h3
  refine ⟨by simpa using h1, ?_, h3⟩
  have h2 := (Bool.not_eq_false _).mp h2
  intro x hx
  have := List.all_eq_true.1 h2 x hx
  simp only [Bool.and_eq_true, decide_eq_true_eq] at this
  exact ⟨this.1.1, this.1.2, this.2⟩
def LegOk (x : Leg) : Prop := x.acc.length ≤ 34 ∧ zig x.amt < 2 ^ 64
theorem zig_lt {x : Int} (h : x ≤ 4611686018427387904) (h' : -4611686018427387904 ≤ x) : zig x ≤ 2 ^ 63 := by
  unfold zig; split <;> omega
theorem legsE_ok {l : List Leg} (h : legsE l = 0) : ∀ x ∈ l, x.acc.length ≤ 34 ∧ zig x.amt ≤ 2 ^ 63 := fun x hx =>
  let q := legsE_zero h
  ⟨accB_len (q.1 x hx), zig_lt (q.2.1 x hx).2.1 (q.2.1 x hx).2.2⟩
theorem rdLeg_enc {x : Leg} (h : LegOk x) (t : List UInt8) : rdLeg (encLeg x ++ t) = .ok x t := by
  unfold rdLeg encLeg
  rw [List.append_assoc, rtx_tx 34 _ _ h.1 (by have := h.1; omega)]
  dsimp only
  rw [ru_vu _ h.2]
  dsimp only
  rw [zag_zig]
theorem rdLegs_enc : ∀ (l : List Leg) (t : List UInt8), (∀ x ∈ l, LegOk x) → rdLegs l.length (l.flatMap encLeg ++ t) = .ok l t
  | [], _, _ => rfl
  | x :: l, t, h => by
    rw [List.flatMap_cons, List.append_assoc, List.length_cons]
    unfold rdLegs
    rw [rdLeg_enc (h x (by simp))]
    dsimp only
    rw [rdLegs_enc l t (fun y hy => h y (by simp [hy]))]
theorem rup_vu {x most : Nat} (h : x ≤ most) (hx : x < 2 ^ 64) (t : List UInt8) : rup most (vu x ++ t) = .ok x t := by
  unfold rup
  rw [ru_vu x hx]
  dsimp only
  rw [if_neg (by omega)]
theorem rdPst_enc {p : Pst} (h : checkE p = 0) : ∃ k : Nat, p.tick = (k : Int) ∧ rdPst (encPst p) = .ok p [] := by
  obtain ⟨h1, h2, h3, h4, h5, h6, h7⟩ := checkE_zero h
  obtain ⟨i, k, n, l⟩ := p
  dsimp only at h1 h2 h3 h4 h5 h6 h7
  obtain ⟨k, rfl⟩ := Int.eq_ofNat_of_zero_le h2
  refine ⟨k, rfl, ?_⟩
  have hid := pidOk_len h1
  have e : encPst ⟨i, k, n, l⟩ = tx i ++ (vu k ++ (tx n ++ (vu l.length ++ (l.flatMap encLeg ++ [])))) := by
    unfold encPst; simp only [List.append_assoc, List.append_nil, Int.toNat_natCast]
  rw [e]
  unfold rdPst
  rw [rtx_tx 32 _ _ hid (by omega)]
  dsimp only
  rw [rup_vu (by omega) (by omega)]
  dsimp only
  rw [rtx_tx 255 _ _ h4 (by omega)]
  dsimp only
  rw [rup_vu h6 (by omega)]
  dsimp only
  rw [rdLegs_enc l [] (fun x hx => ⟨(legsE_ok h7 x hx).1, by have := (legsE_ok h7 x hx).2; omega⟩)]
  dsimp only
  rw [if_pos rfl]
theorem dec_enc {p : Pst} (h : checkE p = 0) : decPst (encPst p) = (p, 0) := by
  obtain ⟨k, hk, e⟩ := rdPst_enc h
  obtain ⟨i, t, n, l⟩ := p
  unfold decPst
  rw [e]
  dsimp only
  rw [if_pos h]
theorem legs_len : ∀ (l : List Leg), (∀ x ∈ l, x.acc.length ≤ 34 ∧ zig x.amt ≤ 2 ^ 63) → (l.flatMap encLeg).length ≤ 45 * l.length
  | [], _ => by simp
  | x :: l, h => by
    have q := legs_len l (fun y hy => h y (by simp [hy]))
    have h1 := h x (by simp)
    have v1 := vu_short (x := x.acc.length) (k := 1) (by omega) (by omega)
    have v2 : (vu (zig x.amt)).length ≤ 10 := vuF_le 10 _
    simp only [List.flatMap_cons, List.length_append, encLeg, tx, List.length_cons]
    omega
theorem enc_len {p : Pst} (h : checkE p = 0) : (encPst p).length ≤ 657 := by
  obtain ⟨h1, h2, h3, h4, h5, h6, h7⟩ := checkE_zero h
  have q := legs_len p.legs (legsE_ok h7)
  have hid := pidOk_len h1
  have v1 := vu_short (x := p.id.length) (k := 1) (by omega) (by omega)
  have v2 := vu_short (x := p.tick.toNat) (k := 6) (by omega) (by omega)
  have v3 := vu_short (x := p.note.length) (k := 2) (by omega) (by omega)
  have v4 := vu_short (x := p.legs.length) (k := 1) (by omega) (by omega)
  unfold encPst
  simp only [List.length_append, tx]
  omega
theorem rdLeg_back {l t : List UInt8} {x : Leg} (h : rdLeg l = .ok x t) : l = encLeg x ++ t := by
  unfold rdLeg at h
  split at h
  · cases h
  · rename_i a t1 h1
    split at h
    · cases h
    · rename_i y t2 h2
      cases h
      have q1 := tx_rtx h1
      have q2 := vu_ru h2
      unfold encLeg
      dsimp only
      rw [zig_zag, List.append_assoc, ← q2.1, ← q1.1]
theorem rdLegs_back : ∀ (n : Nat) {l t : List UInt8} {xs : List Leg}, rdLegs n l = .ok xs t → l = xs.flatMap encLeg ++ t ∧ xs.length = n
  | 0, l, t, xs, h => by cases h; exact ⟨rfl, rfl⟩
  | n + 1, l, t, xs, h => by
    unfold rdLegs at h
    split at h
    · cases h
    · rename_i x t1 h1
      split at h
      · cases h
      · rename_i ys t2 h2
        cases h
        have q1 := rdLeg_back h1
        have q2 := rdLegs_back n h2
        exact ⟨by rw [List.flatMap_cons, List.append_assoc, ← q2.1, ← q1], by rw [List.length_cons, q2.2]⟩
theorem rup_back {l t : List UInt8} {m x : Nat} (h : rup m l = .ok x t) : l = vu x ++ t ∧ x ≤ m := by
  unfold rup at h
  split at h
  · cases h
  · rename_i y t1 h1
    split at h
    · cases h
    · cases h; exact ⟨(vu_ru h1).1, by omega⟩
theorem rdPst_back {s t : List UInt8} {p : Pst} (h : rdPst s = .ok p t) : encPst p = s := by
  unfold rdPst at h
  split at h
  · cases h
  rename_i i t1 h1
  split at h
  · cases h
  rename_i k t2 h2
  split at h
  · cases h
  rename_i n t3 h3
  split at h
  · cases h
  rename_i c t4 h4
  split at h
  · cases h
  rename_i ls t5 h5
  split at h
  · rename_i h6
    cases h
    subst h6
    have q1 := tx_rtx h1
    have q2 := rup_back h2
    have q3 := tx_rtx h3
    have q4 := rup_back h4
    have q5 := rdLegs_back c h5
    unfold encPst
    dsimp only
    rw [Int.toNat_natCast, q5.2, q1.1, q2.1, q3.1, q4.1, q5.1]
    simp only [List.append_assoc, List.append_nil]
  · cases h
theorem rdLegs_bad : ∀ (n : Nat) {l : List UInt8} {e : Nat}, rdLegs n l = .bad e → e ≠ 0
  | 0, l, e, h => by cases h
  | n + 1, l, e, h => by
    unfold rdLegs at h
    split at h
    · rename_i e1 h1
      cases h
      unfold rdLeg at h1
      split at h1
      · rename_i e2 h2; cases h1; exact rtx_bad h2
      · split at h1
        · rename_i e2 h2; cases h1; have := ru_err h2; omega
        · cases h1
    · split at h
      · rename_i e1 h1; cases h; exact rdLegs_bad n h1
      · cases h
theorem decPst_cases (s : List UInt8) : ((decPst s).2 ≠ 0 ∧ (decPst s).1 = ⟨[], 0, [], []⟩) ∨ ∃ q, decPst s = (q, 0) ∧ checkE q = 0 ∧ encPst q = s := by
  unfold decPst
  split
  · rename_i e h
    refine Or.inl ⟨?_, rfl⟩
    intro h0
    dsimp only at h0
    subst h0
    unfold rdPst at h
    split at h
    · rename_i e h1; cases h; exact rtx_bad h1 rfl
    split at h
    · rename_i e h1; cases h
      unfold rup at h1
      split at h1
      · rename_i e h2; cases h1; exact absurd (ru_err h2) (by omega)
      · split at h1 <;> cases h1
    split at h
    · rename_i e h1; cases h; exact rtx_bad h1 rfl
    split at h
    · rename_i e h1; cases h
      unfold rup at h1
      split at h1
      · rename_i e h2; cases h1; exact absurd (ru_err h2) (by omega)
      · split at h1 <;> cases h1
    split at h
    · rename_i e h1
      cases h
      exact rdLegs_bad _ h1 rfl
    split at h <;> cases h
  · rename_i p t h
    split
    · rename_i hc; exact Or.inr ⟨p, rfl, hc, rdPst_back h⟩
    · rename_i hc; exact Or.inl ⟨hc, rfl⟩
end Go.Proofs.YtdbfemdpdpaffaaGreatDoor
