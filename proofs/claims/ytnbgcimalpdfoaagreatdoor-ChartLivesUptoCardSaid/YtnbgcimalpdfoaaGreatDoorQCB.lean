/-
  RuP.
-/
import Derived.Test.YtnbgcimalpdfoaaGreatDoorQCX
/-
  A number read byte by byte; a bitwise and, a shift to the left.
-/
namespace Go.Proofs.YtnbgcimalpdfoaaGreatDoor
open Go Go.RowKit
structure AndF (kd : IntKind) (i j y : Int) : Prop where
  h : bits .and kd i j = y
theorem Ev_and_s {P : Program} {W : World} {n : Nat} {E : Env} {H : List SP} {t u : TypeId} {x y : Operand} {kd : IntKind} {i j r : Int} (hx : Env.ev E x = some (.int kd i)) (hy : Env.ev E y = some (.int kd j)) (h : AndF kd i j r) : Ev P W n E H (.binOp .and t x y u) (.int kd r) := by
  have q := h.h
  subst q
  exact Ev_and hx hy
structure ShlF (kd : IntKind) (i s y : Int) : Prop where
  h0 : 0 ≤ s
  h : kd.wrap (i * 2 ^ (min s.toNat kd.bits)) = y
theorem Ev_shl_t {P : Program} {W : World} {n : Nat} {E : Env} {H : List SP} {t u : TypeId} {x y : Operand} {kd yk : IntKind} {i j r : Int} (hx : Env.ev E x = some (.int kd i)) (hy : Env.ev E y = some (.int yk j)) (h : ShlF kd i j r) : Ev P W n E H (.binOp .shl t x y u) (.int kd r) := by
  have q := h.h
  subst q
  exact Ev_shl hx hy h.h0
theorem and127 (b : UInt8) : AndF .u8 (b.toNat : Int) 127 ((b.toNat % 128 : Nat) : Int) := by
  refine ⟨?_⟩
  have key : ∀ y : Fin 256, bits .and .u8 ((y.val : Nat) : Int) 127 = ((y.val % 128 : Nat) : Int) := by decide +kernel
  exact key ⟨b.toNat, UInt8.toNat_lt b⟩
theorem shl7 (y i : Nat) (hi : i ≤ 9) (hy : y * 2 ^ (7 * i) < 18446744073709551616) : ShlF .u64 (y : Int) ((7 * i : Nat) : Int) ((y * 2 ^ (7 * i) : Nat) : Int) := by
  refine ⟨by omega, ?_⟩
  have hm : min ((7 * i : Nat) : Int).toNat IntKind.u64.bits = 7 * i := by
    show min ((7 * i : Nat) : Int).toNat 64 = 7 * i
    omega
  rw [hm]
  have e2 : ((y : Int) * 2 ^ (7 * i)) = ((y * 2 ^ (7 * i) : Nat) : Int) := by simp
  rw [e2]
  exact u64_wrap _ hy
theorem or7 (x y i : Nat) (hx : x < 2 ^ (7 * i)) (hs : y * 2 ^ (7 * i) + x < 18446744073709551616) : OrF .u64 (x : Int) ((y * 2 ^ (7 * i) : Nat) : Int) ((x + y * 2 ^ (7 * i) : Nat) : Int) := by
  refine ⟨?_⟩
  obtain ⟨z, hz⟩ : ∃ z, z = y * 2 ^ (7 * i) := ⟨_, rfl⟩
  have hor : x ||| z = x + z := by rw [hz, Nat.or_comm, Nat.mul_comm, ← Nat.two_pow_add_eq_or_of_lt hx, Nat.add_comm]
  rw [← hz] at hs ⊢
  have e : bits .or .u64 (x : Int) (z : Int) = IntKind.u64.wrap ((BitVec.ofInt 64 (x : Int) ||| BitVec.ofInt 64 (z : Int)).toNat : Int) := rfl
  have b1 : (BitVec.ofInt 64 (x : Int)).toNat = x := by rw [BitVec.toNat_ofInt]; omega
  have b2 : (BitVec.ofInt 64 (z : Int)).toNat = z := by rw [BitVec.toNat_ofInt]; omega
  rw [e, BitVec.toNat_or, b1, b2, hor]
  exact u64_wrap _ (by omega)
/-- a number being read: its first i bytes have made x -/
structure RuI (l : List UInt8) (i x : Nat) : Prop where
  go : ruG (l.drop i) i x = ru l
  i9 : i ≤ 9
  x7 : x < 2 ^ (7 * i)
  il : i ≤ l.length
theorem RuI.start (l : List UInt8) : RuI l 0 0 := ⟨rfl, by omega, by simp, by omega⟩
theorem drop_get {l : List UInt8} {i : Nat} {b : UInt8} (hb : l[i]? = some b) : l.drop i = b :: l.drop (i + 1) := by
  obtain ⟨h1, h2⟩ := List.getElem?_eq_some_iff.1 hb
  rw [List.drop_eq_getElem_cons h1, h2]
section
variable {l : List UInt8} {i x : Nat} {b : UInt8}
theorem RuI.short (h : RuI l i x) (hi : l.length ≤ i) : ru l = .bad 1 := by
  rw [← h.go, List.drop_of_length_le hi]; rfl
theorem RuI.bad (h : RuI l i x) (hb : l[i]? = some b) (hc : i = 9 ∧ 1 < b.toNat) : ru l = .bad 2 := by
  rw [← h.go, drop_get hb]; unfold ruG; rw [if_pos hc]
theorem RuI.nought (h : RuI l i x) (hb : l[i]? = some b) (h0 : b.toNat = 0) (hi : 0 < i) : ru l = .bad 2 := by
  rw [← h.go, drop_get hb]; unfold ruG; rw [if_neg (by omega), if_pos (by omega), if_pos ⟨h0, hi⟩]
theorem RuI.done (h : RuI l i x) (hb : l[i]? = some b) (hn : ¬ (i = 9 ∧ 1 < b.toNat)) (hs : b.toNat < 128) (h0 : ¬ (b.toNat = 0 ∧ 0 < i)) : ru l = .ok (x + b.toNat % 128 * 2 ^ (7 * i)) (l.drop (i + 1)) := by
  rw [← h.go, drop_get hb]; unfold ruG; rw [if_neg hn, if_pos hs, if_neg h0, Nat.mod_eq_of_lt hs]
theorem RuI.fit (h : RuI l i x) (hn : ¬ (i = 9 ∧ 1 < b.toNat)) : b.toNat % 128 * 2 ^ (7 * i) + x < 18446744073709551616 := by
  have hx := h.x7
  have h9 := h.i9
  have hbb := UInt8.toNat_lt b
  by_cases e : i = 9
  · subst e
    have : b.toNat % 128 ≤ 1 := by omega
    have := Nat.mul_le_mul_right (2 ^ (7 * 9)) this
    omega
  · have : b.toNat % 128 ≤ 127 := by omega
    have := Nat.mul_le_mul_right (2 ^ (7 * i)) this
    have : (2 : Nat) ^ (7 * i) ≤ 2 ^ (7 * 8) := Nat.pow_le_pow_right (by omega) (by omega)
    omega
theorem RuI.next (h : RuI l i x) (hb : l[i]? = some b) (hn : ¬ (i = 9 ∧ 1 < b.toNat)) (hs : ¬ b.toNat < 128) : RuI l (i + 1) (x + b.toNat % 128 * 2 ^ (7 * i)) := by
  have h1 := (List.getElem?_eq_some_iff.1 hb).1
  have h9 := h.i9
  refine ⟨?_, by omega, ?_, by omega⟩
  · rw [← h.go, drop_get hb]
    conv => rhs; unfold ruG
    rw [if_neg hn, if_neg hs]
  · have hx := h.x7
    have : b.toNat % 128 ≤ 127 := by omega
    have := Nat.mul_le_mul_right (2 ^ (7 * i)) this
    have e : (2 : Nat) ^ (7 * (i + 1)) = 128 * 2 ^ (7 * i) := by rw [Nat.mul_add, Nat.pow_add, Nat.mul_comm]
    omega
theorem RuI.len {z : Nat} {j : Nat} (h : ru l = .ok z (l.drop j)) (hj : j ≤ l.length) : (vu z).length = j := by
  have := congrArg List.length (vu_ru h).1
  rw [List.length_append, List.length_drop] at this
  omega
end
theorem ru_drop {s t : List UInt8} {a x : Nat} (h : ru (s.drop a) = .ok x t) : t = s.drop (a + (vu x).length) := by
  have e := (vu_ru h).1
  rw [← List.drop_drop, e, List.drop_left]
theorem ru_fit {s t : List UInt8} {a x : Nat} (h : ru (s.drop a) = .ok x t) : a + (vu x).length ≤ s.length := by
  have e := congrArg List.length (vu_ru h).1
  have p := vu_pos x
  rw [List.length_append, List.length_drop] at e
  omega
theorem rtx_drop {s t y : List UInt8} {m a : Nat} (h : rtx m (s.drop a) = .ok y t) : t = s.drop (a + (tx y).length) := by
  have e := (tx_rtx h).1
  rw [← List.drop_drop, e, List.drop_left]
theorem rtx_fit {s t y : List UInt8} {m a : Nat} (h : rtx m (s.drop a) = .ok y t) : a + (tx y).length ≤ s.length := by
  have e := congrArg List.length (tx_rtx h).1
  have p := tx_len y
  rw [List.length_append, List.length_drop] at e
  omega
/-- the errors' numbers of a read -/
theorem ruG_err : ∀ (l : List UInt8) (i acc e : Nat), ruG l i acc = .bad e → e = 1 ∨ e = 2
  | [], _, _, _, h => by cases h; exact .inl rfl
  | b :: t, i, acc, e, h => by
    unfold ruG at h
    split at h
    · cases h; exact .inr rfl
    split at h
    · split at h
      · cases h; exact .inr rfl
      · cases h
    · exact ruG_err t _ _ e h
theorem ru_err {l : List UInt8} {e : Nat} (h : ru l = .bad e) : e = 1 ∨ e = 2 := ruG_err l 0 0 e h
theorem rtx_err {m : Nat} {l : List UInt8} {e : Nat} (h : rtx m l = .bad e) : e = 1 ∨ e = 2 ∨ e = 3 := by
  unfold rtx at h
  split at h
  · rename_i e' he
    cases h
    rcases ru_err he with q | q <;> omega
  split at h
  · cases h; omega
  split at h
  · cases h; omega
  · cases h
end Go.Proofs.YtnbgcimalpdfoaaGreatDoor
