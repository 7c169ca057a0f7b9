/-
  Bytes there and back: what put lays, get tells; a sealed sector opens.
-/
import Derived.Test.YteklldbfdmaafaaDoorSlo3
namespace Go.Proofs.YteklldbfdmaafaaDoor
open Go Go.RowKit

theorem u64_of_lt (n : Nat) (h : n < 2 ^ 64) : IntKind.u64.wrap (n : Int) = (n : Int) := by
  have e : IntKind.u64.wrap (n : Int) = (n : Int) % 18446744073709551616 := rfl
  rw [e]; omega
theorem or64 (x y : Nat) (hx : x < 2 ^ 64) (hy : y < 2 ^ 64) : bits .or .u64 (x : Int) (y : Int) = ((x ||| y : Nat) : Int) := by
  have e : bits .or .u64 (x : Int) (y : Int) = IntKind.u64.wrap ((BitVec.ofInt 64 (x : Int) ||| BitVec.ofInt 64 (y : Int)).toNat : Int) := rfl
  have b1 : (BitVec.ofInt 64 (x : Int)).toNat = x := by rw [BitVec.toNat_ofInt]; omega
  have b2 : (BitVec.ofInt 64 (y : Int)).toNat = y := by rw [BitVec.toNat_ofInt]; omega
  rw [e, BitVec.toNat_or, b1, b2]
  exact u64_of_lt _ (Nat.or_lt_two_pow hx hy)
theorem getPart_val (x i : Nat) (c : UInt8) (hi : i < 8) (hx : x < 2 ^ (8 * i)) : getPart (x : Int) i c = ((x + c.toNat * 2 ^ (8 * i) : Nat) : Int) := by
  have hc := UInt8.toNat_lt c
  have hm : min (8 * (i : Int)).toNat IntKind.u64.bits = 8 * i := by
    show min (8 * (i : Int)).toNat 64 = 8 * i
    omega
  have hp : c.toNat * 2 ^ (8 * i) < 2 ^ (8 * i + 8) := by
    rw [Nat.pow_add, Nat.mul_comm]
    exact Nat.mul_lt_mul_of_pos_left (by omega) (Nat.two_pow_pos _)
  have hp2 : (2 : Nat) ^ (8 * i + 8) ≤ 2 ^ 64 := Nat.pow_le_pow_right (by omega) (by omega)
  have hx2 : (2 : Nat) ^ (8 * i) ≤ 2 ^ 64 := Nat.pow_le_pow_right (by omega) (by omega)
  unfold getPart
  rw [hm, u64_of_lt c.toNat (by omega)]
  have e2 : ((c.toNat : Int) * 2 ^ (8 * i)) = ((c.toNat * 2 ^ (8 * i) : Nat) : Int) := by simp
  rw [e2, u64_of_lt _ (by omega), or64 _ _ (by omega) (by omega)]
  congr 1
  rw [Nat.or_comm, Nat.mul_comm, ← Nat.two_pow_add_eq_or_of_lt hx, Nat.add_comm]
theorem byteAt_val (v i : Nat) (hi : i < 8) : (byteAt (v : Int) i).toNat = v / 2 ^ (8 * i) % 256 := by
  have hm : min (8 * (i : Int)).toNat IntKind.u64.bits = 8 * i := by
    show min (8 * (i : Int)).toNat 64 = 8 * i
    omega
  unfold byteAt byteI
  rw [hm]
  have e : (v : Int).fdiv (2 ^ (8 * i)) = ((v / 2 ^ (8 * i) : Nat) : Int) := by
    rw [Int.fdiv_eq_ediv_of_nonneg _ (by exact Int.pow_nonneg (by decide))]
    simp
  rw [e]
  have e2 : ∀ z : Nat, IntKind.u8.wrap (z : Int) = ((z % 256 : Nat) : Int) := fun z => by
    have : IntKind.u8.wrap (z : Int) = (z : Int) % 256 := rfl
    rw [this]; omega
  rw [e2, Int.toNat_natCast, UInt8.toNat_ofNat']
  omega
/-- n bytes of v, read back -/
theorem getB_of (l : List UInt8) (v : Nat) (n : Nat) (hn : n ≤ 8) (h : ∀ i, i < n → l.getD i 0 = byteAt (v : Int) i) : getB l n = ((v % 2 ^ (8 * n) : Nat) : Int) := by
  induction n with
  | zero => simp [getB, Nat.mod_one]
  | succ n ih =>
    show getPart (getB l n) n (l.getD n 0) = _
    rw [ih (by omega) (fun i hi => h i (by omega)), h n (by omega), getPart_val _ _ _ (by omega) (Nat.mod_lt _ (Nat.two_pow_pos _)), byteAt_val _ _ (by omega)]
    congr 1
    rw [show 8 * (n + 1) = 8 * n + 8 by omega, Nat.pow_add, Nat.mod_mul, Nat.mul_comm (2 ^ (8 * n)) _]
theorem putB_get (x : Int) (n i : Nat) (hi : i < n) : (putB x n).getD i 0 = byteAt x i := by
  simp [putB, List.getD, hi]
theorem lay_get_in (l : List UInt8) (o : Nat) (b : List UInt8) (i : Nat) (h : o + b.length ≤ l.length) (h1 : o ≤ i) (h2 : i < o + b.length) : (lay l o b).getD i 0 = b.getD (i - o) 0 := by
  unfold lay
  simp only [List.getD]
  rw [List.getElem?_append_right (by simp; omega), List.length_take, Nat.min_eq_left (by omega), List.getElem?_append_left (by omega)]
theorem lay_get_out (l : List UInt8) (o : Nat) (b : List UInt8) (i : Nat) (h : o + b.length ≤ l.length) (h1 : i < o ∨ o + b.length ≤ i) : (lay l o b).getD i 0 = l.getD i 0 := by
  unfold lay
  simp only [List.getD]
  rcases h1 with h1 | h1
  · rw [List.getElem?_append_left (by simp; omega), List.getElem?_take_of_lt h1]
  · rw [List.getElem?_append_right (by simp; omega), List.length_take, Nat.min_eq_left (by omega), List.getElem?_append_right (by omega), List.getElem?_drop]
    congr 2
    omega

theorem getD_drop (l : List UInt8) (o i : Nat) : (l.drop o).getD i 0 = l.getD (o + i) 0 := by
  simp [List.getD, List.getElem?_drop]
section
variable (v : Nat) (s : List UInt8) (hl : s.length ≤ 234)
include hl
theorem seal_tail (i : Nat) (h1 : 248 ≤ i) (h2 : i < 256) : (sealB v s).getD i 0 = byteAt (v : Int) (i - 248) := by
  unfold sealB
  rw [lay_get_in _ _ _ _ (by rw [putB_length, sealB4_length _ _ hl]; omega) h1 (by rw [putB_length]; omega), putB_get _ _ _ (by omega)]
theorem seal_low (i : Nat) (h : i < 244) : (sealB v s).getD i 0 = (sealB3 v s).getD i 0 := by
  unfold sealB
  rw [lay_get_out _ _ _ _ (by rw [putB_length, sealB4_length _ _ hl]; omega) (.inl (by omega))]
  unfold sealB4
  rw [lay_get_out _ _ _ _ (by rw [putB_length, sealB3_length _ _ hl]; omega) (.inl (by omega))]
theorem seal_head (i : Nat) (h : i < 8) : (sealB v s).getD i 0 = byteAt (v : Int) i := by
  rw [seal_low v s hl i (by omega)]
  unfold sealB3
  rw [lay_get_out _ _ _ _ (by rw [sealB2_length]; omega) (.inl (by omega))]
  unfold sealB2
  rw [lay_get_out _ _ _ _ (by rw [putB_length, sealB1_length]; omega) (.inl (by omega))]
  unfold sealB1
  rw [lay_get_in _ _ _ _ (by rw [putB_length, List.length_replicate]; omega) (by omega) (by rw [putB_length]; omega), Nat.sub_zero, putB_get _ _ _ h]
theorem seal_size (i : Nat) (h : i < 2) : (sealB v s).getD (8 + i) 0 = byteAt ((s.length : Nat) : Int) i := by
  rw [seal_low v s hl _ (by omega)]
  unfold sealB3
  rw [lay_get_out _ _ _ _ (by rw [sealB2_length]; omega) (.inl (by omega))]
  unfold sealB2
  rw [u64_of_lt s.length (by omega), lay_get_in _ _ _ _ (by rw [putB_length, sealB1_length]; omega) (by omega) (by rw [putB_length]; omega), putB_get _ _ _ (by omega)]
  congr 1
  omega
theorem seal_body (i : Nat) (h : i < s.length) : (sealB v s).getD (10 + i) 0 = s.getD i 0 := by
  rw [seal_low v s hl _ (by omega)]
  unfold sealB3
  rw [lay_get_in _ _ _ _ (by rw [sealB2_length]; omega) (by omega) (by omega)]
  congr 1
  omega
theorem seal_getH (hv : v < 2 ^ 64) : getB (sealB v s) 8 = (v : Int) := by
  rw [getB_of _ v 8 (by omega) (fun i hi => seal_head v s hl i hi), Nat.mod_eq_of_lt (by omega)]
theorem seal_getT (hv : v < 2 ^ 64) : getB ((sealB v s).drop 248) 8 = (v : Int) := by
  rw [getB_of _ v 8 (by omega) (fun i hi => by rw [getD_drop, seal_tail v s hl _ (by omega) (by omega), Nat.add_sub_cancel_left]), Nat.mod_eq_of_lt (by omega)]
set_option maxRecDepth 100000 in
theorem seal_openN : openN (sealB v s) = s.length := by
  have h := getB_of ((sealB (v : Int) s).drop 8) s.length 2 (by omega) (fun i hi => by rw [getD_drop]; exact seal_size v s hl i hi)
  have e : s.length % 2 ^ (8 * 2) = s.length := Nat.mod_eq_of_lt (by show s.length < 65536; omega)
  rw [e] at h
  unfold openN
  rw [h, Int.toNat_natCast]
theorem seal_openP : openP (sealB v s) = s := by
  have hL := sealB_length (v : Int) s hl
  unfold openP
  rw [seal_openN v s hl]
  apply List.ext_getElem
  · rw [List.length_drop, List.length_take]; omega
  · intro i h1 h2
    have h3 := seal_body v s hl i h2
    simp only [List.getElem_drop, List.getElem_take]
    rw [List.getD, List.getElem?_eq_getElem (by omega), List.getD, List.getElem?_eq_getElem h2] at h3
    simpa using h3
/-- A SEALED SECTOR OPENS -/
theorem seal_open (hv0 : v ≠ 0) : openS (v : Int) (sealB v s) = some s := by
  unfold openS
  rw [if_neg (by omega), if_neg (by have := sealB_length (v : Int) s hl; simpa using this), if_neg (by rw [seal_openN v s hl]; omega), seal_openP v s hl, if_pos rfl]
/-- .. and counts in its place -/
theorem seal_count (hv0 : 1 ≤ v) (hv1 : v ≤ 1099511627776) : countO (sealB v s) ((v : Int) % 2) = some ((v : Int), s) := by
  unfold countO
  rw [seal_getH v s hl (by omega), seal_getT v s hl (by omega), seal_open v s hl (by omega), if_neg (by have := sealB_length (v : Int) s hl; simpa using this), if_neg (by simp), if_neg (by omega), if_neg (by omega), if_neg (by simp)]
  rfl
end
end Go.Proofs.YteklldbfdmaafaaDoor
