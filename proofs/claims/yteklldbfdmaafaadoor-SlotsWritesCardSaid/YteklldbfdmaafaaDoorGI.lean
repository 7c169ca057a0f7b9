/-
  Crq, Ref7p, Ref7, Ref7b, Ref8.
-/
import Derived.Test.YteklldbfdmaafaaDoorGH
import Derived.Test.YteklldbfdmaafaaDoorGD
/-
  The check sum bit by bit is the one by nibbles; plain data.
-/
namespace Go.Proofs.YteklldbfdmaafaaDoor
open Go Go.RowKit

theorem u32_of_lt (n : Nat) (h : n < 2 ^ 32) : IntKind.u32.wrap (n : Int) = (n : Int) := by
  have e : IntKind.u32.wrap (n : Int) = (n : Int) % 4294967296 := rfl
  rw [e]; omega
theorem xor32 (x y : Nat) (hx : x < 2 ^ 32) (hy : y < 2 ^ 32) : bits .xor .u32 (x : Int) (y : Int) = ((x ^^^ y : Nat) : Int) := by
  have e : bits .xor .u32 (x : Int) (y : Int) = IntKind.u32.wrap ((BitVec.ofInt 32 (x : Int) ^^^ BitVec.ofInt 32 (y : Int)).toNat : Int) := rfl
  have b1 : (BitVec.ofInt 32 (x : Int)).toNat = x := by rw [BitVec.toNat_ofInt]; omega
  have b2 : (BitVec.ofInt 32 (y : Int)).toNat = y := by rw [BitVec.toNat_ofInt]; omega
  rw [e, BitVec.toNat_xor, b1, b2]
  exact u32_of_lt _ (Nat.xor_lt_two_pow hx hy)
theorem and32_15 (x : Nat) (hx : x < 2 ^ 32) : bits .and .u32 (x : Int) 15 = ((x % 16 : Nat) : Int) := by
  have e : bits .and .u32 (x : Int) 15 = IntKind.u32.wrap ((BitVec.ofInt 32 (x : Int) &&& BitVec.ofInt 32 15).toNat : Int) := rfl
  have b1 : (BitVec.ofInt 32 (x : Int)).toNat = x := by rw [BitVec.toNat_ofInt]; omega
  have b2 : (BitVec.ofInt 32 15).toNat = 2 ^ 4 - 1 := rfl
  rw [e, BitVec.toNat_and, b1, b2, Nat.and_two_pow_sub_one_eq_mod]
  exact u32_of_lt _ (by omega)
def bitN (a : Nat) : Nat := (a / 2) ^^^ (if a % 2 = 1 then 2197175160 else 0)
theorem bitN_lt (a : Nat) (h : a < 2 ^ 32) : bitN a < 2 ^ 32 := by
  unfold bitN
  exact Nat.xor_lt_two_pow (by omega) (by split <;> omega)
theorem xor_half (x y : Nat) : (x ^^^ y) / 2 = x / 2 ^^^ y / 2 := by
  have := Nat.shiftRight_xor_distrib (a := x) (b := y) (i := 1)
  simpa [Nat.shiftRight_eq_div_pow] using this
theorem xor_low (x y : Nat) : (x ^^^ y) % 2 = (x % 2 ^^^ y % 2) := by
  have := Nat.xor_mod_two_pow (a := x) (b := y) (n := 1)
  simpa using this
theorem bitN_lin (x y : Nat) : bitN (x ^^^ y) = bitN x ^^^ bitN y := by
  unfold bitN
  rw [xor_half, xor_low]
  obtain ⟨p, hp⟩ : ∃ p : Nat, p = 2197175160 := ⟨_, rfl⟩
  rw [← hp]
  obtain ⟨u, hu⟩ : ∃ u, u = x / 2 := ⟨_, rfl⟩
  obtain ⟨v, hv⟩ : ∃ v, v = y / 2 := ⟨_, rfl⟩
  rw [← hu, ← hv]
  rcases Nat.mod_two_eq_zero_or_one x with h1 | h1 <;> rcases Nat.mod_two_eq_zero_or_one y with h2 | h2 <;> rw [h1, h2]
  · simp
  · simp [Nat.xor_assoc]
  · have e : u ^^^ v ^^^ p = u ^^^ p ^^^ v := by rw [Nat.xor_assoc, Nat.xor_comm v p, ← Nat.xor_assoc]
    simpa using e
  · have e : (u ^^^ p) ^^^ (v ^^^ p) = u ^^^ v := by
      rw [Nat.xor_assoc, Nat.xor_comm v p, ← Nat.xor_assoc p p v, Nat.xor_self, Nat.zero_xor]
    simp [e]
def bitIt : Nat → Nat → Nat
  | 0, r => r
  | k + 1, r => bitN (bitIt k r)
theorem bitIt_lt (k a : Nat) (h : a < 2 ^ 32) : bitIt k a < 2 ^ 32 := by
  induction k with
  | zero => exact h
  | succ k ih => exact bitN_lt _ ih
theorem bitIt_lin (k x y : Nat) : bitIt k (x ^^^ y) = bitIt k x ^^^ bitIt k y := by
  induction k with
  | zero => rfl
  | succ k ih => show bitN (bitIt k (x ^^^ y)) = _; rw [ih, bitN_lin]; rfl
theorem bitIt_add (j k a : Nat) : bitIt (j + k) a = bitIt j (bitIt k a) := by
  induction j with
  | zero => rw [Nat.zero_add]; rfl
  | succ j ih => rw [Nat.add_right_comm]; show bitN (bitIt (j + k) a) = _; rw [ih]; rfl
theorem bitN_even (m : Nat) : bitN (2 * m) = m := by
  unfold bitN
  have h1 : 2 * m / 2 = m := by omega
  have h2 : ¬ (2 * m % 2 = 1) := by omega
  rw [h1, if_neg h2, Nat.xor_zero]
theorem bit4_high (h : Nat) : bitIt 4 (16 * h) = h := by
  show bitN (bitN (bitN (bitN (16 * h)))) = h
  rw [show 16 * h = 2 * (2 * (2 * (2 * h))) by omega, bitN_even, bitN_even, bitN_even, bitN_even]
theorem bit4_low : ∀ l, l < 16 → nibT.getD l 0 = ((bitIt 4 l : Nat) : Int) := by decide
theorem xor_add (h l : Nat) (hl : l < 16) : (16 * h) ^^^ l = 16 * h + l := by
  apply Nat.eq_of_testBit_eq
  intro j
  rw [Nat.testBit_xor, show 16 * h = 2 ^ 4 * h from rfl, Nat.testBit_two_pow_mul_add h (i := 4) hl, Nat.testBit_two_pow_mul]
  by_cases hj : j < 4
  · simp [hj, show ¬ 4 ≤ j by omega]
  · have : l.testBit j = false := Nat.testBit_lt_two_pow (Nat.lt_of_lt_of_le hl (show 2 ^ 4 ≤ 2 ^ j from Nat.pow_le_pow_right (by omega) (by omega)))
    simp [hj, this]
    omega
theorem nib_bits (a : Nat) (h : a < 2 ^ 32) : nibStep (a : Int) = ((bitIt 4 a : Nat) : Int) := by
  unfold nibStep
  have e1 : (a : Int).fdiv (2 ^ (min (4 : Int).toNat IntKind.u32.bits)) = ((a / 16 : Nat) : Int) := by
    rw [Int.fdiv_eq_ediv_of_nonneg _ (by exact Int.pow_nonneg (by decide))]
    rfl
  rw [e1, and32_15 a h, Int.toNat_natCast, bit4_low _ (Nat.mod_lt _ (by omega)), xor32 _ _ (by omega) (bitIt_lt _ _ (by omega))]
  congr 1
  have e2 : a = (16 * (a / 16)) ^^^ (a % 16) := by rw [xor_add _ _ (Nat.mod_lt _ (by omega))]; omega
  conv => rhs; rw [e2, bitIt_lin, bit4_high]
/-- one byte, bit by bit -/
def byteN (r : Nat) (c : UInt8) : Nat := bitIt 8 (r ^^^ c.toNat)
theorem byteN_lt (r : Nat) (c : UInt8) (h : r < 2 ^ 32) : byteN r c < 2 ^ 32 := by
  have := UInt8.toNat_lt c
  exact bitIt_lt _ _ (Nat.xor_lt_two_pow h (by omega))
theorem crcStep_bits (r : Nat) (c : UInt8) (h : r < 2 ^ 32) : crcStep (r : Int) c = ((byteN r c : Nat) : Int) := by
  have hc := UInt8.toNat_lt c
  have hx : r ^^^ c.toNat < 2 ^ 32 := Nat.xor_lt_two_pow h (by omega)
  unfold crcStep byteN
  rw [u32_of_lt _ (by omega), xor32 _ _ h (by omega), nib_bits _ hx, nib_bits _ (bitIt_lt _ _ hx), ← bitIt_add]
def crcN (r : Nat) (l : List UInt8) : Nat := l.foldl byteN r
theorem crcN_bits (l : List UInt8) : ∀ (r : Nat), r < 2 ^ 32 → crcAll (r : Int) l = ((crcN r l : Nat) : Int) ∧ crcN r l < 2 ^ 32 := by
  unfold crcAll crcN
  induction l with
  | nil => intro r h; exact ⟨rfl, h⟩
  | cons c l ih =>
    intro r h
    simp only [List.foldl_cons]
    rw [crcStep_bits r c h]
    exact ih _ (byteN_lt r c h)
theorem crcN_next (s : Nat) (l : List UInt8) (i : Nat) (c : UInt8) (h : l[i]? = some c) : crcN s (l.take (i + 1)) = byteN (crcN s (l.take i)) c := by
  unfold crcN
  rw [List.take_add_one, h]
  simp
def notN (s : Nat) : Nat := s ^^^ 4294967295
theorem notN_lt (s : Nat) (h : s < 2 ^ 32) : notN s < 2 ^ 32 := Nat.xor_lt_two_pow h (by omega)
theorem crcNot_bits (s : Nat) (h : s < 2 ^ 32) : crcNot (s : Int) = ((notN s : Nat) : Int) := by
  have := xor32 4294967295 s (by omega) h
  unfold crcNot notN
  rw [Nat.xor_comm]
  exact this
theorem crcSum_bits (l : List UInt8) : crcSum l = ((notN (crcN (notN 0) l) : Nat) : Int) := by
  unfold crcSum
  have h0 := crcNot_bits 0 (by omega)
  have h1 := crcN_bits l (notN 0) (notN_lt 0 (by omega))
  rw [show (0 : Int) = ((0 : Nat) : Int) from rfl, h0, h1.1, crcNot_bits _ h1.2]
theorem crcSum_bounds (l : List UInt8) : 0 ≤ crcSum l ∧ crcSum l < 4294967296 := by
  have h1 := crcN_bits l (notN 0) (notN_lt 0 (by omega))
  have h2 := notN_lt _ h1.2
  rw [crcSum_bits]
  omega
end Go.Proofs.YteklldbfdmaafaaDoor
/-
  A sealed sector as the pieces that the document lays one behind the other; plain data.
-/
namespace Go.Proofs.YteklldbfdmaafaaDoor
open Go Go.RowKit

theorem lay_app (a z b : List UInt8) : lay (a ++ z) a.length b = a ++ (b ++ z.drop b.length) := by
  unfold lay
  rw [List.take_left' rfl, List.drop_append, List.drop_of_length_le (by omega), Nat.add_sub_cancel_left, List.nil_append]
def sealHead (v : Int) (s : List UInt8) : List UInt8 := putB v 8 ++ (putB (IntKind.u64.wrap s.length) 2 ++ (s ++ zs (234 - s.length)))
theorem sealHead_length (v : Int) (s : List UInt8) (h : s.length ≤ 234) : (sealHead v s).length = 244 := by
  unfold sealHead
  simp only [List.length_append, putB_length, zs_length]
  omega
theorem zs_drop (n m : Nat) : (zs n).drop m = zs (n - m) := by simp [zs]
theorem seal_concat (v : Int) (s : List UInt8) (h : s.length ≤ 234) : sealB v s = sealHead v s ++ (putB (IntKind.u64.wrap (crcSum (sealHead v s))) 4 ++ putB v 8) := by
  have e1 : sealB1 v = putB v 8 ++ zs 248 := by
    have := lay_app [] (zs 256) (putB v 8)
    rw [putB_length, zs_drop] at this
    exact this
  have e2 : sealB2 v s = putB v 8 ++ (putB (IntKind.u64.wrap s.length) 2 ++ zs 246) := by
    unfold sealB2
    rw [e1]
    have := lay_app (putB v 8) (zs 248) (putB (IntKind.u64.wrap s.length) 2)
    rw [putB_length, putB_length, zs_drop] at this
    exact this
  have e3 : sealB3 v s = sealHead v s ++ zs 12 := by
    unfold sealB3
    rw [e2, ← List.append_assoc]
    have := lay_app (putB v 8 ++ putB (IntKind.u64.wrap s.length) 2) (zs 246) s
    rw [List.length_append, putB_length, putB_length, zs_drop] at this
    rw [this]
    unfold sealHead
    simp only [List.append_assoc]
    congr 3
    have : zs (246 - s.length) = zs (234 - s.length) ++ zs 12 := by
      unfold zs; rw [List.replicate_append_replicate]; congr 1; omega
    rw [this]
  have hl := sealHead_length v s h
  have e3t : (sealB3 v s).take 244 = sealHead v s := by rw [e3, List.take_left' hl]
  have e4 : sealB4 v s = sealHead v s ++ (putB (IntKind.u64.wrap (crcSum (sealHead v s))) 4 ++ zs 8) := by
    unfold sealB4
    rw [e3t, e3]
    have := lay_app (sealHead v s) (zs 12) (putB (IntKind.u64.wrap (crcSum (sealHead v s))) 4)
    rw [hl, putB_length, zs_drop] at this
    exact this
  unfold sealB
  rw [e4, ← List.append_assoc]
  have := lay_app (sealHead v s ++ putB (IntKind.u64.wrap (crcSum (sealHead v s))) 4) (zs 8) (putB v 8)
  rw [List.length_append, hl, putB_length, putB_length, zs_drop] at this
  rw [this]
  simp [zs]
/-- two bytes' number -/
theorem getB_two_val (l : List UInt8) : getB l 2 = (((l.getD 0 0).toNat + 256 * (l.getD 1 0).toNat : Nat) : Int) := by
  have h0 := UInt8.toNat_lt (l.getD 0 0)
  obtain ⟨a, ha⟩ : ∃ a, a = l.getD 0 0 := ⟨_, rfl⟩
  obtain ⟨b, hb⟩ : ∃ b, b = l.getD 1 0 := ⟨_, rfl⟩
  rw [← ha] at h0
  have h1 := getPart_val 0 0 a (by omega) (by omega)
  have h2 := getPart_val (0 + a.toNat * 2 ^ (8 * 0)) 1 b (by omega) (by show 0 + a.toNat * 1 < 256; omega)
  show getPart (getPart 0 0 (l.getD 0 0)) 1 (l.getD 1 0) = _
  rw [← ha, ← hb]
  rw [show (0 : Int) = ((0 : Nat) : Int) from rfl, h1, h2]
  show ((0 + a.toNat * 1 + b.toNat * 256 : Nat) : Int) = _
  omega
theorem openN_val (raw : List UInt8) : openN raw = (raw.getD 8 0).toNat + 256 * (raw.getD 9 0).toNat := by
  unfold openN
  rw [getB_two_val, getD_drop, getD_drop, Int.toNat_natCast]
/-- a byte of a number, by division -/
theorem byteAt_div (v i : Nat) (hi : i < 8) : byteAt (v : Int) i = UInt8.ofNat (v / 256 ^ i % 256) := by
  apply UInt8.toNat_inj.1
  rw [byteAt_val v i hi, UInt8.toNat_ofNat', show (256 : Nat) ^ i = 2 ^ (8 * i) by rw [show (256 : Nat) = 2 ^ 8 from rfl, ← Nat.pow_mul]]
  omega
end Go.Proofs.YteklldbfdmaafaaDoor
/-
  The document's sectors (remitref03's sum, remitref07): contracts over the plain data of the program's own.
-/
namespace Go.Proofs.YteklldbfdmaafaaDoor
open Go Go.RowKit

section
variable {P : Program} {W : World} {n : Nat} {k : KK} {E : Env} {H R : List SP} {x y z : Operand} {t u : TypeId} {kd : IntKind}
theorem Ev_xor_v {i j r : Int} (hx : Env.ev E x = some (.int kd i)) (hy : Env.ev E y = some (.int kd j)) (h : bits .xor kd i j = r) : Ev P W n E H (.binOp .xor t x y u) (.int kd r) := by subst h; exact Ev_xor hx hy
theorem Ev_rem_v {i j r : Int} (hx : Env.ev E x = some (.int kd i)) (hy : Env.ev E y = some (.int kd j)) (hb : 0 ≤ i ∧ 0 < j) (h : i % j = r) : Ev P W n E H (.binOp .rem t x y u) (.int kd r) := by subst h; exact Ev_remI hx hy hb
theorem Ev_quo_v {i j r : Int} (hx : Env.ev E x = some (.int kd i)) (hy : Env.ev E y = some (.int kd j)) (hj : j ≠ 0) (h : kd.wrap (i.tdiv j) = r) : Ev P W n E H (.binOp .quo t x y u) (.int kd r) := by subst h; exact Ev_quo hx hy hj
theorem Ev_mul_v {i j r : Int} (hx : Env.ev E x = some (.int kd i)) (hy : Env.ev E y = some (.int kd j)) (h : kd.wrap (i * j) = r) : Ev P W n E H (.binOp .mul t x y u) (.int kd r) := by subst h; exact Ev_mul hx hy
theorem Ev_add_v {i j r : Int} (hx : Env.ev E x = some (.int kd i)) (hy : Env.ev E y = some (.int kd j)) (h : kd.wrap (i + j) = r) : Ev P W n E H (.binOp .add t x y u) (.int kd r) := by subst h; exact Ev_add hx hy
theorem KJ.row_shape3 {v : Value} {e size m : Nat} {xs : List Value} (hsel : Sel (rowP v e size m xs) H R) (hm : 0 < m) (h : ∀ g c, v = .slice (some ⟨g, 0, none⟩) m c → KJ W n k E H) : KJ W n k E H :=
  ⟨fun a w p s => by
    rcases (s.row hsel).2 with ⟨_, q⟩ | ⟨g, c, _, q, _⟩
    · omega
    · exact (h g c q).go a w p s⟩
theorem nilrow3 {e size : Nat} {H R : List SP} : ∀ g, starL (H ++ R) g → starL (H ++ [rowP (.slice none 0 0) e size 0 []] ++ R) g := by
  intro g q
  have q2 : starL (rowP (.slice none 0 0) e size 0 [] :: (H ++ R)) g := ⟨fun _ => none, g, (fun _ _ q => by cases q), (fun _ _ q => by cases q), .rfl, ⟨by simp, .inl ⟨rfl, rfl⟩⟩, q⟩
  refine starL_perm ?_ g q2
  have : (H ++ [rowP (.slice none 0 0) e size 0 []] ++ R) = H ++ rowP (.slice none 0 0) e size 0 [] :: R := by simp
  rw [this]
  exact List.perm_middle.symm
end
theorem u32_tdiv (a : Nat) (h : a < 2 ^ 32) : IntKind.u32.wrap (((a : Nat) : Int).tdiv 2) = ((a / 2 : Nat) : Int) := by
  have : ((a : Nat) : Int).tdiv 2 = ((a / 2 : Nat) : Int) := by rw [Int.tdiv_eq_ediv_of_nonneg (by omega)]; rfl
  rw [this]
  exact u32_of_lt _ (by omega)
theorem u64_tdiv (a : Nat) (h : a < 2 ^ 64) : IntKind.u64.wrap (((a : Nat) : Int).tdiv 256) = ((a / 256 : Nat) : Int) := by
  have : ((a : Nat) : Int).tdiv 256 = ((a / 256 : Nat) : Int) := by rw [Int.tdiv_eq_ediv_of_nonneg (by omega)]; rfl
  rw [this]
  exact u64_of_lt _ (by omega)
theorem u8_wrap (z : Nat) : IntKind.u8.wrap (z : Int) = ((z % 256 : Nat) : Int) := by
  have : IntKind.u8.wrap (z : Int) = (z : Int) % 256 := rfl
  rw [this]; omega

section
variable {W : World}
set_option maxHeartbeats 1000000 in
set_option maxRecDepth 100000 in
theorem rextend_ct (s : Nat) (hs : s < 2 ^ 32) (l : List UInt8) (hl : l.length < 4611686018427387904) : Ct Tryd.prog W 132 [.int .u32 (s : Nat), strV l] [] (fun _ : Unit => .int .u32 ((notN (crcN (notN s) l) : Nat) : Int)) (fun _ => []) := by
  obtain ⟨A, hA⟩ : ∃ A : Nat → Nat, A = fun i => crcN (notN s) (l.take i) := ⟨_, rfl⟩
  have hA0 : notN s = A 0 := by rw [hA]; simp [crcN]
  have hAl : crcN (notN s) l = A l.length := by rw [hA]; simp
  have hAn : ∀ i c, l[i]? = some c → A (i + 1) = byteN (A i) c := fun i c h => by rw [hA]; exact crcN_next _ l i c h
  have hAb : ∀ i, A i < 2 ^ 32 := fun i => by rw [hA]; exact (crcN_bits _ _ (notN_lt s hs)).2
  have hx0 : bits .xor .u32 (s : Nat) 4294967295 = ((A 0 : Nat) : Int) := by rw [← hA0]; exact xor32 s 4294967295 hs (by omega)
  have hxl : bits .xor .u32 ((A l.length : Nat) : Int) 4294967295 = ((notN (A l.length) : Nat) : Int) := xor32 _ 4294967295 (hAb _) (by omega)
  rw [hAl]
  clear hA hAl hA0
  refine Ct.enter Tryd.func132 rfl Tryd.ntmps132 (by simp) (fun R => ?_)
  repeat' (first 
    | (refine is_list ?_; first | (refine KJ_plain ?_) | (refine KJ_nil ?_) | (refine KJ_guard_dec_t rfl rfl rfl (fun _ => ?_) (fun _ => ?_) <;> first | (exfalso; omega) | skip) | (refine KJ_guard_dec_f rfl rfl rfl (fun _ => ?_) (fun _ => ?_) <;> first | (exfalso; omega) | skip) | (refine KJ_guard_yes rfl rfl ?_) | (refine KJ_guard_no rfl rfl rfl rfl ?_))
    | (refine is_oper ?_; first | (refine KJ_ek rfl ?_) | (refine KJ_ek0 ?_))
    | (refine is_ek ?_; first | (refine ek_move ?_; first | (refine EK_ev (Ev_move rfl) ?_)) | (refine ek_assign ?_; first | (refine EK_ev (Ev_assign rfl) ?_)) | (refine ek_conv ?_; first | (refine EK_ev (Ev_convI64 rfl (by omega)) ?_) | (refine EK_ev (Ev_convI rfl) ?_) | (refine EK_ev (Ev_convS rfl) ?_)) | (refine ek_len ?_; first | (refine EK_ev (Ev_len_str rfl) ?_) | (refine EK_ev (Ev_len_slice rfl) ?_) | (refine EK_ev (Ev_len_arr rfl) ?_) | (refine EK_ev (Ev_len_map rfl (by (repeat' (first | exact Sel.here | apply Sel.there)); first | done | fail)) ?_)) | (refine ek_add ?_; first | (refine EK_ev (Ev_addI rfl rfl (by omega)) ?_) | (refine EK_ev (Ev_addS rfl rfl (by simp <;> omega)) ?_) | (refine EK_ev (Ev_add rfl rfl) ?_)) | (refine ek_quo ?_; first | (refine EK_ev (Ev_quoI rfl rfl (by omega)) ?_) | (refine EK_ev (Ev_quo rfl rfl (by omega)) ?_)) | (refine ek_rem ?_; first | (refine EK_ev (Ev_remI rfl rfl (by omega)) ?_) | (refine EK_ev (Ev_rem rfl rfl (by omega)) ?_)) | (refine ek_xor ?_; first | (refine EK_ev (Ev_xor_v rfl rfl hx0) ?_)) | (refine ek_eql ?_; first | (refine EK_ev (Ev_eqlI rfl rfl) ?_) | (refine EK_ev (Ev_eqlS rfl rfl) ?_) | (refine EK_ev (Ev_eqlNil rfl rfl) ?_) | (refine EK_ev (Ev_eqlB rfl rfl) ?_) | (refine EK_ev (Ev_eqlO rfl rfl rfl (fun _ => rfl)) ?_)) | (refine ek_lss ?_; first | (refine EK_ev (Ev_lssI rfl rfl) ?_) | (refine EK_ev (Ev_lssS rfl rfl) ?_)))
    | (refine is_ex ?_; first | (refine KJ_seq_normal ?_) | (refine KJ_seq_ret ?_) | (refine KJ_seq_exit ?_) | (refine KJ_thn_normal ?_) | (refine KJ_thn_ret ?_) | (refine KJ_thn_exit ?_) | (refine KJ_blk_normal ?_) | (refine KJ_blk_ret ?_) | (refine KJ_blk_exit ?_) | (refine KJ_blk_exit' rfl ?_))
    | (refine is_code ?_; first | (refine KJ_seq ?_) | (refine KJ_region ?_) | (refine KJ_cond_dec rfl (fun _ => ?_) (fun _ => ?_) <;> first | (exfalso; omega) | skip) | (refine KJ_cond_t rfl ?_) | (refine KJ_cond_f rfl ?_) | (refine KJ_skip ?_) | (refine KJ_ret ?_) | (refine KJ_exit ?_) | (refine KJ_block ?_)))
  refine KJ_loop (fun i : {k : Nat // k ≤ l.length} => [(1, strV l), (5, .int .u32 ((A i.1 : Nat) : Int)), (6, .int .i64 (i.1 : Nat))]) (fun _ => R) (fun i => l.length - i.1) ⟨0, by omega⟩ (by (repeat' (first | exact Subs.nil | refine Subs.cons rfl ?_)); first | done | fail) (fun _ q => q) (fun ⟨i, hi⟩ => ?_)
  dsimp only
  by_cases hlt : i < l.length
  · obtain ⟨c, hc⟩ : ∃ c, l[i]? = some c := ⟨_, List.getElem?_eq_getElem hlt⟩
    have hcb := UInt8.toNat_lt c
    have hnx := hAn i c hc
    have hc' : l[(i : Int).toNat]? = some c := by rw [Int.toNat_natCast]; exact hc
    obtain ⟨r, hr⟩ : ∃ r, r = A i ^^^ c.toNat := ⟨_, rfl⟩
    have hrb : r < 2 ^ 32 := by rw [hr]; exact Nat.xor_lt_two_pow (hAb i) (by omega)
    have hcv : IntKind.u32.wrap ((c.toNat : Nat) : Int) = ((c.toNat : Nat) : Int) := u32_of_lt _ (by omega)
    have hxc : bits .xor .u32 ((A i : Nat) : Int) ((c.toNat : Nat) : Int) = ((bitIt 0 r : Nat) : Int) := by rw [xor32 _ _ (hAb i) (by omega), hr]; rfl
    have hnx : A (i + 1) = bitIt 8 r := by rw [hnx, hr]; rfl
    clear hr
    repeat' (first 
    | (refine is_list ?_; first | (refine KJ_plain ?_) | (refine KJ_nil ?_) | (refine KJ_guard_dec_t rfl rfl rfl (fun _ => ?_) (fun _ => ?_) <;> first | (exfalso; omega) | skip) | (refine KJ_guard_dec_f rfl rfl rfl (fun _ => ?_) (fun _ => ?_) <;> first | (exfalso; omega) | skip) | (refine KJ_guard_yes rfl rfl ?_) | (refine KJ_guard_no rfl rfl rfl rfl ?_))
    | (refine is_oper ?_; first | (refine KJ_ek rfl ?_) | (refine KJ_ek0 ?_))
    | (refine is_ek ?_; first | (refine ek_move ?_; first | (refine EK_ev (Ev_move rfl) ?_)) | (refine ek_assign ?_; first | (refine EK_ev (Ev_assign rfl) ?_)) | (refine ek_conv ?_; first | (refine EK_ev (Ev_convI_v rfl hcv) ?_) | (refine EK_ev (Ev_convI64 rfl (by omega)) ?_) | (refine EK_ev (Ev_convI rfl) ?_) | (refine EK_ev (Ev_convS rfl) ?_)) | (refine ek_index ?_; first | (refine EK_ev (Ev_indexStr rfl rfl (by omega) hc') ?_)) | (refine ek_len ?_; first | (refine EK_ev (Ev_len_str rfl) ?_) | (refine EK_ev (Ev_len_slice rfl) ?_) | (refine EK_ev (Ev_len_arr rfl) ?_) | (refine EK_ev (Ev_len_map rfl (by (repeat' (first | exact Sel.here | apply Sel.there)); first | done | fail)) ?_)) | (refine ek_add ?_; first | (refine EK_ev (Ev_addI rfl rfl (by omega)) ?_) | (refine EK_ev (Ev_addS rfl rfl (by simp <;> omega)) ?_) | (refine EK_ev (Ev_add rfl rfl) ?_)) | (refine ek_quo ?_; first | (refine EK_ev (Ev_quoI rfl rfl (by omega)) ?_) | (refine EK_ev (Ev_quo rfl rfl (by omega)) ?_)) | (refine ek_rem ?_; first | (refine EK_ev (Ev_remI rfl rfl (by omega)) ?_) | (refine EK_ev (Ev_rem rfl rfl (by omega)) ?_)) | (refine ek_xor ?_; first | (refine EK_ev (Ev_xor_v rfl rfl hxc) ?_)) | (refine ek_eql ?_; first | (refine EK_ev (Ev_eqlI rfl rfl) ?_) | (refine EK_ev (Ev_eqlS rfl rfl) ?_) | (refine EK_ev (Ev_eqlNil rfl rfl) ?_) | (refine EK_ev (Ev_eqlB rfl rfl) ?_) | (refine EK_ev (Ev_eqlO rfl rfl rfl (fun _ => rfl)) ?_)) | (refine ek_lss ?_; first | (refine EK_ev (Ev_lssI rfl rfl) ?_) | (refine EK_ev (Ev_lssS rfl rfl) ?_)))
    | (refine is_ex ?_; first | (refine KJ_seq_normal ?_) | (refine KJ_seq_ret ?_) | (refine KJ_seq_exit ?_) | (refine KJ_thn_normal ?_) | (refine KJ_thn_ret ?_) | (refine KJ_thn_exit ?_) | (refine KJ_blk_normal ?_) | (refine KJ_blk_ret ?_) | (refine KJ_blk_exit ?_) | (refine KJ_blk_exit' rfl ?_))
    | (refine is_code ?_; first | (refine KJ_seq ?_) | (refine KJ_region ?_) | (refine KJ_cond_dec rfl (fun _ => ?_) (fun _ => ?_) <;> first | (exfalso; omega) | skip) | (refine KJ_cond_t rfl ?_) | (refine KJ_cond_f rfl ?_) | (refine KJ_skip ?_) | (refine KJ_ret ?_) | (refine KJ_exit ?_) | (refine KJ_block ?_)))
    refine KJ_loop (fun k : {k : Nat // k ≤ 8} => [(1, strV l), (5, .int .u32 ((bitIt k.1 r : Nat) : Int)), (6, .int .i64 (i : Nat)), (7, .int .i64 (k.1 : Nat))]) (fun _ => R) (fun k => 8 - k.1) ⟨0, by omega⟩ (by (repeat' (first | exact Subs.nil | refine Subs.cons rfl ?_)); first | done | fail) (fun _ q => q) (fun ⟨k, hk⟩ => ?_)
    dsimp only
    by_cases hk8 : k < 8
    · have hab := bitIt_lt k r hrb
      have hst : bitIt (k + 1) r = bitN (bitIt k r) := rfl
      obtain ⟨a, ha⟩ : ∃ a, a = bitIt k r := ⟨_, rfl⟩
      rw [← ha] at hab hst ⊢
      have hrem : ((a : Nat) : Int) % 2 = ((a % 2 : Nat) : Int) := by omega
      have hquo := u32_tdiv a hab
      by_cases hp : a % 2 = 1
      · have hq : ((a % 2 : Nat) : Int) = 1 := by omega
        have hxp : bits .xor .u32 ((a / 2 : Nat) : Int) 2197175160 = ((bitIt (k + 1) r : Nat) : Int) := by rw [hst, bitN, if_pos hp]; exact xor32 (a / 2) 2197175160 (by omega) (by omega)
        repeat' (first 
    | (refine is_list ?_; first | (refine KJ_plain ?_) | (refine KJ_nil ?_) | (refine KJ_guard_dec_t rfl rfl rfl (fun _ => ?_) (fun _ => ?_) <;> first | (exfalso; omega) | skip) | (refine KJ_guard_dec_f rfl rfl rfl (fun _ => ?_) (fun _ => ?_) <;> first | (exfalso; omega) | skip) | (refine KJ_guard_yes rfl rfl ?_) | (refine KJ_guard_no rfl rfl rfl rfl ?_))
    | (refine is_oper ?_; first | (refine KJ_ek rfl ?_) | (refine KJ_ek0 ?_))
    | (refine is_ek ?_; first | (refine ek_move ?_; first | (refine EK_ev (Ev_move rfl) ?_)) | (refine ek_assign ?_; first | (refine EK_ev (Ev_assign rfl) ?_)) | (refine ek_conv ?_; first | (refine EK_ev (Ev_convI64 rfl (by omega)) ?_) | (refine EK_ev (Ev_convI rfl) ?_) | (refine EK_ev (Ev_convS rfl) ?_)) | (refine ek_len ?_; first | (refine EK_ev (Ev_len_str rfl) ?_) | (refine EK_ev (Ev_len_slice rfl) ?_) | (refine EK_ev (Ev_len_arr rfl) ?_) | (refine EK_ev (Ev_len_map rfl (by (repeat' (first | exact Sel.here | apply Sel.there)); first | done | fail)) ?_)) | (refine ek_add ?_; first | (refine EK_ev (Ev_addI_v (r := ((k + 1 : Nat) : Int)) rfl rfl (by omega) (by omega)) ?_) | (refine EK_ev (Ev_addI rfl rfl (by omega)) ?_) | (refine EK_ev (Ev_addS rfl rfl (by simp <;> omega)) ?_) | (refine EK_ev (Ev_add rfl rfl) ?_)) | (refine ek_quo ?_; first | (refine EK_ev (Ev_quo_v rfl rfl (by omega) hquo) ?_) | (refine EK_ev (Ev_quoI rfl rfl (by omega)) ?_) | (refine EK_ev (Ev_quo rfl rfl (by omega)) ?_)) | (refine ek_rem ?_; first | (refine EK_ev (Ev_rem_v rfl rfl (by omega) hrem) ?_) | (refine EK_ev (Ev_remI rfl rfl (by omega)) ?_) | (refine EK_ev (Ev_rem rfl rfl (by omega)) ?_)) | (refine ek_xor ?_; first | (refine EK_ev (Ev_xor_v rfl rfl hxp) ?_)) | (refine ek_eql ?_; first | (refine EK_ev (Ev_eqlI_t rfl rfl hq) ?_) | (refine EK_ev (Ev_eqlI rfl rfl) ?_) | (refine EK_ev (Ev_eqlS rfl rfl) ?_) | (refine EK_ev (Ev_eqlNil rfl rfl) ?_) | (refine EK_ev (Ev_eqlB rfl rfl) ?_) | (refine EK_ev (Ev_eqlO rfl rfl rfl (fun _ => rfl)) ?_)) | (refine ek_lss ?_; first | (refine EK_ev (Ev_lssI rfl rfl) ?_) | (refine EK_ev (Ev_lssS rfl rfl) ?_)))
    | (refine is_ex ?_; first | (refine KJ_seq_normal ?_) | (refine KJ_seq_ret ?_) | (refine KJ_seq_exit ?_) | (refine KJ_thn_normal ?_) | (refine KJ_thn_ret ?_) | (refine KJ_thn_exit ?_) | (refine KJ_blk_normal ?_) | (refine KJ_blk_ret ?_) | (refine KJ_blk_exit ?_) | (refine KJ_blk_exit' rfl ?_))
    | (refine is_code ?_; first | (refine KJ_seq ?_) | (refine KJ_region ?_) | (refine KJ_cond_dec rfl (fun _ => ?_) (fun _ => ?_) <;> first | (exfalso; omega) | skip) | (refine KJ_cond_t rfl ?_) | (refine KJ_cond_f rfl ?_) | (refine KJ_skip ?_) | (refine KJ_ret ?_) | (refine KJ_exit ?_) | (refine KJ_block ?_)))
        all_goals refine KJ_again ⟨k + 1, by omega⟩ (by show 8 - (k + 1) < 8 - k; omega) (by (repeat' (first | exact Subs.nil | refine Subs.cons rfl ?_)); first | done | fail) (fun _ q => q)
      · have hq : ((a % 2 : Nat) : Int) ≠ 1 := by omega
        have hsp : bitIt (k + 1) r = a / 2 := by rw [hst, bitN, if_neg hp, Nat.xor_zero]
        repeat' (first 
    | (refine is_list ?_; first | (refine KJ_plain ?_) | (refine KJ_nil ?_) | (refine KJ_guard_dec_t rfl rfl rfl (fun _ => ?_) (fun _ => ?_) <;> first | (exfalso; omega) | skip) | (refine KJ_guard_dec_f rfl rfl rfl (fun _ => ?_) (fun _ => ?_) <;> first | (exfalso; omega) | skip) | (refine KJ_guard_yes rfl rfl ?_) | (refine KJ_guard_no rfl rfl rfl rfl ?_))
    | (refine is_oper ?_; first | (refine KJ_ek rfl ?_) | (refine KJ_ek0 ?_))
    | (refine is_ek ?_; first | (refine ek_move ?_; first | (refine EK_ev (Ev_move rfl) ?_)) | (refine ek_assign ?_; first | (refine EK_ev (Ev_assign rfl) ?_)) | (refine ek_conv ?_; first | (refine EK_ev (Ev_convI64 rfl (by omega)) ?_) | (refine EK_ev (Ev_convI rfl) ?_) | (refine EK_ev (Ev_convS rfl) ?_)) | (refine ek_len ?_; first | (refine EK_ev (Ev_len_str rfl) ?_) | (refine EK_ev (Ev_len_slice rfl) ?_) | (refine EK_ev (Ev_len_arr rfl) ?_) | (refine EK_ev (Ev_len_map rfl (by (repeat' (first | exact Sel.here | apply Sel.there)); first | done | fail)) ?_)) | (refine ek_add ?_; first | (refine EK_ev (Ev_addI_v (r := ((k + 1 : Nat) : Int)) rfl rfl (by omega) (by omega)) ?_) | (refine EK_ev (Ev_addI rfl rfl (by omega)) ?_) | (refine EK_ev (Ev_addS rfl rfl (by simp <;> omega)) ?_) | (refine EK_ev (Ev_add rfl rfl) ?_)) | (refine ek_quo ?_; first | (refine EK_ev (Ev_quo_v rfl rfl (by omega) hquo) ?_) | (refine EK_ev (Ev_quoI rfl rfl (by omega)) ?_) | (refine EK_ev (Ev_quo rfl rfl (by omega)) ?_)) | (refine ek_rem ?_; first | (refine EK_ev (Ev_rem_v rfl rfl (by omega) hrem) ?_) | (refine EK_ev (Ev_remI rfl rfl (by omega)) ?_) | (refine EK_ev (Ev_rem rfl rfl (by omega)) ?_)) | (refine ek_eql ?_; first | (refine EK_ev (Ev_eqlI_f rfl rfl hq) ?_) | (refine EK_ev (Ev_eqlI rfl rfl) ?_) | (refine EK_ev (Ev_eqlS rfl rfl) ?_) | (refine EK_ev (Ev_eqlNil rfl rfl) ?_) | (refine EK_ev (Ev_eqlB rfl rfl) ?_) | (refine EK_ev (Ev_eqlO rfl rfl rfl (fun _ => rfl)) ?_)) | (refine ek_lss ?_; first | (refine EK_ev (Ev_lssI rfl rfl) ?_) | (refine EK_ev (Ev_lssS rfl rfl) ?_)))
    | (refine is_ex ?_; first | (refine KJ_seq_normal ?_) | (refine KJ_seq_ret ?_) | (refine KJ_seq_exit ?_) | (refine KJ_thn_normal ?_) | (refine KJ_thn_ret ?_) | (refine KJ_thn_exit ?_) | (refine KJ_blk_normal ?_) | (refine KJ_blk_ret ?_) | (refine KJ_blk_exit ?_) | (refine KJ_blk_exit' rfl ?_))
    | (refine is_code ?_; first | (refine KJ_seq ?_) | (refine KJ_region ?_) | (refine KJ_cond_dec rfl (fun _ => ?_) (fun _ => ?_) <;> first | (exfalso; omega) | skip) | (refine KJ_cond_t rfl ?_) | (refine KJ_cond_f rfl ?_) | (refine KJ_skip ?_) | (refine KJ_ret ?_) | (refine KJ_exit ?_) | (refine KJ_block ?_)))
        all_goals refine KJ_again ⟨k + 1, by omega⟩ (by show 8 - (k + 1) < 8 - k; omega) ?_ (fun _ q => q)
        all_goals rw [hsp]
        all_goals exact (by (repeat' (first | exact Subs.nil | refine Subs.cons rfl ?_)); first | done | fail)
    · have hk8 : k = 8 := by omega
      subst hk8
      rw [← hnx]
      repeat' (first 
    | (refine is_list ?_; first | (refine KJ_plain ?_) | (refine KJ_nil ?_) | (refine KJ_guard_dec_t rfl rfl rfl (fun _ => ?_) (fun _ => ?_) <;> first | (exfalso; omega) | skip) | (refine KJ_guard_dec_f rfl rfl rfl (fun _ => ?_) (fun _ => ?_) <;> first | (exfalso; omega) | skip) | (refine KJ_guard_yes rfl rfl ?_) | (refine KJ_guard_no rfl rfl rfl rfl ?_))
    | (refine is_oper ?_; first | (refine KJ_ek rfl ?_) | (refine KJ_ek0 ?_))
    | (refine is_ek ?_; first | (refine ek_move ?_; first | (refine EK_ev (Ev_move rfl) ?_)) | (refine ek_assign ?_; first | (refine EK_ev (Ev_assign rfl) ?_)) | (refine ek_conv ?_; first | (refine EK_ev (Ev_convI64 rfl (by omega)) ?_) | (refine EK_ev (Ev_convI rfl) ?_) | (refine EK_ev (Ev_convS rfl) ?_)) | (refine ek_len ?_; first | (refine EK_ev (Ev_len_str rfl) ?_) | (refine EK_ev (Ev_len_slice rfl) ?_) | (refine EK_ev (Ev_len_arr rfl) ?_) | (refine EK_ev (Ev_len_map rfl (by (repeat' (first | exact Sel.here | apply Sel.there)); first | done | fail)) ?_)) | (refine ek_add ?_; first | (refine EK_ev (Ev_addI_v (r := ((i + 1 : Nat) : Int)) rfl rfl (by omega) (by omega)) ?_) | (refine EK_ev (Ev_addI rfl rfl (by omega)) ?_) | (refine EK_ev (Ev_addS rfl rfl (by simp <;> omega)) ?_) | (refine EK_ev (Ev_add rfl rfl) ?_)) | (refine ek_quo ?_; first | (refine EK_ev (Ev_quoI rfl rfl (by omega)) ?_) | (refine EK_ev (Ev_quo rfl rfl (by omega)) ?_)) | (refine ek_rem ?_; first | (refine EK_ev (Ev_remI rfl rfl (by omega)) ?_) | (refine EK_ev (Ev_rem rfl rfl (by omega)) ?_)) | (refine ek_eql ?_; first | (refine EK_ev (Ev_eqlI rfl rfl) ?_) | (refine EK_ev (Ev_eqlS rfl rfl) ?_) | (refine EK_ev (Ev_eqlNil rfl rfl) ?_) | (refine EK_ev (Ev_eqlB rfl rfl) ?_) | (refine EK_ev (Ev_eqlO rfl rfl rfl (fun _ => rfl)) ?_)) | (refine ek_lss ?_; first | (refine EK_ev (Ev_lssI rfl rfl) ?_) | (refine EK_ev (Ev_lssS rfl rfl) ?_)))
    | (refine is_ex ?_; first | (refine KJ_seq_normal ?_) | (refine KJ_seq_ret ?_) | (refine KJ_seq_exit ?_) | (refine KJ_thn_normal ?_) | (refine KJ_thn_ret ?_) | (refine KJ_thn_exit ?_) | (refine KJ_blk_normal ?_) | (refine KJ_blk_ret ?_) | (refine KJ_blk_exit ?_) | (refine KJ_blk_exit' rfl ?_))
    | (refine is_code ?_; first | (refine KJ_seq ?_) | (refine KJ_region ?_) | (refine KJ_cond_dec rfl (fun _ => ?_) (fun _ => ?_) <;> first | (exfalso; omega) | skip) | (refine KJ_cond_t rfl ?_) | (refine KJ_cond_f rfl ?_) | (refine KJ_skip ?_) | (refine KJ_ret ?_) | (refine KJ_exit ?_) | (refine KJ_block ?_)))
      all_goals refine KJ_again ⟨i + 1, by omega⟩ (by show l.length - (i + 1) < l.length - i; omega) (by (repeat' (first | exact Subs.nil | refine Subs.cons rfl ?_)); first | done | fail) (fun _ q => q)
  · have hkl : i = l.length := by omega
    subst hkl
    repeat' (first 
    | (refine is_list ?_; first | (refine KJ_plain ?_) | (refine KJ_nil ?_) | (refine KJ_guard_dec_t rfl rfl rfl (fun _ => ?_) (fun _ => ?_) <;> first | (exfalso; omega) | skip) | (refine KJ_guard_dec_f rfl rfl rfl (fun _ => ?_) (fun _ => ?_) <;> first | (exfalso; omega) | skip) | (refine KJ_guard_yes rfl rfl ?_) | (refine KJ_guard_no rfl rfl rfl rfl ?_))
    | (refine is_oper ?_; first | (refine KJ_ek rfl ?_) | (refine KJ_ek0 ?_))
    | (refine is_ek ?_; first | (refine ek_move ?_; first | (refine EK_ev (Ev_move rfl) ?_)) | (refine ek_assign ?_; first | (refine EK_ev (Ev_assign rfl) ?_)) | (refine ek_conv ?_; first | (refine EK_ev (Ev_convI64 rfl (by omega)) ?_) | (refine EK_ev (Ev_convI rfl) ?_) | (refine EK_ev (Ev_convS rfl) ?_)) | (refine ek_len ?_; first | (refine EK_ev (Ev_len_str rfl) ?_) | (refine EK_ev (Ev_len_slice rfl) ?_) | (refine EK_ev (Ev_len_arr rfl) ?_) | (refine EK_ev (Ev_len_map rfl (by (repeat' (first | exact Sel.here | apply Sel.there)); first | done | fail)) ?_)) | (refine ek_add ?_; first | (refine EK_ev (Ev_addI rfl rfl (by omega)) ?_) | (refine EK_ev (Ev_addS rfl rfl (by simp <;> omega)) ?_) | (refine EK_ev (Ev_add rfl rfl) ?_)) | (refine ek_quo ?_; first | (refine EK_ev (Ev_quoI rfl rfl (by omega)) ?_) | (refine EK_ev (Ev_quo rfl rfl (by omega)) ?_)) | (refine ek_rem ?_; first | (refine EK_ev (Ev_remI rfl rfl (by omega)) ?_) | (refine EK_ev (Ev_rem rfl rfl (by omega)) ?_)) | (refine ek_xor ?_; first | (refine EK_ev (Ev_xor_v rfl rfl hxl) ?_)) | (refine ek_eql ?_; first | (refine EK_ev (Ev_eqlI rfl rfl) ?_) | (refine EK_ev (Ev_eqlS rfl rfl) ?_) | (refine EK_ev (Ev_eqlNil rfl rfl) ?_) | (refine EK_ev (Ev_eqlB rfl rfl) ?_) | (refine EK_ev (Ev_eqlO rfl rfl rfl (fun _ => rfl)) ?_)) | (refine ek_lss ?_; first | (refine EK_ev (Ev_lssI rfl rfl) ?_) | (refine EK_ev (Ev_lssS rfl rfl) ?_)))
    | (refine is_ex ?_; first | (refine KJ_seq_normal ?_) | (refine KJ_seq_ret ?_) | (refine KJ_seq_exit ?_) | (refine KJ_thn_normal ?_) | (refine KJ_thn_ret ?_) | (refine KJ_thn_exit ?_) | (refine KJ_blk_normal ?_) | (refine KJ_blk_ret ?_) | (refine KJ_blk_exit ?_) | (refine KJ_blk_exit' rfl ?_))
    | (refine is_code ?_; first | (refine KJ_seq ?_) | (refine KJ_region ?_) | (refine KJ_cond_dec rfl (fun _ => ?_) (fun _ => ?_) <;> first | (exfalso; omega) | skip) | (refine KJ_cond_t rfl ?_) | (refine KJ_cond_f rfl ?_) | (refine KJ_skip ?_) | (refine KJ_ret ?_) | (refine KJ_exit ?_) | (refine KJ_block ?_)))
    all_goals (refine is_ex ?_; exact KJ_done (by first | exact Or.inl rfl | exact Or.inr rfl) rfl (by (repeat' (first | exact Rvs.nil | (apply Rvs.tmp; exact rfl))); first | done | fail) () (by rfl) (Ent.of (by (repeat' (first | exact Pick.nil | apply Pick.cons | exact Sel.here | apply Sel.there)); first | done | fail) (by (repeat' (first | exact DropTo.refl | apply DropTo.there)); first | done | fail)))
theorem rsum_ct (l : List UInt8) (hl : l.length < 4611686018427387904) : Ct Tryd.prog W 120 [strV l] [] (fun _ : Unit => .int .u32 (crcSum l)) (fun _ => []) := by
  have c1 : Ct Tryd.prog W 132 [.int .u32 0, strV l] [] (fun _ : Unit => .int .u32 (crcSum l)) (fun _ => []) := (rextend_ct 0 (by omega) l hl).val fun _ => by rw [crcSum_bits]
  refine Ct.enter Tryd.func120 rfl Tryd.ntmps120 (by simp) (fun R => ?_)
  repeat' (first 
    | (refine is_list ?_; first | (refine KJ_plain ?_) | (refine KJ_nil ?_) | (refine KJ_guard_dec_t rfl rfl rfl (fun _ => ?_) (fun _ => ?_) <;> first | (exfalso; omega) | skip) | (refine KJ_guard_dec_f rfl rfl rfl (fun _ => ?_) (fun _ => ?_) <;> first | (exfalso; omega) | skip) | (refine KJ_guard_yes rfl rfl ?_) | (refine KJ_guard_no rfl rfl rfl rfl ?_))
    | (refine is_oper ?_; first | (refine is_call ?_; first | (refine KJ_call (by (repeat' (first | exact Evs.nil | refine Evs.cons rfl ?_)); first | done | fail) c1 (by (repeat' (first | exact Pick.nil | apply Pick.cons | exact Sel.here | apply Sel.there)); first | done | fail) rfl (fun _ => ?_))) | (refine KJ_ek rfl ?_) | (refine KJ_ek0 ?_))
    | (refine is_ek ?_; first | (refine ek_move ?_; first | (refine EK_ev (Ev_move rfl) ?_)) | (refine ek_assign ?_; first | (refine EK_ev (Ev_assign rfl) ?_)))
    | (refine is_ex ?_; first | (refine KJ_seq_normal ?_) | (refine KJ_seq_ret ?_) | (refine KJ_seq_exit ?_) | (refine KJ_thn_normal ?_) | (refine KJ_thn_ret ?_) | (refine KJ_thn_exit ?_) | (refine KJ_blk_normal ?_) | (refine KJ_blk_ret ?_) | (refine KJ_blk_exit ?_) | (refine KJ_blk_exit' rfl ?_))
    | (refine is_code ?_; first | (refine KJ_seq ?_) | (refine KJ_region ?_) | (refine KJ_cond_dec rfl (fun _ => ?_) (fun _ => ?_) <;> first | (exfalso; omega) | skip) | (refine KJ_cond_t rfl ?_) | (refine KJ_cond_f rfl ?_) | (refine KJ_skip ?_) | (refine KJ_ret ?_) | (refine KJ_exit ?_) | (refine KJ_block ?_)))
  all_goals (refine is_ex ?_; exact KJ_done (by first | exact Or.inl rfl | exact Or.inr rfl) rfl (by (repeat' (first | exact Rvs.nil | (apply Rvs.tmp; exact rfl))); first | done | fail) () (by rfl) (Ent.of (by (repeat' (first | exact Pick.nil | apply Pick.cons | exact Sel.here | apply Sel.there)); first | done | fail) (by (repeat' (first | exact DropTo.refl | apply DropTo.there)); first | done | fail)))
set_option maxRecDepth 100000 in
theorem rlow_ct (x : Nat) (hx : x < 2 ^ 64) (n : Nat) (hn0 : 0 < n) (hn : n ≤ 8) : Ct Tryd.prog W 119 [.int .u64 (x : Nat), .int .i64 (n : Nat)] [] (fun _ : Unit => strV (putB (x : Nat) n)) (fun _ => []) := by
  refine Ct.enter Tryd.func119 rfl Tryd.ntmps119 (by simp) (fun R => ?_)
  repeat' (first 
    | (refine is_list ?_; first | (refine KJ_plain ?_) | (refine KJ_nil ?_) | (refine KJ_guard_dec_t rfl rfl rfl (fun _ => ?_) (fun _ => ?_) <;> first | (exfalso; omega) | skip) | (refine KJ_guard_dec_f rfl rfl rfl (fun _ => ?_) (fun _ => ?_) <;> first | (exfalso; omega) | skip) | (refine KJ_guard_yes rfl rfl ?_) | (refine KJ_guard_no rfl rfl rfl rfl ?_))
    | (refine is_oper ?_; first | (refine KJ_ek rfl ?_) | (refine KJ_ek0 ?_))
    | (refine is_ek ?_; first | (refine ek_move ?_; first | (refine EK_ev (Ev_move rfl) ?_)) | (refine ek_assign ?_; first | (refine EK_ev (Ev_assign rfl) ?_)) | (refine ek_conv ?_; first | (refine EK_ev (Ev_convI64 rfl (by omega)) ?_) | (refine EK_ev (Ev_convI rfl) ?_) | (refine EK_ev (Ev_convS rfl) ?_)) | (refine ek_add ?_; first | (refine EK_ev (Ev_addI rfl rfl (by omega)) ?_) | (refine EK_ev (Ev_addS rfl rfl (by simp <;> omega)) ?_) | (refine EK_ev (Ev_add rfl rfl) ?_)) | (refine ek_quo ?_; first | (refine EK_ev (Ev_quoI rfl rfl (by omega)) ?_) | (refine EK_ev (Ev_quo rfl rfl (by omega)) ?_)) | (refine ek_lss ?_; first | (refine EK_ev (Ev_lssI rfl rfl) ?_) | (refine EK_ev (Ev_lssS rfl rfl) ?_)))
    | (refine is_ex ?_; first | (refine KJ_seq_normal ?_) | (refine KJ_seq_ret ?_) | (refine KJ_seq_exit ?_) | (refine KJ_thn_normal ?_) | (refine KJ_thn_ret ?_) | (refine KJ_thn_exit ?_) | (refine KJ_blk_normal ?_) | (refine KJ_blk_ret ?_) | (refine KJ_blk_exit ?_) | (refine KJ_blk_exit' rfl ?_))
    | (refine is_code ?_; first | (refine KJ_seq ?_) | (refine KJ_region ?_) | (refine KJ_cond_dec rfl (fun _ => ?_) (fun _ => ?_) <;> first | (exfalso; omega) | skip) | (refine KJ_cond_t rfl ?_) | (refine KJ_cond_f rfl ?_) | (refine KJ_skip ?_) | (refine KJ_ret ?_) | (refine KJ_exit ?_) | (refine KJ_block ?_)))
  refine KJ_loop (fun i : {y : Nat × Value // y.1 ≤ n} => [(0, .int .u64 ((x / 256 ^ i.1.1 : Nat) : Int)), (1, .int .i64 (n : Nat)), (5, i.1.2), (6, .int .i64 (i.1.1 : Nat))]) (fun i => [] ++ [rowP i.1.2 5 1 i.1.1 (bvs (putB (x : Nat) i.1.1))] ++ R) (fun i => n - i.1.1) ⟨(0, .slice none 0 0), by omega⟩ ?_ (fun g q => nilrow3 (H := []) g q) (fun ⟨⟨k, v⟩, hk⟩ => ?_)
  · have e : ((x / 256 ^ 0 : Nat) : Int) = (x : Nat) := by simp
    dsimp only
    rw [e]
    exact (by (repeat' (first | exact Subs.nil | refine Subs.cons rfl ?_)); first | done | fail)
  dsimp only at hk ⊢
  by_cases hlt : k < n
  · have hxk : x / 256 ^ k < 2 ^ 64 := Nat.lt_of_le_of_lt (Nat.div_le_self _ _) hx
    have hcv : IntKind.u8.wrap ((x / 256 ^ k : Nat) : Int) = (((byteAt (x : Nat) k).toNat : Nat) : Int) := by
      rw [u8_wrap, byteAt_div _ _ (by omega), UInt8.toNat_ofNat']
      congr 1
      omega
    have hq : IntKind.u64.wrap (((x / 256 ^ k : Nat) : Int).tdiv 256) = ((x / 256 ^ (k + 1) : Nat) : Int) := by
      rw [u64_tdiv _ hxk, Nat.div_div_eq_div_mul, Nat.pow_succ]
    have hnx : bvs (putB (x : Nat) k) ++ [.int .u8 ((byteAt (x : Nat) k).toNat : Int)] = bvs (putB (x : Nat) (k + 1)) := by rw [putB_next]; simp [bvs, bv]
    repeat' (first 
    | (refine is_list ?_; first | (refine KJ_plain ?_) | (refine KJ_nil ?_) | (refine KJ_guard_dec_t rfl rfl rfl (fun _ => ?_) (fun _ => ?_) <;> first | (exfalso; omega) | skip) | (refine KJ_guard_dec_f rfl rfl rfl (fun _ => ?_) (fun _ => ?_) <;> first | (exfalso; omega) | skip) | (refine KJ_guard_yes rfl rfl ?_) | (refine KJ_guard_no rfl rfl rfl rfl ?_))
    | (refine is_oper ?_; first | (refine is_append ?_; first | (refine KJ_append (a2 := 0) rfl rfl (by rfl) (by omega) (by (repeat' (first | exact Sel.here | apply Sel.there)); first | done | fail) (Src.cells (i := 1) (by (repeat' (first | exact Sel.here | apply Sel.there)); first | done | fail) (by (repeat' (first | exact Cut.nil | apply Cut.cons | apply Cut.skip)); first | done | fail)) (by rfl) (by omega) (by (repeat' (first | exact Ones.nil | exact Ones_bvs _ | refine Ones.cons rfl ?_)); first | done | fail) (by omega) (by omega) rfl rfl (fun gw cw => ?_))) | (refine is_bslice ?_; first | (refine KJ_bslice1 rfl (by first | exact CellsOf.agg | exact CellsOf.one rfl) (by rfl) (by omega) rfl (fun _ => ?_))) | (refine KJ_ek rfl ?_) | (refine KJ_ek0 ?_))
    | (refine is_ek ?_; first | (refine ek_move ?_; first | (refine EK_ev (Ev_move rfl) ?_)) | (refine ek_assign ?_; first | (refine EK_ev (Ev_assign rfl) ?_)) | (refine ek_conv ?_; first | (refine EK_ev (Ev_convI_v rfl hcv) ?_) | (refine EK_ev (Ev_convI64 rfl (by omega)) ?_) | (refine EK_ev (Ev_convI rfl) ?_) | (refine EK_ev (Ev_convS rfl) ?_)) | (refine ek_add ?_; first | (refine EK_ev (Ev_addI_v (r := ((k + 1 : Nat) : Int)) rfl rfl (by omega) (by omega)) ?_) | (refine EK_ev (Ev_addI rfl rfl (by omega)) ?_) | (refine EK_ev (Ev_addS rfl rfl (by simp <;> omega)) ?_) | (refine EK_ev (Ev_add rfl rfl) ?_)) | (refine ek_quo ?_; first | (refine EK_ev (Ev_quo_v rfl rfl (by omega) hq) ?_) | (refine EK_ev (Ev_quoI rfl rfl (by omega)) ?_) | (refine EK_ev (Ev_quo rfl rfl (by omega)) ?_)) | (refine ek_lss ?_; first | (refine EK_ev (Ev_lssI rfl rfl) ?_) | (refine EK_ev (Ev_lssS rfl rfl) ?_)))
    | (refine is_ex ?_; first | (refine KJ_seq_normal ?_) | (refine KJ_seq_ret ?_) | (refine KJ_seq_exit ?_) | (refine KJ_thn_normal ?_) | (refine KJ_thn_ret ?_) | (refine KJ_thn_exit ?_) | (refine KJ_blk_normal ?_) | (refine KJ_blk_ret ?_) | (refine KJ_blk_exit ?_) | (refine KJ_blk_exit' rfl ?_))
    | (refine is_code ?_; first | (refine KJ_seq ?_) | (refine KJ_region ?_) | (refine KJ_cond_dec rfl (fun _ => ?_) (fun _ => ?_) <;> first | (exfalso; omega) | skip) | (refine KJ_cond_t rfl ?_) | (refine KJ_cond_f rfl ?_) | (refine KJ_skip ?_) | (refine KJ_ret ?_) | (refine KJ_exit ?_) | (refine KJ_block ?_)))
    all_goals rw [hnx]
    all_goals refine KJ_again ⟨(k + 1, _), by omega⟩ (by show n - (k + 1) < n - k; omega) (by (repeat' (first | exact Subs.nil | refine Subs.cons rfl ?_)); first | done | fail) (Ent.of (by (repeat' (first | exact Pick.nil | apply Pick.cons | exact Sel.here | apply Sel.there)); first | done | fail) (by (repeat' (first | exact DropTo.refl | apply DropTo.there)); first | done | fail))
  · have hkn : k = n := by omega
    subst hkn
    refine KJ.row_shape3 (v := v) (by (repeat' (first | exact Sel.here | apply Sel.there)); first | done | fail) hn0 (fun g c e => ?_)
    subst e
    repeat' (first 
    | (refine is_list ?_; first | (refine KJ_plain ?_) | (refine KJ_nil ?_) | (refine KJ_guard_dec_t rfl rfl rfl (fun _ => ?_) (fun _ => ?_) <;> first | (exfalso; omega) | skip) | (refine KJ_guard_dec_f rfl rfl rfl (fun _ => ?_) (fun _ => ?_) <;> first | (exfalso; omega) | skip) | (refine KJ_guard_yes rfl rfl ?_) | (refine KJ_guard_no rfl rfl rfl rfl ?_))
    | (refine is_oper ?_; first | (refine KJ_ek rfl ?_) | (refine KJ_ek0 ?_))
    | (refine is_ek ?_; first | (refine ek_move ?_; first | (refine EK_ev (Ev_move rfl) ?_)) | (refine ek_assign ?_; first | (refine EK_ev (Ev_assign rfl) ?_)) | (refine ek_conv ?_; first | (refine EK_ev (Ev_bytesRow rfl (by (repeat' (first | exact Sel.here | apply Sel.there)); first | done | fail)) ?_) | (refine EK_ev (Ev_convI64 rfl (by omega)) ?_) | (refine EK_ev (Ev_convI rfl) ?_) | (refine EK_ev (Ev_convS rfl) ?_)) | (refine ek_add ?_; first | (refine EK_ev (Ev_addI rfl rfl (by omega)) ?_) | (refine EK_ev (Ev_addS rfl rfl (by simp <;> omega)) ?_) | (refine EK_ev (Ev_add rfl rfl) ?_)) | (refine ek_quo ?_; first | (refine EK_ev (Ev_quoI rfl rfl (by omega)) ?_) | (refine EK_ev (Ev_quo rfl rfl (by omega)) ?_)) | (refine ek_lss ?_; first | (refine EK_ev (Ev_lssI rfl rfl) ?_) | (refine EK_ev (Ev_lssS rfl rfl) ?_)))
    | (refine is_ex ?_; first | (refine KJ_seq_normal ?_) | (refine KJ_seq_ret ?_) | (refine KJ_seq_exit ?_) | (refine KJ_thn_normal ?_) | (refine KJ_thn_ret ?_) | (refine KJ_thn_exit ?_) | (refine KJ_blk_normal ?_) | (refine KJ_blk_ret ?_) | (refine KJ_blk_exit ?_) | (refine KJ_blk_exit' rfl ?_))
    | (refine is_code ?_; first | (refine KJ_seq ?_) | (refine KJ_region ?_) | (refine KJ_cond_dec rfl (fun _ => ?_) (fun _ => ?_) <;> first | (exfalso; omega) | skip) | (refine KJ_cond_t rfl ?_) | (refine KJ_cond_f rfl ?_) | (refine KJ_skip ?_) | (refine KJ_ret ?_) | (refine KJ_exit ?_) | (refine KJ_block ?_)))
    all_goals (refine is_ex ?_; exact KJ_done (by first | exact Or.inl rfl | exact Or.inr rfl) rfl (by (repeat' (first | exact Rvs.nil | (apply Rvs.tmp; exact rfl))); first | done | fail) () (by rfl) (Ent.of (by (repeat' (first | exact Pick.nil | apply Pick.cons | exact Sel.here | apply Sel.there)); first | done | fail) (by (repeat' (first | exact DropTo.refl | apply DropTo.there)); first | done | fail)))
set_option maxRecDepth 100000 in
theorem rnumber_ct (l : List UInt8) (hl : l.length = 8) : Ct Tryd.prog W 130 [strV l] [] (fun _ : Unit => .int .u64 (getB l 8)) (fun _ => []) := by
  obtain ⟨V, hV, hg, hb⟩ := getB_bytes l 8 (by omega)
  rw [hg]
  refine Ct.enter Tryd.func130 rfl Tryd.ntmps130 (by simp) (fun R => ?_)
  repeat' (first 
    | (refine is_list ?_; first | (refine KJ_plain ?_) | (refine KJ_nil ?_) | (refine KJ_guard_dec_t rfl rfl rfl (fun _ => ?_) (fun _ => ?_) <;> first | (exfalso; omega) | skip) | (refine KJ_guard_dec_f rfl rfl rfl (fun _ => ?_) (fun _ => ?_) <;> first | (exfalso; omega) | skip) | (refine KJ_guard_yes rfl rfl ?_) | (refine KJ_guard_no rfl rfl rfl rfl ?_))
    | (refine is_oper ?_; first | (refine KJ_ek rfl ?_) | (refine KJ_ek0 ?_))
    | (refine is_ek ?_; first | (refine ek_move ?_; first | (refine EK_ev (Ev_move rfl) ?_)) | (refine ek_assign ?_; first | (refine EK_ev (Ev_assign rfl) ?_)) | (refine ek_conv ?_; first | (refine EK_ev (Ev_convI64 rfl (by omega)) ?_) | (refine EK_ev (Ev_convI rfl) ?_) | (refine EK_ev (Ev_convS rfl) ?_)) | (refine ek_add ?_; first | (refine EK_ev (Ev_addI rfl rfl (by omega)) ?_) | (refine EK_ev (Ev_addS rfl rfl (by simp <;> omega)) ?_) | (refine EK_ev (Ev_add rfl rfl) ?_)) | (refine ek_sub ?_; first | (refine EK_ev (Ev_subI rfl rfl (by omega)) ?_) | (refine EK_ev (Ev_sub rfl rfl) ?_)) | (refine ek_mul ?_; first | (refine EK_ev (Ev_mulI rfl rfl (by omega)) ?_) | (refine EK_ev (Ev_mul rfl rfl) ?_)) | (refine ek_geq ?_; first | (refine EK_ev (Ev_geqI rfl rfl) ?_) | (refine EK_ev (Ev_geqS rfl rfl) ?_)))
    | (refine is_ex ?_; first | (refine KJ_seq_normal ?_) | (refine KJ_seq_ret ?_) | (refine KJ_seq_exit ?_) | (refine KJ_thn_normal ?_) | (refine KJ_thn_ret ?_) | (refine KJ_thn_exit ?_) | (refine KJ_blk_normal ?_) | (refine KJ_blk_ret ?_) | (refine KJ_blk_exit ?_) | (refine KJ_blk_exit' rfl ?_))
    | (refine is_code ?_; first | (refine KJ_seq ?_) | (refine KJ_region ?_) | (refine KJ_cond_dec rfl (fun _ => ?_) (fun _ => ?_) <;> first | (exfalso; omega) | skip) | (refine KJ_cond_t rfl ?_) | (refine KJ_cond_f rfl ?_) | (refine KJ_skip ?_) | (refine KJ_ret ?_) | (refine KJ_exit ?_) | (refine KJ_block ?_)))
  have h0 : V / 256 ^ 8 = 0 := Nat.div_eq_of_lt hV
  refine KJ_loop (fun j : {j : Nat // j ≤ 8} => [(0, strV l), (3, .int .u64 ((V / 256 ^ j.1 : Nat) : Int)), (4, .int .i64 ((j.1 : Int) - 1))]) (fun _ => R) (fun j => j.1) ⟨8, by omega⟩ ?_ (fun _ q => q) (fun ⟨j, hj⟩ => ?_)
  · dsimp only
    rw [h0]
    exact (by (repeat' (first | exact Subs.nil | refine Subs.cons rfl ?_)); first | done | fail)
  dsimp only
  cases j with
  | zero =>
    have hq : decide ((0 : Int) ≤ ((0 : Nat) : Int) - 1) = false := by decide
    have h1 : V / 256 ^ 0 = V := by simp
    rw [h1]
    repeat' (first 
    | (refine is_list ?_; first | (refine KJ_plain ?_) | (refine KJ_nil ?_) | (refine KJ_guard_dec_t rfl rfl rfl (fun _ => ?_) (fun _ => ?_) <;> first | (exfalso; omega) | skip) | (refine KJ_guard_dec_f rfl rfl rfl (fun _ => ?_) (fun _ => ?_) <;> first | (exfalso; omega) | skip) | (refine KJ_guard_yes rfl rfl ?_) | (refine KJ_guard_no rfl rfl rfl rfl ?_))
    | (refine is_oper ?_; first | (refine KJ_ek rfl ?_) | (refine KJ_ek0 ?_))
    | (refine is_ek ?_; first | (refine ek_move ?_; first | (refine EK_ev (Ev_move rfl) ?_)) | (refine ek_assign ?_; first | (refine EK_ev (Ev_assign rfl) ?_)) | (refine ek_conv ?_; first | (refine EK_ev (Ev_convI64 rfl (by omega)) ?_) | (refine EK_ev (Ev_convI rfl) ?_) | (refine EK_ev (Ev_convS rfl) ?_)) | (refine ek_add ?_; first | (refine EK_ev (Ev_addI rfl rfl (by omega)) ?_) | (refine EK_ev (Ev_addS rfl rfl (by simp <;> omega)) ?_) | (refine EK_ev (Ev_add rfl rfl) ?_)) | (refine ek_sub ?_; first | (refine EK_ev (Ev_subI rfl rfl (by omega)) ?_) | (refine EK_ev (Ev_sub rfl rfl) ?_)) | (refine ek_mul ?_; first | (refine EK_ev (Ev_mulI rfl rfl (by omega)) ?_) | (refine EK_ev (Ev_mul rfl rfl) ?_)) | (refine ek_geq ?_; first | (refine EK_ev (Ev_geqI_q rfl rfl hq) ?_) | (refine EK_ev (Ev_geqI rfl rfl) ?_) | (refine EK_ev (Ev_geqS rfl rfl) ?_)))
    | (refine is_ex ?_; first | (refine KJ_seq_normal ?_) | (refine KJ_seq_ret ?_) | (refine KJ_seq_exit ?_) | (refine KJ_thn_normal ?_) | (refine KJ_thn_ret ?_) | (refine KJ_thn_exit ?_) | (refine KJ_blk_normal ?_) | (refine KJ_blk_ret ?_) | (refine KJ_blk_exit ?_) | (refine KJ_blk_exit' rfl ?_))
    | (refine is_code ?_; first | (refine KJ_seq ?_) | (refine KJ_region ?_) | (refine KJ_cond_dec rfl (fun _ => ?_) (fun _ => ?_) <;> first | (exfalso; omega) | skip) | (refine KJ_cond_t rfl ?_) | (refine KJ_cond_f rfl ?_) | (refine KJ_skip ?_) | (refine KJ_ret ?_) | (refine KJ_exit ?_) | (refine KJ_block ?_)))
    all_goals (refine is_ex ?_; exact KJ_done (by first | exact Or.inl rfl | exact Or.inr rfl) rfl (by (repeat' (first | exact Rvs.nil | (apply Rvs.tmp; exact rfl))); first | done | fail) () (by rfl) (Ent.of (by (repeat' (first | exact Pick.nil | apply Pick.cons | exact Sel.here | apply Sel.there)); first | done | fail) (by (repeat' (first | exact DropTo.refl | apply DropTo.there)); first | done | fail)))
  | succ j =>
    have hq : decide ((0 : Int) ≤ ((j + 1 : Nat) : Int) - 1) = true := decide_eq_true (by omega)
    have hj1 : (((j + 1 : Nat) : Int) - 1).toNat = j := by omega
    obtain ⟨c, hc⟩ : ∃ c, l[j]? = some c := ⟨_, List.getElem?_eq_getElem (by omega)⟩
    have hc' : l[(((j + 1 : Nat) : Int) - 1).toNat]? = some c := by rw [hj1]; exact hc
    have hcb := UInt8.toNat_lt c
    have hbj := hb j (by omega)
    rw [List.getD, hc] at hbj
    have hbj : c = byteAt (V : Int) j := hbj
    have hcv : c.toNat = V / 256 ^ j % 256 := by
      rw [hbj, byteAt_div _ _ (by omega), UInt8.toNat_ofNat']
      omega
    have hd : V / 256 ^ (j + 1) = V / 256 ^ j / 256 := by rw [Nat.div_div_eq_div_mul, Nat.pow_succ]
    have hVj : V / 256 ^ j < 2 ^ 64 := Nat.lt_of_le_of_lt (Nat.div_le_self _ _) hV
    obtain ⟨a, ha⟩ : ∃ a, a = V / 256 ^ j := ⟨_, rfl⟩
    rw [← ha] at hcv hd hVj
    rw [hd]
    have hm : IntKind.u64.wrap (((a / 256 : Nat) : Int) * 256) = ((a / 256 * 256 : Nat) : Int) := by
      rw [show (((a / 256 : Nat) : Int) * 256) = ((a / 256 * 256 : Nat) : Int) by simp]
      exact u64_of_lt _ (by omega)
    have hw : IntKind.u64.wrap ((c.toNat : Nat) : Int) = ((c.toNat : Nat) : Int) := u64_of_lt _ (by omega)
    have ha2 : IntKind.u64.wrap (((a / 256 * 256 : Nat) : Int) + ((c.toNat : Nat) : Int)) = ((a : Nat) : Int) := by
      rw [show (((a / 256 * 256 : Nat) : Int) + ((c.toNat : Nat) : Int)) = ((a : Nat) : Int) by omega]
      exact u64_of_lt _ hVj
    repeat' (first 
    | (refine is_list ?_; first | (refine KJ_plain ?_) | (refine KJ_nil ?_) | (refine KJ_guard_dec_t rfl rfl rfl (fun _ => ?_) (fun _ => ?_) <;> first | (exfalso; omega) | skip) | (refine KJ_guard_dec_f rfl rfl rfl (fun _ => ?_) (fun _ => ?_) <;> first | (exfalso; omega) | skip) | (refine KJ_guard_yes rfl rfl ?_) | (refine KJ_guard_no rfl rfl rfl rfl ?_))
    | (refine is_oper ?_; first | (refine KJ_ek rfl ?_) | (refine KJ_ek0 ?_))
    | (refine is_ek ?_; first | (refine ek_move ?_; first | (refine EK_ev (Ev_move rfl) ?_)) | (refine ek_assign ?_; first | (refine EK_ev (Ev_assign rfl) ?_)) | (refine ek_conv ?_; first | (refine EK_ev (Ev_convI_v rfl hw) ?_) | (refine EK_ev (Ev_convI64 rfl (by omega)) ?_) | (refine EK_ev (Ev_convI rfl) ?_) | (refine EK_ev (Ev_convS rfl) ?_)) | (refine ek_index ?_; first | (refine EK_ev (Ev_indexStr rfl rfl (by omega) hc') ?_)) | (refine ek_add ?_; first | (refine EK_ev (Ev_add_v rfl rfl ha2) ?_) | (refine EK_ev (Ev_addI rfl rfl (by omega)) ?_) | (refine EK_ev (Ev_addS rfl rfl (by simp <;> omega)) ?_) | (refine EK_ev (Ev_add rfl rfl) ?_)) | (refine ek_sub ?_; first | (refine EK_ev (Ev_subI_v (r := ((j : Nat) : Int) - 1) rfl rfl (by omega) (by omega)) ?_) | (refine EK_ev (Ev_subI rfl rfl (by omega)) ?_) | (refine EK_ev (Ev_sub rfl rfl) ?_)) | (refine ek_mul ?_; first | (refine EK_ev (Ev_mul_v rfl rfl hm) ?_) | (refine EK_ev (Ev_mulI rfl rfl (by omega)) ?_) | (refine EK_ev (Ev_mul rfl rfl) ?_)) | (refine ek_geq ?_; first | (refine EK_ev (Ev_geqI_q rfl rfl hq) ?_) | (refine EK_ev (Ev_geqI rfl rfl) ?_) | (refine EK_ev (Ev_geqS rfl rfl) ?_)))
    | (refine is_ex ?_; first | (refine KJ_seq_normal ?_) | (refine KJ_seq_ret ?_) | (refine KJ_seq_exit ?_) | (refine KJ_thn_normal ?_) | (refine KJ_thn_ret ?_) | (refine KJ_thn_exit ?_) | (refine KJ_blk_normal ?_) | (refine KJ_blk_ret ?_) | (refine KJ_blk_exit ?_) | (refine KJ_blk_exit' rfl ?_))
    | (refine is_code ?_; first | (refine KJ_seq ?_) | (refine KJ_region ?_) | (refine KJ_cond_dec rfl (fun _ => ?_) (fun _ => ?_) <;> first | (exfalso; omega) | skip) | (refine KJ_cond_t rfl ?_) | (refine KJ_cond_f rfl ?_) | (refine KJ_skip ?_) | (refine KJ_ret ?_) | (refine KJ_exit ?_) | (refine KJ_block ?_)))
    all_goals refine KJ_again ⟨j, by omega⟩ (by show j < j + 1; omega) ?_ (fun _ q => q)
    all_goals dsimp only
    all_goals rw [← ha]
    all_goals exact (by (repeat' (first | exact Subs.nil | refine Subs.cons rfl ?_)); first | done | fail)
end
end Go.Proofs.YteklldbfdmaafaaDoor
/-
  The document's sectors (remitref07): Seal, Open, Ends.
-/
namespace Go.Proofs.YteklldbfdmaafaaDoor
open Go Go.RowKit

section
variable {P : Program} {W : World} {n d m : Nat} {k : KK} {E : Env} {H : List SP} {x y z : Operand} {t e : TypeId}
theorem KJ_makeBytesV {C : Int} {l : List UInt8} (hx : Env.ev E x = some (.int .i64 C)) (hy : Env.ev E y = some (.int .i64 C)) [hu : UIs P t (.slice e)] [hs : SzIs P e 1] [hb : ByIs P e 1] [hz : ZcIs P e [.int .u8 0]] (_ : t = t) (hC : C = (m : Int)) (hm : m ≤ 140737488355328) (hl : List.replicate m 0 = l) (hn : Nat.blt d n = true)
    (h : ∀ g, KJ W n k ((d, .slice (some ⟨g, 0, none⟩) m m) :: E) (cellsP g (bvs l) e :: H)) : KJ W n (.oper P (.makeSlice t x y) (some d) k) E H := by
  subst hl; exact KJ_makeBytes hx hy hC hm hn h
theorem Ev_sliceStr_v7 {l r : List UInt8} {i j : Int} {ki kj : IntKind} (hx : Env.ev E x = some (strV l)) (hy : Env.ev E y = some (.int ki i)) (hz : Env.ev E z = some (.int kj j)) [hu : UIs P t .string] (hb : 0 ≤ i ∧ i ≤ j ∧ j ≤ l.length) (h : (l.take j.toNat).drop i.toNat = r) : Ev P W n E H (.slice t x (some y) (some z) none) (strV r) := by
  subst h; exact Ev_sliceStr hx hy hz hb
end
section
variable {W : World}
theorem rseal_zero (pl : List UInt8) : Ct Tryd.prog W 90 [.int .u64 0, strV pl] [] (fun _ : Unit => .tuple #[strV [], .int .i64 6]) (fun _ => []) := by
  refine Ct.enter Tryd.func90 rfl Tryd.ntmps90 (by simp) (fun R => ?_)
  repeat' (first 
    | (refine is_list ?_; first | (refine KJ_plain ?_) | (refine KJ_nil ?_) | (refine KJ_guard_dec_t rfl rfl rfl (fun _ => ?_) (fun _ => ?_) <;> first | (exfalso; omega) | skip) | (refine KJ_guard_dec_f rfl rfl rfl (fun _ => ?_) (fun _ => ?_) <;> first | (exfalso; omega) | skip) | (refine KJ_guard_yes rfl rfl ?_) | (refine KJ_guard_no rfl rfl rfl rfl ?_))
    | (refine is_oper ?_; first | (refine KJ_ek rfl ?_) | (refine KJ_ek0 ?_))
    | (refine is_ek ?_; first | (refine ek_move ?_; first | (refine EK_ev (Ev_move rfl) ?_)) | (refine ek_assign ?_; first | (refine EK_ev (Ev_assign rfl) ?_)) | (refine ek_conv ?_; first | (refine EK_ev (Ev_convI64 rfl (by omega)) ?_) | (refine EK_ev (Ev_convI rfl) ?_) | (refine EK_ev (Ev_convS rfl) ?_)) | (refine ek_len ?_; first | (refine EK_ev (Ev_len_str rfl) ?_) | (refine EK_ev (Ev_len_slice rfl) ?_) | (refine EK_ev (Ev_len_arr rfl) ?_) | (refine EK_ev (Ev_len_map rfl (by (repeat' (first | exact Sel.here | apply Sel.there)); first | done | fail)) ?_)) | (refine ek_add ?_; first | (refine EK_ev (Ev_addI rfl rfl (by omega)) ?_) | (refine EK_ev (Ev_addS rfl rfl (by simp <;> omega)) ?_) | (refine EK_ev (Ev_add rfl rfl) ?_)) | (refine ek_sub ?_; first | (refine EK_ev (Ev_subI rfl rfl (by omega)) ?_) | (refine EK_ev (Ev_sub rfl rfl) ?_)) | (refine ek_eql ?_; first | (refine EK_ev (Ev_eqlI_t rfl rfl rfl) ?_) | (refine EK_ev (Ev_eqlI rfl rfl) ?_) | (refine EK_ev (Ev_eqlS rfl rfl) ?_) | (refine EK_ev (Ev_eqlNil rfl rfl) ?_) | (refine EK_ev (Ev_eqlB rfl rfl) ?_) | (refine EK_ev (Ev_eqlO rfl rfl rfl (fun _ => rfl)) ?_)) | (refine ek_gtr ?_; first | (refine EK_ev (Ev_gtrI rfl rfl) ?_) | (refine EK_ev (Ev_gtrS rfl rfl) ?_)))
    | (refine is_ex ?_; first | (refine KJ_seq_normal ?_) | (refine KJ_seq_ret ?_) | (refine KJ_seq_exit ?_) | (refine KJ_thn_normal ?_) | (refine KJ_thn_ret ?_) | (refine KJ_thn_exit ?_) | (refine KJ_blk_normal ?_) | (refine KJ_blk_ret ?_) | (refine KJ_blk_exit ?_) | (refine KJ_blk_exit' rfl ?_))
    | (refine is_code ?_; first | (refine KJ_seq ?_) | (refine KJ_region ?_) | (refine KJ_cond_dec rfl (fun _ => ?_) (fun _ => ?_) <;> first | (exfalso; omega) | skip) | (refine KJ_cond_t rfl ?_) | (refine KJ_cond_f rfl ?_) | (refine KJ_skip ?_) | (refine KJ_ret ?_) | (refine KJ_exit ?_) | (refine KJ_block ?_) | (refine KJ_draws (id := 5) (.op 0 (.op 2 (.op 3 (.op 4 (.op 7 (.op 9 (.op 10 (.op 11 (.alt (.ef 1 [11, 10, 9, 7, 4, 3, 2] (.alt (.ef 5 [11, 10, 9, 7] (.op 6 (.op 8 (.ef 12 [8, 6, 7] (.op 13 (.op 14 (.op 15 .nil))))))) (.ef 12 [7, 4, 3, 2] (.op 13 (.ef 5 [13, 7] (.op 6 (.op 8 (.op 14 (.op 15 .nil))))))))) (.ef 12 [7, 4, 3, 2, 0] (.op 13 (.ef 1 [13, 7, 4, 3, 2] (.ef 5 [13, 7] (.op 6 (.op 8 (.op 14 (.op 15 .nil))))))))))))))))) (by kernel_rfl) (by kernel_rfl) ?_))
    | (refine is_fw ?_; first | (refine FW_open rfl ?_) | (refine FW_nil ?_) | (refine FW_ef rfl ?_) | (refine FW_efg rfl rfl rfl ?_) | (refine FW_alt ?_ ?_))
    | (refine is_fo ?_; first | (refine FO_dec_t rfl rfl (fun _ => ?_) (fun _ => ?_) <;> first | (exfalso; omega) | skip) | (refine FO_dec_f rfl rfl (fun _ => ?_) (fun _ => ?_) <;> first | (exfalso; omega) | skip) | (refine FO_no rfl rfl rfl rfl ?_) | (refine FO_ekg rfl rfl rfl ?_) | (refine FO_ek rfl ?_))
    | (refine is_ro ?_; first | (refine RO_no rfl rfl rfl rfl ?_) | (refine RO_ekg rfl rfl ?_) | (refine RO_ek ?_))
    | (refine is_raw ?_; first | (refine KJ_flow ?_ ?_))
    | (refine AtR_mk rfl ?_)
    | exact Rech.nil
    | (refine Rech_open rfl ?_))
  all_goals (refine is_ex ?_; exact KJ_done (by first | exact Or.inl rfl | exact Or.inr rfl) rfl (by (repeat' (first | exact Rvs.nil | (apply Rvs.tmp; exact rfl))); first | done | fail) () (by rfl) (Ent.of (by (repeat' (first | exact Pick.nil | apply Pick.cons | exact Sel.here | apply Sel.there)); first | done | fail) (by (repeat' (first | exact DropTo.refl | apply DropTo.there)); first | done | fail)))
theorem rseal_long (stamp : Nat) (h0 : stamp ≠ 0) (pl : List UInt8) (h : 234 < pl.length) : Ct Tryd.prog W 90 [.int .u64 (stamp : Nat), strV pl] [] (fun _ : Unit => .tuple #[strV [], .int .i64 3]) (fun _ => []) := by
  have q1 : ((stamp : Nat) : Int) ≠ 0 := by omega
  have q2 : decide ((234 : Int) < (pl.length : Nat)) = true := decide_eq_true (by omega)
  refine Ct.enter Tryd.func90 rfl Tryd.ntmps90 (by simp) (fun R => ?_)
  repeat' (first 
    | (refine is_list ?_; first | (refine KJ_plain ?_) | (refine KJ_nil ?_) | (refine KJ_guard_dec_t rfl rfl rfl (fun _ => ?_) (fun _ => ?_) <;> first | (exfalso; omega) | skip) | (refine KJ_guard_dec_f rfl rfl rfl (fun _ => ?_) (fun _ => ?_) <;> first | (exfalso; omega) | skip) | (refine KJ_guard_yes rfl rfl ?_) | (refine KJ_guard_no rfl rfl rfl rfl ?_))
    | (refine is_oper ?_; first | (refine KJ_ek rfl ?_) | (refine KJ_ek0 ?_))
    | (refine is_ek ?_; first | (refine ek_move ?_; first | (refine EK_ev (Ev_move rfl) ?_)) | (refine ek_assign ?_; first | (refine EK_ev (Ev_assign rfl) ?_)) | (refine ek_conv ?_; first | (refine EK_ev (Ev_convI64 rfl (by omega)) ?_) | (refine EK_ev (Ev_convI rfl) ?_) | (refine EK_ev (Ev_convS rfl) ?_)) | (refine ek_len ?_; first | (refine EK_ev (Ev_len_str rfl) ?_) | (refine EK_ev (Ev_len_slice rfl) ?_) | (refine EK_ev (Ev_len_arr rfl) ?_) | (refine EK_ev (Ev_len_map rfl (by (repeat' (first | exact Sel.here | apply Sel.there)); first | done | fail)) ?_)) | (refine ek_add ?_; first | (refine EK_ev (Ev_addI rfl rfl (by omega)) ?_) | (refine EK_ev (Ev_addS rfl rfl (by simp <;> omega)) ?_) | (refine EK_ev (Ev_add rfl rfl) ?_)) | (refine ek_sub ?_; first | (refine EK_ev (Ev_subI rfl rfl (by omega)) ?_) | (refine EK_ev (Ev_sub rfl rfl) ?_)) | (refine ek_eql ?_; first | (refine EK_ev (Ev_eqlI_f rfl rfl q1) ?_) | (refine EK_ev (Ev_eqlI rfl rfl) ?_) | (refine EK_ev (Ev_eqlS rfl rfl) ?_) | (refine EK_ev (Ev_eqlNil rfl rfl) ?_) | (refine EK_ev (Ev_eqlB rfl rfl) ?_) | (refine EK_ev (Ev_eqlO rfl rfl rfl (fun _ => rfl)) ?_)) | (refine ek_gtr ?_; first | (refine EK_ev (Ev_gtrI_q rfl rfl q2) ?_) | (refine EK_ev (Ev_gtrI rfl rfl) ?_) | (refine EK_ev (Ev_gtrS rfl rfl) ?_)))
    | (refine is_ex ?_; first | (refine KJ_seq_normal ?_) | (refine KJ_seq_ret ?_) | (refine KJ_seq_exit ?_) | (refine KJ_thn_normal ?_) | (refine KJ_thn_ret ?_) | (refine KJ_thn_exit ?_) | (refine KJ_blk_normal ?_) | (refine KJ_blk_ret ?_) | (refine KJ_blk_exit ?_) | (refine KJ_blk_exit' rfl ?_))
    | (refine is_code ?_; first | (refine KJ_seq ?_) | (refine KJ_region ?_) | (refine KJ_cond_dec rfl (fun _ => ?_) (fun _ => ?_) <;> first | (exfalso; omega) | skip) | (refine KJ_cond_t rfl ?_) | (refine KJ_cond_f rfl ?_) | (refine KJ_skip ?_) | (refine KJ_ret ?_) | (refine KJ_exit ?_) | (refine KJ_block ?_) | (refine KJ_draws (id := 5) (.op 0 (.op 2 (.op 3 (.op 4 (.op 7 (.op 9 (.op 10 (.op 11 (.alt (.ef 1 [11, 10, 9, 7, 4, 3, 2] (.alt (.ef 5 [11, 10, 9, 7] (.op 6 (.op 8 (.ef 12 [8, 6, 7] (.op 13 (.op 14 (.op 15 .nil))))))) (.ef 12 [7, 4, 3, 2] (.op 13 (.ef 5 [13, 7] (.op 6 (.op 8 (.op 14 (.op 15 .nil))))))))) (.ef 12 [7, 4, 3, 2, 0] (.op 13 (.ef 1 [13, 7, 4, 3, 2] (.ef 5 [13, 7] (.op 6 (.op 8 (.op 14 (.op 15 .nil))))))))))))))))) (by kernel_rfl) (by kernel_rfl) ?_))
    | (refine is_fw ?_; first | (refine FW_open rfl ?_) | (refine FW_nil ?_) | (refine FW_ef rfl ?_) | (refine FW_efg rfl rfl rfl ?_) | (refine FW_alt ?_ ?_))
    | (refine is_fo ?_; first | (refine FO_dec_t rfl rfl (fun _ => ?_) (fun _ => ?_) <;> first | (exfalso; omega) | skip) | (refine FO_dec_f rfl rfl (fun _ => ?_) (fun _ => ?_) <;> first | (exfalso; omega) | skip) | (refine FO_no rfl rfl rfl rfl ?_) | (refine FO_ekg rfl rfl rfl ?_) | (refine FO_ek rfl ?_))
    | (refine is_ro ?_; first | (refine RO_no rfl rfl rfl rfl ?_) | (refine RO_ekg rfl rfl ?_) | (refine RO_ek ?_))
    | (refine is_raw ?_; first | (refine KJ_flow ?_ ?_))
    | (refine AtR_mk rfl ?_)
    | exact Rech.nil
    | (refine Rech_open rfl ?_))
  all_goals (refine is_ex ?_; exact KJ_done (by first | exact Or.inl rfl | exact Or.inr rfl) rfl (by (repeat' (first | exact Rvs.nil | (apply Rvs.tmp; exact rfl))); first | done | fail) () (by rfl) (Ent.of (by (repeat' (first | exact Pick.nil | apply Pick.cons | exact Sel.here | apply Sel.there)); first | done | fail) (by (repeat' (first | exact DropTo.refl | apply DropTo.there)); first | done | fail)))
set_option maxHeartbeats 1000000 in
set_option maxRecDepth 100000 in
theorem rseal_ok (stamp : Nat) (h0 : stamp ≠ 0) (hst : stamp < 2 ^ 64) (pl : List UInt8) (h : pl.length ≤ 234) : Ct Tryd.prog W 90 [.int .u64 (stamp : Nat), strV pl] [] (fun _ : Unit => .tuple #[strV (sealB (stamp : Nat) pl), .int .i64 0]) (fun _ => []) := by
  have q1 : ((stamp : Nat) : Int) ≠ 0 := by omega
  have q2 : decide ((234 : Int) < (pl.length : Nat)) = false := decide_eq_false (by omega)
  have hw : IntKind.u64.wrap (pl.length : Nat) = ((pl.length : Nat) : Int) := u64_of_lt _ (by omega)
  obtain ⟨L8, hL8⟩ : ∃ L, L = putB (stamp : Nat) 8 := ⟨_, rfl⟩
  obtain ⟨L2, hL2⟩ : ∃ L, L = putB ((pl.length : Nat) : Int) 2 := ⟨_, rfl⟩
  obtain ⟨Z, hZ⟩ : ∃ Z : List UInt8, Z = List.replicate (234 - pl.length) 0 := ⟨_, rfl⟩
  have l8 : L8.length = 8 := by rw [hL8, putB_length]
  have l2 : L2.length = 2 := by rw [hL2, putB_length]
  have lz : Z.length = 234 - pl.length := by rw [hZ, List.length_replicate]
  have c8 : Ct Tryd.prog W 119 [.int .u64 (stamp : Nat), .int .i64 8] [] (fun _ : Unit => strV L8) (fun _ => []) := by rw [hL8]; exact rlow_ct stamp hst 8 (by omega) (by omega)
  have c2 : Ct Tryd.prog W 119 [.int .u64 (pl.length : Nat), .int .i64 2] [] (fun _ : Unit => strV L2) (fun _ => []) := by rw [hL2]; exact rlow_ct pl.length (by omega) 2 (by omega) (by omega)
  have hhead : L8 ++ L2 ++ pl ++ Z = sealHead (stamp : Nat) pl := by
    unfold sealHead
    rw [hL8, hL2, hZ, hw]
    simp only [List.append_assoc]
    rfl
  have hsl := sealHead_length ((stamp : Nat) : Int) pl h
  have hcb := crcSum_bounds (sealHead (stamp : Nat) pl)
  obtain ⟨C, hC⟩ : ∃ C : Nat, crcSum (sealHead (stamp : Nat) pl) = (C : Nat) := ⟨(crcSum (sealHead (stamp : Nat) pl)).toNat, by omega⟩
  have hcC : C < 4294967296 := by omega
  have cs : Ct Tryd.prog W 120 [strV (L8 ++ L2 ++ pl ++ Z)] [] (fun _ : Unit => .int .u32 (C : Nat)) (fun _ => []) := by
    rw [hhead, ← hC]; exact rsum_ct _ (by omega)
  have hwc : IntKind.u64.wrap (C : Nat) = ((C : Nat) : Int) := u64_of_lt _ (by omega)
  obtain ⟨L4, hL4⟩ : ∃ L, L = putB (C : Nat) 4 := ⟨_, rfl⟩
  have l4 : L4.length = 4 := by rw [hL4, putB_length]
  have c4 : Ct Tryd.prog W 119 [.int .u64 (C : Nat), .int .i64 4] [] (fun _ : Unit => strV L4) (fun _ => []) := by rw [hL4]; exact rlow_ct C (by omega) 4 (by omega) (by omega)
  have hall : L8 ++ L2 ++ pl ++ Z ++ L4 ++ L8 = sealB (stamp : Nat) pl := by
    rw [seal_concat _ _ h, hhead, hC, hwc, hL4, hL8]
    simp only [List.append_assoc]
  rw [← hall]
  have hZ' : List.replicate (234 - pl.length) (0 : UInt8) = Z := hZ.symm
  clear hall hhead hsl hcb hC hL4 hL8 hL2
  refine Ct.enter Tryd.func90 rfl Tryd.ntmps90 (by simp) (fun R => ?_)
  repeat' (first 
    | (refine is_list ?_; first | (refine KJ_plain ?_) | (refine KJ_nil ?_) | (refine KJ_guard_dec_t rfl rfl rfl (fun _ => ?_) (fun _ => ?_) <;> first | (exfalso; omega) | skip) | (refine KJ_guard_dec_f rfl rfl rfl (fun _ => ?_) (fun _ => ?_) <;> first | (exfalso; omega) | skip) | (refine KJ_guard_yes rfl rfl ?_) | (refine KJ_guard_no rfl rfl rfl rfl ?_))
    | (refine is_oper ?_; first | (refine is_call ?_; first | (refine KJ_call (by (repeat' (first | exact Evs.nil | refine Evs.cons rfl ?_)); first | done | fail) c4 (by (repeat' (first | exact Pick.nil | apply Pick.cons | exact Sel.here | apply Sel.there)); first | done | fail) rfl (fun _ => ?_)) | (refine KJ_call (by (repeat' (first | exact Evs.nil | refine Evs.cons rfl ?_)); first | done | fail) cs (by (repeat' (first | exact Pick.nil | apply Pick.cons | exact Sel.here | apply Sel.there)); first | done | fail) rfl (fun _ => ?_)) | (refine KJ_call (by (repeat' (first | exact Evs.nil | refine Evs.cons rfl ?_)); first | done | fail) c2 (by (repeat' (first | exact Pick.nil | apply Pick.cons | exact Sel.here | apply Sel.there)); first | done | fail) rfl (fun _ => ?_)) | (refine KJ_call (by (repeat' (first | exact Evs.nil | refine Evs.cons rfl ?_)); first | done | fail) c8 (by (repeat' (first | exact Pick.nil | apply Pick.cons | exact Sel.here | apply Sel.there)); first | done | fail) rfl (fun _ => ?_))) | (refine is_mkSlice ?_; first | (refine KJ_makeBytesV (m := 234 - pl.length) rfl rfl rfl (by omega) (by omega) hZ' rfl (fun g => ?_))) | (refine KJ_ek rfl ?_) | (refine KJ_ek0 ?_))
    | (refine is_ek ?_; first | (refine ek_move ?_; first | (refine EK_ev (Ev_move rfl) ?_)) | (refine ek_assign ?_; first | (refine EK_ev (Ev_assign rfl) ?_)) | (refine ek_conv ?_; first | (refine EK_ev (Ev_bytesAll rfl (by (repeat' (first | exact Sel.here | apply Sel.there)); first | done | fail) lz) ?_) | (refine EK_ev (Ev_convI_v rfl hwc) ?_) | (refine EK_ev (Ev_convI_v rfl hw) ?_) | (refine EK_ev (Ev_convI64 rfl (by omega)) ?_) | (refine EK_ev (Ev_convI rfl) ?_) | (refine EK_ev (Ev_convS rfl) ?_)) | (refine ek_len ?_; first | (refine EK_ev (Ev_len_str rfl) ?_) | (refine EK_ev (Ev_len_slice rfl) ?_) | (refine EK_ev (Ev_len_arr rfl) ?_) | (refine EK_ev (Ev_len_map rfl (by (repeat' (first | exact Sel.here | apply Sel.there)); first | done | fail)) ?_)) | (refine ek_add ?_; first | (refine EK_ev (Ev_addS rfl rfl (by first | omega | (simp only [List.length_append]; omega))) ?_) | (refine EK_ev (Ev_addI rfl rfl (by omega)) ?_) | (refine EK_ev (Ev_addS rfl rfl (by simp <;> omega)) ?_) | (refine EK_ev (Ev_add rfl rfl) ?_)) | (refine ek_sub ?_; first | (refine EK_ev (Ev_subI rfl rfl (by omega)) ?_) | (refine EK_ev (Ev_sub rfl rfl) ?_)) | (refine ek_eql ?_; first | (refine EK_ev (Ev_eqlI_f rfl rfl q1) ?_) | (refine EK_ev (Ev_eqlI rfl rfl) ?_) | (refine EK_ev (Ev_eqlS rfl rfl) ?_) | (refine EK_ev (Ev_eqlNil rfl rfl) ?_) | (refine EK_ev (Ev_eqlB rfl rfl) ?_) | (refine EK_ev (Ev_eqlO rfl rfl rfl (fun _ => rfl)) ?_)) | (refine ek_gtr ?_; first | (refine EK_ev (Ev_gtrI_q rfl rfl q2) ?_) | (refine EK_ev (Ev_gtrI rfl rfl) ?_) | (refine EK_ev (Ev_gtrS rfl rfl) ?_)))
    | (refine is_ex ?_; first | (refine KJ_seq_normal ?_) | (refine KJ_seq_ret ?_) | (refine KJ_seq_exit ?_) | (refine KJ_thn_normal ?_) | (refine KJ_thn_ret ?_) | (refine KJ_thn_exit ?_) | (refine KJ_blk_normal ?_) | (refine KJ_blk_ret ?_) | (refine KJ_blk_exit ?_) | (refine KJ_blk_exit' rfl ?_))
    | (refine is_code ?_; first | (refine KJ_seq ?_) | (refine KJ_region ?_) | (refine KJ_cond_dec rfl (fun _ => ?_) (fun _ => ?_) <;> first | (exfalso; omega) | skip) | (refine KJ_cond_t rfl ?_) | (refine KJ_cond_f rfl ?_) | (refine KJ_skip ?_) | (refine KJ_ret ?_) | (refine KJ_exit ?_) | (refine KJ_block ?_) | (refine KJ_draws (id := 5) (.op 0 (.op 2 (.op 3 (.op 4 (.op 7 (.op 9 (.op 10 (.op 11 (.alt (.ef 1 [11, 10, 9, 7, 4, 3, 2] (.alt (.ef 5 [11, 10, 9, 7] (.op 6 (.op 8 (.ef 12 [8, 6, 7] (.op 13 (.op 14 (.op 15 .nil))))))) (.ef 12 [7, 4, 3, 2] (.op 13 (.ef 5 [13, 7] (.op 6 (.op 8 (.op 14 (.op 15 .nil))))))))) (.ef 12 [7, 4, 3, 2, 0] (.op 13 (.ef 1 [13, 7, 4, 3, 2] (.ef 5 [13, 7] (.op 6 (.op 8 (.op 14 (.op 15 .nil))))))))))))))))) (by kernel_rfl) (by kernel_rfl) ?_))
    | (refine is_fw ?_; first | (refine FW_open rfl ?_) | (refine FW_nil ?_) | (refine FW_ef rfl ?_) | (refine FW_efg rfl rfl rfl ?_) | (refine FW_alt ?_ ?_))
    | (refine is_fo ?_; first | (refine FO_dec_t rfl rfl (fun _ => ?_) (fun _ => ?_) <;> first | (exfalso; omega) | skip) | (refine FO_dec_f rfl rfl (fun _ => ?_) (fun _ => ?_) <;> first | (exfalso; omega) | skip) | (refine FO_no rfl rfl rfl rfl ?_) | (refine FO_ekg rfl rfl rfl ?_) | (refine FO_ek rfl ?_))
    | (refine is_ro ?_; first | (refine RO_no rfl rfl rfl rfl ?_) | (refine RO_ekg rfl rfl ?_) | (refine RO_ek ?_))
    | (refine is_raw ?_; first | (refine KJ_flow ?_ ?_))
    | (refine AtR_mk rfl ?_)
    | exact Rech.nil
    | (refine Rech_open rfl ?_))
  all_goals (refine is_ex ?_; exact KJ_done (by first | exact Or.inl rfl | exact Or.inr rfl) rfl (by (repeat' (first | exact Rvs.nil | (apply Rvs.tmp; exact rfl))); first | done | fail) () (by rfl) (Ent.of (by (repeat' (first | exact Pick.nil | apply Pick.cons | exact Sel.here | apply Sel.there)); first | done | fail) (by (repeat' (first | exact DropTo.refl | apply DropTo.there)); first | done | fail)))
theorem rseal_ct (stamp : Nat) (hst : stamp < 2 ^ 64) (pl : List UInt8) : Ct Tryd.prog W 90 [.int .u64 (stamp : Nat), strV pl] [] (fun _ : Unit => .tuple #[strV (sealS (stamp : Nat) pl), .int .i64 (sealE (stamp : Nat) pl : Nat)]) (fun _ => []) := by
  by_cases h0 : stamp = 0
  · subst h0
    exact rseal_zero pl
  have h0' : ¬ (((stamp : Nat) : Int) = 0) := by omega
  by_cases h : 234 < pl.length
  · have e1 : sealS (stamp : Nat) pl = [] := by unfold sealS; rw [if_neg h0', if_pos h]
    have e2 : sealE (stamp : Nat) pl = 3 := by unfold sealE; rw [if_neg h0', if_pos h]
    rw [e1, e2]; exact rseal_long stamp h0 pl h
  · have e1 : sealS (stamp : Nat) pl = sealB (stamp : Nat) pl := by unfold sealS; rw [if_neg h0', if_neg h]
    have e2 : sealE (stamp : Nat) pl = 0 := by unfold sealE; rw [if_neg h0', if_neg h]
    rw [e1, e2]; exact rseal_ok stamp h0 hst pl (by omega)
theorem ropen_len (stamp : Int) (raw : List UInt8) (h : raw.length ≠ 256) : Ct Tryd.prog W 116 [.int .u64 stamp, strV raw] [] (fun _ : Unit => .tuple #[strV [], .bool false]) (fun _ => []) := by
  have q1 : ((raw.length : Nat) : Int) ≠ 256 := by omega
  refine Ct.enter Tryd.func116 rfl Tryd.ntmps116 (by simp) (fun R => ?_)
  repeat' (first 
    | (refine is_list ?_; first | (refine KJ_plain ?_) | (refine KJ_nil ?_) | (refine KJ_guard_dec_t rfl rfl rfl (fun _ => ?_) (fun _ => ?_) <;> first | (exfalso; omega) | skip) | (refine KJ_guard_dec_f rfl rfl rfl (fun _ => ?_) (fun _ => ?_) <;> first | (exfalso; omega) | skip) | (refine KJ_guard_yes rfl rfl ?_) | (refine KJ_guard_no rfl rfl rfl rfl ?_))
    | (refine is_oper ?_; first | (refine KJ_ek rfl ?_) | (refine KJ_ek0 ?_))
    | (refine is_ek ?_; first | (refine ek_move ?_; first | (refine EK_ev (Ev_move rfl) ?_)) | (refine ek_assign ?_; first | (refine EK_ev (Ev_assign rfl) ?_)) | (refine ek_pick ?_; first | (refine EK_ev (Ev_pick_t rfl rfl) ?_) | (refine EK_ev (Ev_pick_f rfl rfl) ?_)) | (refine ek_conv ?_; first | (refine EK_ev (Ev_convI64 rfl (by omega)) ?_) | (refine EK_ev (Ev_convI rfl) ?_) | (refine EK_ev (Ev_convS rfl) ?_)) | (refine ek_extract ?_; first | (refine EK_ev (Ev_extract rfl rfl) ?_)) | (refine ek_len ?_; first | (refine EK_ev (Ev_len_str rfl) ?_) | (refine EK_ev (Ev_len_slice rfl) ?_) | (refine EK_ev (Ev_len_arr rfl) ?_) | (refine EK_ev (Ev_len_map rfl (by (repeat' (first | exact Sel.here | apply Sel.there)); first | done | fail)) ?_)) | (refine ek_add ?_; first | (refine EK_ev (Ev_addI rfl rfl (by omega)) ?_) | (refine EK_ev (Ev_addS rfl rfl (by simp <;> omega)) ?_) | (refine EK_ev (Ev_add rfl rfl) ?_)) | (refine ek_mul ?_; first | (refine EK_ev (Ev_mulI rfl rfl (by omega)) ?_) | (refine EK_ev (Ev_mul rfl rfl) ?_)) | (refine ek_neq ?_; first | (refine EK_ev (Ev_neqI_t rfl rfl q1) ?_) | (refine EK_ev (Ev_neqI rfl rfl) ?_) | (refine EK_ev (Ev_neqS rfl rfl) ?_) | (refine EK_ev (Ev_neqNil rfl rfl) ?_) | (refine EK_ev (Ev_neqB rfl rfl) ?_) | (refine EK_ev (Ev_neqO rfl rfl rfl (fun _ => rfl)) ?_)) | (refine ek_gtr ?_; first | (refine EK_ev (Ev_gtrI rfl rfl) ?_) | (refine EK_ev (Ev_gtrS rfl rfl) ?_)))
    | (refine is_ex ?_; first | (refine KJ_seq_normal ?_) | (refine KJ_seq_ret ?_) | (refine KJ_seq_exit ?_) | (refine KJ_thn_normal ?_) | (refine KJ_thn_ret ?_) | (refine KJ_thn_exit ?_) | (refine KJ_blk_normal ?_) | (refine KJ_blk_ret ?_) | (refine KJ_blk_exit ?_) | (refine KJ_blk_exit' rfl ?_))
    | (refine is_code ?_; first | (refine KJ_seq ?_) | (refine KJ_region ?_) | (refine KJ_cond_dec rfl (fun _ => ?_) (fun _ => ?_) <;> first | (exfalso; omega) | skip) | (refine KJ_cond_t rfl ?_) | (refine KJ_cond_f rfl ?_) | (refine KJ_skip ?_) | (refine KJ_ret ?_) | (refine KJ_exit ?_) | (refine KJ_block ?_) | (refine KJ_draws (id := 3) (.op 0 (.op 1 (.op 2 (.op 3 (.op 4 (.op 5 (.op 6 (.op 7 (.op 8 .nil))))))))) (by kernel_rfl) (by kernel_rfl) ?_))
    | (refine is_fw ?_; first | (refine FW_open rfl ?_) | (refine FW_nil ?_) | (refine FW_ef rfl ?_) | (refine FW_efg rfl rfl rfl ?_) | (refine FW_alt ?_ ?_))
    | (refine is_fo ?_; first | (refine FO_dec_t rfl rfl (fun _ => ?_) (fun _ => ?_) <;> first | (exfalso; omega) | skip) | (refine FO_dec_f rfl rfl (fun _ => ?_) (fun _ => ?_) <;> first | (exfalso; omega) | skip) | (refine FO_no rfl rfl rfl rfl ?_) | (refine FO_ekg rfl rfl rfl ?_) | (refine FO_ek rfl ?_))
    | (refine is_ro ?_; first | (refine RO_no rfl rfl rfl rfl ?_) | (refine RO_ekg rfl rfl ?_) | (refine RO_ek ?_))
    | (refine is_raw ?_; first | (refine KJ_flow ?_ ?_))
    | (refine AtR_mk rfl ?_)
    | exact Rech.nil
    | (refine Rech_open rfl ?_))
  all_goals (refine is_ex ?_; exact KJ_done (by first | exact Or.inl rfl | exact Or.inr rfl) rfl (by (repeat' (first | exact Rvs.nil | (apply Rvs.tmp; exact rfl))); first | done | fail) () (by rfl) (Ent.of (by (repeat' (first | exact Pick.nil | apply Pick.cons | exact Sel.here | apply Sel.there)); first | done | fail) (by (repeat' (first | exact DropTo.refl | apply DropTo.there)); first | done | fail)))
set_option maxHeartbeats 1000000 in
theorem ropen_ct (stamp : Nat) (hst : stamp < 2 ^ 64) (raw : List UInt8) : Ct Tryd.prog W 116 [.int .u64 (stamp : Nat), strV raw] [] (fun _ : Unit => .tuple #[strV ((openS (stamp : Nat) raw).getD []), .bool (openS (stamp : Nat) raw).isSome]) (fun _ => []) := by
  by_cases hl : raw.length ≠ 256
  · have e : openS (stamp : Nat) raw = none := by unfold openS; rw [if_pos hl]; split <;> rfl
    rw [e]; exact ropen_len _ raw hl
  have hl : raw.length = 256 := by omega
  have q1 : ((raw.length : Nat) : Int) = 256 := by omega
  obtain ⟨c8, h8⟩ : ∃ c, raw[8]? = some c := ⟨_, List.getElem?_eq_getElem (by omega)⟩
  obtain ⟨c9, h9⟩ : ∃ c, raw[9]? = some c := ⟨_, List.getElem?_eq_getElem (by omega)⟩
  have hN : openN raw = c8.toNat + 256 * c9.toNat := by rw [openN_val]; simp [List.getD, h8, h9]
  have b8 := UInt8.toNat_lt c8
  have b9 := UInt8.toNat_lt c9
  have hm : (256 : Int) * ((c9.toNat : Nat) : Int) = ((256 * c9.toNat : Nat) : Int) := by omega
  have ha : ((c8.toNat : Nat) : Int) + ((256 * c9.toNat : Nat) : Int) = ((openN raw : Nat) : Int) := by rw [hN]; omega
  have i8 : raw[(8 : Int).toNat]? = some c8 := h8
  have i9 : raw[(9 : Int).toNat]? = some c9 := h9
  have hn : openN raw < 65536 + 256 := by omega
  obtain ⟨n, hnn⟩ : ∃ n, n = openN raw := ⟨_, rfl⟩
  by_cases hbig : 234 < openN raw
  · have q2 : decide ((234 : Int) < ((n : Nat) : Int)) = true := decide_eq_true (by omega)
    have e : openS (stamp : Nat) raw = none := by unfold openS; rw [if_neg (show ¬ raw.length ≠ 256 by omega), if_pos hbig]; split <;> rfl
    rw [e]
    rw [← hnn] at ha hn
    refine Ct.enter Tryd.func116 rfl Tryd.ntmps116 (by simp) (fun R => ?_)
    repeat' (first 
    | (refine is_list ?_; first | (refine KJ_plain ?_) | (refine KJ_nil ?_) | (refine KJ_guard_dec_t rfl rfl rfl (fun _ => ?_) (fun _ => ?_) <;> first | (exfalso; omega) | skip) | (refine KJ_guard_dec_f rfl rfl rfl (fun _ => ?_) (fun _ => ?_) <;> first | (exfalso; omega) | skip) | (refine KJ_guard_yes rfl rfl ?_) | (refine KJ_guard_no rfl rfl rfl rfl ?_))
    | (refine is_oper ?_; first | (refine KJ_ek rfl ?_) | (refine KJ_ek0 ?_))
    | (refine is_ek ?_; first | (refine ek_move ?_; first | (refine EK_ev (Ev_move rfl) ?_)) | (refine ek_assign ?_; first | (refine EK_ev (Ev_assign rfl) ?_)) | (refine ek_pick ?_; first | (refine EK_ev (Ev_pick_t rfl rfl) ?_) | (refine EK_ev (Ev_pick_f rfl rfl) ?_)) | (refine ek_conv ?_; first | (refine EK_ev (Ev_convI64 rfl (by omega)) ?_) | (refine EK_ev (Ev_convI rfl) ?_) | (refine EK_ev (Ev_convS rfl) ?_)) | (refine ek_extract ?_; first | (refine EK_ev (Ev_extract rfl rfl) ?_)) | (refine ek_index ?_; first | (refine EK_ev (Ev_indexStr rfl rfl (by omega) i9) ?_) | (refine EK_ev (Ev_indexStr rfl rfl (by omega) i8) ?_)) | (refine ek_len ?_; first | (refine EK_ev (Ev_len_str rfl) ?_) | (refine EK_ev (Ev_len_slice rfl) ?_) | (refine EK_ev (Ev_len_arr rfl) ?_) | (refine EK_ev (Ev_len_map rfl (by (repeat' (first | exact Sel.here | apply Sel.there)); first | done | fail)) ?_)) | (refine ek_add ?_; first | (refine EK_ev (Ev_addI_v rfl rfl ha (by omega)) ?_) | (refine EK_ev (Ev_addI rfl rfl (by omega)) ?_) | (refine EK_ev (Ev_addS rfl rfl (by simp <;> omega)) ?_) | (refine EK_ev (Ev_add rfl rfl) ?_)) | (refine ek_mul ?_; first | (refine EK_ev (Ev_mulI_v rfl rfl hm (by omega)) ?_) | (refine EK_ev (Ev_mulI rfl rfl (by omega)) ?_) | (refine EK_ev (Ev_mul rfl rfl) ?_)) | (refine ek_neq ?_; first | (refine EK_ev (Ev_neqI_f rfl rfl q1) ?_) | (refine EK_ev (Ev_neqI rfl rfl) ?_) | (refine EK_ev (Ev_neqS rfl rfl) ?_) | (refine EK_ev (Ev_neqNil rfl rfl) ?_) | (refine EK_ev (Ev_neqB rfl rfl) ?_) | (refine EK_ev (Ev_neqO rfl rfl rfl (fun _ => rfl)) ?_)) | (refine ek_gtr ?_; first | (refine EK_ev (Ev_gtrI_q rfl rfl q2) ?_) | (refine EK_ev (Ev_gtrI rfl rfl) ?_) | (refine EK_ev (Ev_gtrS rfl rfl) ?_)))
    | (refine is_ex ?_; first | (refine KJ_seq_normal ?_) | (refine KJ_seq_ret ?_) | (refine KJ_seq_exit ?_) | (refine KJ_thn_normal ?_) | (refine KJ_thn_ret ?_) | (refine KJ_thn_exit ?_) | (refine KJ_blk_normal ?_) | (refine KJ_blk_ret ?_) | (refine KJ_blk_exit ?_) | (refine KJ_blk_exit' rfl ?_))
    | (refine is_code ?_; first | (refine KJ_seq ?_) | (refine KJ_region ?_) | (refine KJ_cond_dec rfl (fun _ => ?_) (fun _ => ?_) <;> first | (exfalso; omega) | skip) | (refine KJ_cond_t rfl ?_) | (refine KJ_cond_f rfl ?_) | (refine KJ_skip ?_) | (refine KJ_ret ?_) | (refine KJ_exit ?_) | (refine KJ_block ?_) | (refine KJ_draws (id := 3) (.op 0 (.op 1 (.op 2 (.op 3 (.op 4 (.op 5 (.op 6 (.op 7 (.op 8 .nil))))))))) (by kernel_rfl) (by kernel_rfl) ?_))
    | (refine is_fw ?_; first | (refine FW_open rfl ?_) | (refine FW_nil ?_) | (refine FW_ef rfl ?_) | (refine FW_efg rfl rfl rfl ?_) | (refine FW_alt ?_ ?_))
    | (refine is_fo ?_; first | (refine FO_dec_t rfl rfl (fun _ => ?_) (fun _ => ?_) <;> first | (exfalso; omega) | skip) | (refine FO_dec_f rfl rfl (fun _ => ?_) (fun _ => ?_) <;> first | (exfalso; omega) | skip) | (refine FO_no rfl rfl rfl rfl ?_) | (refine FO_ekg rfl rfl rfl ?_) | (refine FO_ek rfl ?_))
    | (refine is_ro ?_; first | (refine RO_no rfl rfl rfl rfl ?_) | (refine RO_ekg rfl rfl ?_) | (refine RO_ek ?_))
    | (refine is_raw ?_; first | (refine KJ_flow ?_ ?_))
    | (refine AtR_mk rfl ?_)
    | exact Rech.nil
    | (refine Rech_open rfl ?_))
    all_goals (refine is_ex ?_; exact KJ_done (by first | exact Or.inl rfl | exact Or.inr rfl) rfl (by (repeat' (first | exact Rvs.nil | (apply Rvs.tmp; exact rfl))); first | done | fail) () (by rfl) (Ent.of (by (repeat' (first | exact Pick.nil | apply Pick.cons | exact Sel.here | apply Sel.there)); first | done | fail) (by (repeat' (first | exact DropTo.refl | apply DropTo.there)); first | done | fail)))
  · have q2 : decide ((234 : Int) < ((n : Nat) : Int)) = false := decide_eq_false (by omega)
    have hP : (raw.take (((10 + n : Nat) : Int)).toNat).drop (10 : Int).toNat = openP raw := by rw [Int.toNat_natCast, hnn]; rfl
    have hPl : (openP raw).length ≤ 234 := by rw [openP_length raw hl (by omega)]; omega
    rw [← hnn] at ha hn
    obtain ⟨pl, hpl⟩ : ∃ pl, pl = openP raw := ⟨_, rfl⟩
    have e : openS (stamp : Nat) raw = if ((stamp : Nat) : Int) = 0 then none else if sealB (stamp : Nat) pl = raw then some pl else none := by
      unfold openS
      rw [if_neg (show ¬ raw.length ≠ 256 by omega), if_neg hbig, hpl]
    rw [← hpl] at hP hPl
    rw [e]
    by_cases h0 : stamp = 0
    · subst h0
      rw [if_pos (by simp)]
      have c1 := rseal_zero (W := W) pl
      refine Ct.enter Tryd.func116 rfl Tryd.ntmps116 (by simp) (fun R => ?_)
      repeat' (first 
    | (refine is_list ?_; first | (refine KJ_plain ?_) | (refine KJ_nil ?_) | (refine KJ_guard_dec_t rfl rfl rfl (fun _ => ?_) (fun _ => ?_) <;> first | (exfalso; omega) | skip) | (refine KJ_guard_dec_f rfl rfl rfl (fun _ => ?_) (fun _ => ?_) <;> first | (exfalso; omega) | skip) | (refine KJ_guard_yes rfl rfl ?_) | (refine KJ_guard_no rfl rfl rfl rfl ?_))
    | (refine is_oper ?_; first | (refine is_call ?_; first | (refine KJ_call (by (repeat' (first | exact Evs.nil | refine Evs.cons rfl ?_)); first | done | fail) c1 (by (repeat' (first | exact Pick.nil | apply Pick.cons | exact Sel.here | apply Sel.there)); first | done | fail) rfl (fun _ => ?_))) | (refine KJ_ek rfl ?_) | (refine KJ_ek0 ?_))
    | (refine is_ek ?_; first | (refine ek_move ?_; first | (refine EK_ev (Ev_move rfl) ?_)) | (refine ek_assign ?_; first | (refine EK_ev (Ev_assign rfl) ?_)) | (refine ek_pick ?_; first | (refine EK_ev (Ev_pick_t rfl rfl) ?_) | (refine EK_ev (Ev_pick_f rfl rfl) ?_)) | (refine ek_conv ?_; first | (refine EK_ev (Ev_convI64 rfl (by omega)) ?_) | (refine EK_ev (Ev_convI rfl) ?_) | (refine EK_ev (Ev_convS rfl) ?_)) | (refine ek_extract ?_; first | (refine EK_ev (Ev_extract rfl rfl) ?_)) | (refine ek_index ?_; first | (refine EK_ev (Ev_indexStr rfl rfl (by omega) i9) ?_) | (refine EK_ev (Ev_indexStr rfl rfl (by omega) i8) ?_)) | (refine ek_slice ?_; first | (refine EK_ev (Ev_sliceStr_v7 rfl rfl rfl (by omega) hP) ?_)) | (refine ek_len ?_; first | (refine EK_ev (Ev_len_str rfl) ?_) | (refine EK_ev (Ev_len_slice rfl) ?_) | (refine EK_ev (Ev_len_arr rfl) ?_) | (refine EK_ev (Ev_len_map rfl (by (repeat' (first | exact Sel.here | apply Sel.there)); first | done | fail)) ?_)) | (refine ek_add ?_; first | (refine EK_ev (Ev_addI_v (r := ((10 + n : Nat) : Int)) rfl rfl (by omega) (by omega)) ?_) | (refine EK_ev (Ev_addI_v rfl rfl ha (by omega)) ?_) | (refine EK_ev (Ev_addI rfl rfl (by omega)) ?_) | (refine EK_ev (Ev_addS rfl rfl (by simp <;> omega)) ?_) | (refine EK_ev (Ev_add rfl rfl) ?_)) | (refine ek_mul ?_; first | (refine EK_ev (Ev_mulI_v rfl rfl hm (by omega)) ?_) | (refine EK_ev (Ev_mulI rfl rfl (by omega)) ?_) | (refine EK_ev (Ev_mul rfl rfl) ?_)) | (refine ek_neq ?_; first | (refine EK_ev (Ev_neqI_t rfl rfl (by decide)) ?_) | (refine EK_ev (Ev_neqI_f rfl rfl q1) ?_) | (refine EK_ev (Ev_neqI rfl rfl) ?_) | (refine EK_ev (Ev_neqS rfl rfl) ?_) | (refine EK_ev (Ev_neqNil rfl rfl) ?_) | (refine EK_ev (Ev_neqB rfl rfl) ?_) | (refine EK_ev (Ev_neqO rfl rfl rfl (fun _ => rfl)) ?_)) | (refine ek_gtr ?_; first | (refine EK_ev (Ev_gtrI_q rfl rfl q2) ?_) | (refine EK_ev (Ev_gtrI rfl rfl) ?_) | (refine EK_ev (Ev_gtrS rfl rfl) ?_)))
    | (refine is_ex ?_; first | (refine KJ_seq_normal ?_) | (refine KJ_seq_ret ?_) | (refine KJ_seq_exit ?_) | (refine KJ_thn_normal ?_) | (refine KJ_thn_ret ?_) | (refine KJ_thn_exit ?_) | (refine KJ_blk_normal ?_) | (refine KJ_blk_ret ?_) | (refine KJ_blk_exit ?_) | (refine KJ_blk_exit' rfl ?_))
    | (refine is_code ?_; first | (refine KJ_seq ?_) | (refine KJ_region ?_) | (refine KJ_cond_dec rfl (fun _ => ?_) (fun _ => ?_) <;> first | (exfalso; omega) | skip) | (refine KJ_cond_t rfl ?_) | (refine KJ_cond_f rfl ?_) | (refine KJ_skip ?_) | (refine KJ_ret ?_) | (refine KJ_exit ?_) | (refine KJ_block ?_) | (refine KJ_draws (id := 3) (.op 0 (.op 1 (.op 2 (.op 3 (.op 4 (.op 5 (.op 6 (.op 7 (.op 8 .nil))))))))) (by kernel_rfl) (by kernel_rfl) ?_))
    | (refine is_fw ?_; first | (refine FW_open rfl ?_) | (refine FW_nil ?_) | (refine FW_ef rfl ?_) | (refine FW_efg rfl rfl rfl ?_) | (refine FW_alt ?_ ?_))
    | (refine is_fo ?_; first | (refine FO_dec_t rfl rfl (fun _ => ?_) (fun _ => ?_) <;> first | (exfalso; omega) | skip) | (refine FO_dec_f rfl rfl (fun _ => ?_) (fun _ => ?_) <;> first | (exfalso; omega) | skip) | (refine FO_no rfl rfl rfl rfl ?_) | (refine FO_ekg rfl rfl rfl ?_) | (refine FO_ek rfl ?_))
    | (refine is_ro ?_; first | (refine RO_no rfl rfl rfl rfl ?_) | (refine RO_ekg rfl rfl ?_) | (refine RO_ek ?_))
    | (refine is_raw ?_; first | (refine KJ_flow ?_ ?_))
    | (refine AtR_mk rfl ?_)
    | exact Rech.nil
    | (refine Rech_open rfl ?_))
      all_goals (refine is_ex ?_; exact KJ_done (by first | exact Or.inl rfl | exact Or.inr rfl) rfl (by (repeat' (first | exact Rvs.nil | (apply Rvs.tmp; exact rfl))); first | done | fail) () (by rfl) (Ent.of (by (repeat' (first | exact Pick.nil | apply Pick.cons | exact Sel.here | apply Sel.there)); first | done | fail) (by (repeat' (first | exact DropTo.refl | apply DropTo.there)); first | done | fail)))
    · rw [if_neg (by omega)]
      have c1 := rseal_ok (W := W) stamp h0 hst pl hPl
      by_cases hs : sealB (stamp : Nat) pl = raw
      · rw [if_pos hs]
        refine Ct.enter Tryd.func116 rfl Tryd.ntmps116 (by simp) (fun R => ?_)
        repeat' (first 
    | (refine is_list ?_; first | (refine KJ_plain ?_) | (refine KJ_nil ?_) | (refine KJ_guard_dec_t rfl rfl rfl (fun _ => ?_) (fun _ => ?_) <;> first | (exfalso; omega) | skip) | (refine KJ_guard_dec_f rfl rfl rfl (fun _ => ?_) (fun _ => ?_) <;> first | (exfalso; omega) | skip) | (refine KJ_guard_yes rfl rfl ?_) | (refine KJ_guard_no rfl rfl rfl rfl ?_))
    | (refine is_oper ?_; first | (refine is_call ?_; first | (refine KJ_call (by (repeat' (first | exact Evs.nil | refine Evs.cons rfl ?_)); first | done | fail) c1 (by (repeat' (first | exact Pick.nil | apply Pick.cons | exact Sel.here | apply Sel.there)); first | done | fail) rfl (fun _ => ?_))) | (refine KJ_ek rfl ?_) | (refine KJ_ek0 ?_))
    | (refine is_ek ?_; first | (refine ek_move ?_; first | (refine EK_ev (Ev_move rfl) ?_)) | (refine ek_assign ?_; first | (refine EK_ev (Ev_assign rfl) ?_)) | (refine ek_pick ?_; first | (refine EK_ev (Ev_pick_t rfl rfl) ?_) | (refine EK_ev (Ev_pick_f rfl rfl) ?_)) | (refine ek_conv ?_; first | (refine EK_ev (Ev_convI64 rfl (by omega)) ?_) | (refine EK_ev (Ev_convI rfl) ?_) | (refine EK_ev (Ev_convS rfl) ?_)) | (refine ek_extract ?_; first | (refine EK_ev (Ev_extract rfl rfl) ?_)) | (refine ek_index ?_; first | (refine EK_ev (Ev_indexStr rfl rfl (by omega) i9) ?_) | (refine EK_ev (Ev_indexStr rfl rfl (by omega) i8) ?_)) | (refine ek_slice ?_; first | (refine EK_ev (Ev_sliceStr_v7 rfl rfl rfl (by omega) hP) ?_)) | (refine ek_len ?_; first | (refine EK_ev (Ev_len_str rfl) ?_) | (refine EK_ev (Ev_len_slice rfl) ?_) | (refine EK_ev (Ev_len_arr rfl) ?_) | (refine EK_ev (Ev_len_map rfl (by (repeat' (first | exact Sel.here | apply Sel.there)); first | done | fail)) ?_)) | (refine ek_add ?_; first | (refine EK_ev (Ev_addI_v (r := ((10 + n : Nat) : Int)) rfl rfl (by omega) (by omega)) ?_) | (refine EK_ev (Ev_addI_v rfl rfl ha (by omega)) ?_) | (refine EK_ev (Ev_addI rfl rfl (by omega)) ?_) | (refine EK_ev (Ev_addS rfl rfl (by simp <;> omega)) ?_) | (refine EK_ev (Ev_add rfl rfl) ?_)) | (refine ek_mul ?_; first | (refine EK_ev (Ev_mulI_v rfl rfl hm (by omega)) ?_) | (refine EK_ev (Ev_mulI rfl rfl (by omega)) ?_) | (refine EK_ev (Ev_mul rfl rfl) ?_)) | (refine ek_neq ?_; first | (refine EK_ev (Ev_neqS_f rfl rfl hs) ?_) | (refine EK_ev (Ev_neqI_f rfl rfl (by rfl)) ?_) | (refine EK_ev (Ev_neqI_f rfl rfl q1) ?_) | (refine EK_ev (Ev_neqI rfl rfl) ?_) | (refine EK_ev (Ev_neqS rfl rfl) ?_) | (refine EK_ev (Ev_neqNil rfl rfl) ?_) | (refine EK_ev (Ev_neqB rfl rfl) ?_) | (refine EK_ev (Ev_neqO rfl rfl rfl (fun _ => rfl)) ?_)) | (refine ek_gtr ?_; first | (refine EK_ev (Ev_gtrI_q rfl rfl q2) ?_) | (refine EK_ev (Ev_gtrI rfl rfl) ?_) | (refine EK_ev (Ev_gtrS rfl rfl) ?_)))
    | (refine is_ex ?_; first | (refine KJ_seq_normal ?_) | (refine KJ_seq_ret ?_) | (refine KJ_seq_exit ?_) | (refine KJ_thn_normal ?_) | (refine KJ_thn_ret ?_) | (refine KJ_thn_exit ?_) | (refine KJ_blk_normal ?_) | (refine KJ_blk_ret ?_) | (refine KJ_blk_exit ?_) | (refine KJ_blk_exit' rfl ?_))
    | (refine is_code ?_; first | (refine KJ_seq ?_) | (refine KJ_region ?_) | (refine KJ_cond_dec rfl (fun _ => ?_) (fun _ => ?_) <;> first | (exfalso; omega) | skip) | (refine KJ_cond_t rfl ?_) | (refine KJ_cond_f rfl ?_) | (refine KJ_skip ?_) | (refine KJ_ret ?_) | (refine KJ_exit ?_) | (refine KJ_block ?_) | (refine KJ_draws (id := 3) (.op 0 (.op 1 (.op 2 (.op 3 (.op 4 (.op 5 (.op 6 (.op 7 (.op 8 .nil))))))))) (by kernel_rfl) (by kernel_rfl) ?_))
    | (refine is_fw ?_; first | (refine FW_open rfl ?_) | (refine FW_nil ?_) | (refine FW_ef rfl ?_) | (refine FW_efg rfl rfl rfl ?_) | (refine FW_alt ?_ ?_))
    | (refine is_fo ?_; first | (refine FO_dec_t rfl rfl (fun _ => ?_) (fun _ => ?_) <;> first | (exfalso; omega) | skip) | (refine FO_dec_f rfl rfl (fun _ => ?_) (fun _ => ?_) <;> first | (exfalso; omega) | skip) | (refine FO_no rfl rfl rfl rfl ?_) | (refine FO_ekg rfl rfl rfl ?_) | (refine FO_ek rfl ?_))
    | (refine is_ro ?_; first | (refine RO_no rfl rfl rfl rfl ?_) | (refine RO_ekg rfl rfl ?_) | (refine RO_ek ?_))
    | (refine is_raw ?_; first | (refine KJ_flow ?_ ?_))
    | (refine AtR_mk rfl ?_)
    | exact Rech.nil
    | (refine Rech_open rfl ?_))
        all_goals (refine is_ex ?_; exact KJ_done (by first | exact Or.inl rfl | exact Or.inr rfl) rfl (by (repeat' (first | exact Rvs.nil | (apply Rvs.tmp; exact rfl))); first | done | fail) () (by rfl) (Ent.of (by (repeat' (first | exact Pick.nil | apply Pick.cons | exact Sel.here | apply Sel.there)); first | done | fail) (by (repeat' (first | exact DropTo.refl | apply DropTo.there)); first | done | fail)))
      · rw [if_neg hs]
        refine Ct.enter Tryd.func116 rfl Tryd.ntmps116 (by simp) (fun R => ?_)
        repeat' (first 
    | (refine is_list ?_; first | (refine KJ_plain ?_) | (refine KJ_nil ?_) | (refine KJ_guard_dec_t rfl rfl rfl (fun _ => ?_) (fun _ => ?_) <;> first | (exfalso; omega) | skip) | (refine KJ_guard_dec_f rfl rfl rfl (fun _ => ?_) (fun _ => ?_) <;> first | (exfalso; omega) | skip) | (refine KJ_guard_yes rfl rfl ?_) | (refine KJ_guard_no rfl rfl rfl rfl ?_))
    | (refine is_oper ?_; first | (refine is_call ?_; first | (refine KJ_call (by (repeat' (first | exact Evs.nil | refine Evs.cons rfl ?_)); first | done | fail) c1 (by (repeat' (first | exact Pick.nil | apply Pick.cons | exact Sel.here | apply Sel.there)); first | done | fail) rfl (fun _ => ?_))) | (refine KJ_ek rfl ?_) | (refine KJ_ek0 ?_))
    | (refine is_ek ?_; first | (refine ek_move ?_; first | (refine EK_ev (Ev_move rfl) ?_)) | (refine ek_assign ?_; first | (refine EK_ev (Ev_assign rfl) ?_)) | (refine ek_pick ?_; first | (refine EK_ev (Ev_pick_t rfl rfl) ?_) | (refine EK_ev (Ev_pick_f rfl rfl) ?_)) | (refine ek_conv ?_; first | (refine EK_ev (Ev_convI64 rfl (by omega)) ?_) | (refine EK_ev (Ev_convI rfl) ?_) | (refine EK_ev (Ev_convS rfl) ?_)) | (refine ek_extract ?_; first | (refine EK_ev (Ev_extract rfl rfl) ?_)) | (refine ek_index ?_; first | (refine EK_ev (Ev_indexStr rfl rfl (by omega) i9) ?_) | (refine EK_ev (Ev_indexStr rfl rfl (by omega) i8) ?_)) | (refine ek_slice ?_; first | (refine EK_ev (Ev_sliceStr_v7 rfl rfl rfl (by omega) hP) ?_)) | (refine ek_len ?_; first | (refine EK_ev (Ev_len_str rfl) ?_) | (refine EK_ev (Ev_len_slice rfl) ?_) | (refine EK_ev (Ev_len_arr rfl) ?_) | (refine EK_ev (Ev_len_map rfl (by (repeat' (first | exact Sel.here | apply Sel.there)); first | done | fail)) ?_)) | (refine ek_add ?_; first | (refine EK_ev (Ev_addI_v (r := ((10 + n : Nat) : Int)) rfl rfl (by omega) (by omega)) ?_) | (refine EK_ev (Ev_addI_v rfl rfl ha (by omega)) ?_) | (refine EK_ev (Ev_addI rfl rfl (by omega)) ?_) | (refine EK_ev (Ev_addS rfl rfl (by simp <;> omega)) ?_) | (refine EK_ev (Ev_add rfl rfl) ?_)) | (refine ek_mul ?_; first | (refine EK_ev (Ev_mulI_v rfl rfl hm (by omega)) ?_) | (refine EK_ev (Ev_mulI rfl rfl (by omega)) ?_) | (refine EK_ev (Ev_mul rfl rfl) ?_)) | (refine ek_neq ?_; first | (refine EK_ev (Ev_neqS_t rfl rfl hs) ?_) | (refine EK_ev (Ev_neqI_f rfl rfl (by rfl)) ?_) | (refine EK_ev (Ev_neqI_f rfl rfl q1) ?_) | (refine EK_ev (Ev_neqI rfl rfl) ?_) | (refine EK_ev (Ev_neqS rfl rfl) ?_) | (refine EK_ev (Ev_neqNil rfl rfl) ?_) | (refine EK_ev (Ev_neqB rfl rfl) ?_) | (refine EK_ev (Ev_neqO rfl rfl rfl (fun _ => rfl)) ?_)) | (refine ek_gtr ?_; first | (refine EK_ev (Ev_gtrI_q rfl rfl q2) ?_) | (refine EK_ev (Ev_gtrI rfl rfl) ?_) | (refine EK_ev (Ev_gtrS rfl rfl) ?_)))
    | (refine is_ex ?_; first | (refine KJ_seq_normal ?_) | (refine KJ_seq_ret ?_) | (refine KJ_seq_exit ?_) | (refine KJ_thn_normal ?_) | (refine KJ_thn_ret ?_) | (refine KJ_thn_exit ?_) | (refine KJ_blk_normal ?_) | (refine KJ_blk_ret ?_) | (refine KJ_blk_exit ?_) | (refine KJ_blk_exit' rfl ?_))
    | (refine is_code ?_; first | (refine KJ_seq ?_) | (refine KJ_region ?_) | (refine KJ_cond_dec rfl (fun _ => ?_) (fun _ => ?_) <;> first | (exfalso; omega) | skip) | (refine KJ_cond_t rfl ?_) | (refine KJ_cond_f rfl ?_) | (refine KJ_skip ?_) | (refine KJ_ret ?_) | (refine KJ_exit ?_) | (refine KJ_block ?_) | (refine KJ_draws (id := 3) (.op 0 (.op 1 (.op 2 (.op 3 (.op 4 (.op 5 (.op 6 (.op 7 (.op 8 .nil))))))))) (by kernel_rfl) (by kernel_rfl) ?_))
    | (refine is_fw ?_; first | (refine FW_open rfl ?_) | (refine FW_nil ?_) | (refine FW_ef rfl ?_) | (refine FW_efg rfl rfl rfl ?_) | (refine FW_alt ?_ ?_))
    | (refine is_fo ?_; first | (refine FO_dec_t rfl rfl (fun _ => ?_) (fun _ => ?_) <;> first | (exfalso; omega) | skip) | (refine FO_dec_f rfl rfl (fun _ => ?_) (fun _ => ?_) <;> first | (exfalso; omega) | skip) | (refine FO_no rfl rfl rfl rfl ?_) | (refine FO_ekg rfl rfl rfl ?_) | (refine FO_ek rfl ?_))
    | (refine is_ro ?_; first | (refine RO_no rfl rfl rfl rfl ?_) | (refine RO_ekg rfl rfl ?_) | (refine RO_ek ?_))
    | (refine is_raw ?_; first | (refine KJ_flow ?_ ?_))
    | (refine AtR_mk rfl ?_)
    | exact Rech.nil
    | (refine Rech_open rfl ?_))
        all_goals (refine is_ex ?_; exact KJ_done (by first | exact Or.inl rfl | exact Or.inr rfl) rfl (by (repeat' (first | exact Rvs.nil | (apply Rvs.tmp; exact rfl))); first | done | fail) () (by rfl) (Ent.of (by (repeat' (first | exact Pick.nil | apply Pick.cons | exact Sel.here | apply Sel.there)); first | done | fail) (by (repeat' (first | exact DropTo.refl | apply DropTo.there)); first | done | fail)))
theorem rends_ct (raw : List UInt8) : Ct Tryd.prog W 115 [strV raw] [] (fun _ : Unit => .tuple #[.int .u64 (endsH raw), .int .u64 (endsT raw), .int .i64 (endsE raw : Nat)]) (fun _ => []) := by
  unfold endsH endsT endsE
  by_cases hl : raw.length = 256
  · rw [if_pos hl, if_pos hl, if_pos hl]
    have q1 : ((raw.length : Nat) : Int) = 256 := by omega
    have hH : getB (raw.take 8) 8 = getB raw 8 := by
      obtain ⟨v, hv, hg, hb⟩ := getB_bytes raw 8 (by omega)
      rw [hg, getB_of _ v 8 (by omega) (fun i hi => by rw [← hb i hi]; simp [List.getD, hi]), Nat.mod_eq_of_lt hv]
    have c1 : Ct Tryd.prog W 130 [strV (raw.take (8 : Int).toNat)] [] (fun _ : Unit => .int .u64 (getB raw 8)) (fun _ => []) := by rw [← hH]; exact rnumber_ct (raw.take 8) (by simp; omega)
    have c2 : Ct Tryd.prog W 130 [strV (raw.drop (248 : Int).toNat)] [] (fun _ : Unit => .int .u64 (getB (raw.drop 248) 8)) (fun _ => []) := rnumber_ct (raw.drop 248) (by simp; omega)
    refine Ct.enter Tryd.func115 rfl Tryd.ntmps115 (by simp) (fun R => ?_)
    repeat' (first 
    | (refine is_list ?_; first | (refine KJ_plain ?_) | (refine KJ_nil ?_) | (refine KJ_guard_dec_t rfl rfl rfl (fun _ => ?_) (fun _ => ?_) <;> first | (exfalso; omega) | skip) | (refine KJ_guard_dec_f rfl rfl rfl (fun _ => ?_) (fun _ => ?_) <;> first | (exfalso; omega) | skip) | (refine KJ_guard_yes rfl rfl ?_) | (refine KJ_guard_no rfl rfl rfl rfl ?_))
    | (refine is_oper ?_; first | (refine is_call ?_; first | (refine KJ_call (by (repeat' (first | exact Evs.nil | refine Evs.cons rfl ?_)); first | done | fail) c2 (by (repeat' (first | exact Pick.nil | apply Pick.cons | exact Sel.here | apply Sel.there)); first | done | fail) rfl (fun _ => ?_)) | (refine KJ_call (by (repeat' (first | exact Evs.nil | refine Evs.cons rfl ?_)); first | done | fail) c1 (by (repeat' (first | exact Pick.nil | apply Pick.cons | exact Sel.here | apply Sel.there)); first | done | fail) rfl (fun _ => ?_))) | (refine KJ_ek rfl ?_) | (refine KJ_ek0 ?_))
    | (refine is_ek ?_; first | (refine ek_move ?_; first | (refine EK_ev (Ev_move rfl) ?_)) | (refine ek_assign ?_; first | (refine EK_ev (Ev_assign rfl) ?_)) | (refine ek_slice ?_; first | (refine EK_ev (Ev_sliceStrFrom rfl rfl (by omega)) ?_) | (refine EK_ev (Ev_sliceStrTo rfl rfl (by omega)) ?_)) | (refine ek_len ?_; first | (refine EK_ev (Ev_len_str rfl) ?_) | (refine EK_ev (Ev_len_slice rfl) ?_) | (refine EK_ev (Ev_len_arr rfl) ?_) | (refine EK_ev (Ev_len_map rfl (by (repeat' (first | exact Sel.here | apply Sel.there)); first | done | fail)) ?_)) | (refine ek_neq ?_; first | (refine EK_ev (Ev_neqI_f rfl rfl q1) ?_) | (refine EK_ev (Ev_neqI rfl rfl) ?_) | (refine EK_ev (Ev_neqS rfl rfl) ?_) | (refine EK_ev (Ev_neqNil rfl rfl) ?_) | (refine EK_ev (Ev_neqB rfl rfl) ?_) | (refine EK_ev (Ev_neqO rfl rfl rfl (fun _ => rfl)) ?_)))
    | (refine is_ex ?_; first | (refine KJ_seq_normal ?_) | (refine KJ_seq_ret ?_) | (refine KJ_seq_exit ?_) | (refine KJ_thn_normal ?_) | (refine KJ_thn_ret ?_) | (refine KJ_thn_exit ?_) | (refine KJ_blk_normal ?_) | (refine KJ_blk_ret ?_) | (refine KJ_blk_exit ?_) | (refine KJ_blk_exit' rfl ?_))
    | (refine is_code ?_; first | (refine KJ_seq ?_) | (refine KJ_region ?_) | (refine KJ_cond_dec rfl (fun _ => ?_) (fun _ => ?_) <;> first | (exfalso; omega) | skip) | (refine KJ_cond_t rfl ?_) | (refine KJ_cond_f rfl ?_) | (refine KJ_skip ?_) | (refine KJ_ret ?_) | (refine KJ_exit ?_) | (refine KJ_block ?_) | (refine KJ_draws (id := 3) (.op 0 (.op 1 (.op 3 (.op 4 (.ef 2 [4, 3] (.ef 5 [] (.op 6 (.op 7 (.op 8 .nil))))))))) (by kernel_rfl) (by kernel_rfl) ?_))
    | (refine is_fw ?_; first | (refine FW_open rfl ?_) | (refine FW_nil ?_) | (refine FW_ef rfl ?_) | (refine FW_efg rfl rfl rfl ?_) | (refine FW_alt ?_ ?_))
    | (refine is_fo ?_; first | (refine FO_dec_t rfl rfl (fun _ => ?_) (fun _ => ?_) <;> first | (exfalso; omega) | skip) | (refine FO_dec_f rfl rfl (fun _ => ?_) (fun _ => ?_) <;> first | (exfalso; omega) | skip) | (refine FO_no rfl rfl rfl rfl ?_) | (refine FO_ekg rfl rfl rfl ?_) | (refine FO_ek rfl ?_))
    | (refine is_ro ?_; first | (refine RO_no rfl rfl rfl rfl ?_) | (refine RO_ekg rfl rfl ?_) | (refine RO_ek ?_))
    | (refine is_raw ?_; first | (refine KJ_flow ?_ ?_))
    | (refine AtR_mk rfl ?_)
    | exact Rech.nil
    | (refine Rech_open rfl ?_))
    all_goals (refine is_ex ?_; exact KJ_done (by first | exact Or.inl rfl | exact Or.inr rfl) rfl (by (repeat' (first | exact Rvs.nil | (apply Rvs.tmp; exact rfl))); first | done | fail) () (by rfl) (Ent.of (by (repeat' (first | exact Pick.nil | apply Pick.cons | exact Sel.here | apply Sel.there)); first | done | fail) (by (repeat' (first | exact DropTo.refl | apply DropTo.there)); first | done | fail)))
  · rw [if_neg hl, if_neg hl, if_neg hl]
    have q1 : ((raw.length : Nat) : Int) ≠ 256 := by omega
    refine Ct.enter Tryd.func115 rfl Tryd.ntmps115 (by simp) (fun R => ?_)
    repeat' (first 
    | (refine is_list ?_; first | (refine KJ_plain ?_) | (refine KJ_nil ?_) | (refine KJ_guard_dec_t rfl rfl rfl (fun _ => ?_) (fun _ => ?_) <;> first | (exfalso; omega) | skip) | (refine KJ_guard_dec_f rfl rfl rfl (fun _ => ?_) (fun _ => ?_) <;> first | (exfalso; omega) | skip) | (refine KJ_guard_yes rfl rfl ?_) | (refine KJ_guard_no rfl rfl rfl rfl ?_))
    | (refine is_oper ?_; first | (refine KJ_ek rfl ?_) | (refine KJ_ek0 ?_))
    | (refine is_ek ?_; first | (refine ek_move ?_; first | (refine EK_ev (Ev_move rfl) ?_)) | (refine ek_assign ?_; first | (refine EK_ev (Ev_assign rfl) ?_)) | (refine ek_len ?_; first | (refine EK_ev (Ev_len_str rfl) ?_) | (refine EK_ev (Ev_len_slice rfl) ?_) | (refine EK_ev (Ev_len_arr rfl) ?_) | (refine EK_ev (Ev_len_map rfl (by (repeat' (first | exact Sel.here | apply Sel.there)); first | done | fail)) ?_)) | (refine ek_neq ?_; first | (refine EK_ev (Ev_neqI_t rfl rfl q1) ?_) | (refine EK_ev (Ev_neqI rfl rfl) ?_) | (refine EK_ev (Ev_neqS rfl rfl) ?_) | (refine EK_ev (Ev_neqNil rfl rfl) ?_) | (refine EK_ev (Ev_neqB rfl rfl) ?_) | (refine EK_ev (Ev_neqO rfl rfl rfl (fun _ => rfl)) ?_)))
    | (refine is_ex ?_; first | (refine KJ_seq_normal ?_) | (refine KJ_seq_ret ?_) | (refine KJ_seq_exit ?_) | (refine KJ_thn_normal ?_) | (refine KJ_thn_ret ?_) | (refine KJ_thn_exit ?_) | (refine KJ_blk_normal ?_) | (refine KJ_blk_ret ?_) | (refine KJ_blk_exit ?_) | (refine KJ_blk_exit' rfl ?_))
    | (refine is_code ?_; first | (refine KJ_seq ?_) | (refine KJ_region ?_) | (refine KJ_cond_dec rfl (fun _ => ?_) (fun _ => ?_) <;> first | (exfalso; omega) | skip) | (refine KJ_cond_t rfl ?_) | (refine KJ_cond_f rfl ?_) | (refine KJ_skip ?_) | (refine KJ_ret ?_) | (refine KJ_exit ?_) | (refine KJ_block ?_) | (refine KJ_draws (id := 3) (.op 0 (.op 1 (.op 3 (.op 4 (.ef 2 [4, 3] (.ef 5 [] (.op 6 (.op 7 (.op 8 .nil))))))))) (by kernel_rfl) (by kernel_rfl) ?_))
    | (refine is_fw ?_; first | (refine FW_open rfl ?_) | (refine FW_nil ?_) | (refine FW_ef rfl ?_) | (refine FW_efg rfl rfl rfl ?_) | (refine FW_alt ?_ ?_))
    | (refine is_fo ?_; first | (refine FO_dec_t rfl rfl (fun _ => ?_) (fun _ => ?_) <;> first | (exfalso; omega) | skip) | (refine FO_dec_f rfl rfl (fun _ => ?_) (fun _ => ?_) <;> first | (exfalso; omega) | skip) | (refine FO_no rfl rfl rfl rfl ?_) | (refine FO_ekg rfl rfl rfl ?_) | (refine FO_ek rfl ?_))
    | (refine is_ro ?_; first | (refine RO_no rfl rfl rfl rfl ?_) | (refine RO_ekg rfl rfl ?_) | (refine RO_ek ?_))
    | (refine is_raw ?_; first | (refine KJ_flow ?_ ?_))
    | (refine AtR_mk rfl ?_)
    | exact Rech.nil
    | (refine Rech_open rfl ?_))
    all_goals (refine is_ex ?_; exact KJ_done (by first | exact Or.inl rfl | exact Or.inr rfl) rfl (by (repeat' (first | exact Rvs.nil | (apply Rvs.tmp; exact rfl))); first | done | fail) () (by rfl) (Ent.of (by (repeat' (first | exact Pick.nil | apply Pick.cons | exact Sel.here | apply Sel.there)); first | done | fail) (by (repeat' (first | exact DropTo.refl | apply DropTo.there)); first | done | fail)))
end
end Go.Proofs.YteklldbfdmaafaaDoor
/-
  The document's slots (remitref08) over plain data.
-/
namespace Go.Proofs.YteklldbfdmaafaaDoor
open Go Go.RowKit

section
variable {W : World}
set_option maxHeartbeats 1000000 in
set_option maxRecDepth 100000 in
theorem rslot_ct (raw : List UInt8) (k : Int) : Ct Tryd.prog W 85 [strV raw, .int .i64 k] [] (fun _ : Unit => .tuple #[strV (countS raw k), .int .i64 (countV raw k)]) (fun _ => []) := by
  have c1 := rends_ct (W := W) raw
  by_cases hl : raw.length = 256
  rotate_left
  · have e : countO raw k = none := by unfold countO; rw [if_pos hl]
    have e1 : countS raw k = [] := by unfold countS; rw [e]; rfl
    have e2 : countV raw k = 0 := by unfold countV; rw [e]; rfl
    have e3 : endsE raw = 7 := by unfold endsE; rw [if_neg hl]
    rw [e3] at c1
    rw [e1, e2]
    refine Ct.enter Tryd.func85 rfl Tryd.ntmps85 (by simp) (fun R => ?_)
    repeat' (first 
    | (refine is_list ?_; first | (refine KJ_plain ?_) | (refine KJ_nil ?_) | (refine KJ_guard_dec_t rfl rfl rfl (fun _ => ?_) (fun _ => ?_) <;> first | (exfalso; omega) | skip) | (refine KJ_guard_dec_f rfl rfl rfl (fun _ => ?_) (fun _ => ?_) <;> first | (exfalso; omega) | skip) | (refine KJ_guard_yes rfl rfl ?_) | (refine KJ_guard_no rfl rfl rfl rfl ?_))
    | (refine is_oper ?_; first | (refine is_call ?_; first | (refine KJ_call (by (repeat' (first | exact Evs.nil | refine Evs.cons rfl ?_)); first | done | fail) c1 (by (repeat' (first | exact Pick.nil | apply Pick.cons | exact Sel.here | apply Sel.there)); first | done | fail) rfl (fun _ => ?_))) | (refine KJ_ek rfl ?_) | (refine KJ_ek0 ?_))
    | (refine is_ek ?_; first | (refine ek_move ?_; first | (refine EK_ev (Ev_move rfl) ?_)) | (refine ek_assign ?_; first | (refine EK_ev (Ev_assign rfl) ?_)) | (refine ek_pick ?_; first | (refine EK_ev (Ev_pick_t rfl rfl) ?_) | (refine EK_ev (Ev_pick_f rfl rfl) ?_)) | (refine ek_un ?_; first | (refine EK_ev (Ev_notD rfl) ?_) | (refine EK_ev (Ev_not rfl) ?_) | (refine EK_ev (Ev_neg rfl) ?_)) | (refine ek_conv ?_; first | (refine EK_ev (Ev_convI64 rfl (by omega)) ?_) | (refine EK_ev (Ev_convI rfl) ?_) | (refine EK_ev (Ev_convS rfl) ?_)) | (refine ek_extract ?_; first | (refine EK_ev (Ev_extract rfl rfl) ?_)) | (refine ek_rem ?_; first | (refine EK_ev (Ev_remI rfl rfl (by omega)) ?_) | (refine EK_ev (Ev_rem rfl rfl (by omega)) ?_)) | (refine ek_neq ?_; first | (refine EK_ev (Ev_neqI_t rfl rfl (by decide)) ?_) | (refine EK_ev (Ev_neqI rfl rfl) ?_) | (refine EK_ev (Ev_neqS rfl rfl) ?_) | (refine EK_ev (Ev_neqNil rfl rfl) ?_) | (refine EK_ev (Ev_neqB rfl rfl) ?_) | (refine EK_ev (Ev_neqO rfl rfl rfl (fun _ => rfl)) ?_)) | (refine ek_lss ?_; first | (refine EK_ev (Ev_lssI rfl rfl) ?_) | (refine EK_ev (Ev_lssS rfl rfl) ?_)) | (refine ek_gtr ?_; first | (refine EK_ev (Ev_gtrI rfl rfl) ?_) | (refine EK_ev (Ev_gtrS rfl rfl) ?_)))
    | (refine is_ex ?_; first | (refine KJ_seq_normal ?_) | (refine KJ_seq_ret ?_) | (refine KJ_seq_exit ?_) | (refine KJ_thn_normal ?_) | (refine KJ_thn_ret ?_) | (refine KJ_thn_exit ?_) | (refine KJ_blk_normal ?_) | (refine KJ_blk_ret ?_) | (refine KJ_blk_exit ?_) | (refine KJ_blk_exit' rfl ?_))
    | (refine is_code ?_; first | (refine KJ_seq ?_) | (refine KJ_region ?_) | (refine KJ_cond_dec rfl (fun _ => ?_) (fun _ => ?_) <;> first | (exfalso; omega) | skip) | (refine KJ_cond_t rfl ?_) | (refine KJ_cond_f rfl ?_) | (refine KJ_skip ?_) | (refine KJ_ret ?_) | (refine KJ_exit ?_) | (refine KJ_block ?_)))
    all_goals (refine is_ex ?_; exact KJ_done (by first | exact Or.inl rfl | exact Or.inr rfl) rfl (by (repeat' (first | exact Rvs.nil | (apply Rvs.tmp; exact rfl))); first | done | fail) () (by rfl) (Ent.of (by (repeat' (first | exact Pick.nil | apply Pick.cons | exact Sel.here | apply Sel.there)); first | done | fail) (by (repeat' (first | exact DropTo.refl | apply DropTo.there)); first | done | fail)))
  obtain ⟨V, hV, hg, _⟩ := getB_bytes raw 8 (by omega)
  obtain ⟨T, hT, hgT, _⟩ := getB_bytes (raw.drop 248) 8 (by omega)
  have e3 : endsE raw = 0 := by unfold endsE; rw [if_pos hl]
  have e4 : endsH raw = (V : Nat) := by unfold endsH; rw [if_pos hl, hg]
  have e5 : endsT raw = (T : Nat) := by unfold endsT; rw [if_pos hl, hgT]
  rw [e3, e4, e5] at c1
  have hO : countO raw k = if ((V : Nat) : Int) ≠ (T : Nat) then none else if ((V : Nat) : Int) < 1 then none else if 1099511627776 < ((V : Nat) : Int) then none else if ((V : Nat) : Int) % 2 ≠ k then none else (openS (V : Nat) raw).map fun v => (((V : Nat) : Int), v) := by
    unfold countO
    rw [if_neg (show ¬ raw.length ≠ 256 by omega), hg, hgT]
  have hnone : countO raw k = none → countS raw k = [] ∧ countV raw k = 0 := fun e => by
    unfold countS countV; rw [e]; exact ⟨rfl, rfl⟩
  clear e3 e4 e5 hg hgT hT
  by_cases h1 : ((V : Nat) : Int) ≠ (T : Nat)
  · rw [if_pos h1] at hO
    rw [(hnone hO).1, (hnone hO).2]
    refine Ct.enter Tryd.func85 rfl Tryd.ntmps85 (by simp) (fun R => ?_)
    repeat' (first 
    | (refine is_list ?_; first | (refine KJ_plain ?_) | (refine KJ_nil ?_) | (refine KJ_guard_dec_t rfl rfl rfl (fun _ => ?_) (fun _ => ?_) <;> first | (exfalso; omega) | skip) | (refine KJ_guard_dec_f rfl rfl rfl (fun _ => ?_) (fun _ => ?_) <;> first | (exfalso; omega) | skip) | (refine KJ_guard_yes rfl rfl ?_) | (refine KJ_guard_no rfl rfl rfl rfl ?_))
    | (refine is_oper ?_; first | (refine is_call ?_; first | (refine KJ_call (by (repeat' (first | exact Evs.nil | refine Evs.cons rfl ?_)); first | done | fail) c1 (by (repeat' (first | exact Pick.nil | apply Pick.cons | exact Sel.here | apply Sel.there)); first | done | fail) rfl (fun _ => ?_))) | (refine KJ_ek rfl ?_) | (refine KJ_ek0 ?_))
    | (refine is_ek ?_; first | (refine ek_move ?_; first | (refine EK_ev (Ev_move rfl) ?_)) | (refine ek_assign ?_; first | (refine EK_ev (Ev_assign rfl) ?_)) | (refine ek_pick ?_; first | (refine EK_ev (Ev_pick_t rfl rfl) ?_) | (refine EK_ev (Ev_pick_f rfl rfl) ?_)) | (refine ek_un ?_; first | (refine EK_ev (Ev_notD rfl) ?_) | (refine EK_ev (Ev_not rfl) ?_) | (refine EK_ev (Ev_neg rfl) ?_)) | (refine ek_conv ?_; first | (refine EK_ev (Ev_convI64 rfl (by omega)) ?_) | (refine EK_ev (Ev_convI rfl) ?_) | (refine EK_ev (Ev_convS rfl) ?_)) | (refine ek_extract ?_; first | (refine EK_ev (Ev_extract rfl rfl) ?_)) | (refine ek_rem ?_; first | (refine EK_ev (Ev_remI rfl rfl (by omega)) ?_) | (refine EK_ev (Ev_rem rfl rfl (by omega)) ?_)) | (refine ek_neq ?_; first | (refine EK_ev (Ev_neqI_f rfl rfl (by rfl)) ?_) | (refine EK_ev (Ev_neqI_t rfl rfl h1) ?_) | (refine EK_ev (Ev_neqI rfl rfl) ?_) | (refine EK_ev (Ev_neqS rfl rfl) ?_) | (refine EK_ev (Ev_neqNil rfl rfl) ?_) | (refine EK_ev (Ev_neqB rfl rfl) ?_) | (refine EK_ev (Ev_neqO rfl rfl rfl (fun _ => rfl)) ?_)) | (refine ek_lss ?_; first | (refine EK_ev (Ev_lssI rfl rfl) ?_) | (refine EK_ev (Ev_lssS rfl rfl) ?_)) | (refine ek_gtr ?_; first | (refine EK_ev (Ev_gtrI rfl rfl) ?_) | (refine EK_ev (Ev_gtrS rfl rfl) ?_)))
    | (refine is_ex ?_; first | (refine KJ_seq_normal ?_) | (refine KJ_seq_ret ?_) | (refine KJ_seq_exit ?_) | (refine KJ_thn_normal ?_) | (refine KJ_thn_ret ?_) | (refine KJ_thn_exit ?_) | (refine KJ_blk_normal ?_) | (refine KJ_blk_ret ?_) | (refine KJ_blk_exit ?_) | (refine KJ_blk_exit' rfl ?_))
    | (refine is_code ?_; first | (refine KJ_seq ?_) | (refine KJ_region ?_) | (refine KJ_cond_dec rfl (fun _ => ?_) (fun _ => ?_) <;> first | (exfalso; omega) | skip) | (refine KJ_cond_t rfl ?_) | (refine KJ_cond_f rfl ?_) | (refine KJ_skip ?_) | (refine KJ_ret ?_) | (refine KJ_exit ?_) | (refine KJ_block ?_)))
    all_goals (refine is_ex ?_; exact KJ_done (by first | exact Or.inl rfl | exact Or.inr rfl) rfl (by (repeat' (first | exact Rvs.nil | (apply Rvs.tmp; exact rfl))); first | done | fail) () (by rfl) (Ent.of (by (repeat' (first | exact Pick.nil | apply Pick.cons | exact Sel.here | apply Sel.there)); first | done | fail) (by (repeat' (first | exact DropTo.refl | apply DropTo.there)); first | done | fail)))
  have h1 : ((V : Nat) : Int) = (T : Nat) := by omega
  rw [if_neg (by omega)] at hO
  by_cases h2 : ((V : Nat) : Int) < 1
  · rw [if_pos h2] at hO
    rw [(hnone hO).1, (hnone hO).2]
    have q2 : decide (((V : Nat) : Int) < 1) = true := decide_eq_true h2
    refine Ct.enter Tryd.func85 rfl Tryd.ntmps85 (by simp) (fun R => ?_)
    repeat' (first 
    | (refine is_list ?_; first | (refine KJ_plain ?_) | (refine KJ_nil ?_) | (refine KJ_guard_dec_t rfl rfl rfl (fun _ => ?_) (fun _ => ?_) <;> first | (exfalso; omega) | skip) | (refine KJ_guard_dec_f rfl rfl rfl (fun _ => ?_) (fun _ => ?_) <;> first | (exfalso; omega) | skip) | (refine KJ_guard_yes rfl rfl ?_) | (refine KJ_guard_no rfl rfl rfl rfl ?_))
    | (refine is_oper ?_; first | (refine is_call ?_; first | (refine KJ_call (by (repeat' (first | exact Evs.nil | refine Evs.cons rfl ?_)); first | done | fail) c1 (by (repeat' (first | exact Pick.nil | apply Pick.cons | exact Sel.here | apply Sel.there)); first | done | fail) rfl (fun _ => ?_))) | (refine KJ_ek rfl ?_) | (refine KJ_ek0 ?_))
    | (refine is_ek ?_; first | (refine ek_move ?_; first | (refine EK_ev (Ev_move rfl) ?_)) | (refine ek_assign ?_; first | (refine EK_ev (Ev_assign rfl) ?_)) | (refine ek_pick ?_; first | (refine EK_ev (Ev_pick_t rfl rfl) ?_) | (refine EK_ev (Ev_pick_f rfl rfl) ?_)) | (refine ek_un ?_; first | (refine EK_ev (Ev_notD rfl) ?_) | (refine EK_ev (Ev_not rfl) ?_) | (refine EK_ev (Ev_neg rfl) ?_)) | (refine ek_conv ?_; first | (refine EK_ev (Ev_convI64 rfl (by omega)) ?_) | (refine EK_ev (Ev_convI rfl) ?_) | (refine EK_ev (Ev_convS rfl) ?_)) | (refine ek_extract ?_; first | (refine EK_ev (Ev_extract rfl rfl) ?_)) | (refine ek_rem ?_; first | (refine EK_ev (Ev_remI rfl rfl (by omega)) ?_) | (refine EK_ev (Ev_rem rfl rfl (by omega)) ?_)) | (refine ek_neq ?_; first | (refine EK_ev (Ev_neqI_f rfl rfl (by rfl)) ?_) | (refine EK_ev (Ev_neqI_f rfl rfl h1) ?_) | (refine EK_ev (Ev_neqI rfl rfl) ?_) | (refine EK_ev (Ev_neqS rfl rfl) ?_) | (refine EK_ev (Ev_neqNil rfl rfl) ?_) | (refine EK_ev (Ev_neqB rfl rfl) ?_) | (refine EK_ev (Ev_neqO rfl rfl rfl (fun _ => rfl)) ?_)) | (refine ek_lss ?_; first | (refine EK_ev (Ev_lssI_q rfl rfl q2) ?_) | (refine EK_ev (Ev_lssI rfl rfl) ?_) | (refine EK_ev (Ev_lssS rfl rfl) ?_)) | (refine ek_gtr ?_; first | (refine EK_ev (Ev_gtrI rfl rfl) ?_) | (refine EK_ev (Ev_gtrS rfl rfl) ?_)))
    | (refine is_ex ?_; first | (refine KJ_seq_normal ?_) | (refine KJ_seq_ret ?_) | (refine KJ_seq_exit ?_) | (refine KJ_thn_normal ?_) | (refine KJ_thn_ret ?_) | (refine KJ_thn_exit ?_) | (refine KJ_blk_normal ?_) | (refine KJ_blk_ret ?_) | (refine KJ_blk_exit ?_) | (refine KJ_blk_exit' rfl ?_))
    | (refine is_code ?_; first | (refine KJ_seq ?_) | (refine KJ_region ?_) | (refine KJ_cond_dec rfl (fun _ => ?_) (fun _ => ?_) <;> first | (exfalso; omega) | skip) | (refine KJ_cond_t rfl ?_) | (refine KJ_cond_f rfl ?_) | (refine KJ_skip ?_) | (refine KJ_ret ?_) | (refine KJ_exit ?_) | (refine KJ_block ?_)))
    all_goals (refine is_ex ?_; exact KJ_done (by first | exact Or.inl rfl | exact Or.inr rfl) rfl (by (repeat' (first | exact Rvs.nil | (apply Rvs.tmp; exact rfl))); first | done | fail) () (by rfl) (Ent.of (by (repeat' (first | exact Pick.nil | apply Pick.cons | exact Sel.here | apply Sel.there)); first | done | fail) (by (repeat' (first | exact DropTo.refl | apply DropTo.there)); first | done | fail)))
  rw [if_neg h2] at hO
  have q2 : decide (((V : Nat) : Int) < 1) = false := decide_eq_false h2
  by_cases h3 : 1099511627776 < ((V : Nat) : Int)
  · rw [if_pos h3] at hO
    rw [(hnone hO).1, (hnone hO).2]
    have q3 : decide (1099511627776 < ((V : Nat) : Int)) = true := decide_eq_true h3
    refine Ct.enter Tryd.func85 rfl Tryd.ntmps85 (by simp) (fun R => ?_)
    repeat' (first 
    | (refine is_list ?_; first | (refine KJ_plain ?_) | (refine KJ_nil ?_) | (refine KJ_guard_dec_t rfl rfl rfl (fun _ => ?_) (fun _ => ?_) <;> first | (exfalso; omega) | skip) | (refine KJ_guard_dec_f rfl rfl rfl (fun _ => ?_) (fun _ => ?_) <;> first | (exfalso; omega) | skip) | (refine KJ_guard_yes rfl rfl ?_) | (refine KJ_guard_no rfl rfl rfl rfl ?_))
    | (refine is_oper ?_; first | (refine is_call ?_; first | (refine KJ_call (by (repeat' (first | exact Evs.nil | refine Evs.cons rfl ?_)); first | done | fail) c1 (by (repeat' (first | exact Pick.nil | apply Pick.cons | exact Sel.here | apply Sel.there)); first | done | fail) rfl (fun _ => ?_))) | (refine KJ_ek rfl ?_) | (refine KJ_ek0 ?_))
    | (refine is_ek ?_; first | (refine ek_move ?_; first | (refine EK_ev (Ev_move rfl) ?_)) | (refine ek_assign ?_; first | (refine EK_ev (Ev_assign rfl) ?_)) | (refine ek_pick ?_; first | (refine EK_ev (Ev_pick_t rfl rfl) ?_) | (refine EK_ev (Ev_pick_f rfl rfl) ?_)) | (refine ek_un ?_; first | (refine EK_ev (Ev_notD rfl) ?_) | (refine EK_ev (Ev_not rfl) ?_) | (refine EK_ev (Ev_neg rfl) ?_)) | (refine ek_conv ?_; first | (refine EK_ev (Ev_convI64 rfl (by omega)) ?_) | (refine EK_ev (Ev_convI rfl) ?_) | (refine EK_ev (Ev_convS rfl) ?_)) | (refine ek_extract ?_; first | (refine EK_ev (Ev_extract rfl rfl) ?_)) | (refine ek_rem ?_; first | (refine EK_ev (Ev_remI rfl rfl (by omega)) ?_) | (refine EK_ev (Ev_rem rfl rfl (by omega)) ?_)) | (refine ek_neq ?_; first | (refine EK_ev (Ev_neqI_f rfl rfl (by rfl)) ?_) | (refine EK_ev (Ev_neqI_f rfl rfl h1) ?_) | (refine EK_ev (Ev_neqI rfl rfl) ?_) | (refine EK_ev (Ev_neqS rfl rfl) ?_) | (refine EK_ev (Ev_neqNil rfl rfl) ?_) | (refine EK_ev (Ev_neqB rfl rfl) ?_) | (refine EK_ev (Ev_neqO rfl rfl rfl (fun _ => rfl)) ?_)) | (refine ek_lss ?_; first | (refine EK_ev (Ev_lssI_q rfl rfl q2) ?_) | (refine EK_ev (Ev_lssI rfl rfl) ?_) | (refine EK_ev (Ev_lssS rfl rfl) ?_)) | (refine ek_gtr ?_; first | (refine EK_ev (Ev_gtrI_q rfl rfl q3) ?_) | (refine EK_ev (Ev_gtrI rfl rfl) ?_) | (refine EK_ev (Ev_gtrS rfl rfl) ?_)))
    | (refine is_ex ?_; first | (refine KJ_seq_normal ?_) | (refine KJ_seq_ret ?_) | (refine KJ_seq_exit ?_) | (refine KJ_thn_normal ?_) | (refine KJ_thn_ret ?_) | (refine KJ_thn_exit ?_) | (refine KJ_blk_normal ?_) | (refine KJ_blk_ret ?_) | (refine KJ_blk_exit ?_) | (refine KJ_blk_exit' rfl ?_))
    | (refine is_code ?_; first | (refine KJ_seq ?_) | (refine KJ_region ?_) | (refine KJ_cond_dec rfl (fun _ => ?_) (fun _ => ?_) <;> first | (exfalso; omega) | skip) | (refine KJ_cond_t rfl ?_) | (refine KJ_cond_f rfl ?_) | (refine KJ_skip ?_) | (refine KJ_ret ?_) | (refine KJ_exit ?_) | (refine KJ_block ?_)))
    all_goals (refine is_ex ?_; exact KJ_done (by first | exact Or.inl rfl | exact Or.inr rfl) rfl (by (repeat' (first | exact Rvs.nil | (apply Rvs.tmp; exact rfl))); first | done | fail) () (by rfl) (Ent.of (by (repeat' (first | exact Pick.nil | apply Pick.cons | exact Sel.here | apply Sel.there)); first | done | fail) (by (repeat' (first | exact DropTo.refl | apply DropTo.there)); first | done | fail)))
  rw [if_neg h3] at hO
  have q3 : decide (1099511627776 < ((V : Nat) : Int)) = false := decide_eq_false h3
  have hr : ((V : Nat) : Int) % 2 = ((V % 2 : Nat) : Int) := by omega
  have hcv : IntKind.i64.wrap ((V % 2 : Nat) : Int) = ((V % 2 : Nat) : Int) := i64_in _ (by omega)
  by_cases h4 : ((V : Nat) : Int) % 2 ≠ k
  · rw [if_pos h4] at hO
    rw [(hnone hO).1, (hnone hO).2]
    rw [hr] at h4
    refine Ct.enter Tryd.func85 rfl Tryd.ntmps85 (by simp) (fun R => ?_)
    repeat' (first 
    | (refine is_list ?_; first | (refine KJ_plain ?_) | (refine KJ_nil ?_) | (refine KJ_guard_dec_t rfl rfl rfl (fun _ => ?_) (fun _ => ?_) <;> first | (exfalso; omega) | skip) | (refine KJ_guard_dec_f rfl rfl rfl (fun _ => ?_) (fun _ => ?_) <;> first | (exfalso; omega) | skip) | (refine KJ_guard_yes rfl rfl ?_) | (refine KJ_guard_no rfl rfl rfl rfl ?_))
    | (refine is_oper ?_; first | (refine is_call ?_; first | (refine KJ_call (by (repeat' (first | exact Evs.nil | refine Evs.cons rfl ?_)); first | done | fail) c1 (by (repeat' (first | exact Pick.nil | apply Pick.cons | exact Sel.here | apply Sel.there)); first | done | fail) rfl (fun _ => ?_))) | (refine KJ_ek rfl ?_) | (refine KJ_ek0 ?_))
    | (refine is_ek ?_; first | (refine ek_move ?_; first | (refine EK_ev (Ev_move rfl) ?_)) | (refine ek_assign ?_; first | (refine EK_ev (Ev_assign rfl) ?_)) | (refine ek_pick ?_; first | (refine EK_ev (Ev_pick_t rfl rfl) ?_) | (refine EK_ev (Ev_pick_f rfl rfl) ?_)) | (refine ek_un ?_; first | (refine EK_ev (Ev_notD rfl) ?_) | (refine EK_ev (Ev_not rfl) ?_) | (refine EK_ev (Ev_neg rfl) ?_)) | (refine ek_conv ?_; first | (refine EK_ev (Ev_convI_v rfl hcv) ?_) | (refine EK_ev (Ev_convI64 rfl (by omega)) ?_) | (refine EK_ev (Ev_convI rfl) ?_) | (refine EK_ev (Ev_convS rfl) ?_)) | (refine ek_extract ?_; first | (refine EK_ev (Ev_extract rfl rfl) ?_)) | (refine ek_rem ?_; first | (refine EK_ev (Ev_rem_v rfl rfl (by omega) hr) ?_) | (refine EK_ev (Ev_remI rfl rfl (by omega)) ?_) | (refine EK_ev (Ev_rem rfl rfl (by omega)) ?_)) | (refine ek_neq ?_; first | (refine EK_ev (Ev_neqI_f rfl rfl (by rfl)) ?_) | (refine EK_ev (Ev_neqI_f rfl rfl h1) ?_) | (refine EK_ev (Ev_neqI_t rfl rfl h4) ?_) | (refine EK_ev (Ev_neqI rfl rfl) ?_) | (refine EK_ev (Ev_neqS rfl rfl) ?_) | (refine EK_ev (Ev_neqNil rfl rfl) ?_) | (refine EK_ev (Ev_neqB rfl rfl) ?_) | (refine EK_ev (Ev_neqO rfl rfl rfl (fun _ => rfl)) ?_)) | (refine ek_lss ?_; first | (refine EK_ev (Ev_lssI_q rfl rfl q2) ?_) | (refine EK_ev (Ev_lssI rfl rfl) ?_) | (refine EK_ev (Ev_lssS rfl rfl) ?_)) | (refine ek_gtr ?_; first | (refine EK_ev (Ev_gtrI_q rfl rfl q3) ?_) | (refine EK_ev (Ev_gtrI rfl rfl) ?_) | (refine EK_ev (Ev_gtrS rfl rfl) ?_)))
    | (refine is_ex ?_; first | (refine KJ_seq_normal ?_) | (refine KJ_seq_ret ?_) | (refine KJ_seq_exit ?_) | (refine KJ_thn_normal ?_) | (refine KJ_thn_ret ?_) | (refine KJ_thn_exit ?_) | (refine KJ_blk_normal ?_) | (refine KJ_blk_ret ?_) | (refine KJ_blk_exit ?_) | (refine KJ_blk_exit' rfl ?_))
    | (refine is_code ?_; first | (refine KJ_seq ?_) | (refine KJ_region ?_) | (refine KJ_cond_dec rfl (fun _ => ?_) (fun _ => ?_) <;> first | (exfalso; omega) | skip) | (refine KJ_cond_t rfl ?_) | (refine KJ_cond_f rfl ?_) | (refine KJ_skip ?_) | (refine KJ_ret ?_) | (refine KJ_exit ?_) | (refine KJ_block ?_)))
    all_goals (refine is_ex ?_; exact KJ_done (by first | exact Or.inl rfl | exact Or.inr rfl) rfl (by (repeat' (first | exact Rvs.nil | (apply Rvs.tmp; exact rfl))); first | done | fail) () (by rfl) (Ent.of (by (repeat' (first | exact Pick.nil | apply Pick.cons | exact Sel.here | apply Sel.there)); first | done | fail) (by (repeat' (first | exact DropTo.refl | apply DropTo.there)); first | done | fail)))
  rw [if_neg h4] at hO
  have h4 : ((V % 2 : Nat) : Int) = k := by omega
  have c2 := ropen_ct (W := W) V hV raw
  have hcw : IntKind.i64.wrap ((V : Nat) : Int) = ((V : Nat) : Int) := i64_in _ (by omega)
  cases ho : openS ((V : Nat) : Int) raw with
  | none =>
    rw [ho] at hO c2
    rw [(hnone hO).1, (hnone hO).2]
    have c2' : Ct Tryd.prog W 116 [.int .u64 (V : Nat), strV raw] [] (fun _ : Unit => .tuple #[strV [], .bool false]) (fun _ => []) := c2
    refine Ct.enter Tryd.func85 rfl Tryd.ntmps85 (by simp) (fun R => ?_)
    repeat' (first 
    | (refine is_list ?_; first | (refine KJ_plain ?_) | (refine KJ_nil ?_) | (refine KJ_guard_dec_t rfl rfl rfl (fun _ => ?_) (fun _ => ?_) <;> first | (exfalso; omega) | skip) | (refine KJ_guard_dec_f rfl rfl rfl (fun _ => ?_) (fun _ => ?_) <;> first | (exfalso; omega) | skip) | (refine KJ_guard_yes rfl rfl ?_) | (refine KJ_guard_no rfl rfl rfl rfl ?_))
    | (refine is_oper ?_; first | (refine is_call ?_; first | (refine KJ_call (by (repeat' (first | exact Evs.nil | refine Evs.cons rfl ?_)); first | done | fail) c2' (by (repeat' (first | exact Pick.nil | apply Pick.cons | exact Sel.here | apply Sel.there)); first | done | fail) rfl (fun _ => ?_)) | (refine KJ_call (by (repeat' (first | exact Evs.nil | refine Evs.cons rfl ?_)); first | done | fail) c1 (by (repeat' (first | exact Pick.nil | apply Pick.cons | exact Sel.here | apply Sel.there)); first | done | fail) rfl (fun _ => ?_))) | (refine KJ_ek rfl ?_) | (refine KJ_ek0 ?_))
    | (refine is_ek ?_; first | (refine ek_move ?_; first | (refine EK_ev (Ev_move rfl) ?_)) | (refine ek_assign ?_; first | (refine EK_ev (Ev_assign rfl) ?_)) | (refine ek_pick ?_; first | (refine EK_ev (Ev_pick_t rfl rfl) ?_) | (refine EK_ev (Ev_pick_f rfl rfl) ?_)) | (refine ek_un ?_; first | (refine EK_ev (Ev_notD rfl) ?_) | (refine EK_ev (Ev_not rfl) ?_) | (refine EK_ev (Ev_neg rfl) ?_)) | (refine ek_conv ?_; first | (refine EK_ev (Ev_convI_v rfl hcv) ?_) | (refine EK_ev (Ev_convI64 rfl (by omega)) ?_) | (refine EK_ev (Ev_convI rfl) ?_) | (refine EK_ev (Ev_convS rfl) ?_)) | (refine ek_extract ?_; first | (refine EK_ev (Ev_extract rfl rfl) ?_)) | (refine ek_rem ?_; first | (refine EK_ev (Ev_rem_v rfl rfl (by omega) hr) ?_) | (refine EK_ev (Ev_remI rfl rfl (by omega)) ?_) | (refine EK_ev (Ev_rem rfl rfl (by omega)) ?_)) | (refine ek_neq ?_; first | (refine EK_ev (Ev_neqI_f rfl rfl (by rfl)) ?_) | (refine EK_ev (Ev_neqI_f rfl rfl h1) ?_) | (refine EK_ev (Ev_neqI_f rfl rfl h4) ?_) | (refine EK_ev (Ev_neqI rfl rfl) ?_) | (refine EK_ev (Ev_neqS rfl rfl) ?_) | (refine EK_ev (Ev_neqNil rfl rfl) ?_) | (refine EK_ev (Ev_neqB rfl rfl) ?_) | (refine EK_ev (Ev_neqO rfl rfl rfl (fun _ => rfl)) ?_)) | (refine ek_lss ?_; first | (refine EK_ev (Ev_lssI_q rfl rfl q2) ?_) | (refine EK_ev (Ev_lssI rfl rfl) ?_) | (refine EK_ev (Ev_lssS rfl rfl) ?_)) | (refine ek_gtr ?_; first | (refine EK_ev (Ev_gtrI_q rfl rfl q3) ?_) | (refine EK_ev (Ev_gtrI rfl rfl) ?_) | (refine EK_ev (Ev_gtrS rfl rfl) ?_)))
    | (refine is_ex ?_; first | (refine KJ_seq_normal ?_) | (refine KJ_seq_ret ?_) | (refine KJ_seq_exit ?_) | (refine KJ_thn_normal ?_) | (refine KJ_thn_ret ?_) | (refine KJ_thn_exit ?_) | (refine KJ_blk_normal ?_) | (refine KJ_blk_ret ?_) | (refine KJ_blk_exit ?_) | (refine KJ_blk_exit' rfl ?_))
    | (refine is_code ?_; first | (refine KJ_seq ?_) | (refine KJ_region ?_) | (refine KJ_cond_dec rfl (fun _ => ?_) (fun _ => ?_) <;> first | (exfalso; omega) | skip) | (refine KJ_cond_t rfl ?_) | (refine KJ_cond_f rfl ?_) | (refine KJ_skip ?_) | (refine KJ_ret ?_) | (refine KJ_exit ?_) | (refine KJ_block ?_)))
    all_goals (refine is_ex ?_; exact KJ_done (by first | exact Or.inl rfl | exact Or.inr rfl) rfl (by (repeat' (first | exact Rvs.nil | (apply Rvs.tmp; exact rfl))); first | done | fail) () (by rfl) (Ent.of (by (repeat' (first | exact Pick.nil | apply Pick.cons | exact Sel.here | apply Sel.there)); first | done | fail) (by (repeat' (first | exact DropTo.refl | apply DropTo.there)); first | done | fail)))
  | some v =>
    rw [ho] at hO c2
    have e1 : countS raw k = v := by unfold countS; rw [hO]; rfl
    have e2 : countV raw k = (V : Nat) := by unfold countV; rw [hO]; rfl
    rw [e1, e2]
    have c2' : Ct Tryd.prog W 116 [.int .u64 (V : Nat), strV raw] [] (fun _ : Unit => .tuple #[strV v, .bool true]) (fun _ => []) := c2
    refine Ct.enter Tryd.func85 rfl Tryd.ntmps85 (by simp) (fun R => ?_)
    repeat' (first 
    | (refine is_list ?_; first | (refine KJ_plain ?_) | (refine KJ_nil ?_) | (refine KJ_guard_dec_t rfl rfl rfl (fun _ => ?_) (fun _ => ?_) <;> first | (exfalso; omega) | skip) | (refine KJ_guard_dec_f rfl rfl rfl (fun _ => ?_) (fun _ => ?_) <;> first | (exfalso; omega) | skip) | (refine KJ_guard_yes rfl rfl ?_) | (refine KJ_guard_no rfl rfl rfl rfl ?_))
    | (refine is_oper ?_; first | (refine is_call ?_; first | (refine KJ_call (by (repeat' (first | exact Evs.nil | refine Evs.cons rfl ?_)); first | done | fail) c2' (by (repeat' (first | exact Pick.nil | apply Pick.cons | exact Sel.here | apply Sel.there)); first | done | fail) rfl (fun _ => ?_)) | (refine KJ_call (by (repeat' (first | exact Evs.nil | refine Evs.cons rfl ?_)); first | done | fail) c1 (by (repeat' (first | exact Pick.nil | apply Pick.cons | exact Sel.here | apply Sel.there)); first | done | fail) rfl (fun _ => ?_))) | (refine KJ_ek rfl ?_) | (refine KJ_ek0 ?_))
    | (refine is_ek ?_; first | (refine ek_move ?_; first | (refine EK_ev (Ev_move rfl) ?_)) | (refine ek_assign ?_; first | (refine EK_ev (Ev_assign rfl) ?_)) | (refine ek_pick ?_; first | (refine EK_ev (Ev_pick_t rfl rfl) ?_) | (refine EK_ev (Ev_pick_f rfl rfl) ?_)) | (refine ek_un ?_; first | (refine EK_ev (Ev_notD rfl) ?_) | (refine EK_ev (Ev_not rfl) ?_) | (refine EK_ev (Ev_neg rfl) ?_)) | (refine ek_conv ?_; first | (refine EK_ev (Ev_convI_v rfl hcw) ?_) | (refine EK_ev (Ev_convI_v rfl hcv) ?_) | (refine EK_ev (Ev_convI64 rfl (by omega)) ?_) | (refine EK_ev (Ev_convI rfl) ?_) | (refine EK_ev (Ev_convS rfl) ?_)) | (refine ek_extract ?_; first | (refine EK_ev (Ev_extract rfl rfl) ?_)) | (refine ek_rem ?_; first | (refine EK_ev (Ev_rem_v rfl rfl (by omega) hr) ?_) | (refine EK_ev (Ev_remI rfl rfl (by omega)) ?_) | (refine EK_ev (Ev_rem rfl rfl (by omega)) ?_)) | (refine ek_neq ?_; first | (refine EK_ev (Ev_neqI_f rfl rfl (by rfl)) ?_) | (refine EK_ev (Ev_neqI_f rfl rfl h1) ?_) | (refine EK_ev (Ev_neqI_f rfl rfl h4) ?_) | (refine EK_ev (Ev_neqI rfl rfl) ?_) | (refine EK_ev (Ev_neqS rfl rfl) ?_) | (refine EK_ev (Ev_neqNil rfl rfl) ?_) | (refine EK_ev (Ev_neqB rfl rfl) ?_) | (refine EK_ev (Ev_neqO rfl rfl rfl (fun _ => rfl)) ?_)) | (refine ek_lss ?_; first | (refine EK_ev (Ev_lssI_q rfl rfl q2) ?_) | (refine EK_ev (Ev_lssI rfl rfl) ?_) | (refine EK_ev (Ev_lssS rfl rfl) ?_)) | (refine ek_gtr ?_; first | (refine EK_ev (Ev_gtrI_q rfl rfl q3) ?_) | (refine EK_ev (Ev_gtrI rfl rfl) ?_) | (refine EK_ev (Ev_gtrS rfl rfl) ?_)))
    | (refine is_ex ?_; first | (refine KJ_seq_normal ?_) | (refine KJ_seq_ret ?_) | (refine KJ_seq_exit ?_) | (refine KJ_thn_normal ?_) | (refine KJ_thn_ret ?_) | (refine KJ_thn_exit ?_) | (refine KJ_blk_normal ?_) | (refine KJ_blk_ret ?_) | (refine KJ_blk_exit ?_) | (refine KJ_blk_exit' rfl ?_))
    | (refine is_code ?_; first | (refine KJ_seq ?_) | (refine KJ_region ?_) | (refine KJ_cond_dec rfl (fun _ => ?_) (fun _ => ?_) <;> first | (exfalso; omega) | skip) | (refine KJ_cond_t rfl ?_) | (refine KJ_cond_f rfl ?_) | (refine KJ_skip ?_) | (refine KJ_ret ?_) | (refine KJ_exit ?_) | (refine KJ_block ?_)))
    all_goals (refine is_ex ?_; exact KJ_done (by first | exact Or.inl rfl | exact Or.inr rfl) rfl (by (repeat' (first | exact Rvs.nil | (apply Rvs.tmp; exact rfl))); first | done | fail) () (by rfl) (Ent.of (by (repeat' (first | exact Pick.nil | apply Pick.cons | exact Sel.here | apply Sel.there)); first | done | fail) (by (repeat' (first | exact DropTo.refl | apply DropTo.there)); first | done | fail)))
section
variable {P : Program} {n : Nat} {E : Env} {H : List SP} {x y : Operand} {t u : TypeId}
theorem Ev_quoI_v8 {i j r : Int} (hx : Env.ev E x = some (.int .i64 i)) (hy : Env.ev E y = some (.int .i64 j)) (hb : 0 ≤ i ∧ i ≤ 9223372036854775807 ∧ 0 < j) (h : i / j = r) : Ev P W n E H (.binOp .quo t x y u) (.int .i64 r) := by
  subst h; exact Ev_quoI hx hy hb
end
theorem of_roomB {image : List UInt8} {N : Nat} (hN : image.length = N * 256) (at_ : Int) : (Dsk.of image).roomB at_ = decide (0 ≤ at_ ∧ at_ ≤ (N : Int) - 2) := by
  have e : (Dsk.of image).n = N := by show image.length / 256 = N; omega
  unfold Dsk.roomB
  rw [e]
set_option maxHeartbeats 1000000 in
set_option maxRecDepth 100000 in
theorem r8read_ct (image : List UInt8) (N : Nat) (hN : image.length = N * 256) (hN2 : N ≤ 65536) (at_ : Int) : Ct Tryd.prog W 48 [strV image, .int .i64 at_] [] (fun _ : Unit => .tuple #[strV (slotS (Dsk.of image) at_), .int .i64 (slotN (Dsk.of image) at_), .int .i64 (slotE (Dsk.of image) at_ : Nat)]) (fun _ => []) := by
  have hq : ((image.length : Nat) : Int) / 256 = ((N : Nat) : Int) := by omega
  have hroom := of_roomB hN at_
  by_cases hr : 0 ≤ at_ ∧ at_ ≤ (N : Int) - 2
  rotate_left
  · have e : slotE (Dsk.of image) at_ = 6 := by unfold slotE; rw [hroom, if_pos (decide_eq_false hr)]
    have e1 : slotS (Dsk.of image) at_ = [] := by unfold slotS; rw [e]; rfl
    have e2 : slotN (Dsk.of image) at_ = 0 := by unfold slotN; rw [e]; rfl
    rw [e, e1, e2]
    by_cases h0 : at_ < 0
    · have q1 : decide (at_ < 0) = true := decide_eq_true h0
      refine Ct.enter Tryd.func48 rfl Tryd.ntmps48 (by simp) (fun R => ?_)
      repeat' (first 
    | (refine is_list ?_; first | (refine KJ_plain ?_) | (refine KJ_nil ?_) | (refine KJ_guard_dec_t rfl rfl rfl (fun _ => ?_) (fun _ => ?_) <;> first | (exfalso; omega) | skip) | (refine KJ_guard_dec_f rfl rfl rfl (fun _ => ?_) (fun _ => ?_) <;> first | (exfalso; omega) | skip) | (refine KJ_guard_yes rfl rfl ?_) | (refine KJ_guard_no rfl rfl rfl rfl ?_))
    | (refine is_oper ?_; first | (refine KJ_ek rfl ?_) | (refine KJ_ek0 ?_))
    | (refine is_ek ?_; first | (refine ek_move ?_; first | (refine EK_ev (Ev_move rfl) ?_)) | (refine ek_assign ?_; first | (refine EK_ev (Ev_assign rfl) ?_)) | (refine ek_pick ?_; first | (refine EK_ev (Ev_pick_t rfl rfl) ?_) | (refine EK_ev (Ev_pick_f rfl rfl) ?_)) | (refine ek_extract ?_; first | (refine EK_ev (Ev_extract rfl rfl) ?_)) | (refine ek_len ?_; first | (refine EK_ev (Ev_len_str rfl) ?_) | (refine EK_ev (Ev_len_slice rfl) ?_) | (refine EK_ev (Ev_len_arr rfl) ?_) | (refine EK_ev (Ev_len_map rfl (by (repeat' (first | exact Sel.here | apply Sel.there)); first | done | fail)) ?_)) | (refine ek_add ?_; first | (refine EK_ev (Ev_addI rfl rfl (by omega)) ?_) | (refine EK_ev (Ev_addS rfl rfl (by simp <;> omega)) ?_) | (refine EK_ev (Ev_add rfl rfl) ?_)) | (refine ek_sub ?_; first | (refine EK_ev (Ev_subI rfl rfl (by omega)) ?_) | (refine EK_ev (Ev_sub rfl rfl) ?_)) | (refine ek_mul ?_; first | (refine EK_ev (Ev_mulI rfl rfl (by omega)) ?_) | (refine EK_ev (Ev_mul rfl rfl) ?_)) | (refine ek_quo ?_; first | (refine EK_ev (Ev_quoI_v8 rfl rfl (by omega) hq) ?_) | (refine EK_ev (Ev_quoI rfl rfl (by omega)) ?_) | (refine EK_ev (Ev_quo rfl rfl (by omega)) ?_)) | (refine ek_eql ?_; first | (refine EK_ev (Ev_eqlI rfl rfl) ?_) | (refine EK_ev (Ev_eqlS rfl rfl) ?_) | (refine EK_ev (Ev_eqlNil rfl rfl) ?_) | (refine EK_ev (Ev_eqlB rfl rfl) ?_) | (refine EK_ev (Ev_eqlO rfl rfl rfl (fun _ => rfl)) ?_)) | (refine ek_lss ?_; first | (refine EK_ev (Ev_lssI_q rfl rfl q1) ?_) | (refine EK_ev (Ev_lssI rfl rfl) ?_) | (refine EK_ev (Ev_lssS rfl rfl) ?_)) | (refine ek_gtr ?_; first | (refine EK_ev (Ev_gtrI rfl rfl) ?_) | (refine EK_ev (Ev_gtrS rfl rfl) ?_)))
    | (refine is_ex ?_; first | (refine KJ_seq_normal ?_) | (refine KJ_seq_ret ?_) | (refine KJ_seq_exit ?_) | (refine KJ_thn_normal ?_) | (refine KJ_thn_ret ?_) | (refine KJ_thn_exit ?_) | (refine KJ_blk_normal ?_) | (refine KJ_blk_ret ?_) | (refine KJ_blk_exit ?_) | (refine KJ_blk_exit' rfl ?_))
    | (refine is_code ?_; first | (refine KJ_seq ?_) | (refine KJ_region ?_) | (refine KJ_cond_dec rfl (fun _ => ?_) (fun _ => ?_) <;> first | (exfalso; omega) | skip) | (refine KJ_cond_t rfl ?_) | (refine KJ_cond_f rfl ?_) | (refine KJ_skip ?_) | (refine KJ_ret ?_) | (refine KJ_exit ?_) | (refine KJ_block ?_)))
      all_goals (refine is_ex ?_; exact KJ_done (by first | exact Or.inl rfl | exact Or.inr rfl) rfl (by (repeat' (first | exact Rvs.nil | (apply Rvs.tmp; exact rfl))); first | done | fail) () (by rfl) (Ent.of (by (repeat' (first | exact Pick.nil | apply Pick.cons | exact Sel.here | apply Sel.there)); first | done | fail) (by (repeat' (first | exact DropTo.refl | apply DropTo.there)); first | done | fail)))
    · have q1 : decide (at_ < 0) = false := decide_eq_false h0
      have q2 : decide ((N : Int) - 2 < at_) = true := decide_eq_true (by omega)
      refine Ct.enter Tryd.func48 rfl Tryd.ntmps48 (by simp) (fun R => ?_)
      repeat' (first 
    | (refine is_list ?_; first | (refine KJ_plain ?_) | (refine KJ_nil ?_) | (refine KJ_guard_dec_t rfl rfl rfl (fun _ => ?_) (fun _ => ?_) <;> first | (exfalso; omega) | skip) | (refine KJ_guard_dec_f rfl rfl rfl (fun _ => ?_) (fun _ => ?_) <;> first | (exfalso; omega) | skip) | (refine KJ_guard_yes rfl rfl ?_) | (refine KJ_guard_no rfl rfl rfl rfl ?_))
    | (refine is_oper ?_; first | (refine KJ_ek rfl ?_) | (refine KJ_ek0 ?_))
    | (refine is_ek ?_; first | (refine ek_move ?_; first | (refine EK_ev (Ev_move rfl) ?_)) | (refine ek_assign ?_; first | (refine EK_ev (Ev_assign rfl) ?_)) | (refine ek_pick ?_; first | (refine EK_ev (Ev_pick_t rfl rfl) ?_) | (refine EK_ev (Ev_pick_f rfl rfl) ?_)) | (refine ek_extract ?_; first | (refine EK_ev (Ev_extract rfl rfl) ?_)) | (refine ek_len ?_; first | (refine EK_ev (Ev_len_str rfl) ?_) | (refine EK_ev (Ev_len_slice rfl) ?_) | (refine EK_ev (Ev_len_arr rfl) ?_) | (refine EK_ev (Ev_len_map rfl (by (repeat' (first | exact Sel.here | apply Sel.there)); first | done | fail)) ?_)) | (refine ek_add ?_; first | (refine EK_ev (Ev_addI rfl rfl (by omega)) ?_) | (refine EK_ev (Ev_addS rfl rfl (by simp <;> omega)) ?_) | (refine EK_ev (Ev_add rfl rfl) ?_)) | (refine ek_sub ?_; first | (refine EK_ev (Ev_subI rfl rfl (by omega)) ?_) | (refine EK_ev (Ev_sub rfl rfl) ?_)) | (refine ek_mul ?_; first | (refine EK_ev (Ev_mulI rfl rfl (by omega)) ?_) | (refine EK_ev (Ev_mul rfl rfl) ?_)) | (refine ek_quo ?_; first | (refine EK_ev (Ev_quoI_v8 rfl rfl (by omega) hq) ?_) | (refine EK_ev (Ev_quoI rfl rfl (by omega)) ?_) | (refine EK_ev (Ev_quo rfl rfl (by omega)) ?_)) | (refine ek_eql ?_; first | (refine EK_ev (Ev_eqlI rfl rfl) ?_) | (refine EK_ev (Ev_eqlS rfl rfl) ?_) | (refine EK_ev (Ev_eqlNil rfl rfl) ?_) | (refine EK_ev (Ev_eqlB rfl rfl) ?_) | (refine EK_ev (Ev_eqlO rfl rfl rfl (fun _ => rfl)) ?_)) | (refine ek_lss ?_; first | (refine EK_ev (Ev_lssI_q rfl rfl q1) ?_) | (refine EK_ev (Ev_lssI rfl rfl) ?_) | (refine EK_ev (Ev_lssS rfl rfl) ?_)) | (refine ek_gtr ?_; first | (refine EK_ev (Ev_gtrI_q rfl rfl q2) ?_) | (refine EK_ev (Ev_gtrI rfl rfl) ?_) | (refine EK_ev (Ev_gtrS rfl rfl) ?_)))
    | (refine is_ex ?_; first | (refine KJ_seq_normal ?_) | (refine KJ_seq_ret ?_) | (refine KJ_seq_exit ?_) | (refine KJ_thn_normal ?_) | (refine KJ_thn_ret ?_) | (refine KJ_thn_exit ?_) | (refine KJ_blk_normal ?_) | (refine KJ_blk_ret ?_) | (refine KJ_blk_exit ?_) | (refine KJ_blk_exit' rfl ?_))
    | (refine is_code ?_; first | (refine KJ_seq ?_) | (refine KJ_region ?_) | (refine KJ_cond_dec rfl (fun _ => ?_) (fun _ => ?_) <;> first | (exfalso; omega) | skip) | (refine KJ_cond_t rfl ?_) | (refine KJ_cond_f rfl ?_) | (refine KJ_skip ?_) | (refine KJ_ret ?_) | (refine KJ_exit ?_) | (refine KJ_block ?_)))
      all_goals (refine is_ex ?_; exact KJ_done (by first | exact Or.inl rfl | exact Or.inr rfl) rfl (by (repeat' (first | exact Rvs.nil | (apply Rvs.tmp; exact rfl))); first | done | fail) () (by rfl) (Ent.of (by (repeat' (first | exact Pick.nil | apply Pick.cons | exact Sel.here | apply Sel.there)); first | done | fail) (by (repeat' (first | exact DropTo.refl | apply DropTo.there)); first | done | fail)))
  obtain ⟨a, rfl⟩ : ∃ a : Nat, at_ = (a : Int) := ⟨at_.toNat, by omega⟩
  have q1 : decide (((a : Nat) : Int) < 0) = false := decide_eq_false (by omega)
  have q2 : decide ((N : Int) - 2 < ((a : Nat) : Int)) = false := decide_eq_false (by omega)
  rw [decide_eq_true hr] at hroom
  have hE : slotE (Dsk.of image) (a : Nat) = if slotVer (Dsk.of image) a 2 = 0 then 14 else 0 := by
    unfold slotE; rw [if_neg (by rw [hroom]; simp), if_neg (by show ¬ (false = true); simp), Int.toNat_natCast]
  obtain ⟨D, hD⟩ : ∃ D, D = Dsk.of image := ⟨_, rfl⟩
  have hrd : ∀ i, D.rd i = cut image (i * 256) 256 := fun i => by rw [hD]; show (lastW [] i).getD _ = _; rw [lastW_nil]; rfl
  have hver : ∀ k, slotVer D a (k + 1) = if slotVer D a k < countV (cut image ((a + k) * 256) 256) k then countV (cut image ((a + k) * 256) 256) k else slotVer D a k := fun k => by rw [← hrd]; rfl
  have hval : ∀ k, slotVal D a (k + 1) = if slotVer D a k < countV (cut image ((a + k) * 256) 256) k then countS (cut image ((a + k) * 256) 256) k else slotVal D a k := fun k => by rw [← hrd]; rfl
  have hS : slotS D (a : Nat) = if slotVer D a 2 = 0 then [] else slotVal D a 2 := by
    unfold slotS; rw [hD, hE, Int.toNat_natCast]
    split <;> simp_all
  have hNn : slotN D (a : Nat) = if slotVer D a 2 = 0 then 0 else slotVer D a 2 := by
    unfold slotN; rw [hD, hE, Int.toNat_natCast]
    split <;> simp_all
  rw [← hD] at hE ⊢
  have v0 : slotVer D a 0 = 0 := rfl
  have w0 : slotVal D a 0 = [] := rfl
  clear hD hrd hroom
  refine Ct.enter Tryd.func48 rfl Tryd.ntmps48 (by simp) (fun R => ?_)
  repeat' (first 
    | (refine is_list ?_; first | (refine KJ_plain ?_) | (refine KJ_nil ?_) | (refine KJ_guard_dec_t rfl rfl rfl (fun _ => ?_) (fun _ => ?_) <;> first | (exfalso; omega) | skip) | (refine KJ_guard_dec_f rfl rfl rfl (fun _ => ?_) (fun _ => ?_) <;> first | (exfalso; omega) | skip) | (refine KJ_guard_yes rfl rfl ?_) | (refine KJ_guard_no rfl rfl rfl rfl ?_))
    | (refine is_oper ?_; first | (refine KJ_ek rfl ?_) | (refine KJ_ek0 ?_))
    | (refine is_ek ?_; first | (refine ek_move ?_; first | (refine EK_ev (Ev_move rfl) ?_)) | (refine ek_assign ?_; first | (refine EK_ev (Ev_assign rfl) ?_)) | (refine ek_pick ?_; first | (refine EK_ev (Ev_pick_t rfl rfl) ?_) | (refine EK_ev (Ev_pick_f rfl rfl) ?_)) | (refine ek_extract ?_; first | (refine EK_ev (Ev_extract rfl rfl) ?_)) | (refine ek_len ?_; first | (refine EK_ev (Ev_len_str rfl) ?_) | (refine EK_ev (Ev_len_slice rfl) ?_) | (refine EK_ev (Ev_len_arr rfl) ?_) | (refine EK_ev (Ev_len_map rfl (by (repeat' (first | exact Sel.here | apply Sel.there)); first | done | fail)) ?_)) | (refine ek_add ?_; first | (refine EK_ev (Ev_addI rfl rfl (by omega)) ?_) | (refine EK_ev (Ev_addS rfl rfl (by simp <;> omega)) ?_) | (refine EK_ev (Ev_add rfl rfl) ?_)) | (refine ek_sub ?_; first | (refine EK_ev (Ev_subI rfl rfl (by omega)) ?_) | (refine EK_ev (Ev_sub rfl rfl) ?_)) | (refine ek_mul ?_; first | (refine EK_ev (Ev_mulI rfl rfl (by omega)) ?_) | (refine EK_ev (Ev_mul rfl rfl) ?_)) | (refine ek_quo ?_; first | (refine EK_ev (Ev_quoI_v8 rfl rfl (by omega) hq) ?_) | (refine EK_ev (Ev_quoI rfl rfl (by omega)) ?_) | (refine EK_ev (Ev_quo rfl rfl (by omega)) ?_)) | (refine ek_eql ?_; first | (refine EK_ev (Ev_eqlI rfl rfl) ?_) | (refine EK_ev (Ev_eqlS rfl rfl) ?_) | (refine EK_ev (Ev_eqlNil rfl rfl) ?_) | (refine EK_ev (Ev_eqlB rfl rfl) ?_) | (refine EK_ev (Ev_eqlO rfl rfl rfl (fun _ => rfl)) ?_)) | (refine ek_lss ?_; first | (refine EK_ev (Ev_lssI_q rfl rfl q1) ?_) | (refine EK_ev (Ev_lssI rfl rfl) ?_) | (refine EK_ev (Ev_lssS rfl rfl) ?_)) | (refine ek_gtr ?_; first | (refine EK_ev (Ev_gtrI_q rfl rfl q2) ?_) | (refine EK_ev (Ev_gtrI rfl rfl) ?_) | (refine EK_ev (Ev_gtrS rfl rfl) ?_)))
    | (refine is_ex ?_; first | (refine KJ_seq_normal ?_) | (refine KJ_seq_ret ?_) | (refine KJ_seq_exit ?_) | (refine KJ_thn_normal ?_) | (refine KJ_thn_ret ?_) | (refine KJ_thn_exit ?_) | (refine KJ_blk_normal ?_) | (refine KJ_blk_ret ?_) | (refine KJ_blk_exit ?_) | (refine KJ_blk_exit' rfl ?_))
    | (refine is_code ?_; first | (refine KJ_seq ?_) | (refine KJ_region ?_) | (refine KJ_cond_dec rfl (fun _ => ?_) (fun _ => ?_) <;> first | (exfalso; omega) | skip) | (refine KJ_cond_t rfl ?_) | (refine KJ_cond_f rfl ?_) | (refine KJ_skip ?_) | (refine KJ_ret ?_) | (refine KJ_exit ?_) | (refine KJ_block ?_)))
  refine KJ_loop (fun k : {k : Nat // k ≤ 2} => [(0, strV image), (1, .int .i64 (a : Nat)), (8, strV (slotVal D a k.1)), (9, .int .i64 (slotVer D a k.1)), (10, .int .i64 (k.1 : Nat))]) (fun _ => R) (fun k => 2 - k.1) ⟨0, by omega⟩ ?_ (fun _ q => q) (fun ⟨k, hk⟩ => ?_)
  · dsimp only
    rw [v0, w0]
    exact (by (repeat' (first | exact Subs.nil | refine Subs.cons rfl ?_)); first | done | fail)
  dsimp only
  by_cases hlt : k < 2
  · have hvk := hver k
    have hwk := hval k
    obtain ⟨raw, hraw⟩ : ∃ raw, raw = cut image ((a + k) * 256) 256 := ⟨_, rfl⟩
    rw [← hraw] at hvk hwk
    have cs := rslot_ct (W := W) raw ((k : Nat) : Int)
    have hcut : (image.take ((((a + k) * 256 + 256 : Nat) : Int)).toNat).drop ((((a + k) * 256 : Nat) : Int)).toNat = raw := by
      rw [Int.toNat_natCast, Int.toNat_natCast, List.drop_take, hraw]
      unfold cut
      congr 1
      omega
    have hAK : ((a : Nat) : Int) + ((k : Nat) : Int) = ((a + k : Nat) : Int) := by omega
    have hMK : ((a + k : Nat) : Int) * 256 = (((a + k) * 256 : Nat) : Int) := by omega
    have hPK : (((a + k) * 256 : Nat) : Int) + 256 = (((a + k) * 256 + 256 : Nat) : Int) := by omega
    by_cases hc : slotVer D a k < countV raw k
    · rw [if_pos hc] at hvk hwk
      have q3 : decide (slotVer D a k < countV raw k) = true := decide_eq_true hc
      repeat' (first 
    | (refine is_list ?_; first | (refine KJ_plain ?_) | (refine KJ_nil ?_) | (refine KJ_guard_dec_t rfl rfl rfl (fun _ => ?_) (fun _ => ?_) <;> first | (exfalso; omega) | skip) | (refine KJ_guard_dec_f rfl rfl rfl (fun _ => ?_) (fun _ => ?_) <;> first | (exfalso; omega) | skip) | (refine KJ_guard_yes rfl rfl ?_) | (refine KJ_guard_no rfl rfl rfl rfl ?_))
    | (refine is_oper ?_; first | (refine is_call ?_; first | (refine KJ_call (by (repeat' (first | exact Evs.nil | refine Evs.cons rfl ?_)); first | done | fail) cs (by (repeat' (first | exact Pick.nil | apply Pick.cons | exact Sel.here | apply Sel.there)); first | done | fail) rfl (fun _ => ?_))) | (refine KJ_ek rfl ?_) | (refine KJ_ek0 ?_))
    | (refine is_ek ?_; first | (refine ek_move ?_; first | (refine EK_ev (Ev_move rfl) ?_)) | (refine ek_assign ?_; first | (refine EK_ev (Ev_assign rfl) ?_)) | (refine ek_pick ?_; first | (refine EK_ev (Ev_pick_t rfl rfl) ?_) | (refine EK_ev (Ev_pick_f rfl rfl) ?_)) | (refine ek_extract ?_; first | (refine EK_ev (Ev_extract rfl rfl) ?_)) | (refine ek_slice ?_; first | (refine EK_ev (Ev_sliceStr_v7 rfl rfl rfl (by omega) hcut) ?_)) | (refine ek_len ?_; first | (refine EK_ev (Ev_len_str rfl) ?_) | (refine EK_ev (Ev_len_slice rfl) ?_) | (refine EK_ev (Ev_len_arr rfl) ?_) | (refine EK_ev (Ev_len_map rfl (by (repeat' (first | exact Sel.here | apply Sel.there)); first | done | fail)) ?_)) | (refine ek_add ?_; first | (refine EK_ev (Ev_addI_v (r := ((k + 1 : Nat) : Int)) rfl rfl (by omega) (by omega)) ?_) | (refine EK_ev (Ev_addI_v rfl rfl hPK (by omega)) ?_) | (refine EK_ev (Ev_addI_v rfl rfl hAK (by omega)) ?_) | (refine EK_ev (Ev_addI rfl rfl (by omega)) ?_) | (refine EK_ev (Ev_addS rfl rfl (by simp <;> omega)) ?_) | (refine EK_ev (Ev_add rfl rfl) ?_)) | (refine ek_sub ?_; first | (refine EK_ev (Ev_subI rfl rfl (by omega)) ?_) | (refine EK_ev (Ev_sub rfl rfl) ?_)) | (refine ek_mul ?_; first | (refine EK_ev (Ev_mulI_v rfl rfl hMK (by omega)) ?_) | (refine EK_ev (Ev_mulI rfl rfl (by omega)) ?_) | (refine EK_ev (Ev_mul rfl rfl) ?_)) | (refine ek_quo ?_; first | (refine EK_ev (Ev_quoI rfl rfl (by omega)) ?_) | (refine EK_ev (Ev_quo rfl rfl (by omega)) ?_)) | (refine ek_eql ?_; first | (refine EK_ev (Ev_eqlI rfl rfl) ?_) | (refine EK_ev (Ev_eqlS rfl rfl) ?_) | (refine EK_ev (Ev_eqlNil rfl rfl) ?_) | (refine EK_ev (Ev_eqlB rfl rfl) ?_) | (refine EK_ev (Ev_eqlO rfl rfl rfl (fun _ => rfl)) ?_)) | (refine ek_lss ?_; first | (refine EK_ev (Ev_lssI rfl rfl) ?_) | (refine EK_ev (Ev_lssS rfl rfl) ?_)) | (refine ek_gtr ?_; first | (refine EK_ev (Ev_gtrI_q rfl rfl q3) ?_) | (refine EK_ev (Ev_gtrI rfl rfl) ?_) | (refine EK_ev (Ev_gtrS rfl rfl) ?_)))
    | (refine is_ex ?_; first | (refine KJ_seq_normal ?_) | (refine KJ_seq_ret ?_) | (refine KJ_seq_exit ?_) | (refine KJ_thn_normal ?_) | (refine KJ_thn_ret ?_) | (refine KJ_thn_exit ?_) | (refine KJ_blk_normal ?_) | (refine KJ_blk_ret ?_) | (refine KJ_blk_exit ?_) | (refine KJ_blk_exit' rfl ?_))
    | (refine is_code ?_; first | (refine KJ_seq ?_) | (refine KJ_region ?_) | (refine KJ_cond_dec rfl (fun _ => ?_) (fun _ => ?_) <;> first | (exfalso; omega) | skip) | (refine KJ_cond_t rfl ?_) | (refine KJ_cond_f rfl ?_) | (refine KJ_skip ?_) | (refine KJ_ret ?_) | (refine KJ_exit ?_) | (refine KJ_block ?_)))
      all_goals refine KJ_again ⟨k + 1, by omega⟩ (by show 2 - (k + 1) < 2 - k; omega) ?_ (fun _ q => q)
      all_goals dsimp only
      all_goals rw [hvk, hwk]
      all_goals exact (by (repeat' (first | exact Subs.nil | refine Subs.cons rfl ?_)); first | done | fail)
    · rw [if_neg hc] at hvk hwk
      have q3 : decide (slotVer D a k < countV raw k) = false := decide_eq_false hc
      repeat' (first 
    | (refine is_list ?_; first | (refine KJ_plain ?_) | (refine KJ_nil ?_) | (refine KJ_guard_dec_t rfl rfl rfl (fun _ => ?_) (fun _ => ?_) <;> first | (exfalso; omega) | skip) | (refine KJ_guard_dec_f rfl rfl rfl (fun _ => ?_) (fun _ => ?_) <;> first | (exfalso; omega) | skip) | (refine KJ_guard_yes rfl rfl ?_) | (refine KJ_guard_no rfl rfl rfl rfl ?_))
    | (refine is_oper ?_; first | (refine is_call ?_; first | (refine KJ_call (by (repeat' (first | exact Evs.nil | refine Evs.cons rfl ?_)); first | done | fail) cs (by (repeat' (first | exact Pick.nil | apply Pick.cons | exact Sel.here | apply Sel.there)); first | done | fail) rfl (fun _ => ?_))) | (refine KJ_ek rfl ?_) | (refine KJ_ek0 ?_))
    | (refine is_ek ?_; first | (refine ek_move ?_; first | (refine EK_ev (Ev_move rfl) ?_)) | (refine ek_assign ?_; first | (refine EK_ev (Ev_assign rfl) ?_)) | (refine ek_pick ?_; first | (refine EK_ev (Ev_pick_t rfl rfl) ?_) | (refine EK_ev (Ev_pick_f rfl rfl) ?_)) | (refine ek_extract ?_; first | (refine EK_ev (Ev_extract rfl rfl) ?_)) | (refine ek_slice ?_; first | (refine EK_ev (Ev_sliceStr_v7 rfl rfl rfl (by omega) hcut) ?_)) | (refine ek_len ?_; first | (refine EK_ev (Ev_len_str rfl) ?_) | (refine EK_ev (Ev_len_slice rfl) ?_) | (refine EK_ev (Ev_len_arr rfl) ?_) | (refine EK_ev (Ev_len_map rfl (by (repeat' (first | exact Sel.here | apply Sel.there)); first | done | fail)) ?_)) | (refine ek_add ?_; first | (refine EK_ev (Ev_addI_v (r := ((k + 1 : Nat) : Int)) rfl rfl (by omega) (by omega)) ?_) | (refine EK_ev (Ev_addI_v rfl rfl hPK (by omega)) ?_) | (refine EK_ev (Ev_addI_v rfl rfl hAK (by omega)) ?_) | (refine EK_ev (Ev_addI rfl rfl (by omega)) ?_) | (refine EK_ev (Ev_addS rfl rfl (by simp <;> omega)) ?_) | (refine EK_ev (Ev_add rfl rfl) ?_)) | (refine ek_sub ?_; first | (refine EK_ev (Ev_subI rfl rfl (by omega)) ?_) | (refine EK_ev (Ev_sub rfl rfl) ?_)) | (refine ek_mul ?_; first | (refine EK_ev (Ev_mulI_v rfl rfl hMK (by omega)) ?_) | (refine EK_ev (Ev_mulI rfl rfl (by omega)) ?_) | (refine EK_ev (Ev_mul rfl rfl) ?_)) | (refine ek_quo ?_; first | (refine EK_ev (Ev_quoI rfl rfl (by omega)) ?_) | (refine EK_ev (Ev_quo rfl rfl (by omega)) ?_)) | (refine ek_eql ?_; first | (refine EK_ev (Ev_eqlI rfl rfl) ?_) | (refine EK_ev (Ev_eqlS rfl rfl) ?_) | (refine EK_ev (Ev_eqlNil rfl rfl) ?_) | (refine EK_ev (Ev_eqlB rfl rfl) ?_) | (refine EK_ev (Ev_eqlO rfl rfl rfl (fun _ => rfl)) ?_)) | (refine ek_lss ?_; first | (refine EK_ev (Ev_lssI rfl rfl) ?_) | (refine EK_ev (Ev_lssS rfl rfl) ?_)) | (refine ek_gtr ?_; first | (refine EK_ev (Ev_gtrI_q rfl rfl q3) ?_) | (refine EK_ev (Ev_gtrI rfl rfl) ?_) | (refine EK_ev (Ev_gtrS rfl rfl) ?_)))
    | (refine is_ex ?_; first | (refine KJ_seq_normal ?_) | (refine KJ_seq_ret ?_) | (refine KJ_seq_exit ?_) | (refine KJ_thn_normal ?_) | (refine KJ_thn_ret ?_) | (refine KJ_thn_exit ?_) | (refine KJ_blk_normal ?_) | (refine KJ_blk_ret ?_) | (refine KJ_blk_exit ?_) | (refine KJ_blk_exit' rfl ?_))
    | (refine is_code ?_; first | (refine KJ_seq ?_) | (refine KJ_region ?_) | (refine KJ_cond_dec rfl (fun _ => ?_) (fun _ => ?_) <;> first | (exfalso; omega) | skip) | (refine KJ_cond_t rfl ?_) | (refine KJ_cond_f rfl ?_) | (refine KJ_skip ?_) | (refine KJ_ret ?_) | (refine KJ_exit ?_) | (refine KJ_block ?_)))
      all_goals refine KJ_again ⟨k + 1, by omega⟩ (by show 2 - (k + 1) < 2 - k; omega) ?_ (fun _ q => q)
      all_goals dsimp only
      all_goals rw [hvk, hwk]
      all_goals exact (by (repeat' (first | exact Subs.nil | refine Subs.cons rfl ?_)); first | done | fail)
  · have hk2 : k = 2 := by omega
    subst hk2
    by_cases hz : slotVer D a 2 = 0
    · rw [hS, hNn, hE, if_pos hz, if_pos hz, if_pos hz]
      repeat' (first 
    | (refine is_list ?_; first | (refine KJ_plain ?_) | (refine KJ_nil ?_) | (refine KJ_guard_dec_t rfl rfl rfl (fun _ => ?_) (fun _ => ?_) <;> first | (exfalso; omega) | skip) | (refine KJ_guard_dec_f rfl rfl rfl (fun _ => ?_) (fun _ => ?_) <;> first | (exfalso; omega) | skip) | (refine KJ_guard_yes rfl rfl ?_) | (refine KJ_guard_no rfl rfl rfl rfl ?_))
    | (refine is_oper ?_; first | (refine KJ_ek rfl ?_) | (refine KJ_ek0 ?_))
    | (refine is_ek ?_; first | (refine ek_move ?_; first | (refine EK_ev (Ev_move rfl) ?_)) | (refine ek_assign ?_; first | (refine EK_ev (Ev_assign rfl) ?_)) | (refine ek_pick ?_; first | (refine EK_ev (Ev_pick_t rfl rfl) ?_) | (refine EK_ev (Ev_pick_f rfl rfl) ?_)) | (refine ek_extract ?_; first | (refine EK_ev (Ev_extract rfl rfl) ?_)) | (refine ek_len ?_; first | (refine EK_ev (Ev_len_str rfl) ?_) | (refine EK_ev (Ev_len_slice rfl) ?_) | (refine EK_ev (Ev_len_arr rfl) ?_) | (refine EK_ev (Ev_len_map rfl (by (repeat' (first | exact Sel.here | apply Sel.there)); first | done | fail)) ?_)) | (refine ek_add ?_; first | (refine EK_ev (Ev_addI rfl rfl (by omega)) ?_) | (refine EK_ev (Ev_addS rfl rfl (by simp <;> omega)) ?_) | (refine EK_ev (Ev_add rfl rfl) ?_)) | (refine ek_sub ?_; first | (refine EK_ev (Ev_subI rfl rfl (by omega)) ?_) | (refine EK_ev (Ev_sub rfl rfl) ?_)) | (refine ek_mul ?_; first | (refine EK_ev (Ev_mulI rfl rfl (by omega)) ?_) | (refine EK_ev (Ev_mul rfl rfl) ?_)) | (refine ek_quo ?_; first | (refine EK_ev (Ev_quoI rfl rfl (by omega)) ?_) | (refine EK_ev (Ev_quo rfl rfl (by omega)) ?_)) | (refine ek_eql ?_; first | (refine EK_ev (Ev_eqlI_t rfl rfl hz) ?_) | (refine EK_ev (Ev_eqlI rfl rfl) ?_) | (refine EK_ev (Ev_eqlS rfl rfl) ?_) | (refine EK_ev (Ev_eqlNil rfl rfl) ?_) | (refine EK_ev (Ev_eqlB rfl rfl) ?_) | (refine EK_ev (Ev_eqlO rfl rfl rfl (fun _ => rfl)) ?_)) | (refine ek_lss ?_; first | (refine EK_ev (Ev_lssI rfl rfl) ?_) | (refine EK_ev (Ev_lssS rfl rfl) ?_)) | (refine ek_gtr ?_; first | (refine EK_ev (Ev_gtrI rfl rfl) ?_) | (refine EK_ev (Ev_gtrS rfl rfl) ?_)))
    | (refine is_ex ?_; first | (refine KJ_seq_normal ?_) | (refine KJ_seq_ret ?_) | (refine KJ_seq_exit ?_) | (refine KJ_thn_normal ?_) | (refine KJ_thn_ret ?_) | (refine KJ_thn_exit ?_) | (refine KJ_blk_normal ?_) | (refine KJ_blk_ret ?_) | (refine KJ_blk_exit ?_) | (refine KJ_blk_exit' rfl ?_))
    | (refine is_code ?_; first | (refine KJ_seq ?_) | (refine KJ_region ?_) | (refine KJ_cond_dec rfl (fun _ => ?_) (fun _ => ?_) <;> first | (exfalso; omega) | skip) | (refine KJ_cond_t rfl ?_) | (refine KJ_cond_f rfl ?_) | (refine KJ_skip ?_) | (refine KJ_ret ?_) | (refine KJ_exit ?_) | (refine KJ_block ?_)))
      all_goals (refine is_ex ?_; exact KJ_done (by first | exact Or.inl rfl | exact Or.inr rfl) rfl (by (repeat' (first | exact Rvs.nil | (apply Rvs.tmp; exact rfl))); first | done | fail) () (by rfl) (Ent.of (by (repeat' (first | exact Pick.nil | apply Pick.cons | exact Sel.here | apply Sel.there)); first | done | fail) (by (repeat' (first | exact DropTo.refl | apply DropTo.there)); first | done | fail)))
    · rw [hS, hNn, hE, if_neg hz, if_neg hz, if_neg hz]
      repeat' (first 
    | (refine is_list ?_; first | (refine KJ_plain ?_) | (refine KJ_nil ?_) | (refine KJ_guard_dec_t rfl rfl rfl (fun _ => ?_) (fun _ => ?_) <;> first | (exfalso; omega) | skip) | (refine KJ_guard_dec_f rfl rfl rfl (fun _ => ?_) (fun _ => ?_) <;> first | (exfalso; omega) | skip) | (refine KJ_guard_yes rfl rfl ?_) | (refine KJ_guard_no rfl rfl rfl rfl ?_))
    | (refine is_oper ?_; first | (refine KJ_ek rfl ?_) | (refine KJ_ek0 ?_))
    | (refine is_ek ?_; first | (refine ek_move ?_; first | (refine EK_ev (Ev_move rfl) ?_)) | (refine ek_assign ?_; first | (refine EK_ev (Ev_assign rfl) ?_)) | (refine ek_pick ?_; first | (refine EK_ev (Ev_pick_t rfl rfl) ?_) | (refine EK_ev (Ev_pick_f rfl rfl) ?_)) | (refine ek_extract ?_; first | (refine EK_ev (Ev_extract rfl rfl) ?_)) | (refine ek_len ?_; first | (refine EK_ev (Ev_len_str rfl) ?_) | (refine EK_ev (Ev_len_slice rfl) ?_) | (refine EK_ev (Ev_len_arr rfl) ?_) | (refine EK_ev (Ev_len_map rfl (by (repeat' (first | exact Sel.here | apply Sel.there)); first | done | fail)) ?_)) | (refine ek_add ?_; first | (refine EK_ev (Ev_addI rfl rfl (by omega)) ?_) | (refine EK_ev (Ev_addS rfl rfl (by simp <;> omega)) ?_) | (refine EK_ev (Ev_add rfl rfl) ?_)) | (refine ek_sub ?_; first | (refine EK_ev (Ev_subI rfl rfl (by omega)) ?_) | (refine EK_ev (Ev_sub rfl rfl) ?_)) | (refine ek_mul ?_; first | (refine EK_ev (Ev_mulI rfl rfl (by omega)) ?_) | (refine EK_ev (Ev_mul rfl rfl) ?_)) | (refine ek_quo ?_; first | (refine EK_ev (Ev_quoI rfl rfl (by omega)) ?_) | (refine EK_ev (Ev_quo rfl rfl (by omega)) ?_)) | (refine ek_eql ?_; first | (refine EK_ev (Ev_eqlI_f rfl rfl hz) ?_) | (refine EK_ev (Ev_eqlI rfl rfl) ?_) | (refine EK_ev (Ev_eqlS rfl rfl) ?_) | (refine EK_ev (Ev_eqlNil rfl rfl) ?_) | (refine EK_ev (Ev_eqlB rfl rfl) ?_) | (refine EK_ev (Ev_eqlO rfl rfl rfl (fun _ => rfl)) ?_)) | (refine ek_lss ?_; first | (refine EK_ev (Ev_lssI rfl rfl) ?_) | (refine EK_ev (Ev_lssS rfl rfl) ?_)) | (refine ek_gtr ?_; first | (refine EK_ev (Ev_gtrI rfl rfl) ?_) | (refine EK_ev (Ev_gtrS rfl rfl) ?_)))
    | (refine is_ex ?_; first | (refine KJ_seq_normal ?_) | (refine KJ_seq_ret ?_) | (refine KJ_seq_exit ?_) | (refine KJ_thn_normal ?_) | (refine KJ_thn_ret ?_) | (refine KJ_thn_exit ?_) | (refine KJ_blk_normal ?_) | (refine KJ_blk_ret ?_) | (refine KJ_blk_exit ?_) | (refine KJ_blk_exit' rfl ?_))
    | (refine is_code ?_; first | (refine KJ_seq ?_) | (refine KJ_region ?_) | (refine KJ_cond_dec rfl (fun _ => ?_) (fun _ => ?_) <;> first | (exfalso; omega) | skip) | (refine KJ_cond_t rfl ?_) | (refine KJ_cond_f rfl ?_) | (refine KJ_skip ?_) | (refine KJ_ret ?_) | (refine KJ_exit ?_) | (refine KJ_block ?_)))
      all_goals (refine is_ex ?_; exact KJ_done (by first | exact Or.inl rfl | exact Or.inr rfl) rfl (by (repeat' (first | exact Rvs.nil | (apply Rvs.tmp; exact rfl))); first | done | fail) () (by rfl) (Ent.of (by (repeat' (first | exact Pick.nil | apply Pick.cons | exact Sel.here | apply Sel.there)); first | done | fail) (by (repeat' (first | exact DropTo.refl | apply DropTo.there)); first | done | fail)))
/-- the document's Write: the error's number, the image -/
def w8E (N : Nat) (at_ v : Int) (s : List UInt8) : Nat := if ¬ (0 ≤ at_ ∧ at_ ≤ (N : Int) - 2 ∧ 1 ≤ v ∧ v ≤ 1099511627776) then 6 else if 234 < s.length then 3 else 0
def w8I (image : List UInt8) (N : Nat) (at_ v : Int) (s : List UInt8) : List UInt8 := if w8E N at_ v s = 0 then lay image ((at_.toNat + v.toNat % 2) * 256) (sealB v s) else image
set_option maxHeartbeats 1000000 in
set_option maxRecDepth 100000 in
theorem r8write_ct (image : List UInt8) (N : Nat) (hN : image.length = N * 256) (hN2 : N ≤ 65536) (at_ v : Int) (s : List UInt8) (hv : -9223372036854775808 ≤ v ∧ v ≤ 9223372036854775807) : Ct Tryd.prog W 57 [strV image, .int .i64 at_, .int .i64 v, strV s] [] (fun _ : Unit => .tuple #[strV (w8I image N at_ v s), .int .i64 (w8E N at_ v s : Nat)]) (fun _ => []) := by
  have hq : ((image.length : Nat) : Int) / 256 = ((N : Nat) : Int) := by omega
  by_cases hr : ¬ (0 ≤ at_ ∧ at_ ≤ (N : Int) - 2 ∧ 1 ≤ v ∧ v ≤ 1099511627776)
  · have e : w8E N at_ v s = 6 := by unfold w8E; rw [if_pos hr]
    have e1 : w8I image N at_ v s = image := by unfold w8I; rw [e]; rfl
    rw [e, e1]
    by_cases h0 : at_ < 0
    · have q1 : decide (at_ < 0) = true := decide_eq_true h0
      refine Ct.enter Tryd.func57 rfl Tryd.ntmps57 (by simp) (fun R => ?_)
      repeat' (first 
    | (refine is_list ?_; first | (refine KJ_plain ?_) | (refine KJ_nil ?_) | (refine KJ_guard_dec_t rfl rfl rfl (fun _ => ?_) (fun _ => ?_) <;> first | (exfalso; omega) | skip) | (refine KJ_guard_dec_f rfl rfl rfl (fun _ => ?_) (fun _ => ?_) <;> first | (exfalso; omega) | skip) | (refine KJ_guard_yes rfl rfl ?_) | (refine KJ_guard_no rfl rfl rfl rfl ?_))
    | (refine is_oper ?_; first | (refine KJ_ek rfl ?_) | (refine KJ_ek0 ?_))
    | (refine is_ek ?_; first | (refine ek_move ?_; first | (refine EK_ev (Ev_move rfl) ?_)) | (refine ek_assign ?_; first | (refine EK_ev (Ev_assign rfl) ?_)) | (refine ek_pick ?_; first | (refine EK_ev (Ev_pick_t rfl rfl) ?_) | (refine EK_ev (Ev_pick_f rfl rfl) ?_)) | (refine ek_conv ?_; first | (refine EK_ev (Ev_convI64 rfl (by omega)) ?_) | (refine EK_ev (Ev_convI rfl) ?_) | (refine EK_ev (Ev_convS rfl) ?_)) | (refine ek_extract ?_; first | (refine EK_ev (Ev_extract rfl rfl) ?_)) | (refine ek_len ?_; first | (refine EK_ev (Ev_len_str rfl) ?_) | (refine EK_ev (Ev_len_slice rfl) ?_) | (refine EK_ev (Ev_len_arr rfl) ?_) | (refine EK_ev (Ev_len_map rfl (by (repeat' (first | exact Sel.here | apply Sel.there)); first | done | fail)) ?_)) | (refine ek_add ?_; first | (refine EK_ev (Ev_addI rfl rfl (by omega)) ?_) | (refine EK_ev (Ev_addS rfl rfl (by simp <;> omega)) ?_) | (refine EK_ev (Ev_add rfl rfl) ?_)) | (refine ek_sub ?_; first | (refine EK_ev (Ev_subI rfl rfl (by omega)) ?_) | (refine EK_ev (Ev_sub rfl rfl) ?_)) | (refine ek_mul ?_; first | (refine EK_ev (Ev_mulI rfl rfl (by omega)) ?_) | (refine EK_ev (Ev_mul rfl rfl) ?_)) | (refine ek_quo ?_; first | (refine EK_ev (Ev_quoI_v8 rfl rfl (by omega) hq) ?_) | (refine EK_ev (Ev_quoI rfl rfl (by omega)) ?_) | (refine EK_ev (Ev_quo rfl rfl (by omega)) ?_)) | (refine ek_rem ?_; first | (refine EK_ev (Ev_remI rfl rfl (by omega)) ?_) | (refine EK_ev (Ev_rem rfl rfl (by omega)) ?_)) | (refine ek_neq ?_; first | (refine EK_ev (Ev_neqI rfl rfl) ?_) | (refine EK_ev (Ev_neqS rfl rfl) ?_) | (refine EK_ev (Ev_neqNil rfl rfl) ?_) | (refine EK_ev (Ev_neqB rfl rfl) ?_) | (refine EK_ev (Ev_neqO rfl rfl rfl (fun _ => rfl)) ?_)) | (refine ek_lss ?_; first | (refine EK_ev (Ev_lssI_q rfl rfl q1) ?_) | (refine EK_ev (Ev_lssI rfl rfl) ?_) | (refine EK_ev (Ev_lssS rfl rfl) ?_)) | (refine ek_gtr ?_; first | (refine EK_ev (Ev_gtrI rfl rfl) ?_) | (refine EK_ev (Ev_gtrS rfl rfl) ?_)))
    | (refine is_ex ?_; first | (refine KJ_seq_normal ?_) | (refine KJ_seq_ret ?_) | (refine KJ_seq_exit ?_) | (refine KJ_thn_normal ?_) | (refine KJ_thn_ret ?_) | (refine KJ_thn_exit ?_) | (refine KJ_blk_normal ?_) | (refine KJ_blk_ret ?_) | (refine KJ_blk_exit ?_) | (refine KJ_blk_exit' rfl ?_))
    | (refine is_code ?_; first | (refine KJ_seq ?_) | (refine KJ_region ?_) | (refine KJ_cond_dec rfl (fun _ => ?_) (fun _ => ?_) <;> first | (exfalso; omega) | skip) | (refine KJ_cond_t rfl ?_) | (refine KJ_cond_f rfl ?_) | (refine KJ_skip ?_) | (refine KJ_ret ?_) | (refine KJ_exit ?_) | (refine KJ_block ?_) | (refine KJ_draws (id := 10) (.op 0 (.op 1 (.op 2 (.op 3 (.op 4 (.op 5 (.op 6 (.op 7 (.op 8 (.op 9 (.op 10 (.op 11 .nil)))))))))))) (by kernel_rfl) (by kernel_rfl) ?_))
    | (refine is_fw ?_; first | (refine FW_open rfl ?_) | (refine FW_nil ?_) | (refine FW_ef rfl ?_) | (refine FW_efg rfl rfl rfl ?_) | (refine FW_alt ?_ ?_))
    | (refine is_fo ?_; first | (refine FO_dec_t rfl rfl (fun _ => ?_) (fun _ => ?_) <;> first | (exfalso; omega) | skip) | (refine FO_dec_f rfl rfl (fun _ => ?_) (fun _ => ?_) <;> first | (exfalso; omega) | skip) | (refine FO_no rfl rfl rfl rfl ?_) | (refine FO_ekg rfl rfl rfl ?_) | (refine FO_ek rfl ?_))
    | (refine is_ro ?_; first | (refine RO_no rfl rfl rfl rfl ?_) | (refine RO_ekg rfl rfl ?_) | (refine RO_ek ?_))
    | (refine is_raw ?_; first | (refine KJ_flow ?_ ?_))
    | (refine AtR_mk rfl ?_)
    | exact Rech.nil
    | (refine Rech_open rfl ?_))
      all_goals (refine is_ex ?_; exact KJ_done (by first | exact Or.inl rfl | exact Or.inr rfl) rfl (by (repeat' (first | exact Rvs.nil | (apply Rvs.tmp; exact rfl))); first | done | fail) () (by rfl) (Ent.of (by (repeat' (first | exact Pick.nil | apply Pick.cons | exact Sel.here | apply Sel.there)); first | done | fail) (by (repeat' (first | exact DropTo.refl | apply DropTo.there)); first | done | fail)))
    have q1 : decide (at_ < 0) = false := decide_eq_false h0
    by_cases h1 : (N : Int) - 2 < at_
    · have q2 : decide ((N : Int) - 2 < at_) = true := decide_eq_true h1
      refine Ct.enter Tryd.func57 rfl Tryd.ntmps57 (by simp) (fun R => ?_)
      repeat' (first 
    | (refine is_list ?_; first | (refine KJ_plain ?_) | (refine KJ_nil ?_) | (refine KJ_guard_dec_t rfl rfl rfl (fun _ => ?_) (fun _ => ?_) <;> first | (exfalso; omega) | skip) | (refine KJ_guard_dec_f rfl rfl rfl (fun _ => ?_) (fun _ => ?_) <;> first | (exfalso; omega) | skip) | (refine KJ_guard_yes rfl rfl ?_) | (refine KJ_guard_no rfl rfl rfl rfl ?_))
    | (refine is_oper ?_; first | (refine KJ_ek rfl ?_) | (refine KJ_ek0 ?_))
    | (refine is_ek ?_; first | (refine ek_move ?_; first | (refine EK_ev (Ev_move rfl) ?_)) | (refine ek_assign ?_; first | (refine EK_ev (Ev_assign rfl) ?_)) | (refine ek_pick ?_; first | (refine EK_ev (Ev_pick_t rfl rfl) ?_) | (refine EK_ev (Ev_pick_f rfl rfl) ?_)) | (refine ek_conv ?_; first | (refine EK_ev (Ev_convI64 rfl (by omega)) ?_) | (refine EK_ev (Ev_convI rfl) ?_) | (refine EK_ev (Ev_convS rfl) ?_)) | (refine ek_extract ?_; first | (refine EK_ev (Ev_extract rfl rfl) ?_)) | (refine ek_len ?_; first | (refine EK_ev (Ev_len_str rfl) ?_) | (refine EK_ev (Ev_len_slice rfl) ?_) | (refine EK_ev (Ev_len_arr rfl) ?_) | (refine EK_ev (Ev_len_map rfl (by (repeat' (first | exact Sel.here | apply Sel.there)); first | done | fail)) ?_)) | (refine ek_add ?_; first | (refine EK_ev (Ev_addI rfl rfl (by omega)) ?_) | (refine EK_ev (Ev_addS rfl rfl (by simp <;> omega)) ?_) | (refine EK_ev (Ev_add rfl rfl) ?_)) | (refine ek_sub ?_; first | (refine EK_ev (Ev_subI rfl rfl (by omega)) ?_) | (refine EK_ev (Ev_sub rfl rfl) ?_)) | (refine ek_mul ?_; first | (refine EK_ev (Ev_mulI rfl rfl (by omega)) ?_) | (refine EK_ev (Ev_mul rfl rfl) ?_)) | (refine ek_quo ?_; first | (refine EK_ev (Ev_quoI_v8 rfl rfl (by omega) hq) ?_) | (refine EK_ev (Ev_quoI rfl rfl (by omega)) ?_) | (refine EK_ev (Ev_quo rfl rfl (by omega)) ?_)) | (refine ek_rem ?_; first | (refine EK_ev (Ev_remI rfl rfl (by omega)) ?_) | (refine EK_ev (Ev_rem rfl rfl (by omega)) ?_)) | (refine ek_neq ?_; first | (refine EK_ev (Ev_neqI rfl rfl) ?_) | (refine EK_ev (Ev_neqS rfl rfl) ?_) | (refine EK_ev (Ev_neqNil rfl rfl) ?_) | (refine EK_ev (Ev_neqB rfl rfl) ?_) | (refine EK_ev (Ev_neqO rfl rfl rfl (fun _ => rfl)) ?_)) | (refine ek_lss ?_; first | (refine EK_ev (Ev_lssI_q rfl rfl q1) ?_) | (refine EK_ev (Ev_lssI rfl rfl) ?_) | (refine EK_ev (Ev_lssS rfl rfl) ?_)) | (refine ek_gtr ?_; first | (refine EK_ev (Ev_gtrI_q rfl rfl q2) ?_) | (refine EK_ev (Ev_gtrI rfl rfl) ?_) | (refine EK_ev (Ev_gtrS rfl rfl) ?_)))
    | (refine is_ex ?_; first | (refine KJ_seq_normal ?_) | (refine KJ_seq_ret ?_) | (refine KJ_seq_exit ?_) | (refine KJ_thn_normal ?_) | (refine KJ_thn_ret ?_) | (refine KJ_thn_exit ?_) | (refine KJ_blk_normal ?_) | (refine KJ_blk_ret ?_) | (refine KJ_blk_exit ?_) | (refine KJ_blk_exit' rfl ?_))
    | (refine is_code ?_; first | (refine KJ_seq ?_) | (refine KJ_region ?_) | (refine KJ_cond_dec rfl (fun _ => ?_) (fun _ => ?_) <;> first | (exfalso; omega) | skip) | (refine KJ_cond_t rfl ?_) | (refine KJ_cond_f rfl ?_) | (refine KJ_skip ?_) | (refine KJ_ret ?_) | (refine KJ_exit ?_) | (refine KJ_block ?_) | (refine KJ_draws (id := 10) (.op 0 (.op 1 (.op 2 (.op 3 (.op 4 (.op 5 (.op 6 (.op 7 (.op 8 (.op 9 (.op 10 (.op 11 .nil)))))))))))) (by kernel_rfl) (by kernel_rfl) ?_))
    | (refine is_fw ?_; first | (refine FW_open rfl ?_) | (refine FW_nil ?_) | (refine FW_ef rfl ?_) | (refine FW_efg rfl rfl rfl ?_) | (refine FW_alt ?_ ?_))
    | (refine is_fo ?_; first | (refine FO_dec_t rfl rfl (fun _ => ?_) (fun _ => ?_) <;> first | (exfalso; omega) | skip) | (refine FO_dec_f rfl rfl (fun _ => ?_) (fun _ => ?_) <;> first | (exfalso; omega) | skip) | (refine FO_no rfl rfl rfl rfl ?_) | (refine FO_ekg rfl rfl rfl ?_) | (refine FO_ek rfl ?_))
    | (refine is_ro ?_; first | (refine RO_no rfl rfl rfl rfl ?_) | (refine RO_ekg rfl rfl ?_) | (refine RO_ek ?_))
    | (refine is_raw ?_; first | (refine KJ_flow ?_ ?_))
    | (refine AtR_mk rfl ?_)
    | exact Rech.nil
    | (refine Rech_open rfl ?_))
      all_goals (refine is_ex ?_; exact KJ_done (by first | exact Or.inl rfl | exact Or.inr rfl) rfl (by (repeat' (first | exact Rvs.nil | (apply Rvs.tmp; exact rfl))); first | done | fail) () (by rfl) (Ent.of (by (repeat' (first | exact Pick.nil | apply Pick.cons | exact Sel.here | apply Sel.there)); first | done | fail) (by (repeat' (first | exact DropTo.refl | apply DropTo.there)); first | done | fail)))
    have q2 : decide ((N : Int) - 2 < at_) = false := decide_eq_false h1
    by_cases h2 : v < 1
    · have q3 : decide (v < 1) = true := decide_eq_true h2
      refine Ct.enter Tryd.func57 rfl Tryd.ntmps57 (by simp) (fun R => ?_)
      repeat' (first 
    | (refine is_list ?_; first | (refine KJ_plain ?_) | (refine KJ_nil ?_) | (refine KJ_guard_dec_t rfl rfl rfl (fun _ => ?_) (fun _ => ?_) <;> first | (exfalso; omega) | skip) | (refine KJ_guard_dec_f rfl rfl rfl (fun _ => ?_) (fun _ => ?_) <;> first | (exfalso; omega) | skip) | (refine KJ_guard_yes rfl rfl ?_) | (refine KJ_guard_no rfl rfl rfl rfl ?_))
    | (refine is_oper ?_; first | (refine KJ_ek rfl ?_) | (refine KJ_ek0 ?_))
    | (refine is_ek ?_; first | (refine ek_move ?_; first | (refine EK_ev (Ev_move rfl) ?_)) | (refine ek_assign ?_; first | (refine EK_ev (Ev_assign rfl) ?_)) | (refine ek_pick ?_; first | (refine EK_ev (Ev_pick_t rfl rfl) ?_) | (refine EK_ev (Ev_pick_f rfl rfl) ?_)) | (refine ek_conv ?_; first | (refine EK_ev (Ev_convI64 rfl (by omega)) ?_) | (refine EK_ev (Ev_convI rfl) ?_) | (refine EK_ev (Ev_convS rfl) ?_)) | (refine ek_extract ?_; first | (refine EK_ev (Ev_extract rfl rfl) ?_)) | (refine ek_len ?_; first | (refine EK_ev (Ev_len_str rfl) ?_) | (refine EK_ev (Ev_len_slice rfl) ?_) | (refine EK_ev (Ev_len_arr rfl) ?_) | (refine EK_ev (Ev_len_map rfl (by (repeat' (first | exact Sel.here | apply Sel.there)); first | done | fail)) ?_)) | (refine ek_add ?_; first | (refine EK_ev (Ev_addI rfl rfl (by omega)) ?_) | (refine EK_ev (Ev_addS rfl rfl (by simp <;> omega)) ?_) | (refine EK_ev (Ev_add rfl rfl) ?_)) | (refine ek_sub ?_; first | (refine EK_ev (Ev_subI rfl rfl (by omega)) ?_) | (refine EK_ev (Ev_sub rfl rfl) ?_)) | (refine ek_mul ?_; first | (refine EK_ev (Ev_mulI rfl rfl (by omega)) ?_) | (refine EK_ev (Ev_mul rfl rfl) ?_)) | (refine ek_quo ?_; first | (refine EK_ev (Ev_quoI_v8 rfl rfl (by omega) hq) ?_) | (refine EK_ev (Ev_quoI rfl rfl (by omega)) ?_) | (refine EK_ev (Ev_quo rfl rfl (by omega)) ?_)) | (refine ek_rem ?_; first | (refine EK_ev (Ev_remI rfl rfl (by omega)) ?_) | (refine EK_ev (Ev_rem rfl rfl (by omega)) ?_)) | (refine ek_neq ?_; first | (refine EK_ev (Ev_neqI rfl rfl) ?_) | (refine EK_ev (Ev_neqS rfl rfl) ?_) | (refine EK_ev (Ev_neqNil rfl rfl) ?_) | (refine EK_ev (Ev_neqB rfl rfl) ?_) | (refine EK_ev (Ev_neqO rfl rfl rfl (fun _ => rfl)) ?_)) | (refine ek_lss ?_; first | (refine EK_ev (Ev_lssI_q rfl rfl q3) ?_) | (refine EK_ev (Ev_lssI_q rfl rfl q1) ?_) | (refine EK_ev (Ev_lssI rfl rfl) ?_) | (refine EK_ev (Ev_lssS rfl rfl) ?_)) | (refine ek_gtr ?_; first | (refine EK_ev (Ev_gtrI_q rfl rfl q2) ?_) | (refine EK_ev (Ev_gtrI rfl rfl) ?_) | (refine EK_ev (Ev_gtrS rfl rfl) ?_)))
    | (refine is_ex ?_; first | (refine KJ_seq_normal ?_) | (refine KJ_seq_ret ?_) | (refine KJ_seq_exit ?_) | (refine KJ_thn_normal ?_) | (refine KJ_thn_ret ?_) | (refine KJ_thn_exit ?_) | (refine KJ_blk_normal ?_) | (refine KJ_blk_ret ?_) | (refine KJ_blk_exit ?_) | (refine KJ_blk_exit' rfl ?_))
    | (refine is_code ?_; first | (refine KJ_seq ?_) | (refine KJ_region ?_) | (refine KJ_cond_dec rfl (fun _ => ?_) (fun _ => ?_) <;> first | (exfalso; omega) | skip) | (refine KJ_cond_t rfl ?_) | (refine KJ_cond_f rfl ?_) | (refine KJ_skip ?_) | (refine KJ_ret ?_) | (refine KJ_exit ?_) | (refine KJ_block ?_) | (refine KJ_draws (id := 10) (.op 0 (.op 1 (.op 2 (.op 3 (.op 4 (.op 5 (.op 6 (.op 7 (.op 8 (.op 9 (.op 10 (.op 11 .nil)))))))))))) (by kernel_rfl) (by kernel_rfl) ?_))
    | (refine is_fw ?_; first | (refine FW_open rfl ?_) | (refine FW_nil ?_) | (refine FW_ef rfl ?_) | (refine FW_efg rfl rfl rfl ?_) | (refine FW_alt ?_ ?_))
    | (refine is_fo ?_; first | (refine FO_dec_t rfl rfl (fun _ => ?_) (fun _ => ?_) <;> first | (exfalso; omega) | skip) | (refine FO_dec_f rfl rfl (fun _ => ?_) (fun _ => ?_) <;> first | (exfalso; omega) | skip) | (refine FO_no rfl rfl rfl rfl ?_) | (refine FO_ekg rfl rfl rfl ?_) | (refine FO_ek rfl ?_))
    | (refine is_ro ?_; first | (refine RO_no rfl rfl rfl rfl ?_) | (refine RO_ekg rfl rfl ?_) | (refine RO_ek ?_))
    | (refine is_raw ?_; first | (refine KJ_flow ?_ ?_))
    | (refine AtR_mk rfl ?_)
    | exact Rech.nil
    | (refine Rech_open rfl ?_))
      all_goals (refine is_ex ?_; exact KJ_done (by first | exact Or.inl rfl | exact Or.inr rfl) rfl (by (repeat' (first | exact Rvs.nil | (apply Rvs.tmp; exact rfl))); first | done | fail) () (by rfl) (Ent.of (by (repeat' (first | exact Pick.nil | apply Pick.cons | exact Sel.here | apply Sel.there)); first | done | fail) (by (repeat' (first | exact DropTo.refl | apply DropTo.there)); first | done | fail)))
    have q3 : decide (v < 1) = false := decide_eq_false h2
    have q4 : decide (1099511627776 < v) = true := decide_eq_true (by omega)
    refine Ct.enter Tryd.func57 rfl Tryd.ntmps57 (by simp) (fun R => ?_)
    repeat' (first 
    | (refine is_list ?_; first | (refine KJ_plain ?_) | (refine KJ_nil ?_) | (refine KJ_guard_dec_t rfl rfl rfl (fun _ => ?_) (fun _ => ?_) <;> first | (exfalso; omega) | skip) | (refine KJ_guard_dec_f rfl rfl rfl (fun _ => ?_) (fun _ => ?_) <;> first | (exfalso; omega) | skip) | (refine KJ_guard_yes rfl rfl ?_) | (refine KJ_guard_no rfl rfl rfl rfl ?_))
    | (refine is_oper ?_; first | (refine KJ_ek rfl ?_) | (refine KJ_ek0 ?_))
    | (refine is_ek ?_; first | (refine ek_move ?_; first | (refine EK_ev (Ev_move rfl) ?_)) | (refine ek_assign ?_; first | (refine EK_ev (Ev_assign rfl) ?_)) | (refine ek_pick ?_; first | (refine EK_ev (Ev_pick_t rfl rfl) ?_) | (refine EK_ev (Ev_pick_f rfl rfl) ?_)) | (refine ek_conv ?_; first | (refine EK_ev (Ev_convI64 rfl (by omega)) ?_) | (refine EK_ev (Ev_convI rfl) ?_) | (refine EK_ev (Ev_convS rfl) ?_)) | (refine ek_extract ?_; first | (refine EK_ev (Ev_extract rfl rfl) ?_)) | (refine ek_len ?_; first | (refine EK_ev (Ev_len_str rfl) ?_) | (refine EK_ev (Ev_len_slice rfl) ?_) | (refine EK_ev (Ev_len_arr rfl) ?_) | (refine EK_ev (Ev_len_map rfl (by (repeat' (first | exact Sel.here | apply Sel.there)); first | done | fail)) ?_)) | (refine ek_add ?_; first | (refine EK_ev (Ev_addI rfl rfl (by omega)) ?_) | (refine EK_ev (Ev_addS rfl rfl (by simp <;> omega)) ?_) | (refine EK_ev (Ev_add rfl rfl) ?_)) | (refine ek_sub ?_; first | (refine EK_ev (Ev_subI rfl rfl (by omega)) ?_) | (refine EK_ev (Ev_sub rfl rfl) ?_)) | (refine ek_mul ?_; first | (refine EK_ev (Ev_mulI rfl rfl (by omega)) ?_) | (refine EK_ev (Ev_mul rfl rfl) ?_)) | (refine ek_quo ?_; first | (refine EK_ev (Ev_quoI_v8 rfl rfl (by omega) hq) ?_) | (refine EK_ev (Ev_quoI rfl rfl (by omega)) ?_) | (refine EK_ev (Ev_quo rfl rfl (by omega)) ?_)) | (refine ek_rem ?_; first | (refine EK_ev (Ev_remI rfl rfl (by omega)) ?_) | (refine EK_ev (Ev_rem rfl rfl (by omega)) ?_)) | (refine ek_neq ?_; first | (refine EK_ev (Ev_neqI rfl rfl) ?_) | (refine EK_ev (Ev_neqS rfl rfl) ?_) | (refine EK_ev (Ev_neqNil rfl rfl) ?_) | (refine EK_ev (Ev_neqB rfl rfl) ?_) | (refine EK_ev (Ev_neqO rfl rfl rfl (fun _ => rfl)) ?_)) | (refine ek_lss ?_; first | (refine EK_ev (Ev_lssI_q rfl rfl q3) ?_) | (refine EK_ev (Ev_lssI_q rfl rfl q1) ?_) | (refine EK_ev (Ev_lssI rfl rfl) ?_) | (refine EK_ev (Ev_lssS rfl rfl) ?_)) | (refine ek_gtr ?_; first | (refine EK_ev (Ev_gtrI_q rfl rfl q4) ?_) | (refine EK_ev (Ev_gtrI_q rfl rfl q2) ?_) | (refine EK_ev (Ev_gtrI rfl rfl) ?_) | (refine EK_ev (Ev_gtrS rfl rfl) ?_)))
    | (refine is_ex ?_; first | (refine KJ_seq_normal ?_) | (refine KJ_seq_ret ?_) | (refine KJ_seq_exit ?_) | (refine KJ_thn_normal ?_) | (refine KJ_thn_ret ?_) | (refine KJ_thn_exit ?_) | (refine KJ_blk_normal ?_) | (refine KJ_blk_ret ?_) | (refine KJ_blk_exit ?_) | (refine KJ_blk_exit' rfl ?_))
    | (refine is_code ?_; first | (refine KJ_seq ?_) | (refine KJ_region ?_) | (refine KJ_cond_dec rfl (fun _ => ?_) (fun _ => ?_) <;> first | (exfalso; omega) | skip) | (refine KJ_cond_t rfl ?_) | (refine KJ_cond_f rfl ?_) | (refine KJ_skip ?_) | (refine KJ_ret ?_) | (refine KJ_exit ?_) | (refine KJ_block ?_) | (refine KJ_draws (id := 10) (.op 0 (.op 1 (.op 2 (.op 3 (.op 4 (.op 5 (.op 6 (.op 7 (.op 8 (.op 9 (.op 10 (.op 11 .nil)))))))))))) (by kernel_rfl) (by kernel_rfl) ?_))
    | (refine is_fw ?_; first | (refine FW_open rfl ?_) | (refine FW_nil ?_) | (refine FW_ef rfl ?_) | (refine FW_efg rfl rfl rfl ?_) | (refine FW_alt ?_ ?_))
    | (refine is_fo ?_; first | (refine FO_dec_t rfl rfl (fun _ => ?_) (fun _ => ?_) <;> first | (exfalso; omega) | skip) | (refine FO_dec_f rfl rfl (fun _ => ?_) (fun _ => ?_) <;> first | (exfalso; omega) | skip) | (refine FO_no rfl rfl rfl rfl ?_) | (refine FO_ekg rfl rfl rfl ?_) | (refine FO_ek rfl ?_))
    | (refine is_ro ?_; first | (refine RO_no rfl rfl rfl rfl ?_) | (refine RO_ekg rfl rfl ?_) | (refine RO_ek ?_))
    | (refine is_raw ?_; first | (refine KJ_flow ?_ ?_))
    | (refine AtR_mk rfl ?_)
    | exact Rech.nil
    | (refine Rech_open rfl ?_))
    all_goals (refine is_ex ?_; exact KJ_done (by first | exact Or.inl rfl | exact Or.inr rfl) rfl (by (repeat' (first | exact Rvs.nil | (apply Rvs.tmp; exact rfl))); first | done | fail) () (by rfl) (Ent.of (by (repeat' (first | exact Pick.nil | apply Pick.cons | exact Sel.here | apply Sel.there)); first | done | fail) (by (repeat' (first | exact DropTo.refl | apply DropTo.there)); first | done | fail)))
  have hr : 0 ≤ at_ ∧ at_ ≤ (N : Int) - 2 ∧ 1 ≤ v ∧ v ≤ 1099511627776 := by simpa using hr
  have q1 : decide (at_ < 0) = false := decide_eq_false (by omega)
  have q2 : decide ((N : Int) - 2 < at_) = false := decide_eq_false (by omega)
  have q3 : decide (v < 1) = false := decide_eq_false (by omega)
  have q4 : decide (1099511627776 < v) = false := decide_eq_false (by omega)
  by_cases h5 : 234 < s.length
  · have q5 : decide ((234 : Int) < (s.length : Nat)) = true := decide_eq_true (by omega)
    have e : w8E N at_ v s = 3 := by unfold w8E; rw [if_neg (by simpa using hr), if_pos h5]
    have e1 : w8I image N at_ v s = image := by unfold w8I; rw [e]; rfl
    rw [e, e1]
    refine Ct.enter Tryd.func57 rfl Tryd.ntmps57 (by simp) (fun R => ?_)
    repeat' (first 
    | (refine is_list ?_; first | (refine KJ_plain ?_) | (refine KJ_nil ?_) | (refine KJ_guard_dec_t rfl rfl rfl (fun _ => ?_) (fun _ => ?_) <;> first | (exfalso; omega) | skip) | (refine KJ_guard_dec_f rfl rfl rfl (fun _ => ?_) (fun _ => ?_) <;> first | (exfalso; omega) | skip) | (refine KJ_guard_yes rfl rfl ?_) | (refine KJ_guard_no rfl rfl rfl rfl ?_))
    | (refine is_oper ?_; first | (refine KJ_ek rfl ?_) | (refine KJ_ek0 ?_))
    | (refine is_ek ?_; first | (refine ek_move ?_; first | (refine EK_ev (Ev_move rfl) ?_)) | (refine ek_assign ?_; first | (refine EK_ev (Ev_assign rfl) ?_)) | (refine ek_pick ?_; first | (refine EK_ev (Ev_pick_t rfl rfl) ?_) | (refine EK_ev (Ev_pick_f rfl rfl) ?_)) | (refine ek_conv ?_; first | (refine EK_ev (Ev_convI64 rfl (by omega)) ?_) | (refine EK_ev (Ev_convI rfl) ?_) | (refine EK_ev (Ev_convS rfl) ?_)) | (refine ek_extract ?_; first | (refine EK_ev (Ev_extract rfl rfl) ?_)) | (refine ek_len ?_; first | (refine EK_ev (Ev_len_str rfl) ?_) | (refine EK_ev (Ev_len_slice rfl) ?_) | (refine EK_ev (Ev_len_arr rfl) ?_) | (refine EK_ev (Ev_len_map rfl (by (repeat' (first | exact Sel.here | apply Sel.there)); first | done | fail)) ?_)) | (refine ek_add ?_; first | (refine EK_ev (Ev_addI rfl rfl (by omega)) ?_) | (refine EK_ev (Ev_addS rfl rfl (by simp <;> omega)) ?_) | (refine EK_ev (Ev_add rfl rfl) ?_)) | (refine ek_sub ?_; first | (refine EK_ev (Ev_subI rfl rfl (by omega)) ?_) | (refine EK_ev (Ev_sub rfl rfl) ?_)) | (refine ek_mul ?_; first | (refine EK_ev (Ev_mulI rfl rfl (by omega)) ?_) | (refine EK_ev (Ev_mul rfl rfl) ?_)) | (refine ek_quo ?_; first | (refine EK_ev (Ev_quoI_v8 rfl rfl (by omega) hq) ?_) | (refine EK_ev (Ev_quoI rfl rfl (by omega)) ?_) | (refine EK_ev (Ev_quo rfl rfl (by omega)) ?_)) | (refine ek_rem ?_; first | (refine EK_ev (Ev_remI rfl rfl (by omega)) ?_) | (refine EK_ev (Ev_rem rfl rfl (by omega)) ?_)) | (refine ek_neq ?_; first | (refine EK_ev (Ev_neqI rfl rfl) ?_) | (refine EK_ev (Ev_neqS rfl rfl) ?_) | (refine EK_ev (Ev_neqNil rfl rfl) ?_) | (refine EK_ev (Ev_neqB rfl rfl) ?_) | (refine EK_ev (Ev_neqO rfl rfl rfl (fun _ => rfl)) ?_)) | (refine ek_lss ?_; first | (refine EK_ev (Ev_lssI_q rfl rfl q3) ?_) | (refine EK_ev (Ev_lssI_q rfl rfl q1) ?_) | (refine EK_ev (Ev_lssI rfl rfl) ?_) | (refine EK_ev (Ev_lssS rfl rfl) ?_)) | (refine ek_gtr ?_; first | (refine EK_ev (Ev_gtrI_q rfl rfl q5) ?_) | (refine EK_ev (Ev_gtrI_q rfl rfl q4) ?_) | (refine EK_ev (Ev_gtrI_q rfl rfl q2) ?_) | (refine EK_ev (Ev_gtrI rfl rfl) ?_) | (refine EK_ev (Ev_gtrS rfl rfl) ?_)))
    | (refine is_ex ?_; first | (refine KJ_seq_normal ?_) | (refine KJ_seq_ret ?_) | (refine KJ_seq_exit ?_) | (refine KJ_thn_normal ?_) | (refine KJ_thn_ret ?_) | (refine KJ_thn_exit ?_) | (refine KJ_blk_normal ?_) | (refine KJ_blk_ret ?_) | (refine KJ_blk_exit ?_) | (refine KJ_blk_exit' rfl ?_))
    | (refine is_code ?_; first | (refine KJ_seq ?_) | (refine KJ_region ?_) | (refine KJ_cond_dec rfl (fun _ => ?_) (fun _ => ?_) <;> first | (exfalso; omega) | skip) | (refine KJ_cond_t rfl ?_) | (refine KJ_cond_f rfl ?_) | (refine KJ_skip ?_) | (refine KJ_ret ?_) | (refine KJ_exit ?_) | (refine KJ_block ?_) | (refine KJ_draws (id := 10) (.op 0 (.op 1 (.op 2 (.op 3 (.op 4 (.op 5 (.op 6 (.op 7 (.op 8 (.op 9 (.op 10 (.op 11 .nil)))))))))))) (by kernel_rfl) (by kernel_rfl) ?_))
    | (refine is_fw ?_; first | (refine FW_open rfl ?_) | (refine FW_nil ?_) | (refine FW_ef rfl ?_) | (refine FW_efg rfl rfl rfl ?_) | (refine FW_alt ?_ ?_))
    | (refine is_fo ?_; first | (refine FO_dec_t rfl rfl (fun _ => ?_) (fun _ => ?_) <;> first | (exfalso; omega) | skip) | (refine FO_dec_f rfl rfl (fun _ => ?_) (fun _ => ?_) <;> first | (exfalso; omega) | skip) | (refine FO_no rfl rfl rfl rfl ?_) | (refine FO_ekg rfl rfl rfl ?_) | (refine FO_ek rfl ?_))
    | (refine is_ro ?_; first | (refine RO_no rfl rfl rfl rfl ?_) | (refine RO_ekg rfl rfl ?_) | (refine RO_ek ?_))
    | (refine is_raw ?_; first | (refine KJ_flow ?_ ?_))
    | (refine AtR_mk rfl ?_)
    | exact Rech.nil
    | (refine Rech_open rfl ?_))
    all_goals (refine is_ex ?_; exact KJ_done (by first | exact Or.inl rfl | exact Or.inr rfl) rfl (by (repeat' (first | exact Rvs.nil | (apply Rvs.tmp; exact rfl))); first | done | fail) () (by rfl) (Ent.of (by (repeat' (first | exact Pick.nil | apply Pick.cons | exact Sel.here | apply Sel.there)); first | done | fail) (by (repeat' (first | exact DropTo.refl | apply DropTo.there)); first | done | fail)))
  · have q5 : decide ((234 : Int) < (s.length : Nat)) = false := decide_eq_false (by omega)
    have e : w8E N at_ v s = 0 := by unfold w8E; rw [if_neg (by simpa using hr), if_neg h5]
    have e1 : w8I image N at_ v s = lay image ((at_.toNat + v.toNat % 2) * 256) (sealB v s) := by unfold w8I; rw [e]; rfl
    rw [e, e1]
    obtain ⟨a, rfl⟩ : ∃ a : Nat, at_ = (a : Int) := ⟨at_.toNat, by omega⟩
    obtain ⟨V, rfl⟩ : ∃ V : Nat, v = (V : Int) := ⟨v.toNat, by omega⟩
    rw [Int.toNat_natCast, Int.toNat_natCast]
    have cs := rseal_ok (W := W) V (by omega) (by omega) s (by omega)
    have hsl := sealB_length ((V : Nat) : Int) s (by omega)
    have hcv : IntKind.u64.wrap ((V : Nat) : Int) = ((V : Nat) : Int) := u64_of_lt _ (by omega)
    have hrm : ((V : Nat) : Int) % 2 = ((V % 2 : Nat) : Int) := by omega
    obtain ⟨i, hi⟩ : ∃ i, i = a + V % 2 := ⟨_, rfl⟩
    have hA : ((a : Nat) : Int) + ((V % 2 : Nat) : Int) = ((i : Nat) : Int) := by omega
    have hM : ((i : Nat) : Int) * 256 = ((i * 256 : Nat) : Int) := by omega
    have hPp : ((i * 256 : Nat) : Int) + 256 = ((i * 256 + 256 : Nat) : Int) := by omega
    have hib : i * 256 + 256 ≤ image.length := by omega
    rw [← hi]
    obtain ⟨q, hq0⟩ : ∃ q, q = sealB ((V : Nat) : Int) s := ⟨_, rfl⟩
    rw [← hq0] at cs hsl ⊢
    have hlay : (image.take (((i * 256 : Nat) : Int)).toNat ++ q) ++ image.drop (((i * 256 + 256 : Nat) : Int)).toNat = lay image (i * 256) q := by
      rw [Int.toNat_natCast, Int.toNat_natCast]; unfold lay; rw [hsl, List.append_assoc]
    rw [← hlay]
    have hl1 : (image.take (((i * 256 : Nat) : Int)).toNat).length = i * 256 := by rw [Int.toNat_natCast, List.length_take]; omega
    have hl2 : (image.drop (((i * 256 + 256 : Nat) : Int)).toNat).length ≤ image.length := by rw [List.length_drop]; omega
    clear hlay hi hq0
    refine Ct.enter Tryd.func57 rfl Tryd.ntmps57 (by simp) (fun R => ?_)
    repeat' (first 
    | (refine is_list ?_; first | (refine KJ_plain ?_) | (refine KJ_nil ?_) | (refine KJ_guard_dec_t rfl rfl rfl (fun _ => ?_) (fun _ => ?_) <;> first | (exfalso; omega) | skip) | (refine KJ_guard_dec_f rfl rfl rfl (fun _ => ?_) (fun _ => ?_) <;> first | (exfalso; omega) | skip) | (refine KJ_guard_yes rfl rfl ?_) | (refine KJ_guard_no rfl rfl rfl rfl ?_))
    | (refine is_oper ?_; first | (refine is_call ?_; first | (refine KJ_call (by (repeat' (first | exact Evs.nil | refine Evs.cons rfl ?_)); first | done | fail) cs (by (repeat' (first | exact Pick.nil | apply Pick.cons | exact Sel.here | apply Sel.there)); first | done | fail) rfl (fun _ => ?_))) | (refine KJ_ek rfl ?_) | (refine KJ_ek0 ?_))
    | (refine is_ek ?_; first | (refine ek_move ?_; first | (refine EK_ev (Ev_move rfl) ?_)) | (refine ek_assign ?_; first | (refine EK_ev (Ev_assign rfl) ?_)) | (refine ek_pick ?_; first | (refine EK_ev (Ev_pick_t rfl rfl) ?_) | (refine EK_ev (Ev_pick_f rfl rfl) ?_)) | (refine ek_conv ?_; first | (refine EK_ev (Ev_convI_v rfl hcv) ?_) | (refine EK_ev (Ev_convI64 rfl (by omega)) ?_) | (refine EK_ev (Ev_convI rfl) ?_) | (refine EK_ev (Ev_convS rfl) ?_)) | (refine ek_extract ?_; first | (refine EK_ev (Ev_extract rfl rfl) ?_)) | (refine ek_slice ?_; first | (refine EK_ev (Ev_sliceStrFrom rfl rfl (by omega)) ?_) | (refine EK_ev (Ev_sliceStrTo rfl rfl (by omega)) ?_)) | (refine ek_len ?_; first | (refine EK_ev (Ev_len_str rfl) ?_) | (refine EK_ev (Ev_len_slice rfl) ?_) | (refine EK_ev (Ev_len_arr rfl) ?_) | (refine EK_ev (Ev_len_map rfl (by (repeat' (first | exact Sel.here | apply Sel.there)); first | done | fail)) ?_)) | (refine ek_add ?_; first | (refine EK_ev (Ev_addI_v rfl rfl hPp (by omega)) ?_) | (refine EK_ev (Ev_addI_v rfl rfl hA (by omega)) ?_) | (refine EK_ev (Ev_addS rfl rfl (by first | omega | (rw [List.length_append]; omega))) ?_) | (refine EK_ev (Ev_addI rfl rfl (by omega)) ?_) | (refine EK_ev (Ev_addS rfl rfl (by simp <;> omega)) ?_) | (refine EK_ev (Ev_add rfl rfl) ?_)) | (refine ek_sub ?_; first | (refine EK_ev (Ev_subI rfl rfl (by omega)) ?_) | (refine EK_ev (Ev_sub rfl rfl) ?_)) | (refine ek_mul ?_; first | (refine EK_ev (Ev_mulI_v rfl rfl hM (by omega)) ?_) | (refine EK_ev (Ev_mulI rfl rfl (by omega)) ?_) | (refine EK_ev (Ev_mul rfl rfl) ?_)) | (refine ek_quo ?_; first | (refine EK_ev (Ev_quoI_v8 rfl rfl (by omega) hq) ?_) | (refine EK_ev (Ev_quoI rfl rfl (by omega)) ?_) | (refine EK_ev (Ev_quo rfl rfl (by omega)) ?_)) | (refine ek_rem ?_; first | (refine EK_ev (Ev_rem_v rfl rfl (by omega) hrm) ?_) | (refine EK_ev (Ev_remI rfl rfl (by omega)) ?_) | (refine EK_ev (Ev_rem rfl rfl (by omega)) ?_)) | (refine ek_neq ?_; first | (refine EK_ev (Ev_neqI_f rfl rfl (by rfl)) ?_) | (refine EK_ev (Ev_neqI rfl rfl) ?_) | (refine EK_ev (Ev_neqS rfl rfl) ?_) | (refine EK_ev (Ev_neqNil rfl rfl) ?_) | (refine EK_ev (Ev_neqB rfl rfl) ?_) | (refine EK_ev (Ev_neqO rfl rfl rfl (fun _ => rfl)) ?_)) | (refine ek_lss ?_; first | (refine EK_ev (Ev_lssI_q rfl rfl q3) ?_) | (refine EK_ev (Ev_lssI_q rfl rfl q1) ?_) | (refine EK_ev (Ev_lssI rfl rfl) ?_) | (refine EK_ev (Ev_lssS rfl rfl) ?_)) | (refine ek_gtr ?_; first | (refine EK_ev (Ev_gtrI_q rfl rfl q5) ?_) | (refine EK_ev (Ev_gtrI_q rfl rfl q4) ?_) | (refine EK_ev (Ev_gtrI_q rfl rfl q2) ?_) | (refine EK_ev (Ev_gtrI rfl rfl) ?_) | (refine EK_ev (Ev_gtrS rfl rfl) ?_)))
    | (refine is_ex ?_; first | (refine KJ_seq_normal ?_) | (refine KJ_seq_ret ?_) | (refine KJ_seq_exit ?_) | (refine KJ_thn_normal ?_) | (refine KJ_thn_ret ?_) | (refine KJ_thn_exit ?_) | (refine KJ_blk_normal ?_) | (refine KJ_blk_ret ?_) | (refine KJ_blk_exit ?_) | (refine KJ_blk_exit' rfl ?_))
    | (refine is_code ?_; first | (refine KJ_seq ?_) | (refine KJ_region ?_) | (refine KJ_cond_dec rfl (fun _ => ?_) (fun _ => ?_) <;> first | (exfalso; omega) | skip) | (refine KJ_cond_t rfl ?_) | (refine KJ_cond_f rfl ?_) | (refine KJ_skip ?_) | (refine KJ_ret ?_) | (refine KJ_exit ?_) | (refine KJ_block ?_) | (refine KJ_draws (id := 10) (.op 0 (.op 1 (.op 2 (.op 3 (.op 4 (.op 5 (.op 6 (.op 7 (.op 8 (.op 9 (.op 10 (.op 11 .nil)))))))))))) (by kernel_rfl) (by kernel_rfl) ?_))
    | (refine is_fw ?_; first | (refine FW_open rfl ?_) | (refine FW_nil ?_) | (refine FW_ef rfl ?_) | (refine FW_efg rfl rfl rfl ?_) | (refine FW_alt ?_ ?_))
    | (refine is_fo ?_; first | (refine FO_dec_t rfl rfl (fun _ => ?_) (fun _ => ?_) <;> first | (exfalso; omega) | skip) | (refine FO_dec_f rfl rfl (fun _ => ?_) (fun _ => ?_) <;> first | (exfalso; omega) | skip) | (refine FO_no rfl rfl rfl rfl ?_) | (refine FO_ekg rfl rfl rfl ?_) | (refine FO_ek rfl ?_))
    | (refine is_ro ?_; first | (refine RO_no rfl rfl rfl rfl ?_) | (refine RO_ekg rfl rfl ?_) | (refine RO_ek ?_))
    | (refine is_raw ?_; first | (refine KJ_flow ?_ ?_))
    | (refine AtR_mk rfl ?_)
    | exact Rech.nil
    | (refine Rech_open rfl ?_))
    all_goals (refine is_ex ?_; exact KJ_done (by first | exact Or.inl rfl | exact Or.inr rfl) rfl (by (repeat' (first | exact Rvs.nil | (apply Rvs.tmp; exact rfl))); first | done | fail) () (by rfl) (Ent.of (by (repeat' (first | exact Pick.nil | apply Pick.cons | exact Sel.here | apply Sel.there)); first | done | fail) (by (repeat' (first | exact DropTo.refl | apply DropTo.there)); first | done | fail)))
end
end Go.Proofs.YteklldbfdmaafaaDoor
