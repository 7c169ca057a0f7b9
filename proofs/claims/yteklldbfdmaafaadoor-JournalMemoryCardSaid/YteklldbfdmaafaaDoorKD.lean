/-
  Calm8, Keep, AreL, AreT, JLe1, Jou4, Jou5, JLe2, JLe3, JMe1, JLe4, Rng, JEa, Opens, Apart, Open8, Open10, JLe5.
-/
import Derived.RangeFuncIn
import Derived.Test.YteklldbfdmaafaaDoorKC
/-
  Slots over a disk that nobody armed, as plain data: a write lays one sector; what a slot tells then.
-/
namespace Go.Proofs.YteklldbfdmaafaaDoor
open Go Go.RowKit
/-- a disk at rest: power on, nobody armed it, nothing under way -/
structure Rest (D : Dsk) : Prop where
  calm : Calm D
  und : D.und = []
  ok : D.ok
theorem Rest.rd {D : Dsk} (h : Rest D) (i : Nat) : D.rd i = D.sec i := by simp [Dsk.rd, h.und, lastW_nil]
/-- a write of a version at rest -/
theorem rest_write {D : Dsk} (h : Rest D) (a v : Nat) (s : List UInt8) (ha : a + 2 ≤ D.n) (hv : 1 ≤ v) (hv2 : v ≤ 1099511627776) (hs : s.length ≤ 234) :
    slotWE D a v s = 0 ∧ Rest (slotWD D a v s) ∧ (slotWD D a v s).n = D.n ∧ (slotWD D a v s).sec (a + v % 2) = sealB v s ∧ ∀ j, j ≠ a + v % 2 → j < D.n → (slotWD D a v s).sec j = D.sec j := by
  have hn := h.ok.n2
  have hroom : D.roomB (a : Int) = true := by unfold Dsk.roomB; exact decide_eq_true (by omega)
  have hmay : slotMay D (a : Int) (v : Int) = true := by
    unfold slotMay; rw [hroom, decide_eq_true (show (1 : Int) ≤ v by omega), decide_eq_true (show (v : Int) ≤ 1099511627776 by omega)]; rfl
  have hb : ¬ (slotMay D (a : Int) (v : Int) = false) := by rw [hmay]; simp
  have hi : ((a : Int) + (v : Int) % 2) = ((a + v % 2 : Nat) : Int) := by omega
  have hlen := sealB_length (v : Int) s hs
  have hi2 : a + v % 2 < D.n := by omega
  have hhas : D.has ((a + v % 2 : Nat) : Int) = true := by unfold Dsk.has; exact decide_eq_true (by omega)
  have hwE : D.writeE ((a : Int) + (v : Int) % 2) (sealB v s) = 0 := by
    rw [hi]; unfold Dsk.writeE; rw [if_neg (by rw [h.calm.1]; simp), if_pos hhas, if_pos hlen, if_neg (by rw [dead_calm h.calm]; simp)]
  have hD1 : Calm ({ D with und := D.und ++ [(a + v % 2, sealB (v : Int) s)] } : Dsk) := h.calm
  have hw : slotW1 D (a : Int) (v : Int) s = { D with und := [(a + v % 2, sealB (v : Int) s)], writes := w64 (D.writes + 1) } := by
    unfold slotW1 Dsk.writeD
    rw [hi, if_neg (by rw [h.calm.1]; simp), if_pos hhas, if_pos hlen]
    simp only [dead_calm h.calm, gone_calm hD1, Int.toNat_natCast]
    simp [h.und]
  have hok1 : (slotW1 D (a : Int) (v : Int) s).ok := Dsk.writeD_ok h.ok _ _
  have hc1 : Calm (slotW1 D (a : Int) (v : Int) s) := by rw [hw]; exact h.calm
  have hf := flushD_calm hc1
  have hl := h.ok.len
  have e1 : slotWE D a v s = 0 := by
    unfold slotWE
    rw [if_neg hb, if_neg (by omega), if_neg (by rw [hwE]; simp)]
    exact hf.2.2.1
  have e2 : slotWD D a v s = (slotW1 D (a : Int) (v : Int) s).flushD := by
    unfold slotWD
    rw [if_neg hb, if_neg (by omega), if_neg (by rw [hwE]; simp)]
  have hn1 : (slotW1 D (a : Int) (v : Int) s).n = D.n := by rw [hw]
  have himg : (slotWD D a v s).img = lay D.img ((a + v % 2) * 256) (sealB (v : Int) s) := by
    rw [e2, hf.2.2.2.2, hw]; rfl
  refine ⟨e1, ⟨by rw [e2]; exact hf.1, by rw [e2]; exact hf.2.2.2.1, by rw [e2]; exact Dsk.flushD_ok hok1⟩, by rw [e2, hf.2.1, hn1], ?_, fun j hj hjn => ?_⟩
  · unfold Dsk.sec
    rw [himg]
    have := cut_lay_same D.img (sealB (v : Int) s) ((a + v % 2) * 256) (by rw [hlen]; omega)
    rw [hlen] at this
    exact this
  · unfold Dsk.sec
    rw [himg]
    rcases Nat.lt_or_ge j (a + v % 2) with hlt | hge
    · exact cut_lay_before _ _ _ _ _ (by rw [hlen]; omega) (by omega)
    · exact cut_lay_behind _ _ _ _ _ (by rw [hlen]; omega) (by rw [hlen]; omega)

/-- a slot that holds version c (0: none) and its value -/
structure Holds (D : Dsk) (a c : Nat) (l : List UInt8) : Prop where
  here : 0 < c → countO (D.sec (a + c % 2)) ((c % 2 : Nat) : Int) = some ((c : Int), l)
  other : countV (D.sec (a + (c + 1) % 2)) (((c + 1) % 2 : Nat) : Int) < (if c = 0 then 1 else (c : Int))
  none_ : c = 0 → countV (D.sec a) 0 = 0
theorem Holds.keep {D D' : Dsk} {a c : Nat} {l : List UInt8} (h : Holds D a c l) (hs : ∀ k, k < 2 → D'.sec (a + k) = D.sec (a + k)) : Holds D' a c l := by
  have h0 : D'.sec a = D.sec a := hs 0 (by omega)
  exact ⟨fun q => by rw [hs _ (Nat.mod_lt _ (by omega))]; exact h.here q, by rw [hs _ (Nat.mod_lt _ (by omega))]; exact h.other, fun q => by rw [h0]; exact h.none_ q⟩
/-- the next version is written -/
theorem Holds.next {D : Dsk} {a c : Nat} {l s : List UInt8} (hr : Rest D) (ha : a + 2 ≤ D.n) (h : Holds D a c l) (hc : c + 1 ≤ 1099511627776) (hs : s.length ≤ 234) : Holds (slotWD D a (c + 1 : Nat) s) a (c + 1) s := by
  obtain ⟨_, _, _, h1, h2⟩ := rest_write hr a (c + 1) s ha (by omega) hc hs
  refine ⟨fun _ => ?_, ?_, fun q => by omega⟩
  · rw [h1, show (((c + 1) % 2 : Nat) : Int) = ((c + 1 : Nat) : Int) % 2 by omega]
    exact seal_count (c + 1) s hs (by omega) hc
  · have e : (c + 1 + 1) % 2 = c % 2 := by omega
    rw [e, h2 _ (by omega) (by omega), if_neg (by omega)]
    by_cases hz : c = 0
    · subst hz
      have : countV (D.sec a) 0 = 0 := h.none_ rfl
      show countV (D.sec a) 0 < ((0 + 1 : Nat) : Int)
      omega
    · have hh := h.here (by omega)
      have : countV (D.sec (a + c % 2)) ((c % 2 : Nat) : Int) = c := by unfold countV; rw [hh]; rfl
      rw [this]
      omega
theorem blank_sec (n i : Nat) (h : i < n) : (Dsk.blank n).sec i = zs 256 := zs_cut _ _ _ (by omega)
theorem count_zero0 : countV (zs 256) 0 = 0 := by kernel_rfl
theorem count_zero1 : countV (zs 256) 1 = 0 := by kernel_rfl
theorem Holds.blank (n a : Nat) (h : a + 2 ≤ n) : Holds (Dsk.blank n) a 0 [] := by
  refine ⟨fun q => by omega, ?_, fun _ => ?_⟩
  · show countV ((Dsk.blank n).sec (a + 1)) 1 < 1
    rw [blank_sec _ _ (by omega), count_zero1]
    omega
  · rw [blank_sec _ _ (by omega), count_zero0]
theorem blank_rest (n : Nat) (h1 : 1 ≤ n) (h2 : n ≤ 65536) : Rest (Dsk.blank n) := ⟨blank_calm n, rfl, Dsk.blank_ok n h1 h2⟩
end Go.Proofs.YteklldbfdmaafaaDoor
/-
  Slots behind crashes, as plain data: a torn sector counts for the new version only if it is whole.
-/
namespace Go.Proofs.YteklldbfdmaafaaDoor
open Go Go.RowKit
/-- bytes back from the number that they tell -/
theorem getB_bytes (l : List UInt8) (n : Nat) (hn : n ≤ 8) : ∃ v : Nat, v < 2 ^ (8 * n) ∧ getB l n = (v : Int) ∧ ∀ i, i < n → l.getD i 0 = byteAt (v : Int) i := by
  induction n with
  | zero => exact ⟨0, by simp, rfl, fun i hi => by omega⟩
  | succ n ih =>
    obtain ⟨v, hv, hg, hb⟩ := ih (by omega)
    have hc := UInt8.toNat_lt (l.getD n 0)
    obtain ⟨c, hcc⟩ : ∃ c, c = (l.getD n 0).toNat := ⟨_, rfl⟩
    refine ⟨v + (l.getD n 0).toNat * 2 ^ (8 * n), ?_, ?_, fun i hi => ?_⟩
    · rw [← hcc]
      rw [← hcc] at hc
      rw [show 8 * (n + 1) = 8 * n + 8 by omega, Nat.pow_add]
      have h1 : v + c * 2 ^ (8 * n) < (1 + c) * 2 ^ (8 * n) := by rw [Nat.add_mul]; omega
      have h2 : (1 + c) * 2 ^ (8 * n) ≤ 256 * 2 ^ (8 * n) := Nat.mul_le_mul_right _ (by omega)
      rw [Nat.mul_comm _ (2 ^ 8)]
      omega
    · show getPart (getB l n) n (l.getD n 0) = _
      rw [hg, getPart_val _ _ _ (by omega) hv]
    · apply UInt8.toNat_inj.1
      rw [byteAt_val _ _ (by omega)]
      rcases Nat.lt_or_ge i n with h | h
      · have h0 := congrArg UInt8.toNat (hb i h)
        rw [byteAt_val _ _ (by omega)] at h0
        rw [h0, ← hcc]
        have e : c * 2 ^ (8 * n) = (c * 2 ^ (8 * (n - i - 1)) * 256) * 2 ^ (8 * i) := by
          rw [Nat.mul_assoc, Nat.mul_assoc]
          congr 1
          rw [← Nat.mul_assoc, show (256 : Nat) = 2 ^ 8 from rfl, ← Nat.pow_add, ← Nat.pow_add]
          congr 1
          omega
        rw [e, Nat.add_mul_div_right _ _ (Nat.two_pow_pos _), Nat.add_mul_mod_self_right]
      · have : i = n := by omega
        subst this
        rw [← hcc]
        rw [← hcc] at hc
        rw [Nat.add_mul_div_right _ _ (Nat.two_pow_pos _), Nat.div_eq_of_lt hv, Nat.zero_add, Nat.mod_eq_of_lt hc, hcc]
theorem ext_getD (a b : List UInt8) (h : a.length = b.length) (e : ∀ i, i < a.length → a.getD i 0 = b.getD i 0) : a = b := by
  apply List.ext_getElem h
  intro i h1 h2
  have := e i h1
  rw [List.getD, List.getElem?_eq_getElem h1, List.getD, List.getElem?_eq_getElem h2] at this
  simpa using this

/-- the first k bytes of the new one, the rest of the old one -/
def tornB (new old : List UInt8) (k : Nat) : List UInt8 := new.take k ++ old.drop k
theorem torn_length {new old : List UInt8} {k : Nat} (h1 : new.length = 256) (h2 : old.length = 256) (hk : k ≤ 256) : (tornB new old k).length = 256 := by
  simp [tornB]; omega
theorem torn_get {new old : List UInt8} {k : Nat} (h1 : new.length = 256) (hk : k ≤ 256) (i : Nat) : (tornB new old k).getD i 0 = if i < k then new.getD i 0 else old.getD i 0 := by
  unfold tornB
  simp only [List.getD]
  split
  · rw [List.getElem?_append_left (by simp; omega), List.getElem?_take_of_lt (by omega)]
  · rw [List.getElem?_append_right (by simp; omega), List.length_take, Nat.min_eq_left (by omega), List.getElem?_drop]
    congr 2
    omega
theorem torn_torn {new old : List UInt8} {k d : Nat} (h1 : new.length = 256) (h2 : old.length = 256) (hk : k ≤ 256) (hd : d ≤ 256) : new.take d ++ (tornB new old k).drop d = tornB new old (max k d) := by
  have hl := torn_length h1 h2 hk
  have e : new.take d ++ (tornB new old k).drop d = tornB new (tornB new old k) d := rfl
  have hm : max k d ≤ 256 := by omega
  rw [e]
  refine ext_getD _ _ (by rw [torn_length h1 hl hd, torn_length h1 h2 hm]) fun i _ => ?_
  rw [torn_get h1 hd, torn_get h1 hm, torn_get h1 hk]
  repeat' split
  all_goals first | rfl | omega
/-- an old sector of a version two below -/
structure Old (c : Nat) (old : List UInt8) : Prop where
  len : old.length = 256
  tail : ∀ i, i < 8 → old.getD (248 + i) 0 = byteAt ((c - 1 : Nat) : Int) i
/-- power on, nothing under way; it may be armed -/
structure Still (D : Dsk) : Prop where
  on : D.off = false
  und : D.und = []
  ok : D.ok
theorem Still.rest {D : Dsk} (h : Still D) : Rest ({ D with armed := -1 } : Dsk) := ⟨⟨h.on, rfl⟩, h.und, ⟨h.ok.n1, h.ok.n2, h.ok.len, h.ok.und, by simp, by simp⟩⟩
theorem arm_still {D : Dsk} (h : Still D) (k : Int) (hk : k ≤ 9223372036854775807) : Still (D.arm k) := ⟨h.on, h.und, Dsk.arm_ok h.ok k hk⟩
/-- a write to a disk at rest that may be armed: the three ways -/
theorem slot_three {D : Dsk} (h : Still D) (a v : Nat) (s : List UInt8) (ha : a + 2 ≤ D.n) (hv : 1 ≤ v) (hv2 : v ≤ 1099511627776) (hs : s.length ≤ 234) :
    (D.armed = 0 → slotWE D a v s = 12 ∧ slotWD D a v s = { D with off := true, und := [(a + v % 2, sealB v s)] }) ∧
    (D.armed = 1 → slotWE D a v s = 12 ∧ slotWD D a v s = { D with armed := 0, off := true, und := [(a + v % 2, sealB v s)], writes := w64 (D.writes + 1) }) ∧
    (D.armed ≠ 0 → D.armed ≠ 1 → slotWE D a v s = 0 ∧ ∃ r, slotWD D a v s = { D with armed := r, img := lay D.img ((a + v % 2) * 256) (sealB v s), writes := w64 (D.writes + 1), flushes := w64 (D.flushes + 1) }) := by
  have hroom : D.roomB (a : Int) = true := by unfold Dsk.roomB; exact decide_eq_true (by omega)
  have hmay : slotMay D (a : Int) (v : Int) = true := by
    unfold slotMay; rw [hroom, decide_eq_true (show (1 : Int) ≤ v by omega), decide_eq_true (show (v : Int) ≤ 1099511627776 by omega)]; rfl
  have hi : ((a : Int) + (v : Int) % 2) = ((a + v % 2 : Nat) : Int) := by omega
  have hlen := sealB_length (v : Int) s hs
  have hhas : D.has ((a + v % 2 : Nat) : Int) = true := by unfold Dsk.has; exact decide_eq_true (by omega)
  have ha1 := h.ok.arm1
  obtain ⟨n, img, und, off, armed, wr, fl, lf⟩ := D
  obtain rfl : off = false := h.on
  obtain rfl : und = [] := h.und
  have hb : ¬ (slotMay ({ n := n, img := img, und := [], off := false, armed := armed, writes := wr, flushes := fl, life := lf } : Dsk) (a : Int) (v : Int) = false) := by rw [hmay]; simp
  obtain ⟨q, hq⟩ : ∃ q, q = sealB (v : Int) s := ⟨_, rfl⟩
  have h234 : ¬ (234 < s.length) := by omega
  unfold slotWE slotWD slotW1
  rw [if_neg hb, if_neg h234, if_neg hb, if_neg h234, hi, ← hq]
  rw [← hq] at hlen
  obtain ⟨i, hii⟩ : ∃ i, i = a + v % 2 := ⟨_, rfl⟩
  rw [← hii] at hhas ⊢
  dsimp only at ha1
  refine ⟨fun h0 => ?_, fun h0 => ?_, fun h0 h1 => ?_⟩
  · dsimp only at h0
    subst h0
    simp [Dsk.writeE, Dsk.writeD, Dsk.dead, Dsk.gone, hhas, hlen]
  · dsimp only at h0
    subst h0
    simp [Dsk.writeE, Dsk.writeD, Dsk.flushE, Dsk.flushD, Dsk.dead, Dsk.gone, hhas, hlen]
  · dsimp only at h0 h1
    by_cases hp : 0 < armed
    · have h2 : 0 < armed - 1 := by omega
      have h3 : ¬ (armed - 1 = 0) := by omega
      have h4 : 1 < armed := by omega
      simp [h4, Dsk.writeE, Dsk.writeD, Dsk.flushE, Dsk.flushD, Dsk.dead, Dsk.gone, hhas, hlen, h0, hp, h3, layAll]
    · simp [Dsk.writeE, Dsk.writeD, Dsk.flushE, Dsk.flushD, Dsk.dead, Dsk.gone, hhas, hlen, h0, hp, layAll]

/-- a slot at place 1 of a disk of three sectors: version c with value l, and, if a next value is chosen, some of it -/
structure Kp (c : Nat) (l : List UInt8) (nx : Option (List UInt8)) (D : Dsk) : Prop where
  still : Still D
  n : D.n = 3
  len : l.length ≤ 234
  here : 0 < c → D.sec (1 + c % 2) = sealB c l
  none_ : c = 0 → D.sec 1 = zs 256
  other : ∃ old k s, Old c old ∧ k ≤ 256 ∧ s.length ≤ 234 ∧ D.sec (1 + (c + 1) % 2) = tornB (sealB (c + 1 : Nat) s) old k ∧ (∀ x, nx = some x → s = x) ∧ (nx = none → k = 0)
theorem zs_old : Old 0 (zs 256) := by
  refine ⟨zs_length _, fun i hi => ?_⟩
  have h1 : (zs 256).getD (248 + i) 0 = 0 := by
    rw [List.getD, zs, List.getElem?_replicate, if_pos (by omega)]; rfl
  rw [h1]
  apply UInt8.toNat_inj.1
  rw [byteAt_val _ _ hi]
  simp
theorem zs_old1 : Old 1 (zs 256) := ⟨zs_old.len, zs_old.tail⟩
theorem seal_old {c : Nat} {l : List UInt8} (hl : l.length ≤ 234) : Old (c + 1) (sealB c l) :=
  ⟨sealB_length _ _ hl, fun i hi => by rw [seal_tail c l hl _ (by omega) (by omega), Nat.add_sub_cancel_left, Nat.add_sub_cancel]⟩
theorem Kp.start : Kp 0 [] none (Dsk.blank 3) :=
  ⟨⟨rfl, rfl, Dsk.blank_ok 3 (by omega) (by omega)⟩, rfl, by simp, fun h => by omega, fun _ => blank_sec 3 1 (by omega), zs 256, 0, [], zs_old, by omega, by simp, by
    rw [blank_sec 3 _ (by omega)]; simp [tornB], fun x h => (by cases h), fun _ => rfl⟩
theorem Kp.choose {c : Nat} {l s : List UInt8} {D : Dsk} (h : Kp c l none D) (hs : s.length ≤ 234) : Kp c l (some s) D := by
  obtain ⟨old, k, s', ho, hk, hs', e, -, hz⟩ := h.other
  have hz := hz rfl
  subst hz
  exact ⟨h.still, h.n, h.len, h.here, h.none_, old, 0, s, ho, by omega, hs, by rw [e]; simp [tornB], fun x hx => (by cases hx; rfl), fun hx => by cases hx⟩
theorem Kp.arm {c : Nat} {l : List UInt8} {nx : Option (List UInt8)} {D : Dsk} (h : Kp c l nx D) (k : Int) (hk : k ≤ 9223372036854775807) : Kp c l nx (D.arm k) :=
  ⟨arm_still h.still k hk, h.n, h.len, h.here, h.none_, h.other⟩
/-- the new version is there -/
theorem Kp.newer {c : Nat} {l s : List UInt8} {nx : Option (List UInt8)} {D D' : Dsk} (h : Kp c l nx D) (hs : s.length ≤ 234) (hst : Still D') (hn : D'.n = 3) (h1 : D'.sec (1 + (c + 1) % 2) = sealB (c + 1 : Nat) s) (h2 : D'.sec (1 + c % 2) = D.sec (1 + c % 2)) : Kp (c + 1) s none D' := by
  refine ⟨hst, hn, hs, fun _ => h1, fun q => by omega, ?_⟩
  have e : (c + 1 + 1) % 2 = c % 2 := by omega
  rw [e, h2]
  by_cases hc : c = 0
  · subst hc
    exact ⟨zs 256, 0, [], zs_old1, by omega, by simp, by rw [show 1 + 0 % 2 = 1 from rfl, h.none_ rfl]; simp [tornB], fun x hx => (by cases hx), fun _ => rfl⟩
  · exact ⟨sealB c l, 0, [], seal_old h.len, by omega, by simp, by rw [h.here (by omega)]; simp [tornB], fun x hx => (by cases hx), fun _ => rfl⟩
theorem Kp.ok {c : Nat} {l s : List UInt8} {D : Dsk} (h : Kp c l (some s) D) (hc : c + 1 ≤ 1099511627776) (hs : s.length ≤ 234) (h0 : D.armed ≠ 0) (h1 : D.armed ≠ 1) :
    slotWE D (1 : Nat) (c + 1 : Nat) s = 0 ∧ Kp (c + 1) s none (slotWD D (1 : Nat) (c + 1 : Nat) s) := by
  have hn := h.n
  obtain ⟨e, r, hD⟩ := (slot_three h.still 1 (c + 1) s (by omega) (by omega) hc hs).2.2 h0 h1
  refine ⟨e, ?_⟩
  have hlen := sealB_length ((c + 1 : Nat) : Int) s hs
  have hl := h.still.ok.len
  have hok : (slotWD D (1 : Nat) (c + 1 : Nat) s).ok := by
    unfold slotWD slotW1
    split
    · exact h.still.ok
    split
    · exact h.still.ok
    split
    · exact Dsk.writeD_ok h.still.ok _ _
    · exact Dsk.flushD_ok (Dsk.writeD_ok h.still.ok _ _)
  refine h.newer hs ⟨by rw [hD]; exact h.still.on, by rw [hD]; exact h.still.und, hok⟩ (by rw [hD]; exact hn) ?_ ?_
  · unfold Dsk.sec
    rw [hD]
    have := cut_lay_same D.img (sealB ((c + 1 : Nat) : Int) s) ((1 + (c + 1) % 2) * 256) (by rw [hlen]; omega)
    rw [hlen] at this
    exact this
  · unfold Dsk.sec
    rw [hD]
    rcases Nat.lt_or_ge (1 + c % 2) (1 + (c + 1) % 2) with hlt | hge
    · exact cut_lay_before _ _ _ _ _ (by rw [hlen]; omega) (by omega)
    · exact cut_lay_behind _ _ _ _ _ (by rw [hlen]; omega) (by rw [hlen]; omega)
/-- a crash of a disk at rest -/
theorem Kp.crash {c : Nat} {l : List UInt8} {nx : Option (List UInt8)} {D : Dsk} (h : Kp c l nx D) (kept : List Bool) (torn bytes : Int) : Kp c l nx (D.crash kept torn bytes) := by
  have hi := crash_clean D h.still.und kept torn bytes
  have hsec : ∀ i, (D.crash kept torn bytes).sec i = D.sec i := fun i => by unfold Dsk.sec; rw [hi]
  exact ⟨⟨rfl, rfl, Dsk.crash_ok h.still.ok _ _ _⟩, h.n, h.len, fun q => by rw [hsec]; exact h.here q, fun q => by rw [hsec]; exact h.none_ q, by obtain ⟨o, k, s, a1, a2, a3, a4, a5⟩ := h.other; exact ⟨o, k, s, a1, a2, a3, by rw [hsec]; exact a4, a5⟩⟩
/-- the power goes in a write -/
theorem Kp.dead {c : Nat} {l s : List UInt8} {D : Dsk} (h : Kp c l (some s) D) (hc : c + 1 ≤ 1099511627776) (hs : s.length ≤ 234) (h0 : D.armed = 0 ∨ D.armed = 1) :
    slotWE D (1 : Nat) (c + 1 : Nat) s = 12 ∧ (slotWD D (1 : Nat) (c + 1 : Nat) s).und.length = 1 ∧ (slotWD D (1 : Nat) (c + 1 : Nat) s).n = 3 ∧ ∀ kept torn bytes, Kp c l (some s) ((slotWD D (1 : Nat) (c + 1 : Nat) s).crash kept torn bytes) := by
  have hn := h.n
  have h3 := slot_three h.still 1 (c + 1) s (by omega) (by omega) hc hs
  have hok : (slotWD D (1 : Nat) (c + 1 : Nat) s).ok := by
    unfold slotWD slotW1
    split
    · exact h.still.ok
    split
    · exact h.still.ok
    split
    · exact Dsk.writeD_ok h.still.ok _ _
    · exact Dsk.flushD_ok (Dsk.writeD_ok h.still.ok _ _)
  obtain ⟨e, hu, him, hN⟩ : slotWE D (1 : Nat) (c + 1 : Nat) s = 12 ∧ (slotWD D (1 : Nat) (c + 1 : Nat) s).und = [(1 + (c + 1) % 2, sealB (c + 1 : Nat) s)] ∧ (slotWD D (1 : Nat) (c + 1 : Nat) s).img = D.img ∧ (slotWD D (1 : Nat) (c + 1 : Nat) s).n = D.n := by
    rcases h0 with h0 | h0
    · obtain ⟨e, hD⟩ := h3.1 h0
      exact ⟨e, by rw [hD], by rw [hD], by rw [hD]⟩
    · obtain ⟨e, hD⟩ := h3.2.1 h0
      exact ⟨e, by rw [hD], by rw [hD], by rw [hD]⟩
  refine ⟨e, by rw [hu]; rfl, by rw [hN, hn], fun kept torn bytes => ?_⟩
  have hlen := sealB_length ((c + 1 : Nat) : Int) s hs
  have hl := h.still.ok.len
  have hd : done kept torn bytes 0 ≤ 256 := by
    unfold done
    split
    · omega
    · split <;> omega
  obtain ⟨d, hdd⟩ : ∃ d, d = done kept torn bytes 0 := ⟨_, rfl⟩
  rw [← hdd] at hd
  have hci : ((slotWD D (1 : Nat) (c + 1 : Nat) s).crash kept torn bytes).img = lay D.img ((1 + (c + 1) % 2) * 256) ((sealB (c + 1 : Nat) s).take d) := by
    show layDone _ _ _ _ _ = _
    rw [hu, him, hdd]
    simp [layDone]
  have htl : ((sealB ((c + 1 : Nat) : Int) s).take d).length = d := by rw [List.length_take]; omega
  have hN' : ((slotWD D (1 : Nat) (c + 1 : Nat) s).crash kept torn bytes).n = 3 := by show (slotWD D (1 : Nat) (c + 1 : Nat) s).n = 3; rw [hN, hn]
  have hfar : ((slotWD D (1 : Nat) (c + 1 : Nat) s).crash kept torn bytes).sec (1 + c % 2) = D.sec (1 + c % 2) := by
    unfold Dsk.sec
    rw [hci]
    rcases Nat.lt_or_ge (1 + c % 2) (1 + (c + 1) % 2) with hlt | hge
    · exact cut_lay_before _ _ _ _ _ (by rw [htl]; omega) (by omega)
    · exact cut_lay_behind _ _ _ _ _ (by rw [htl]; omega) (by rw [htl]; omega)
  have hnear : ((slotWD D (1 : Nat) (c + 1 : Nat) s).crash kept torn bytes).sec (1 + (c + 1) % 2) = (sealB (c + 1 : Nat) s).take d ++ (D.sec (1 + (c + 1) % 2)).drop d := by
    unfold Dsk.sec
    rw [hci]
    have hb : (1 + (c + 1) % 2) * 256 + 256 ≤ D.img.length := by omega
    obtain ⟨o, hoo⟩ : ∃ o, o = (1 + (c + 1) % 2) * 256 := ⟨_, rfl⟩
    rw [← hoo] at hb ⊢
    unfold cut lay
    rw [List.drop_left' (by simp; omega), htl, List.take_append, htl, List.take_of_length_le (by omega), List.drop_take, List.drop_drop]
  obtain ⟨old, k, s', ho, hk, hs', eo, hx, -⟩ := h.other
  have hx := hx s rfl
  subst hx
  rw [eo, torn_torn hlen ho.len hk hd] at hnear
  exact ⟨⟨rfl, rfl, Dsk.crash_ok hok _ _ _⟩, hN', h.len, fun q => by rw [hfar]; exact h.here q, fun q => by
    have := h.none_ q
    subst q
    rw [← this]; exact hfar, old, max k d, s', ho, by omega, hs', hnear, fun x hx => (by cases hx; rfl), fun hx => by cases hx⟩
end Go.Proofs.YteklldbfdmaafaaDoor
/-
  The package area, as plain data: there and back; a write that the power cuts off.
-/
namespace Go.Proofs.YteklldbfdmaafaaDoor
open Go Go.RowKit
theorem layAll_cons (img : List UInt8) (x : Nat × List UInt8) (u : List (Nat × List UInt8)) : layAll img (x :: u) = layAll (lay img (x.1 * 256) x.2) u := rfl
set_option maxRecDepth 10000 in
theorem layAll_off (n j : Nat) : ∀ (u : List (Nat × List UInt8)) (img : List UInt8), img.length = 256 * n → (∀ x ∈ u, x.1 ≠ j ∧ x.1 < n ∧ x.2.length ≤ 256) → cut (layAll img u) (j * 256) 256 = cut img (j * 256) 256 := by
  intro u
  induction u with
  | nil => intro img _ _; rfl
  | cons x u ih =>
    intro img hl h
    obtain ⟨h1, h2, h3⟩ := h x (by simp)
    have hb : x.1 * 256 + x.2.length ≤ img.length := by omega
    rw [layAll_cons, ih _ (by rw [lay_length _ _ _ hb]; exact hl) (fun y hy => h y (by simp [hy]))]
    clear ih h
    rcases Nat.lt_or_ge j x.1 with hlt | hge
    · have hh : j * 256 + 256 ≤ x.1 * 256 := by omega
      exact cut_lay_before _ _ _ _ _ hb hh
    · have hh : x.1 * 256 + x.2.length ≤ j * 256 := by omega
      exact cut_lay_behind _ _ _ _ _ hb hh
theorem cut_lay_torn (img s : List UInt8) (o d : Nat) (hs : s.length = 256) (hd : d ≤ 256) (h : o + 256 ≤ img.length) : cut (lay img o (s.take d)) o 256 = tornB s (cut img o 256) d := by
  have htl : (s.take d).length = d := by rw [List.length_take]; omega
  unfold cut lay tornB
  rw [List.drop_left' (by simp; omega), htl, List.take_append, htl, List.take_of_length_le (by omega), List.drop_take, List.drop_drop]

/-- so many sectors -/
def nsec (l : Nat) : Nat := (l + 233) / 234
/-- the sealed pieces of a value, from sector a on -/
def pcs (stamp : Int) : Nat → Nat → List UInt8 → List (Nat × List UInt8)
  | 0, _, _ => []
  | f + 1, a, v => if v = [] then [] else (a, sealB stamp (v.take 234)) :: pcs stamp f (a + 1) (v.drop 234)
theorem pcs_nil (stamp : Int) (f a : Nat) : pcs stamp f a [] = [] := by cases f <;> simp [pcs]
theorem pcs_cons (stamp : Int) (f a : Nat) (v : List UInt8) (h : v ≠ []) : pcs stamp (f + 1) a v = (a, sealB stamp (v.take 234)) :: pcs stamp f (a + 1) (v.drop 234) := by
  show (if v = [] then _ else _) = _
  rw [if_neg h]
theorem pcs_in (stamp : Int) : ∀ (f a : Nat) (v : List UInt8), ∀ x ∈ pcs stamp f a v, a ≤ x.1 ∧ x.1 < a + nsec v.length ∧ x.2.length = 256 := by
  intro f
  induction f with
  | zero => intro a v x hx; cases hx
  | succ f ih =>
    intro a v x hx
    by_cases hv : v = []
    · rw [hv, pcs_nil] at hx; cases hx
    · rw [pcs_cons _ _ _ _ hv] at hx
      have hp := List.length_pos_iff.2 hv
      rcases List.mem_cons.1 hx with rfl | hx
      · exact ⟨Nat.le_refl _, by unfold nsec; dsimp only; omega, sealB_length _ _ (by rw [List.length_take]; omega)⟩
      · obtain ⟨h1, h2, h3⟩ := ih (a + 1) (v.drop 234) x hx
        rw [List.length_drop] at h2
        unfold nsec at h2 ⊢
        exact ⟨by omega, by omega, h3⟩
/-- cut off pieces -/
def cutP (dn : Nat → Nat) (u : List (Nat × List UInt8)) (s : Nat) : List (Nat × List UInt8) := (u.zipIdx s).map fun x => (x.1.1, x.1.2.take (dn x.2))
theorem cutP_cons (dn : Nat → Nat) (x : Nat × List UInt8) (u : List (Nat × List UInt8)) (s : Nat) : cutP dn (x :: u) s = (x.1, x.2.take (dn s)) :: cutP dn u (s + 1) := rfl
theorem cutP_in (dn : Nat → Nat) : ∀ (u : List (Nat × List UInt8)) (s : Nat), ∀ x ∈ cutP dn u s, ∃ y ∈ u, x.1 = y.1 ∧ x.2.length ≤ y.2.length := by
  intro u
  induction u with
  | nil => intro s x hx; cases hx
  | cons y u ih =>
    intro s x hx
    rw [cutP_cons] at hx
    rcases List.mem_cons.1 hx with rfl | hx
    · exact ⟨y, by simp, rfl, by dsimp only; rw [List.length_take]; omega⟩
    · obtain ⟨z, hz, h⟩ := ih (s + 1) x hx
      exact ⟨z, by simp [hz], h⟩
theorem cutP_full (dn : Nat → Nat) (hd : ∀ k, dn k = 256) : ∀ (u : List (Nat × List UInt8)) (s : Nat), (∀ x ∈ u, x.2.length = 256) → cutP dn u s = u := by
  intro u
  induction u with
  | nil => intro s _; rfl
  | cons y u ih =>
    intro s h
    rw [cutP_cons, ih (s + 1) (fun x hx => h x (by simp [hx])), hd, List.take_of_length_le (by have := h y (by simp); omega)]
theorem layDone_eq (img : List UInt8) (kept : List Bool) (torn bytes : Int) (u : List (Nat × List UInt8)) : layDone img kept torn bytes u = layAll img (cutP (done kept torn bytes) u 0) := by
  unfold layDone layAll cutP
  rw [List.foldl_map]
theorem doneK_le (kept : List Bool) (torn bytes : Int) (k : Nat) : done kept torn bytes k ≤ 256 := by
  unfold done
  split
  · omega
  · split <;> omega
/-- each sector of a value that was cut off: some of the new bytes, then the old ones -/
theorem torn_pcs (stamp : Int) (n : Nat) (dn : Nat → Nat) (hd : ∀ k, dn k ≤ 256) : ∀ (f a m s : Nat) (v img : List UInt8), img.length = 256 * n → a + nsec v.length ≤ n →
    ∀ k, 234 * k < v.length → ∃ d, d ≤ 256 ∧ cut (layAll img (cutP dn ((pcs stamp f a v).take m) s)) ((a + k) * 256) 256 = tornB (sealB stamp ((v.drop (234 * k)).take 234)) (cut img ((a + k) * 256) 256) d ∧ ((∀ k, dn k = 256) → v.length ≤ 234 * f → (pcs stamp f a v).length ≤ m → d = 256) := by
  intro f
  induction f with
  | zero => intro a m s v img hl hn k hk; exact ⟨0, by omega, by simp [pcs, cutP, tornB, layAll], fun _ h => by omega⟩
  | succ f ih =>
    intro a m s v img hl hn k hk
    have hv : v ≠ [] := by rintro rfl; simp at hk
    have hp := List.length_pos_iff.2 hv
    cases m with
    | zero => exact ⟨0, by omega, by simp [cutP, tornB, layAll], fun _ _ h => by rw [pcs_cons _ _ _ _ hv] at h; simp at h⟩
    | succ m =>
      have hs : (v.take 234).length ≤ 234 := by rw [List.length_take]; omega
      have hS := sealB_length stamp _ hs
      have hn' : a + 1 ≤ n ∧ a + 1 + nsec (v.drop 234).length ≤ n := by
        rw [List.length_drop]
        unfold nsec at hn ⊢
        omega
      rw [pcs_cons _ _ _ _ hv, List.take_succ_cons, cutP_cons, layAll_cons]
      dsimp only
      have htl : ((sealB stamp (v.take 234)).take (dn s)).length = dn s := by rw [List.length_take]; have := hd s; omega
      have hb : a * 256 + ((sealB stamp (v.take 234)).take (dn s)).length ≤ img.length := by rw [htl]; have := hd s; omega
      cases k with
      | zero =>
        refine ⟨dn s, hd s, ?_, fun h _ _ => h s⟩
        show cut _ (a * 256) 256 = tornB (sealB stamp (v.take 234)) (cut img (a * 256) 256) (dn s)
        rw [layAll_off n a _ _ (by rw [lay_length _ _ _ hb]; exact hl) (fun x hx => ?_)]
        · exact cut_lay_torn _ _ _ _ hS (hd s) (by omega)
        · obtain ⟨y, hy, e1, e2⟩ := cutP_in _ _ _ _ hx
          obtain ⟨h1, h2, h3⟩ := pcs_in _ _ _ _ y (List.mem_of_mem_take hy)
          exact ⟨by omega, by omega, by omega⟩
      | succ k =>
        obtain ⟨d, h1, h2, h3⟩ := ih (a + 1) m (s + 1) (v.drop 234) (lay img (a * 256) ((sealB stamp (v.take 234)).take (dn s))) (by rw [lay_length _ _ _ hb]; exact hl) hn'.2 k (by rw [List.length_drop]; omega)
        refine ⟨d, h1, ?_, fun q1 q2 q3 => h3 q1 (by rw [List.length_drop]; omega) (by simpa using q3)⟩
        have e1 : (a + 1 + k) * 256 = (a + (k + 1)) * 256 := by omega
        rw [e1, List.drop_drop, show 234 + 234 * k = 234 * (k + 1) by omega, cut_lay_behind _ _ _ _ _ hb (by have := hd s; omega)] at h2
        exact h2
theorem torn_full (new old : List UInt8) (h : new.length = 256) (h2 : old.length = 256) : tornB new old 256 = new := by
  unfold tornB
  rw [List.take_of_length_le (by omega), List.drop_of_length_le (by omega), List.append_nil]

theorem write_ways {D : Dsk} (h : D.off = false) (i : Nat) (hi : i < D.n) (s : List UInt8) (hs : s.length = 256) :
    ((D.writeE i s = 0 ∧ (D.writeD i s).off = false) ∨ D.writeE i s = 12) ∧ (D.writeD i s).und = D.und ++ [(i, s)] ∧ (D.writeD i s).img = D.img ∧ (D.writeD i s).n = D.n ∧ (D.armed = -1 → D.writeE i s = 0 ∧ (D.writeD i s).armed = -1) := by
  have hhas : D.has (i : Int) = true := by unfold Dsk.has; exact decide_eq_true (by omega)
  obtain ⟨n, img, und, off, armed, wr, fl, lf⟩ := D
  obtain rfl : off = false := h
  by_cases h0 : armed = 0
  · subst h0
    simp [Dsk.writeE, Dsk.writeD, Dsk.dead, Dsk.gone, hhas, hs]
  · by_cases hp : 0 < armed
    · simp [Dsk.writeE, Dsk.writeD, Dsk.dead, Dsk.gone, hhas, hs, h0, hp]
      omega
    · simp [Dsk.writeE, Dsk.writeD, Dsk.dead, Dsk.gone, hhas, hs, h0, hp]
theorem flush_ways {D : Dsk} (h : D.off = false) :
    ((D.flushE = 0 ∧ D.flushD.off = false ∧ D.flushD.und = [] ∧ D.flushD.img = layAll D.img D.und) ∨ (D.flushE = 12 ∧ D.flushD.und = D.und ∧ D.flushD.img = D.img)) ∧ D.flushD.n = D.n ∧ (D.armed = -1 → D.flushE = 0 ∧ D.flushD.armed = -1) := by
  obtain ⟨n, img, und, off, armed, wr, fl, lf⟩ := D
  obtain rfl : off = false := h
  by_cases h0 : armed = 0
  · subst h0
    simp [Dsk.flushE, Dsk.flushD, Dsk.dead, Dsk.gone]
  · by_cases hp : 0 < armed
    · simp [Dsk.flushE, Dsk.flushD, Dsk.dead, Dsk.gone, h0, hp]
      omega
    · simp [Dsk.flushE, Dsk.flushD, Dsk.dead, Dsk.gone, h0, hp]
/-- all of it, or the power goes at a write or at the flush -/
theorem aw_ways (stamp : Int) (at_ : Nat) : ∀ (f : Nat) (D : Dsk) (i : Nat) (v : List UInt8), D.off = false → D.ok → v.length ≤ 234 * f → at_ + i + nsec v.length ≤ D.n →
    (((awGo at_ stamp f D i v).1 = 0 ∧ (awGo at_ stamp f D i v).2.off = false ∧ (awGo at_ stamp f D i v).2.und = [] ∧ (awGo at_ stamp f D i v).2.img = layAll D.img (D.und ++ pcs stamp f (at_ + i) v)) ∨
      ((awGo at_ stamp f D i v).1 = 12 ∧ (awGo at_ stamp f D i v).2.img = D.img ∧ ∃ m, (awGo at_ stamp f D i v).2.und = D.und ++ (pcs stamp f (at_ + i) v).take m)) ∧
    (awGo at_ stamp f D i v).2.n = D.n ∧ (awGo at_ stamp f D i v).2.ok ∧ (D.armed = -1 → (awGo at_ stamp f D i v).1 = 0 ∧ (awGo at_ stamp f D i v).2.armed = -1) := by
  have hnil : ∀ (f : Nat) (D : Dsk) (i : Nat), D.off = false → D.ok → (((awGo at_ stamp f D i []).1 = 0 ∧ (awGo at_ stamp f D i []).2.off = false ∧ (awGo at_ stamp f D i []).2.und = [] ∧ (awGo at_ stamp f D i []).2.img = layAll D.img (D.und ++ pcs stamp f (at_ + i) [])) ∨
      ((awGo at_ stamp f D i []).1 = 12 ∧ (awGo at_ stamp f D i []).2.img = D.img ∧ ∃ m, (awGo at_ stamp f D i []).2.und = D.und ++ (pcs stamp f (at_ + i) []).take m)) ∧
    (awGo at_ stamp f D i []).2.n = D.n ∧ (awGo at_ stamp f D i []).2.ok ∧ (D.armed = -1 → (awGo at_ stamp f D i []).1 = 0 ∧ (awGo at_ stamp f D i []).2.armed = -1) := by
    intro f D i ho hk
    rw [awGo_nil, pcs_nil]
    obtain ⟨h1, h2, h3⟩ := flush_ways ho
    refine ⟨?_, h2, Dsk.flushD_ok hk, h3⟩
    rcases h1 with ⟨a, b, c, d⟩ | ⟨a, b, c⟩
    · exact .inl ⟨a, b, c, by rw [List.append_nil]; exact d⟩
    · exact .inr ⟨a, c, 0, by simpa using b⟩
  intro f
  induction f with
  | zero =>
    intro D i v ho hk hv hn
    have : v = [] := List.length_eq_zero_iff.1 (by omega)
    subst this
    exact hnil 0 D i ho hk
  | succ f ih =>
    intro D i v ho hk hv hn
    by_cases h0 : v = []
    · subst h0; exact hnil (f + 1) D i ho hk
    have hp := List.length_pos_iff.2 h0
    have hn' : at_ + i < D.n ∧ at_ + (i + 1) + nsec (v.drop 234).length ≤ D.n := by
      rw [List.length_drop]
      unfold nsec at hn ⊢
      omega
    have hS := sealB_length stamp (v.take 234) (by rw [List.length_take]; omega)
    obtain ⟨w1, w2, w3, w4, w5⟩ := write_ways ho (at_ + i) hn'.1 _ hS
    have hok := Dsk.writeD_ok hk ((at_ + i : Nat) : Int) (sealB stamp (v.take 234))
    have hu : awGo at_ stamp (f + 1) D i v = if D.writeE ((at_ + i : Nat) : Int) (sealB stamp (v.take 234)) ≠ 0 then (D.writeE ((at_ + i : Nat) : Int) (sealB stamp (v.take 234)), D.writeD ((at_ + i : Nat) : Int) (sealB stamp (v.take 234)))
      else awGo at_ stamp f (D.writeD ((at_ + i : Nat) : Int) (sealB stamp (v.take 234))) ((i + 1 : Nat) : Int) (v.drop 234) := by
      show (if v = [] then _ else _) = _
      rw [if_neg h0]
      rfl
    rw [hu, pcs_cons _ _ _ _ h0]
    clear hu
    rcases w1 with ⟨a, b⟩ | a
    · rw [if_neg (by rw [a]; simp)]
      obtain ⟨r1, r2, r3, r4⟩ := ih (D.writeD ((at_ + i : Nat) : Int) (sealB stamp (v.take 234))) (i + 1) (v.drop 234) b hok (by rw [List.length_drop]; omega) (by rw [w4]; exact hn'.2)
      refine ⟨?_, by rw [r2, w4], r3, fun q => r4 (w5 q).2⟩
      rcases r1 with ⟨c1, c2, c3, c4⟩ | ⟨c1, c2, m, c3⟩
      · refine .inl ⟨c1, c2, c3, ?_⟩
        rw [c4, w3, w2, List.append_assoc]
        rfl
      · refine .inr ⟨c1, by rw [c2, w3], m + 1, ?_⟩
        rw [c3, w2, List.append_assoc]
        rfl
    · rw [if_pos (by rw [a]; simp)]
      exact ⟨.inr ⟨a, w3, 1, by rw [w2]; rfl⟩, w4, hok, fun q => by rw [(w5 q).1] at a; cases a⟩

/-- every sector is there, whole: the value -/
theorem ar_back {D : Dsk} (hoff : D.off = false) (hund : D.und = []) (at_ stamp : Nat) (h0 : stamp ≠ 0) : ∀ (f i : Nat) (v acc : List UInt8) (bytes : Int), f = nsec v.length → at_ + i + f ≤ D.n → (0 < v.length → bytes = 234 * (i : Int) + v.length) →
    (∀ k, 234 * k < v.length → D.sec (at_ + i + k) = sealB stamp ((v.drop (234 * k)).take 234)) → arGo D at_ stamp bytes f i acc = (acc ++ v, 0) := by
  intro f
  induction f with
  | zero =>
    intro i v acc bytes hf hn hb hs
    have : v = [] := List.length_eq_zero_iff.1 (by unfold nsec at hf; omega)
    subst this
    simp [arGo]
  | succ f ih =>
    intro i v acc bytes hf hn hb hs
    have hp : 0 < v.length := by unfold nsec at hf; omega
    have hb := hb hp
    have hi : D.has ((at_ + i : Nat) : Int) = true := by unfold Dsk.has; exact decide_eq_true (by omega)
    have hE : D.readE ((at_ : Int) + i) = 0 := by
      show D.readE ((at_ + i : Nat) : Int) = 0
      unfold Dsk.readE
      rw [hoff, hi]
      rfl
    have hS : D.readS ((at_ : Int) + i) = D.sec (at_ + i) := by
      show D.readS ((at_ + i : Nat) : Int) = D.sec (at_ + i)
      unfold Dsk.readS Dsk.rd
      rw [hoff, hi, hund]
      rfl
    have h1 := hs 0 (by omega)
    rw [Nat.add_zero, Nat.mul_zero, List.drop_zero] at h1
    have hl : (v.take 234).length ≤ 234 := by rw [List.length_take]; omega
    have ho := seal_open stamp (v.take 234) hl h0
    unfold arGo
    rw [hE, hS, h1, ho, if_neg (by simp)]
    dsimp only
    rw [if_neg (by rw [List.length_take]; omega), ih (i + 1) (v.drop 234) (acc ++ v.take 234) bytes (by rw [List.length_drop]; unfold nsec at hf ⊢; omega) (by omega) (fun q => by rw [List.length_drop] at q ⊢; omega) (fun k hk => ?_), List.append_assoc, List.take_append_drop]
    have h2 := hs (k + 1) (by rw [List.length_drop] at hk; omega)
    rw [List.drop_drop, show 234 + 234 * k = 234 * (k + 1) by omega, ← h2]
    congr 1
    omega
/-- every sector is there, whole, or does not open: the value, or ErrCorrupt -/
theorem ar_mix {D : Dsk} (hoff : D.off = false) (hund : D.und = []) (at_ stamp : Nat) (h0 : stamp ≠ 0) : ∀ (f i : Nat) (v acc : List UInt8) (bytes : Int), f = nsec v.length → at_ + i + f ≤ D.n → (0 < v.length → bytes = 234 * (i : Int) + v.length) →
    (∀ k, 234 * k < v.length → D.sec (at_ + i + k) = sealB stamp ((v.drop (234 * k)).take 234) ∨ openS stamp (D.sec (at_ + i + k)) = none) → arGo D at_ stamp bytes f i acc = (acc ++ v, 0) ∨ arGo D at_ stamp bytes f i acc = ([], 15) := by
  intro f
  induction f with
  | zero =>
    intro i v acc bytes hf hn hb hs
    have : v = [] := List.length_eq_zero_iff.1 (by unfold nsec at hf; omega)
    subst this
    simp [arGo]
  | succ f ih =>
    intro i v acc bytes hf hn hb hs
    have hp : 0 < v.length := by unfold nsec at hf; omega
    have hb := hb hp
    have hi : D.has ((at_ + i : Nat) : Int) = true := by unfold Dsk.has; exact decide_eq_true (by omega)
    have hE : D.readE ((at_ : Int) + i) = 0 := by
      show D.readE ((at_ + i : Nat) : Int) = 0
      unfold Dsk.readE
      rw [hoff, hi]
      rfl
    have hS : D.readS ((at_ : Int) + i) = D.sec (at_ + i) := by
      show D.readS ((at_ + i : Nat) : Int) = D.sec (at_ + i)
      unfold Dsk.readS Dsk.rd
      rw [hoff, hi, hund]
      rfl
    have h1 := hs 0 (by omega)
    rw [Nat.add_zero, Nat.mul_zero, List.drop_zero] at h1
    have hl : (v.take 234).length ≤ 234 := by rw [List.length_take]; omega
    have ho := seal_open stamp (v.take 234) hl h0
    unfold arGo
    rw [hE, hS, if_neg (by simp)]
    rcases h1 with h1 | h1
    · rw [h1, ho]
      dsimp only
      rw [if_neg (by rw [List.length_take]; omega)]
      have := ih (i + 1) (v.drop 234) (acc ++ v.take 234) bytes (by rw [List.length_drop]; unfold nsec at hf ⊢; omega) (by omega) (fun q => by rw [List.length_drop] at q ⊢; omega) (fun k hk => ?_)
      · rwa [List.append_assoc, List.take_append_drop] at this
      have h2 := hs (k + 1) (by rw [List.length_drop] at hk; omega)
      rw [List.drop_drop, show 234 + 234 * k = 234 * (k + 1) by omega, show at_ + (i + 1) + k = at_ + i + (k + 1) by omega]
      exact h2
    · rw [h1]; exact .inr rfl
end Go.Proofs.YteklldbfdmaafaaDoor
/-
  The package area behind crashes, as plain data: a torn sector opens under the newest stamp only if it is whole.
-/
namespace Go.Proofs.YteklldbfdmaafaaDoor
open Go Go.RowKit
/-- the low bytes of a greater number before the high bytes of a smaller one -/
theorem mix_tail (s v j : Nat) (hv : v < s) : ∃ w, w ≤ s ∧ ∀ i, i < 8 → byteAt (w : Int) i = if i < j then byteAt (s : Int) i else byteAt (v : Int) i := by
  obtain ⟨B, hB⟩ : ∃ B, B = 2 ^ (8 * j) := ⟨_, rfl⟩
  have hBp : 0 < B := by rw [hB]; exact Nat.two_pow_pos _
  have hr : s % B < B := Nat.mod_lt _ hBp
  refine ⟨B * (v / B) + s % B, ?_, fun i hi => ?_⟩
  · have h1 := Nat.div_le_div_right (c := B) (Nat.le_of_lt hv)
    have h2 := Nat.div_add_mod s B
    have h3 := Nat.mul_le_mul_left B h1
    omega
  · apply UInt8.toNat_inj.1
    split
    · rename_i hlt
      obtain ⟨e, he⟩ : ∃ e, j = i + 1 + e := ⟨j - i - 1, by omega⟩
      rw [byteAt_val _ _ hi, byteAt_val _ _ hi]
      obtain ⟨A, hA⟩ : ∃ A, A = 2 ^ (8 * i) := ⟨_, rfl⟩
      obtain ⟨C, hC⟩ : ∃ C, C = 2 ^ (8 * e) := ⟨_, rfl⟩
      have hAp : 0 < A := by rw [hA]; exact Nat.two_pow_pos _
      have hB2 : B = A * (256 * C) := by
        rw [hB, hA, hC, he, show 8 * (i + 1 + e) = 8 * i + (8 + 8 * e) by omega, Nat.pow_add, Nat.pow_add]
      have k : ∀ q r, (B * q + r) / A % 256 = r / A % 256 := by
        intro q r
        rw [hB2, Nat.mul_assoc, Nat.mul_add_div hAp, Nat.mul_assoc, Nat.mul_add_mod]
      rw [← hA, k]
      have := k (s / B) (s % B)
      rw [Nat.div_add_mod] at this
      exact this.symm
    · obtain ⟨e, he⟩ : ∃ e, i = j + e := ⟨i - j, by omega⟩
      rw [byteAt_val _ _ hi, byteAt_val _ _ hi]
      have e2 : 2 ^ (8 * i) = B * 2 ^ (8 * e) := by rw [hB, he, Nat.mul_add, Nat.pow_add]
      rw [e2, ← Nat.div_div_eq_div_mul, ← Nat.div_div_eq_div_mul, Nat.mul_add_div hBp, Nat.div_eq_of_lt hr, Nat.add_zero]
theorem torn_tail {s t d : Nat} {p old : List UInt8} (hs : s < 2 ^ 64) (ht : t < s) (hp : p.length ≤ 234) (ho : old.length = 256) (hd : d ≤ 256) (htail : getB (old.drop 248) 8 ≤ (t : Int)) :
    getB ((tornB (sealB s p) old d).drop 248) 8 ≤ (s : Int) ∧ (tornB (sealB s p) old d = sealB s p ∨ openS s (tornB (sealB s p) old d) = none) := by
  have hl := sealB_length (s : Int) p hp
  have hl2 := torn_length hl ho hd
  obtain ⟨v, hv, hg, hb⟩ := getB_bytes (old.drop 248) 8 (by omega)
  rw [hg] at htail
  obtain ⟨w, hw, hwb⟩ := mix_tail s v (d - 248) (by omega)
  have hT : ∀ i, i < 8 → ((tornB (sealB s p) old d).drop 248).getD i 0 = byteAt (w : Int) i := by
    intro i hi
    rw [getD_drop, torn_get hl hd, hwb i hi]
    by_cases h : 248 + i < d
    · rw [if_pos h, if_pos (by omega), seal_tail s p hp _ (by omega) (by omega), Nat.add_sub_cancel_left]
    · rw [if_neg h, if_neg (by omega), ← hb i hi, getD_drop]
  have hG : getB ((tornB (sealB s p) old d).drop 248) 8 = (w : Int) := by
    rw [getB_of _ w 8 (by omega) hT, Nat.mod_eq_of_lt (by omega)]
  refine ⟨by omega, ?_⟩
  by_cases hws : w = s
  · left
    subst hws
    have hdd : 248 < d := by
      rcases Nat.lt_or_ge 248 d with h | h
      · exact h
      · exfalso
        have h1 := getB_of (old.drop 248) w 8 (by omega) (fun i hi => by rw [hb i hi, hwb i hi, if_neg (by omega)])
        rw [hg, Nat.mod_eq_of_lt (by omega)] at h1
        omega
    refine ext_getD _ _ (by rw [hl, hl2]) fun i hi => ?_
    rw [hl2] at hi
    by_cases h : i < d
    · rw [torn_get hl hd, if_pos h]
    · have h1 := hT (i - 248) (by omega)
      rw [getD_drop, show 248 + (i - 248) = i by omega] at h1
      rw [h1, seal_tail w p hp i (by omega) hi]
  · right
    unfold openS
    split
    · rfl
    split
    · rfl
    split
    · rfl
    split
    · rename_i h234 heq
      exfalso
      have hpl : (openP (tornB (sealB s p) old d)).length ≤ 234 := by
        unfold openP
        rw [List.length_drop, List.length_take]
        omega
      have h1 := seal_getT s (openP (tornB (sealB s p) old d)) hpl hs
      rw [heq, hG] at h1
      omega
    · rfl
theorem pcs_length (stamp : Int) : ∀ (f a : Nat) (v : List UInt8), (pcs stamp f a v).length ≤ nsec v.length := by
  intro f
  induction f with
  | zero => intro a v; simp [pcs]
  | succ f ih =>
    intro a v
    by_cases hv : v = []
    · rw [hv, pcs_nil]; simp
    · rw [pcs_cons _ _ _ _ hv, List.length_cons]
      have h := ih (a + 1) (v.drop 234)
      have hp := List.length_pos_iff.2 hv
      rw [List.length_drop] at h
      unfold nsec at h ⊢
      omega

/-- eight sectors at rest whose tails tell no stamp above c -/
structure Ar9 (c : Nat) (D : Dsk) : Prop where
  off : D.off = false
  und : D.und = []
  ok : D.ok
  n : D.n = 8
  tails : ∀ j, j < 8 → getB ((D.sec j).drop 248) 8 ≤ (c : Int)
theorem zs_tail0 : getB ((zs 256).drop 248) 8 = 0 := by kernel_rfl
theorem Ar9.start : Ar9 0 (Dsk.blank 8) := ⟨rfl, rfl, Dsk.blank_ok 8 (by omega) (by omega), rfl, fun j hj => by rw [blank_sec 8 j hj, zs_tail0]; omega⟩
theorem Ar9.step {c : Nat} {D : Dsk} (h : Ar9 c D) (hc : c + 1 < 2 ^ 64) (k : Int) (hk : k ≤ 9223372036854775807) (v : List UInt8) (hv : v.length ≤ 1404) (kept : List Bool) (torn bytes : Int) :
    ((areaW (D.arm k) 2 6 (c + 1 : Nat) v).1 = 0 ∨ (areaW (D.arm k) 2 6 (c + 1 : Nat) v).1 = 12) ∧ (areaW (D.arm k) 2 6 (c + 1 : Nat) v).2.und.length ≤ 6 ∧ (areaW (D.arm k) 2 6 (c + 1 : Nat) v).2.ok ∧ (areaW (D.arm k) 2 6 (c + 1 : Nat) v).2.n = 8 ∧
    Ar9 (c + 1) ((areaW (D.arm k) 2 6 (c + 1 : Nat) v).2.crash kept torn bytes) ∧
    (areaR ((areaW (D.arm k) 2 6 (c + 1 : Nat) v).2.crash kept torn bytes) 2 6 (c + 1 : Nat) v.length = (v, 0) ∨
      areaR ((areaW (D.arm k) 2 6 (c + 1 : Nat) v).2.crash kept torn bytes) 2 6 (c + 1 : Nat) v.length = ([], 15) ∧ (areaW (D.arm k) 2 6 (c + 1 : Nat) v).1 = 12) := by
  have hn := h.n
  have hlen := h.ok.len
  rw [hn] at hlen
  have hroom : roomI 6 = 1404 := rfl
  have hns : nsec v.length ≤ 6 := by unfold nsec; omega
  have e1 : areaW (D.arm k) 2 6 (c + 1 : Nat) v = awGo ((2 : Nat) : Int) (c + 1 : Nat) v.length (D.arm k) ((0 : Nat) : Int) v := by
    unfold areaW
    have hm : (D.arm k).mayB 2 6 = true := by unfold Dsk.mayB; exact decide_eq_true (by rw [show (D.arm k).n = D.n from rfl, hn]; omega)
    rw [if_neg (by rw [hm]; simp), if_neg (by omega), if_neg (by rw [hroom]; omega), if_neg (by rw [show (D.arm k).off = D.off from rfl, h.off]; simp)]
    rfl
  obtain ⟨w1, w2, w3, -⟩ := aw_ways (c + 1 : Nat) 2 v.length (D.arm k) 0 v h.off (Dsk.arm_ok h.ok k hk) (by omega) (by rw [show (D.arm k).n = D.n from rfl, hn]; omega)
  rw [← e1] at w1 w2 w3
  clear e1
  rw [show (D.arm k).n = D.n from rfl, hn] at w2
  obtain ⟨r, hr⟩ : ∃ r, r = areaW (D.arm k) 2 6 (c + 1 : Nat) v := ⟨_, rfl⟩
  rw [← hr] at w1 w2 w3 ⊢
  rw [show (D.arm k).und = D.und from rfl, show (D.arm k).img = D.img from rfl, h.und, List.nil_append] at w1
  clear hr
  have hpl := pcs_length (c + 1 : Nat) v.length (2 + 0) v
  have hund : r.2.und.length ≤ 6 := by
    rcases w1 with ⟨_, _, q, _⟩ | ⟨_, _, m, q⟩
    · rw [q]; simp
    · rw [q, List.nil_append, List.length_take]; omega
  have he : r.1 = 0 ∨ r.1 = 12 := by
    rcases w1 with ⟨q, _⟩ | ⟨q, _⟩
    · exact .inl q
    · exact .inr q
  have hok2 := Dsk.crash_ok w3 kept torn bytes
  have hn2 : (r.2.crash kept torn bytes).n = 8 := w2
  obtain ⟨dn, m, hdn, himg, hfull⟩ : ∃ (dn : Nat → Nat) (m : Nat), (∀ k, dn k ≤ 256) ∧ (r.2.crash kept torn bytes).img = layAll D.img (cutP dn ((pcs (c + 1 : Nat) v.length (2 + 0) v).take m) 0) ∧ (r.1 = 0 → (∀ k, dn k = 256) ∧ (pcs (c + 1 : Nat) v.length (2 + 0) v).length ≤ m) := by
    rcases w1 with ⟨q1, q2, q3, q4⟩ | ⟨q1, q2, m, q3⟩
    · refine ⟨fun _ => 256, _, fun _ => Nat.le_refl _, ?_, fun _ => ⟨fun _ => rfl, Nat.le_refl _⟩⟩
      rw [crash_clean _ q3, q4, List.take_of_length_le (Nat.le_refl _), cutP_full _ (fun _ => rfl) _ _ (fun x hx => (pcs_in _ _ _ _ x hx).2.2)]
    · refine ⟨done kept torn bytes, m, doneK_le kept torn bytes, ?_, fun q => by rw [q1] at q; cases q⟩
      show layDone _ _ _ _ _ = _
      rw [layDone_eq, q2, q3, List.nil_append]
  obtain ⟨D2, hD2⟩ : ∃ D2, D2 = r.2.crash kept torn bytes := ⟨_, rfl⟩
  have hoff2 : D2.off = false := by rw [hD2]; rfl
  have hund2 : D2.und = [] := by rw [hD2]; rfl
  rw [← hD2] at hok2 hn2 himg ⊢
  clear hD2
  have hsecs : ∀ k, 234 * k < v.length → ∃ d, d ≤ 256 ∧ D2.sec (2 + k) = tornB (sealB (c + 1 : Nat) ((v.drop (234 * k)).take 234)) (D.sec (2 + k)) d ∧ (r.1 = 0 → d = 256) := by
    intro k hk
    obtain ⟨d, a1, a2, a3⟩ := torn_pcs (c + 1 : Nat) 8 dn hdn v.length (2 + 0) m 0 v D.img hlen (by omega) k hk
    refine ⟨d, a1, ?_, fun q => a3 (hfull q).1 (by omega) (hfull q).2⟩
    unfold Dsk.sec
    rw [himg]
    exact a2
  have hpk : ∀ k, ((v.drop (234 * k)).take 234).length ≤ 234 := fun k => by rw [List.length_take]; omega
  have hsl : ∀ j, j < 8 → (D.sec j).length = 256 := fun j hj => cut_length _ _ _ (by omega)
  have hA : areaR D2 2 6 (c + 1 : Nat) v.length = arGo D2 ((2 : Nat) : Int) (c + 1 : Nat) v.length (nsec v.length) 0 [] := by
    unfold areaR
    have hm : D2.mayB 2 6 = true := by unfold Dsk.mayB; exact decide_eq_true (by rw [hn2]; omega)
    rw [if_neg (by rw [hm]; simp), if_neg (by omega), if_neg (by omega), if_neg (by rw [hroom]; omega), if_neg (by rw [hoff2]; simp)]
    have : (sectorsI v.length).toNat = nsec v.length := by unfold sectorsI nsec; split <;> omega
    rw [this]
    rfl
  refine ⟨he, hund, w3, w2, ⟨hoff2, hund2, hok2, hn2, fun j hj => ?_⟩, ?_⟩
  · by_cases hin : 2 ≤ j ∧ 234 * (j - 2) < v.length
    · obtain ⟨d, a1, a2, _⟩ := hsecs (j - 2) hin.2
      rw [show 2 + (j - 2) = j by omega] at a2
      rw [a2]
      exact (torn_tail hc (by omega) (hpk _) (hsl j hj) a1 (h.tails j hj)).1
    · have : D2.sec j = D.sec j := by
        unfold Dsk.sec
        rw [himg]
        refine layAll_off 8 j _ _ hlen fun x hx => ?_
        obtain ⟨y, hy, b1, b2⟩ := cutP_in _ _ _ _ hx
        obtain ⟨c1, c2, c3⟩ := pcs_in _ _ _ _ y (List.mem_of_mem_take hy)
        unfold nsec at c2 hns
        exact ⟨by omega, by omega, by omega⟩
      rw [this]
      have := h.tails j hj
      omega
  · rw [hA]
    have hmix : ∀ k, 234 * k < v.length → D2.sec (2 + 0 + k) = sealB (c + 1 : Nat) ((v.drop (234 * k)).take 234) ∨ openS (c + 1 : Nat) (D2.sec (2 + 0 + k)) = none := by
      intro k hk
      obtain ⟨d, a1, a2, _⟩ := hsecs k hk
      rw [Nat.add_zero, a2]
      have hj : 2 + k < 8 := by omega
      exact (torn_tail hc (by omega) (hpk k) (hsl _ hj) a1 (h.tails _ hj)).2
    rcases he with he | he
    · left
      refine ar_back hoff2 hund2 2 (c + 1) (by omega) (nsec v.length) 0 v [] v.length rfl (by rw [hn2]; omega) (fun _ => by omega) fun k hk => ?_
      obtain ⟨d, a1, a2, a3⟩ := hsecs k hk
      rw [a3 he, torn_full _ _ (sealB_length _ _ (hpk k)) (hsl _ (by omega))] at a2
      exact a2
    · rcases ar_mix hoff2 hund2 2 (c + 1) (by omega) (nsec v.length) 0 v [] v.length rfl (by rw [hn2]; omega) (fun _ => by omega) hmix with q | q
      · left; rw [q]; rfl
      · right; exact ⟨q, he⟩
end Go.Proofs.YteklldbfdmaafaaDoor
/-
  Journal records read back, as plain data.
-/
namespace Go.Proofs.YteklldbfdmaafaaDoor
open Go Go.RowKit
theorem sizeGo_next (q : List UInt8) (k x : Nat) (hk : k < 4) (hx : x < 2 ^ (8 * k)) (h : sizeGo q k = (x : Int)) : sizeGo q (k + 1) = ((x + (q.getD (1 + k) 0).toNat * 2 ^ (8 * k) : Nat) : Int) := by
  obtain ⟨c, hc⟩ : ∃ c, c = q.getD (1 + k) 0 := ⟨_, rfl⟩
  have hcb := UInt8.toNat_lt c
  have hm : min (8 * (k : Int)).toNat IntKind.i64.bits = 8 * k := by
    show min (8 * (k : Int)).toNat 64 = 8 * k
    omega
  have hp : (2 : Nat) ^ (8 * k) ≤ 2 ^ 24 := Nat.pow_le_pow_right (by omega) (by omega)
  have hp0 := Nat.two_pow_pos (8 * k)
  have hcp : c.toNat * 2 ^ (8 * k) ≤ 255 * 2 ^ 24 := Nat.mul_le_mul (by omega) hp
  show bits .or .i64 (sizeGo q k) (IntKind.i64.wrap (((q.getD (1 + k) 0).toNat : Int) * 2 ^ (min (8 * (k : Int)).toNat IntKind.i64.bits))) = _
  rw [h, hm, ← hc]
  have e2 : ((c.toNat : Int) * 2 ^ (8 * k)) = ((c.toNat * 2 ^ (8 * k) : Nat) : Int) := by simp
  obtain ⟨y, hy⟩ : ∃ y, y = c.toNat * 2 ^ (8 * k) := ⟨_, rfl⟩
  have hor : x ||| y = x + y := by
    rw [hy, Nat.or_comm, Nat.mul_comm, ← Nat.two_pow_add_eq_or_of_lt hx, Nat.add_comm]
  rw [e2, ← hy] 
  rw [← hy] at hcp
  rw [i64_wrap (y : Int) (by omega)]
  have e : bits .or .i64 (x : Int) (y : Int) = IntKind.i64.wrap ((BitVec.ofInt 64 (x : Int) ||| BitVec.ofInt 64 (y : Int)).toNat : Int) := rfl
  have b1 : (BitVec.ofInt 64 (x : Int)).toNat = x := by rw [BitVec.toNat_ofInt]; omega
  have b2 : (BitVec.ofInt 64 (y : Int)).toNat = y := by rw [BitVec.toNat_ofInt]; omega
  rw [e, BitVec.toNat_or, b1, b2, hor]
  exact i64_wrap _ (by omega)
theorem sizeGo_head (L : Nat) (hL : L < 2147483648) (x : List UInt8) : sizeGo (headJ L ++ x) 4 = (L : Int) := by
  have g0 : ((headJ L ++ x).getD (1 + 0) 0).toNat = L % 256 := by show (UInt8.ofNat (L % 256)).toNat = _; rw [UInt8.toNat_ofNat']; omega
  have g1 : ((headJ L ++ x).getD (1 + 1) 0).toNat = L / 256 % 256 := by show (UInt8.ofNat (L / 256 % 256)).toNat = _; rw [UInt8.toNat_ofNat']; omega
  have g2 : ((headJ L ++ x).getD (1 + 2) 0).toNat = L / 65536 % 256 := by show (UInt8.ofNat (L / 65536 % 256)).toNat = _; rw [UInt8.toNat_ofNat']; omega
  have g3 : ((headJ L ++ x).getD (1 + 3) 0).toNat = L / 16777216 % 256 := by show (UInt8.ofNat (L / 16777216 % 256)).toNat = _; rw [UInt8.toNat_ofNat']; omega
  have s0 := sizeGo_next (headJ L ++ x) 0 0 (by omega) (by decide) rfl
  rw [g0] at s0
  have s1 := sizeGo_next (headJ L ++ x) 1 (0 + L % 256 * 2 ^ (8 * 0)) (by omega) (by omega) s0
  rw [g1] at s1
  have s2 := sizeGo_next (headJ L ++ x) 2 (0 + L % 256 * 2 ^ (8 * 0) + L / 256 % 256 * 2 ^ (8 * 1)) (by omega) (by omega) s1
  rw [g2] at s2
  have s3 := sizeGo_next (headJ L ++ x) 3 (0 + L % 256 * 2 ^ (8 * 0) + L / 256 % 256 * 2 ^ (8 * 1) + L / 65536 % 256 * 2 ^ (8 * 2)) (by omega) (by omega) s2
  rw [g3] at s3
  rw [s3]
  omega
section
variable {D : Dsk} {at_ n : Int} {ver : Nat}
theorem recGo_read (i : Nat) (L : Int) : ∀ (f : Nat) (l : List UInt8) (k : Nat) (out : List UInt8), l.length ≤ 233 * f → (out.length : Int) + l.length = L →
    (∀ j p, (chunksJ f l)[j]? = some p → payO D at_ n ver (i + k + j) = some p ∨ payO D at_ n ver (i + k + j) = none) →
    (recGo D at_ n ver i L (chunksJ f l).length k out = some (out ++ l) ∧ ∀ j, j < (chunksJ f l).length → (payO D at_ n ver (i + k + j)).isSome = true) ∨
    (recGo D at_ n ver i L (chunksJ f l).length k out = none ∧ ∃ j, j < (chunksJ f l).length ∧ payO D at_ n ver (i + k + j) = none) := by
  intro f
  induction f with
  | zero =>
    intro l k out hl _ _
    have : l = [] := List.length_eq_zero_iff.1 (by omega)
    subst this
    exact .inl ⟨by simp [chunksJ, recGo], fun j hj => by simp [chunksJ] at hj⟩
  | succ f ih =>
    intro l k out hl hL hp
    by_cases h0 : l = []
    · subst h0
      rw [chunksJ_nil]
      exact .inl ⟨by simp [recGo], fun j hj => by simp at hj⟩
    have hpos := List.length_pos_iff.2 h0
    rw [chunksJ_cons _ _ h0] at hp ⊢
    rw [List.length_cons]
    have hunf : recGo D at_ n ver i L ((chunksJ f (l.drop 233)).length + 1) k out = match payO D at_ n ver (i + k) with
      | none => none
      | some q => if (q.length : Int) ≠ 1 + min (L - out.length) 233 then none else if q.getD 0 0 ≠ 0 then none else recGo D at_ n ver i L (chunksJ f (l.drop 233)).length (k + 1) (out ++ q.drop 1) := rfl
    rw [hunf]
    clear hunf
    have hh := hp 0 (0 :: l.take 233) rfl
    rw [Nat.add_zero] at hh
    rcases hh with hh | hh
    · rw [hh]
      dsimp only
      rw [if_neg (by rw [List.length_cons, List.length_take]; omega), if_neg (by simp)]
      have := ih (l.drop 233) (k + 1) (out ++ l.take 233) (by rw [List.length_drop]; omega) (by rw [List.length_append, List.length_drop, List.length_take]; omega) (fun j p hj => by
        have := hp (j + 1) p (by simpa using hj)
        rwa [show i + k + (j + 1) = i + (k + 1) + j by omega] at this)
      rw [List.append_assoc, List.take_append_drop] at this
      rcases this with ⟨a, b⟩ | ⟨a, j, b, c⟩
      · refine .inl ⟨a, fun j hj => ?_⟩
        cases j with
        | zero => rw [Nat.add_zero, hh]; rfl
        | succ j =>
          have := b j (by omega)
          rwa [show i + (k + 1) + j = i + k + (j + 1) by omega] at this
      · exact .inr ⟨a, j + 1, by omega, by rw [show i + k + (j + 1) = i + (k + 1) + j by omega]; exact c⟩
    · rw [hh]
      exact .inr ⟨rfl, 0, by omega, by rw [Nat.add_zero]; exact hh⟩
theorem recO_read (i : Nat) (r : List UInt8) (hr : r.length < 2147483648) (hp : ∀ j p, (pcsJ r)[j]? = some p → payO D at_ n ver (i + j) = some p ∨ payO D at_ n ver (i + j) = none) (hn : (i : Int) + (pcsJ r).length ≤ n) :
    (recO D at_ n ver i = some (r, ((pcsJ r).length : Int)) ∧ ∀ j, j < (pcsJ r).length → (payO D at_ n ver (i + j)).isSome = true) ∨ (recO D at_ n ver i = none ∧ ∃ j, j < (pcsJ r).length ∧ payO D at_ n ver (i + j) = none) := by
  have hL := pcsJ_length r
  have hlen : (pcsJ r).length = (chunksJ r.length (r.drop 229)).length + 1 := rfl
  have hh := hp 0 (headJ r.length ++ r.take 229) rfl
  rw [Nat.add_zero] at hh
  unfold recO
  rcases hh with hh | hh
  · rw [hh]
    dsimp only
    have hql : (headJ r.length ++ r.take 229).length = 5 + min 229 r.length := by rw [List.length_append, List.length_take]; rfl
    have hdr : (headJ r.length ++ r.take 229).drop 5 = r.take 229 := rfl
    rw [sizeGo_head _ hr, if_neg (by omega), if_neg (by show ¬ ((1 : UInt8) ≠ 1); simp), if_neg (by rw [← hL]; omega), hdr, if_neg (by rw [List.length_take]; omega)]
    have hfu : (costI (r.length : Nat) - 1).toNat = (chunksJ r.length (r.drop 229)).length := by rw [← hL, hlen]; omega
    rw [hfu]
    have := recGo_read (D := D) (at_ := at_) (n := n) (ver := ver) i (r.length : Int) r.length (r.drop 229) 1 (r.take 229) (by rw [List.length_drop]; omega) (by rw [List.length_drop, List.length_take]; omega) (fun j p hj => by
      have := hp (j + 1) p (by unfold pcsJ; simpa using hj)
      rwa [show i + (j + 1) = i + 1 + j by omega] at this)
    rw [List.take_append_drop] at this
    rcases this with ⟨a, b⟩ | ⟨a, j, b, c⟩
    · rw [a]
      refine .inl ⟨by dsimp only; rw [hL], fun j hj => ?_⟩
      cases j with
      | zero => rw [Nat.add_zero, hh]; rfl
      | succ j =>
        have := b j (by omega)
        rwa [show i + 1 + j = i + (j + 1) by omega] at this
    · rw [a]
      exact .inr ⟨rfl, j + 1, by omega, by rw [show i + (j + 1) = i + 1 + j by omega]; exact c⟩
  · rw [hh]
    exact .inr ⟨rfl, 0, by omega, by rw [Nat.add_zero]; exact hh⟩
theorem recO_none {i : Nat} (h : payO D at_ n ver i = none) : recO D at_ n ver i = none := by unfold recO; rw [h]
/-- a log read: some first ones of its records, all unless a sector does not open -/
theorem rp_read : ∀ (rs : List (List UInt8)) (i : Nat) (acc : List (List UInt8)) (f : Nat), (∀ r ∈ rs, r.length < 2147483648) → (∀ j p, (rs.flatMap pcsJ)[j]? = some p → payO D at_ n ver (i + j) = some p ∨ payO D at_ n ver (i + j) = none) →
    (i : Int) + (rs.flatMap pcsJ).length ≤ n → payO D at_ n ver (i + (rs.flatMap pcsJ).length) = none → rs.length < f →
    ∃ m, m ≤ rs.length ∧ rpGo D at_ n ver f i acc = acc ++ rs.take m ∧ (m < rs.length → ∃ j, j < ((rs.take (m + 1)).flatMap pcsJ).length ∧ payO D at_ n ver (i + j) = none) := by
  intro rs
  induction rs with
  | nil =>
    intro i acc f _ _ _ hz hf
    obtain ⟨f', rfl⟩ : ∃ f', f = f' + 1 := ⟨f - 1, by simp at hf; omega⟩
    refine ⟨0, Nat.le_refl _, ?_, fun h => by simp at h⟩
    have := recO_none (i := i) (by simpa using hz)
    unfold rpGo
    rw [this]
    simp
  | cons r rs ih =>
    intro i acc f hr hp hn hz hf
    rw [List.flatMap_cons, List.length_append] at hn hz
    obtain ⟨f', rfl⟩ : ∃ f', f = f' + 1 := ⟨f - 1, by rw [List.length_cons] at hf; omega⟩
    have h1 := recO_read (D := D) (at_ := at_) (n := n) (ver := ver) i r (hr r (by simp)) (fun j p hj => hp j p (by
      rw [List.flatMap_cons, List.getElem?_append_left (List.getElem?_eq_some_iff.1 hj).1]; exact hj)) (by omega)
    rcases h1 with ⟨a, b⟩ | ⟨a, j, b, c⟩
    · obtain ⟨m, m1, m2, m3⟩ := ih (i + (pcsJ r).length) (acc ++ [r]) f' (fun x hx => hr x (by simp [hx])) (fun j p hj => by
        have := hp ((pcsJ r).length + j) p (by
          rw [List.flatMap_cons, List.getElem?_append_right (by omega), Nat.add_sub_cancel_left]; exact hj)
        rwa [← Nat.add_assoc] at this) (by omega) (by rw [Nat.add_assoc]; exact hz) (by rw [List.length_cons] at hf; omega)
      refine ⟨m + 1, by rw [List.length_cons]; omega, ?_, fun h => ?_⟩
      · have hu : rpGo D at_ n ver (f' + 1) i acc = match recO D at_ n ver i with
          | none => acc
          | some (s, u) => rpGo D at_ n ver f' (i + u.toNat) (acc ++ [s]) := rfl
        rw [hu, a]
        dsimp only
        rw [Int.toNat_natCast, m2, List.append_assoc]
        rfl
      · obtain ⟨j, j1, j2⟩ := m3 (by rw [List.length_cons] at h; omega)
        refine ⟨(pcsJ r).length + j, ?_, by rw [← Nat.add_assoc]; exact j2⟩
        rw [List.take_succ_cons, List.flatMap_cons, List.length_append]
        omega
    · refine ⟨0, Nat.zero_le _, ?_, fun _ => ⟨j, ?_, c⟩⟩
      · unfold rpGo
        rw [a]
        simp
      · show j < (([r] : List (List UInt8)).flatMap pcsJ).length
        simpa using b
end
end Go.Proofs.YteklldbfdmaafaaDoor
/-
  JournalCosts (chapter 10): the law's record, its fixed facts, the walk.
-/
namespace Go.Proofs.YteklldbfdmaafaaDoor
open Go Go.RowKit
def recC (fill : Int) (i : Nat) : UInt8 := UInt8.ofNat ((fill + (i : Int) * 7 + (i : Int) / 251) % 256).toNat
def recB (fill : Int) (n : Nat) : List UInt8 := (List.range n).map (recC fill)
def recL (size fill : Int) : List UInt8 := recB fill (IntKind.u64.wrap size % 3001).toNat
theorem recB_length (fill : Int) (n : Nat) : (recB fill n).length = n := by simp [recB]
theorem recB_next (fill : Int) (n : Nat) : recB fill (n + 1) = recB fill n ++ [recC fill n] := by simp [recB, List.range_succ]
theorem recC_int (fill : Int) (i : Nat) : IntKind.u8.wrap (fill + (i : Int) * 7 + (i : Int) / 251) = ((recC fill i).toNat : Int) := by
  have e : IntKind.u8.wrap (fill + (i : Int) * 7 + (i : Int) / 251) = (fill + (i : Int) * 7 + (i : Int) / 251) % 256 := rfl
  unfold recC
  rw [e, UInt8.toNat_ofNat']
  omega
section
variable {P : Program} {W : World} {n : Nat} {E : Env} {H : List SP} {x y : Operand} {t u : TypeId}
theorem Ct.rowShape {P : Program} {W : World} {f : FuncId} {args : List Value} {Hpre : List SP} {A : SP} {e size m : Nat} {xs : List Value} (hm : 0 < m) (h : Ct P W f args Hpre (fun v : Value => .tuple #[v, .nilIface]) (fun v => [A, rowP v e size m xs])) :
    Ct P W f args Hpre (fun x : Nat × Nat => .tuple #[.slice (some ⟨x.1, 0, none⟩) m x.2, .nilIface]) (fun x => [A, rowP (.slice (some ⟨x.1, 0, none⟩) m x.2) e size m xs]) :=
  ⟨fun R w s => (h.go R w s).mono fun en w' ⟨v, he, st⟩ => by
    have hrow := St.row (v := v) (e := e) (size := size) (n := m) (xs := xs) st (.there .here)
    rcases hrow.2 with ⟨_, q⟩ | ⟨g, cap, cur, hv, _⟩
    · omega
    · subst hv
      exact ⟨(g, cap), he, st⟩⟩
end
section
variable {W : World} {E : Nat → Addr} {p g : Nat} {D : Dsk}
set_option maxHeartbeats 400000 in
set_option maxRecDepth 100000 in
theorem record10_ct (size fill : Int) (hf : 0 ≤ fill ∧ fill ≤ 1099511627776) : Ct Tryd.prog W 68 [.int .i64 size, .int .i64 fill] [] (fun _ : Unit => strV (recL size fill)) (fun _ => []) := by
  obtain ⟨B, hB⟩ : ∃ B, IntKind.u64.wrap size = B := ⟨_, rfl⟩
  have hBb : 0 ≤ B ∧ B < 18446744073709551616 := by
    have e : IntKind.u64.wrap size = size % 18446744073709551616 := rfl
    omega
  obtain ⟨n, hn⟩ : ∃ n : Nat, B % 3001 = (n : Int) := ⟨(B % 3001).toNat, by omega⟩
  have hn2 : n ≤ 3000 := by omega
  have eL : recL size fill = recB fill n := by unfold recL; rw [hB, hn]; rfl
  rw [eL]
  clear eL
  refine Ct.enter Tryd.func68 rfl Tryd.ntmps68 (by simp) (fun R => ?_)
  repeat' (first 
    | refine KJ_stp (by first | constructor | fail) ?_
    | (refine is_oper ?_; first | (refine is_store ?_; first | (refine KJ_store rfl rfl (by (repeat' (first | exact Sel.here | apply Sel.there)); first | done | fail) (by first | exact CellsOf.agg | exact CellsOf.one rfl) (by rfl) (by (repeat' (first | exact Ones.nil | exact Ones_bvs _ | refine Ones.cons rfl ?_)); first | done | fail) (by (repeat' (first | exact Laid.nil | apply Laid.cons | apply Laid.skip)); first | done | fail) (by (repeat' (first | exact Rep.here | apply Rep.there)); first | done | fail) ?_)) | (refine is_mkSlice ?_; first | (refine KJ_makeBytes rfl rfl rfl (by omega) rfl (fun g => ?_))) | (refine KJ_ek rfl ?_) | (refine KJ_ek0 ?_))
    | (refine is_ek ?_; first | (refine ek_move ?_; first | (refine EK_ev (Ev_move rfl) ?_)) | (refine ek_assign ?_; first | (refine EK_ev (Ev_assign rfl) ?_)) | (refine ek_conv ?_; first | (refine EK_ev (Ev_convI_v rfl hB) ?_) | (refine EK_ev (Ev_convI64 rfl (by omega)) ?_) | (refine EK_ev (Ev_convI rfl) ?_) | (refine EK_ev (Ev_convS rfl) ?_)) | (refine ek_indexAddr ?_; first | (refine EK_ev (Ev_indexSlice rfl rfl (by omega)) ?_) | (refine EK_ev (Ev_indexArr rfl rfl (by omega)) ?_)) | (refine ek_len ?_; first | (refine EK_ev (Ev_len_str rfl) ?_) | (refine EK_ev (Ev_len_slice rfl) ?_) | (refine EK_ev (Ev_len_arr rfl) ?_) | (refine EK_ev (Ev_len_map rfl (by (repeat' (first | exact Sel.here | apply Sel.there)); first | done | fail)) ?_)) | (refine ek_add ?_; first | (refine EK_ev (Ev_addI rfl rfl (by omega)) ?_) | (refine EK_ev (Ev_addS rfl rfl (by simp <;> omega)) ?_) | (refine EK_ev (Ev_add rfl rfl) ?_)) | (refine ek_mul ?_; first | (refine EK_ev (Ev_mulI rfl rfl (by omega)) ?_) | (refine EK_ev (Ev_mul rfl rfl) ?_)) | (refine ek_quo ?_; first | (refine EK_ev (Ev_quoI rfl rfl (by omega)) ?_) | (refine EK_ev (Ev_quo rfl rfl (by omega)) ?_)) | (refine ek_rem ?_; first | (refine EK_ev (Ev_rem_w rfl rfl (by omega) hn) ?_) | (refine EK_ev (Ev_remI rfl rfl (by omega)) ?_) | (refine EK_ev (Ev_rem rfl rfl (by omega)) ?_)) | (refine ek_lss ?_; first | (refine EK_ev (Ev_lssI rfl rfl) ?_) | (refine EK_ev (Ev_lssS rfl rfl) ?_)))
    | (refine is_ex ?_; first | (refine KJ_blk_exit' rfl ?_))
    | (refine is_code ?_; first | (refine KJ_cond_dec rfl (fun _ => ?_) (fun _ => ?_) <;> first | (exfalso; omega) | skip) | (refine KJ_cond_t rfl ?_) | (refine KJ_cond_f rfl ?_)))
  refine KJ_loop (fun i : {k : Nat // k ≤ n} => [(1, .int .i64 fill), (6, .slice (some ⟨g, 0, none⟩) n n), (15, .int .i64 (n : Nat)), (16, .int .i64 (i.1 : Nat))]) (fun i => [cellsP g (bvs (recB fill i.1 ++ zs (n - i.1))) 5] ++ R) (fun i => n - i.1) ⟨0, by omega⟩ (by (repeat' (first | exact Subs.nil | refine Subs.cons rfl ?_)); first | done | fail) (by show ∀ h, starL (cellsP g (bvs (zs n)) 5 :: R) h → _; exact (Ent.of (by (repeat' (first | exact Pick.nil | apply Pick.cons | exact Sel.here | apply Sel.there)); first | done | fail) (by (repeat' (first | exact DropTo.refl | apply DropTo.there)); first | done | fail))) (fun ⟨k, hk⟩ => ?_)
  dsimp only
  by_cases hlt : k < n
  · have ql : decide ((k : Int) < (n : Nat)) = true := decide_eq_true (by omega)
    have hlen := recB_length fill k
    have hzl : (zs (n - k)).length = n - k := by simp [zs]
    have hcv := recC_int fill k
    have hfit : 0 + (k : Int).toNat * 1 + [Value.int IntKind.u8 ((recC fill k).toNat : Int)].length ≤ (bvs (recB fill k ++ zs (n - k))).length := by rw [bvs_length', List.length_append, hlen, hzl]; simp; omega
    repeat' (first 
    | refine KJ_stp (by first | constructor | fail) ?_
    | (refine is_oper ?_; first | (refine is_store ?_; first | (refine KJ_store (v := .int .u8 ((recC fill k).toNat : Int)) rfl rfl (by (repeat' (first | exact Sel.here | apply Sel.there)); first | done | fail) (by first | exact CellsOf.agg | exact CellsOf.one rfl) (by rfl) (by (repeat' (first | exact Ones.nil | exact Ones_bvs _ | refine Ones.cons rfl ?_)); first | done | fail) (Laid.of hfit) (by (repeat' (first | exact Rep.here | apply Rep.there)); first | done | fail) ?_) | (refine KJ_store rfl rfl (by (repeat' (first | exact Sel.here | apply Sel.there)); first | done | fail) (by first | exact CellsOf.agg | exact CellsOf.one rfl) (by rfl) (by (repeat' (first | exact Ones.nil | exact Ones_bvs _ | refine Ones.cons rfl ?_)); first | done | fail) (by (repeat' (first | exact Laid.nil | apply Laid.cons | apply Laid.skip)); first | done | fail) (by (repeat' (first | exact Rep.here | apply Rep.there)); first | done | fail) ?_)) | (refine KJ_ek rfl ?_) | (refine KJ_ek0 ?_))
    | (refine is_ek ?_; first | (refine ek_move ?_; first | (refine EK_ev (Ev_move rfl) ?_)) | (refine ek_assign ?_; first | (refine EK_ev (Ev_assign rfl) ?_)) | (refine ek_conv ?_; first | (refine EK_ev (Ev_convI_v rfl hcv) ?_) | (refine EK_ev (Ev_convI64 rfl (by omega)) ?_) | (refine EK_ev (Ev_convI rfl) ?_) | (refine EK_ev (Ev_convS rfl) ?_)) | (refine ek_indexAddr ?_; first | (refine EK_ev (Ev_indexSlice rfl rfl (by omega)) ?_) | (refine EK_ev (Ev_indexArr rfl rfl (by omega)) ?_)) | (refine ek_len ?_; first | (refine EK_ev (Ev_len_str rfl) ?_) | (refine EK_ev (Ev_len_slice rfl) ?_) | (refine EK_ev (Ev_len_arr rfl) ?_) | (refine EK_ev (Ev_len_map rfl (by (repeat' (first | exact Sel.here | apply Sel.there)); first | done | fail)) ?_)) | (refine ek_add ?_; first | (refine EK_ev (Ev_addI_v (r := ((k + 1 : Nat) : Int)) rfl rfl (by first | rfl | (exact rfl)) (by omega)) ?_) | (refine EK_ev (Ev_addI rfl rfl (by omega)) ?_) | (refine EK_ev (Ev_addS rfl rfl (by simp <;> omega)) ?_) | (refine EK_ev (Ev_add rfl rfl) ?_)) | (refine ek_mul ?_; first | (refine EK_ev (Ev_mulI rfl rfl (by omega)) ?_) | (refine EK_ev (Ev_mul rfl rfl) ?_)) | (refine ek_quo ?_; first | (refine EK_ev (Ev_quoI rfl rfl (by omega)) ?_) | (refine EK_ev (Ev_quo rfl rfl (by omega)) ?_)) | (refine ek_rem ?_; first | (refine EK_ev (Ev_remI rfl rfl (by omega)) ?_) | (refine EK_ev (Ev_rem rfl rfl (by omega)) ?_)) | (refine ek_lss ?_; first | (refine EK_ev (Ev_lssI_q rfl rfl ql) ?_) | (refine EK_ev (Ev_lssI rfl rfl) ?_) | (refine EK_ev (Ev_lssS rfl rfl) ?_)))
    | (refine is_ex ?_; first | (refine KJ_blk_exit' rfl ?_))
    | (refine is_code ?_; first | (refine KJ_cond_dec rfl (fun _ => ?_) (fun _ => ?_) <;> first | (exfalso; omega) | skip) | (refine KJ_cond_t rfl ?_) | (refine KJ_cond_f rfl ?_)))
    refine KJ_again ⟨k + 1, by omega⟩ (by show n - (k + 1) < n - k; omega) (by (repeat' (first | exact Subs.nil | refine Subs.cons rfl ?_)); first | done | fail) ?_
    have e3 : 0 + (k : Int).toNat * 1 = k := by simp
    have e := lay_zs (recB fill k) k (n - k - 1) (recC fill k) hlen
    rw [show n - k - 1 + 1 = n - k by omega, ← recB_next] at e
    rw [e3]
    have e2 : lay (bvs (recB fill k ++ zs (n - k))) k [Value.int IntKind.u8 ((recC fill k).toNat : Int)] = bvs (recB fill (k + 1) ++ zs (n - (k + 1))) := by
      rw [show n - (k + 1) = n - k - 1 by omega]; exact e
    rw [e2]
    exact (Ent.of (by (repeat' (first | exact Pick.nil | apply Pick.cons | exact Sel.here | apply Sel.there)); first | done | fail) (by (repeat' (first | exact DropTo.refl | apply DropTo.there)); first | done | fail))
  · have hkn : k = n := by omega
    subst hkn
    have ql : decide ((k : Int) < (k : Int)) = false := decide_eq_false (by omega)
    have e0 : recB fill k ++ zs (k - k) = recB fill k := by simp [zs]
    rw [e0]
    repeat' (first 
    | refine KJ_stp (by first | constructor | fail) ?_
    | (refine is_oper ?_; first | (refine is_store ?_; first | (refine KJ_store rfl rfl (by (repeat' (first | exact Sel.here | apply Sel.there)); first | done | fail) (by first | exact CellsOf.agg | exact CellsOf.one rfl) (by rfl) (by (repeat' (first | exact Ones.nil | exact Ones_bvs _ | refine Ones.cons rfl ?_)); first | done | fail) (by (repeat' (first | exact Laid.nil | apply Laid.cons | apply Laid.skip)); first | done | fail) (by (repeat' (first | exact Rep.here | apply Rep.there)); first | done | fail) ?_)) | (refine KJ_ek rfl ?_) | (refine KJ_ek0 ?_))
    | (refine is_ek ?_; first | (refine ek_move ?_; first | (refine EK_ev (Ev_move rfl) ?_)) | (refine ek_assign ?_; first | (refine EK_ev (Ev_assign rfl) ?_)) | (refine ek_conv ?_; first | (refine EK_ev (Ev_bytesAll rfl (by (repeat' (first | exact Sel.here | apply Sel.there)); first | done | fail) (recB_length _ _)) ?_) | (refine EK_ev (Ev_convI64 rfl (by omega)) ?_) | (refine EK_ev (Ev_convI rfl) ?_) | (refine EK_ev (Ev_convS rfl) ?_)) | (refine ek_indexAddr ?_; first | (refine EK_ev (Ev_indexSlice rfl rfl (by omega)) ?_) | (refine EK_ev (Ev_indexArr rfl rfl (by omega)) ?_)) | (refine ek_len ?_; first | (refine EK_ev (Ev_len_str rfl) ?_) | (refine EK_ev (Ev_len_slice rfl) ?_) | (refine EK_ev (Ev_len_arr rfl) ?_) | (refine EK_ev (Ev_len_map rfl (by (repeat' (first | exact Sel.here | apply Sel.there)); first | done | fail)) ?_)) | (refine ek_add ?_; first | (refine EK_ev (Ev_addI rfl rfl (by omega)) ?_) | (refine EK_ev (Ev_addS rfl rfl (by simp <;> omega)) ?_) | (refine EK_ev (Ev_add rfl rfl) ?_)) | (refine ek_mul ?_; first | (refine EK_ev (Ev_mulI rfl rfl (by omega)) ?_) | (refine EK_ev (Ev_mul rfl rfl) ?_)) | (refine ek_quo ?_; first | (refine EK_ev (Ev_quoI rfl rfl (by omega)) ?_) | (refine EK_ev (Ev_quo rfl rfl (by omega)) ?_)) | (refine ek_rem ?_; first | (refine EK_ev (Ev_remI rfl rfl (by omega)) ?_) | (refine EK_ev (Ev_rem rfl rfl (by omega)) ?_)) | (refine ek_lss ?_; first | (refine EK_ev (Ev_lssI_q rfl rfl ql) ?_) | (refine EK_ev (Ev_lssI rfl rfl) ?_) | (refine EK_ev (Ev_lssS rfl rfl) ?_)))
    | (refine is_ex ?_; first | (refine KJ_blk_exit' rfl ?_))
    | (refine is_code ?_; first | (refine KJ_cond_dec rfl (fun _ => ?_) (fun _ => ?_) <;> first | (exfalso; omega) | skip) | (refine KJ_cond_t rfl ?_) | (refine KJ_cond_f rfl ?_)))
    all_goals (refine is_ex ?_; exact KJ_done (by first | exact Or.inl rfl | exact Or.inr rfl) rfl (by (repeat' (first | exact Rvs.nil | (apply Rvs.tmp; exact rfl))); first | done | fail) () (by rfl) (Ent.of (by (repeat' (first | exact Pick.nil | apply Pick.cons | exact Sel.here | apply Sel.there)); first | done | fail) (by (repeat' (first | exact DropTo.refl | apply DropTo.there)); first | done | fail)))
def RJ2 : List UInt8 := recL 300 1
def RJ3 : List UInt8 := recL 230 2
def JD1 : Dsk := (apGo 2 1 0 (pcsJ [97]) 0 (Dsk.blank 8)).2
def JD2 : Dsk := (apGo 2 1 1 (pcsJ RJ2) 0 JD1).2
theorem JD1_ok : (apGo 2 1 0 (pcsJ [97]) 0 (Dsk.blank 8)).1 = true := by kernel_rfl
theorem JD2_ok : (apGo 2 1 1 (pcsJ RJ2) 0 JD1).1 = true := by kernel_rfl
theorem JD1_n : JD1.n = 8 := by kernel_rfl
theorem JD1_d : downB JD1 0 false = false := by kernel_rfl
theorem JD1_u : JD1.und.length = 1 := by kernel_rfl
theorem JD2_n : JD2.n = 8 := by kernel_rfl
theorem JD2_d : downB JD2 0 false = false := by kernel_rfl
theorem JD2_o : JD2.off = false := by kernel_rfl
theorem JD2_r : rpGo JD2 2 4 1 5 0 [] = [[97], RJ2] := by kernel_rfl
theorem RJ2_l : RJ2.length = 300 := recB_length _ _
theorem RJ3_l : RJ3.length = 230 := recB_length _ _
set_option maxHeartbeats 1000000 in
set_option maxRecDepth 100000 in
theorem fixed10_ct (hE : ErrsAt W E) (hN : NibAt W) (hg : gB ≤ W.heap.size) : Ct Tryd.prog W 60 [] [] (fun _ : Unit => .bool true) (fun _ => []) := by
  have hE8 : ErrsOn L8 W E := hE.on
  have e17 : W.cell? ⟨6, 0, none⟩ = some (errV E 17) := hE.all.at_ 17 (by decide)
  have c1 : Ct Tryd.prog W 33 [.int .i64 8] [] (fun p : Nat => .tuple #[.pointer (some ⟨p, 0, none⟩), .nilIface]) (fun p => [DiskP p (Dsk.blank 8)]) := new_ct 8 (by omega) (by omega) hg
  have cb : ∀ p, Ct Tryd.prog W 65 [.pointer (some ⟨p, 0, none⟩), .int .i64 2, .int .i64 4, .int .i64 1] [DiskP p (Dsk.blank 8)] (fun g : Nat => .tuple #[.pointer (some ⟨g, 0, none⟩), .nilIface]) (fun g => [DiskP p (Dsk.blank 8), cellsP g [.pointer (some ⟨p, 0, none⟩), .int .i64 2, .int .i64 4, .int .i64 1, .int .i64 0, .int .i64 0, .bool false] 165]) := fun p =>
    begin_ct (by show 8 ≤ 65536; omega) rfl 2 4 1 ⟨by omega, by omega, by show (2 : Int) ≤ 8; omega, by show (4 : Int) ≤ 8 - 2; omega, by omega, by omega, by omega⟩
  have ca1 : ∀ p g, Ct Tryd.prog W 67 [.pointer (some ⟨g, 0, none⟩), strV [97]] [DiskP p (Dsk.blank 8), cellsP g [.pointer (some ⟨p, 0, none⟩), .int .i64 2, .int .i64 4, .int .i64 1, .int .i64 0, .int .i64 0, .bool false] 165] (fun _ : Unit => .nilIface) (fun _ => [DiskP p JD1, cellsP g [.pointer (some ⟨p, 0, none⟩), .int .i64 2, .int .i64 4, .int .i64 1, .int .i64 1, .int .i64 0, .bool false] 165]) := fun p g => by
    have h := append_ct (W := W) (p := p) (g := g) (D := Dsk.blank 8) hE8 e17 hN 2 4 0 1 0 [97] (by show 8 ≤ 65536; omega) rfl (by omega) (by omega) (by decide) (by show (1 : Int) ≤ 4 - 0; omega) (by omega) (by omega) (by show 0 + 65536 < 1073741823; omega)
    rw [JD1_ok] at h
    exact h
  have cr2 : Ct Tryd.prog W 68 [.int .i64 300, .int .i64 1] [] (fun _ : Unit => strV RJ2) (fun _ => []) := record10_ct 300 1 (by omega)
  have ca2 : ∀ p g, Ct Tryd.prog W 67 [.pointer (some ⟨g, 0, none⟩), strV RJ2] [DiskP p JD1, cellsP g [.pointer (some ⟨p, 0, none⟩), .int .i64 2, .int .i64 4, .int .i64 1, .int .i64 1, .int .i64 0, .bool false] 165] (fun _ : Unit => .nilIface) (fun _ => [DiskP p JD2, cellsP g [.pointer (some ⟨p, 0, none⟩), .int .i64 2, .int .i64 4, .int .i64 1, .int .i64 3, .int .i64 0, .bool false] 165]) := fun p g => by
    have h := append_ct (W := W) (p := p) (g := g) (D := JD1) hE8 e17 hN 2 4 0 1 1 RJ2 (by rw [JD1_n]; omega) JD1_d (by omega) (by omega) (by rw [RJ2_l]; omega) (by rw [RJ2_l]; show (2 : Int) ≤ 4 - 1; omega) (by omega) (by omega) (by rw [JD1_u]; omega)
    rw [JD2_ok, RJ2_l] at h
    exact h
  have cu : ∀ p g, Ct Tryd.prog W 69 [.pointer (some ⟨g, 0, none⟩)] [cellsP g [.pointer (some ⟨p, 0, none⟩), .int .i64 2, .int .i64 4, .int .i64 1, .int .i64 3, .int .i64 0, .bool false] 165] (fun _ : Unit => .int .i64 3) (fun _ => [cellsP g [.pointer (some ⟨p, 0, none⟩), .int .i64 2, .int .i64 4, .int .i64 1, .int .i64 3, .int .i64 0, .bool false] 165]) := fun p g => used_ct 2 4 1 3 0 false
  have cf1 : ∀ p g, Ct Tryd.prog W 66 [.pointer (some ⟨g, 0, none⟩), .int .i64 229] [cellsP g [.pointer (some ⟨p, 0, none⟩), .int .i64 2, .int .i64 4, .int .i64 1, .int .i64 3, .int .i64 0, .bool false] 165] (fun _ : Unit => .bool true) (fun _ => [cellsP g [.pointer (some ⟨p, 0, none⟩), .int .i64 2, .int .i64 4, .int .i64 1, .int .i64 3, .int .i64 0, .bool false] 165]) := fun p g => fits_ct 2 4 1 3 0 false 229 (by omega) (by omega) (by omega)
  have cf2 : ∀ p g, Ct Tryd.prog W 66 [.pointer (some ⟨g, 0, none⟩), .int .i64 230] [cellsP g [.pointer (some ⟨p, 0, none⟩), .int .i64 2, .int .i64 4, .int .i64 1, .int .i64 3, .int .i64 0, .bool false] 165] (fun _ : Unit => .bool false) (fun _ => [cellsP g [.pointer (some ⟨p, 0, none⟩), .int .i64 2, .int .i64 4, .int .i64 1, .int .i64 3, .int .i64 0, .bool false] 165]) := fun p g => fits_ct 2 4 1 3 0 false 230 (by omega) (by omega) (by omega)
  have cp : ∀ p, Ct Tryd.prog W 70 [.pointer (some ⟨p, 0, none⟩), .int .i64 2, .int .i64 4, .int .i64 1] [DiskP p JD2] (fun x : Nat × Nat => .tuple #[.slice (some ⟨x.1, 0, none⟩) 2 x.2, .nilIface]) (fun x => [DiskP p JD2, rowP (.slice (some ⟨x.1, 0, none⟩) 2 x.2) 9 1 2 [strV [97], strV RJ2]]) := fun p => by
    have h := replay_ct (W := W) (p := p) (D := JD2) hE8 hN 2 4 1 (by rw [JD2_n]; omega) JD2_o ⟨by omega, by omega, by rw [JD2_n]; omega, by rw [JD2_n]; omega, by omega, by omega, by omega⟩
    rw [show ((4 : Int).toNat + 1) = 5 from rfl, JD2_r] at h
    exact Ct.rowShape (by omega) h
  have cr3 : Ct Tryd.prog W 68 [.int .i64 230, .int .i64 2] [] (fun _ : Unit => strV RJ3) (fun _ => []) := record10_ct 230 2 (by omega)
  have ca3 : ∀ p g, Ct Tryd.prog W 67 [.pointer (some ⟨g, 0, none⟩), strV RJ3] [DiskP p JD2, cellsP g [.pointer (some ⟨p, 0, none⟩), .int .i64 2, .int .i64 4, .int .i64 1, .int .i64 3, .int .i64 0, .bool false] 165] (fun _ : Unit => errV E 17) (fun _ => [DiskP p JD2, cellsP g [.pointer (some ⟨p, 0, none⟩), .int .i64 2, .int .i64 4, .int .i64 1, .int .i64 3, .int .i64 0, .bool false] 165]) := fun p g =>
    append_full (W := W) (p := p) (g := g) (D := JD2) hE8 e17 hN 2 4 0 1 3 RJ3 (by rw [JD2_n]; omega) JD2_d (by omega) (by omega) (by rw [RJ3_l]; omega) (by rw [RJ3_l]; show ¬ ((2 : Int) ≤ 4 - 3); omega)
  have cn : Ct Tryd.prog W 35 [errV E 17] [] (fun _ : Unit => .int .i64 17) (fun _ => []) := num_ct hE hg 17 (by omega)
  have cc : Ct Tryd.prog W 61 [.int .i64 230] [] (fun _ : Unit => .int .i64 2) (fun _ => []) := cost_ct 230 (by omega)
  obtain ⟨D0, hD0⟩ : ∃ D, D = Dsk.blank 8 := ⟨_, rfl⟩
  obtain ⟨D1, hD1⟩ : ∃ D, D = JD1 := ⟨_, rfl⟩
  obtain ⟨D2, hD2⟩ : ∃ D, D = JD2 := ⟨_, rfl⟩
  obtain ⟨R2, hR2⟩ : ∃ r, r = RJ2 := ⟨_, rfl⟩
  obtain ⟨R3, hR3⟩ : ∃ r, r = RJ3 := ⟨_, rfl⟩
  simp only [← hD0, ← hD1, ← hD2, ← hR2, ← hR3] at c1 cb ca1 cr2 ca2 cp cr3 ca3
  clear hD0 hD1 hD2 hR2 hR3
  have hg0 : [strV [97], strV R2][0 + (0 : Int).toNat * 1]? = some (strV [97]) := rfl
  have hg1 : [strV [97], strV R2][0 + (1 : Int).toNat * 1]? = some (strV R2) := rfl
  refine Ct.enter Tryd.func60 rfl Tryd.ntmps60 (by simp) (fun R => ?_)
  repeat' (first 
    | refine KJ_stp (by first | constructor | fail) ?_
    | (refine is_list ?_; first | (refine KJ_guard_dec_t rfl rfl rfl (fun _ => ?_) (fun _ => ?_) <;> first | (exfalso; omega) | skip) | (refine KJ_guard_dec_f rfl rfl rfl (fun _ => ?_) (fun _ => ?_) <;> first | (exfalso; omega) | skip) | (refine KJ_guard_yes rfl rfl ?_) | (refine KJ_guard_no rfl rfl rfl rfl ?_))
    | (refine is_oper ?_; first | (refine is_call ?_; first | (refine KJ_call (by (repeat' (first | exact Evs.nil | refine Evs.cons rfl ?_)); first | done | fail) cc (by (repeat' (first | exact Pick.nil | apply Pick.cons | exact Sel.here | apply Sel.there)); first | done | fail) rfl (fun _ => ?_)) | (refine KJ_call (by (repeat' (first | exact Evs.nil | refine Evs.cons rfl ?_)); first | done | fail) cn (by (repeat' (first | exact Pick.nil | apply Pick.cons | exact Sel.here | apply Sel.there)); first | done | fail) rfl (fun _ => ?_)) | (refine KJ_call (by (repeat' (first | exact Evs.nil | refine Evs.cons rfl ?_)); first | done | fail) (ca3 _ _) (by (repeat' (first | exact Pick.nil | apply Pick.cons | exact Sel.here | apply Sel.there)); first | done | fail) rfl (fun _ => ?_)) | (refine KJ_call (by (repeat' (first | exact Evs.nil | refine Evs.cons rfl ?_)); first | done | fail) cr3 (by (repeat' (first | exact Pick.nil | apply Pick.cons | exact Sel.here | apply Sel.there)); first | done | fail) rfl (fun _ => ?_)) | (refine KJ_call (by (repeat' (first | exact Evs.nil | refine Evs.cons rfl ?_)); first | done | fail) (cp _) (by (repeat' (first | exact Pick.nil | apply Pick.cons | exact Sel.here | apply Sel.there)); first | done | fail) rfl (fun x => ?_)) | (refine KJ_call (by (repeat' (first | exact Evs.nil | refine Evs.cons rfl ?_)); first | done | fail) (cf2 p g) (by (repeat' (first | exact Pick.nil | apply Pick.cons | exact Sel.here | apply Sel.there)); first | done | fail) rfl (fun _ => ?_)) | (refine KJ_call (by (repeat' (first | exact Evs.nil | refine Evs.cons rfl ?_)); first | done | fail) (cf1 p g) (by (repeat' (first | exact Pick.nil | apply Pick.cons | exact Sel.here | apply Sel.there)); first | done | fail) rfl (fun _ => ?_)) | (refine KJ_call (by (repeat' (first | exact Evs.nil | refine Evs.cons rfl ?_)); first | done | fail) (cu p g) (by (repeat' (first | exact Pick.nil | apply Pick.cons | exact Sel.here | apply Sel.there)); first | done | fail) rfl (fun _ => ?_)) | (refine KJ_call (by (repeat' (first | exact Evs.nil | refine Evs.cons rfl ?_)); first | done | fail) (ca2 _ _) (by (repeat' (first | exact Pick.nil | apply Pick.cons | exact Sel.here | apply Sel.there)); first | done | fail) rfl (fun _ => ?_)) | (refine KJ_call (by (repeat' (first | exact Evs.nil | refine Evs.cons rfl ?_)); first | done | fail) cr2 (by (repeat' (first | exact Pick.nil | apply Pick.cons | exact Sel.here | apply Sel.there)); first | done | fail) rfl (fun _ => ?_)) | (refine KJ_call (by (repeat' (first | exact Evs.nil | refine Evs.cons rfl ?_)); first | done | fail) (ca1 _ _) (by (repeat' (first | exact Pick.nil | apply Pick.cons | exact Sel.here | apply Sel.there)); first | done | fail) rfl (fun _ => ?_)) | (refine KJ_call (by (repeat' (first | exact Evs.nil | refine Evs.cons rfl ?_)); first | done | fail) (cb _) (by (repeat' (first | exact Pick.nil | apply Pick.cons | exact Sel.here | apply Sel.there)); first | done | fail) rfl (fun g => ?_)) | (refine KJ_call (by (repeat' (first | exact Evs.nil | refine Evs.cons rfl ?_)); first | done | fail) c1 (by (repeat' (first | exact Pick.nil | apply Pick.cons | exact Sel.here | apply Sel.there)); first | done | fail) rfl (fun p => ?_))) | (refine KJ_ek rfl ?_) | (refine KJ_ek0 ?_))
    | (refine is_ek ?_; first | (refine ek_move ?_; first | (refine EK_ev (Ev_move rfl) ?_)) | (refine ek_assign ?_; first | (refine EK_ev (Ev_assign rfl) ?_)) | (refine ek_pick ?_; first | (refine EK_ev (Ev_pick_t rfl rfl) ?_) | (refine EK_ev (Ev_pick_f rfl rfl) ?_)) | (refine ek_load ?_; first | (refine EK_ev (Ev_loadAgg rfl (by (repeat' (first | exact Sel.here | apply Sel.there)); first | done | fail) (by (repeat' (first | exact Cut.nil | apply Cut.cons | apply Cut.skip)); first | done | fail)) ?_) | (refine EK_ev (Ev_load rfl (by (repeat' (first | exact Sel.here | apply Sel.there)); first | done | fail) (by rfl)) ?_) | (refine EK_ev (Ev_loadRow rfl (by (repeat' (first | exact Sel.here | apply Sel.there)); first | done | fail) hg1) ?_) | (refine EK_ev (Ev_loadRow rfl (by (repeat' (first | exact Sel.here | apply Sel.there)); first | done | fail) hg0) ?_) | (refine EK_ev (Ev_load rfl (by (repeat' (first | exact Sel.here | apply Sel.there)); first | done | fail) (by rfl)) ?_) | (refine EK_ev (Ev_loadOld rfl (by assumption)) ?_) | (refine EK_ev (Ev_loadAgg rfl (by (repeat' (first | exact Sel.here | apply Sel.there)); first | done | fail) (by (repeat' (first | exact Cut.nil | apply Cut.cons | apply Cut.skip)); first | done | fail)) ?_)) | (refine ek_un ?_; first | (refine EK_ev (Ev_notD rfl) ?_) | (refine EK_ev (Ev_not rfl) ?_) | (refine EK_ev (Ev_neg rfl) ?_)) | (refine ek_extract ?_; first | (refine EK_ev (Ev_extract rfl rfl) ?_)) | (refine ek_indexAddr ?_; first | (refine EK_ev (Ev_indexSlice rfl rfl (by omega)) ?_) | (refine EK_ev (Ev_indexArr rfl rfl (by omega)) ?_)) | (refine ek_len ?_; first | (refine EK_ev (Ev_len_str rfl) ?_) | (refine EK_ev (Ev_len_slice rfl) ?_) | (refine EK_ev (Ev_len_arr rfl) ?_) | (refine EK_ev (Ev_len_map rfl (by (repeat' (first | exact Sel.here | apply Sel.there)); first | done | fail)) ?_)) | (refine ek_eql ?_; first | (refine EK_ev (Ev_eqlS_t rfl rfl rfl) ?_) | (refine EK_ev (Ev_eqlI_t rfl rfl rfl) ?_) | (refine EK_ev (Ev_eqlI rfl rfl) ?_) | (refine EK_ev (Ev_eqlS rfl rfl) ?_) | (refine EK_ev (Ev_eqlNil rfl rfl) ?_) | (refine EK_ev (Ev_eqlB rfl rfl) ?_) | (refine EK_ev (Ev_eqlO rfl rfl rfl (fun _ => rfl)) ?_)) | (refine ek_neq ?_; first | (refine EK_ev (Ev_neqI_f rfl rfl rfl) ?_) | (refine EK_ev (Ev_neqI rfl rfl) ?_) | (refine EK_ev (Ev_neqS rfl rfl) ?_) | (refine EK_ev (Ev_neqNil rfl rfl) ?_) | (refine EK_ev (Ev_neqB rfl rfl) ?_) | (refine EK_ev (Ev_neqO rfl rfl rfl (fun _ => rfl)) ?_)))
    | (refine is_ex ?_; first | (refine KJ_blk_exit' rfl ?_))
    | (refine is_code ?_; first | (refine KJ_cond_dec rfl (fun _ => ?_) (fun _ => ?_) <;> first | (exfalso; omega) | skip) | (refine KJ_cond_t rfl ?_) | (refine KJ_cond_f rfl ?_) | (refine KJ_draws (id := 8) (.op 0 (.op 1 (.op 2 (.op 3 (.op 4 (.op 5 (.op 6 (.op 7 (.op 8 (.op 9 (.op 10 (.op 11 (.op 12 (.op 13 (.op 14 (.op 15 (.op 16 (.ef 17 [16, 15, 14] (.op 18 (.op 19 (.op 20 (.op 21 (.ef 22 [21] (.ef 23 [] (.ef 24 [] (.op 25 (.op 26 (.op 27 (.ef 28 [] (.op 29 (.op 30 (.op 31 .nil)))))))))))))))))))))))))))))))) (by kernel_rfl) (by kernel_rfl) ?_))
    | (refine is_fw ?_; first | (refine FW_open rfl ?_) | (refine FW_nil ?_) | (refine FW_ef rfl ?_) | (refine FW_efg rfl rfl rfl ?_) | (refine FW_alt ?_ ?_))
    | (refine is_fo ?_; first | (refine FO_dec_t rfl rfl (fun _ => ?_) (fun _ => ?_) <;> first | (exfalso; omega) | skip) | (refine FO_dec_f rfl rfl (fun _ => ?_) (fun _ => ?_) <;> first | (exfalso; omega) | skip) | (refine FO_no rfl rfl rfl rfl ?_) | (refine FO_ekg rfl rfl rfl ?_) | (refine FO_ek rfl ?_))
    | (refine is_ro ?_; first | (refine RO_no rfl rfl rfl rfl ?_) | (refine RO_ekg rfl rfl ?_) | (refine RO_ek ?_))
    | (refine is_raw ?_; first | (refine KJ_flow ?_ ?_))
    | (refine AtR_mk rfl ?_)
    | exact Rech.nil
    | (refine Rech_open rfl ?_))
  all_goals (refine is_ex ?_; exact KJ_done (by first | exact Or.inl rfl | exact Or.inr rfl) rfl (by (repeat' (first | exact Rvs.nil | (apply Rvs.tmp; exact rfl))); first | done | fail) () (by rfl) (Ent.of (by (repeat' (first | exact Pick.nil | apply Pick.cons | exact Sel.here | apply Sel.there)); first | done | fail) (by (repeat' (first | exact DropTo.refl | apply DropTo.there)); first | done | fail)))
end
end Go.Proofs.YteklldbfdmaafaaDoor
/-
  JournalCosts (chapter 10): the walk.
-/
namespace Go.Proofs.YteklldbfdmaafaaDoor
open Go Go.RowKit
theorem write_calm {D : Dsk} (h : Calm D) (i : Nat) (hi : i < D.n) (s : List UInt8) (hs : s.length = 256) : D.writeE i s = 0 ∧ D.writeD i s = { D with und := D.und ++ [(i, s)], writes := w64 (D.writes + 1) } := by
  have hhas : D.has (i : Int) = true := by unfold Dsk.has; exact decide_eq_true (by omega)
  have hD1 : Calm ({ D with und := D.und ++ [(i, s)] } : Dsk) := h
  refine ⟨((write_ways h.1 i hi s hs).2.2.2.2 h.2).1, ?_⟩
  unfold Dsk.writeD
  rw [if_neg (by rw [h.1]; simp), if_pos hhas, if_pos hs]
  simp only [dead_calm h, gone_calm hD1, Int.toNat_natCast]
  simp
end Go.Proofs.YteklldbfdmaafaaDoor
/-
  A journal's life and its crash, as plain data.
-/
namespace Go.Proofs.YteklldbfdmaafaaDoor
open Go Go.RowKit
set_option maxRecDepth 10000 in
/-- the last bytes written of a sector are what stands there when all is laid -/
theorem rd_lay (img : List UInt8) (n i : Nat) (hi : i < n) (hl : img.length = 256 * n) (u : List (Nat × List UInt8)) (hu : ∀ x ∈ u, x.1 < n ∧ x.2.length = 256) : (lastW u i).getD (cut img (i * 256) 256) = cut (layAll img u) (i * 256) 256 := by
  revert hu
  refine last_snoc_induction (P := fun u => (∀ x ∈ u, x.1 < n ∧ x.2.length = 256) → (lastW u i).getD (cut img (i * 256) 256) = cut (layAll img u) (i * 256) 256) (fun _ => rfl) ?_ u
  intro l x ih hu
  obtain ⟨j, b⟩ := x
  obtain ⟨h1, h2⟩ := hu (j, b) (by simp)
  dsimp only at h1 h2
  have hll := layAll_length l img n hl (fun x hx => hu x (by simp [hx]))
  rw [layAll_snoc, lastW_snoc]
  dsimp only
  by_cases hj : j = i
  · subst hj
    rw [if_pos rfl]
    have := cut_lay_same (layAll img l) b (j * 256) (by omega)
    rw [h2] at this
    exact this.symm
  · rw [if_neg hj, ih (fun x hx => hu x (by simp [hx]))]
    have hb : j * 256 + b.length ≤ (layAll img l).length := by omega
    rcases Nat.lt_or_ge i j with hlt | hge
    · have hh : i * 256 + 256 ≤ j * 256 := by omega
      exact (cut_lay_before _ _ _ _ _ hb hh).symm
    · have hh : j * 256 + b.length ≤ i * 256 := by omega
      exact (cut_lay_behind _ _ _ _ _ hb hh).symm

def wsJ (at_ v : Nat) : Nat → List (List UInt8) → List (Nat × List UInt8)
  | _, [] => []
  | k, p :: r => (at_ + k, sealB (stampN v k : Nat) p) :: wsJ at_ v (k + 1) r
theorem wsJ_length (at_ v : Nat) : ∀ (G : List (List UInt8)) (k : Nat), (wsJ at_ v k G).length = G.length := by
  intro G
  induction G with
  | nil => intro k; rfl
  | cons p G ih => intro k; simp [wsJ, ih]
theorem wsJ_app (at_ v : Nat) : ∀ (G F : List (List UInt8)) (k : Nat), wsJ at_ v k (G ++ F) = wsJ at_ v k G ++ wsJ at_ v (k + G.length) F := by
  intro G
  induction G with
  | nil => intro F k; rfl
  | cons p G ih =>
    intro F k
    show _ :: wsJ at_ v (k + 1) (G ++ F) = _ :: (wsJ at_ v (k + 1) G ++ _)
    rw [ih, List.length_cons, show k + 1 + G.length = k + (G.length + 1) by omega]
theorem wsJ_in (at_ v : Nat) : ∀ (G : List (List UInt8)) (k : Nat), (∀ p ∈ G, p.length ≤ 234) → ∀ x ∈ wsJ at_ v k G, at_ + k ≤ x.1 ∧ x.1 < at_ + k + G.length ∧ x.2.length = 256 := by
  intro G
  induction G with
  | nil => intro k _ x hx; cases hx
  | cons p G ih =>
    intro k hp x hx
    rcases List.mem_cons.1 hx with rfl | hx
    · exact ⟨Nat.le_refl _, by dsimp only; rw [List.length_cons]; omega, sealB_length _ _ (hp p (by simp))⟩
    · obtain ⟨h1, h2, h3⟩ := ih (k + 1) (fun q hq => hp q (by simp [hq])) x hx
      rw [List.length_cons]
      exact ⟨by omega, by omega, h3⟩
/-- each sector of pieces that were cut off -/
theorem torn_ws (at_ v N : Nat) (dn : Nat → Nat) (hd : ∀ k, dn k ≤ 256) : ∀ (G : List (List UInt8)) (k m s : Nat) (img : List UInt8), img.length = 256 * N → at_ + k + G.length ≤ N → (∀ p ∈ G, p.length ≤ 234) →
    ∀ j p, G[j]? = some p → ∃ d, d ≤ 256 ∧ cut (layAll img (cutP dn ((wsJ at_ v k G).take m) s)) ((at_ + k + j) * 256) 256 = tornB (sealB (stampN v (k + j) : Nat) p) (cut img ((at_ + k + j) * 256) 256) d ∧ ((∀ k, dn k = 256) → G.length ≤ m → d = 256) := by
  intro G
  induction G with
  | nil => intro k m s img _ _ _ j p hj; simp at hj
  | cons q G ih =>
    intro k m s img hl hn hp j p hj
    cases m with
    | zero => exact ⟨0, by omega, by simp [cutP, tornB, layAll], fun _ h => by simp at h⟩
    | succ m =>
      have hS := sealB_length (stampN v k : Nat) q (hp q (by simp))
      rw [List.length_cons] at hn
      show ∃ d, d ≤ 256 ∧ cut (layAll img (cutP dn (((at_ + k, sealB (stampN v k : Nat) q) :: wsJ at_ v (k + 1) G).take (m + 1)) s)) _ 256 = _ ∧ _
      rw [List.take_succ_cons, cutP_cons, layAll_cons]
      dsimp only
      have htl : ((sealB (stampN v k : Nat) q).take (dn s)).length = dn s := by rw [List.length_take]; have := hd s; omega
      have hb : (at_ + k) * 256 + ((sealB (stampN v k : Nat) q).take (dn s)).length ≤ img.length := by rw [htl]; have := hd s; omega
      cases j with
      | zero =>
        simp only [List.getElem?_cons_zero, Option.some.injEq] at hj
        subst hj
        refine ⟨dn s, hd s, ?_, fun h _ => h s⟩
        show cut _ ((at_ + k) * 256) 256 = tornB (sealB (stampN v k : Nat) q) (cut img ((at_ + k) * 256) 256) (dn s)
        rw [layAll_off N (at_ + k) _ _ (by rw [lay_length _ _ _ hb]; exact hl) (fun x hx => ?_)]
        · exact cut_lay_torn _ _ _ _ hS (hd s) (by omega)
        · obtain ⟨y, hy, e1, e2⟩ := cutP_in _ _ _ _ hx
          obtain ⟨h1, h2, h3⟩ := wsJ_in at_ v G (k + 1) (fun z hz => hp z (by simp [hz])) y (List.mem_of_mem_take hy)
          exact ⟨by omega, by omega, by omega⟩
      | succ j =>
        obtain ⟨d, h1, h2, h3⟩ := ih (k + 1) m (s + 1) (lay img ((at_ + k) * 256) ((sealB (stampN v k : Nat) q).take (dn s))) (by rw [lay_length _ _ _ hb]; exact hl) (by omega) (fun z hz => hp z (by simp [hz])) j p (by simpa using hj)
        refine ⟨d, h1, ?_, fun q1 q2 => h3 q1 (by simpa using q2)⟩
        have hbh : (at_ + k) * 256 + ((sealB (stampN v k : Nat) q).take (dn s)).length ≤ (at_ + (k + 1) + j) * 256 := by rw [htl]; have := hd s; omega
        rw [cut_lay_behind _ _ _ _ _ hb hbh] at h2
        rw [show at_ + k + (j + 1) = at_ + (k + 1) + j by omega, show k + (j + 1) = k + 1 + j by omega]
        exact h2
/-- the other sectors stay -/
theorem torn_ws_off (at_ v N : Nat) (dn : Nat → Nat) (G : List (List UInt8)) (k m s i : Nat) (img : List UInt8) (hl : img.length = 256 * N) (hn : at_ + k + G.length ≤ N) (hp : ∀ p ∈ G, p.length ≤ 234) (hi : i < at_ + k ∨ at_ + k + G.length ≤ i) :
    cut (layAll img (cutP dn ((wsJ at_ v k G).take m) s)) (i * 256) 256 = cut img (i * 256) 256 := by
  refine layAll_off N i _ _ hl fun x hx => ?_
  obtain ⟨y, hy, e1, e2⟩ := cutP_in _ _ _ _ hx
  obtain ⟨h1, h2, h3⟩ := wsJ_in at_ v G k hp y (List.mem_of_mem_take hy)
  exact ⟨by omega, by omega, by omega⟩

theorem wr_off {D : Dsk} (h : D.off = false) (i : Nat) (hi : i < D.n) (s : List UInt8) (hs : s.length = 256) : (D.writeE i s = 12 → (D.writeD i s).off = true) ∧ (D.writeD i s).life = D.life := by
  have hhas : D.has (i : Int) = true := by unfold Dsk.has; exact decide_eq_true (by omega)
  obtain ⟨n, img, und, off, armed, wr, fl, lf⟩ := D
  obtain rfl : off = false := h
  by_cases h0 : armed = 0
  · subst h0
    simp [Dsk.writeE, Dsk.writeD, Dsk.dead, Dsk.gone, hhas, hs]
  · by_cases hp : 0 < armed
    · simp [Dsk.writeE, Dsk.writeD, Dsk.dead, Dsk.gone, hhas, hs, h0, hp]
    · simp [Dsk.writeE, Dsk.writeD, Dsk.dead, Dsk.gone, hhas, hs, h0, hp]
theorem ap_ways (at_ v used : Nat) : ∀ (ps : List (List UInt8)) (i : Nat) (D : Dsk), D.off = false → D.ok → (∀ p ∈ ps, p.length ≤ 234) → at_ + used + i + ps.length ≤ D.n →
    (((apGo at_ v used ps i D).1 = true ∧ (apGo at_ v used ps i D).2.off = false ∧ (apGo at_ v used ps i D).2.und = D.und ++ wsJ at_ v (used + i) ps) ∨
      ((apGo at_ v used ps i D).1 = false ∧ (apGo at_ v used ps i D).2.off = true ∧ ∃ m, (apGo at_ v used ps i D).2.und = D.und ++ (wsJ at_ v (used + i) ps).take m)) ∧
    (apGo at_ v used ps i D).2.img = D.img ∧ (apGo at_ v used ps i D).2.n = D.n ∧ (apGo at_ v used ps i D).2.ok ∧ (apGo at_ v used ps i D).2.life = D.life := by
  intro ps
  induction ps with
  | nil => intro i D h1 h2 _ _; exact ⟨.inl ⟨rfl, h1, by show D.und = D.und ++ []; rw [List.append_nil]⟩, rfl, rfl, h2, rfl⟩
  | cons q ps ih =>
    intro i D h1 h2 hp hn
    rw [List.length_cons] at hn
    have hS := sealB_length (stampN v (used + i) : Nat) q (hp q (by simp))
    obtain ⟨w1, w2, w3, w4, -⟩ := write_ways h1 (at_ + used + i) (by omega) _ hS
    obtain ⟨w5, w6⟩ := wr_off h1 (at_ + used + i) (by omega) _ hS
    have hok := Dsk.writeD_ok h2 ((at_ + used + i : Nat) : Int) (sealB (stampN v (used + i) : Nat) q)
    have hadr : (at_ : Int) + (used : Nat) + (i : Nat) = ((at_ + used + i : Nat) : Int) := by omega
    have hu : apGo at_ v used (q :: ps) i D = if D.writeE ((at_ + used + i : Nat) : Int) (sealB (stampN v (used + i) : Nat) q) ≠ 0 then (false, D.writeD ((at_ + used + i : Nat) : Int) (sealB (stampN v (used + i) : Nat) q))
        else apGo at_ v used ps (i + 1) (D.writeD ((at_ + used + i : Nat) : Int) (sealB (stampN v (used + i) : Nat) q)) := by
      rw [← hadr]; rfl
    rw [hu]
    clear hu
    obtain ⟨D1, hD1⟩ : ∃ D1, D1 = D.writeD ((at_ + used + i : Nat) : Int) (sealB (stampN v (used + i) : Nat) q) := ⟨_, rfl⟩
    obtain ⟨e, he⟩ : ∃ e, e = D.writeE ((at_ + used + i : Nat) : Int) (sealB (stampN v (used + i) : Nat) q) := ⟨_, rfl⟩
    rw [← hD1] at w1 w2 w3 w4 w5 w6 hok ⊢
    rw [← he] at w1 w5 ⊢
    rcases w1 with ⟨a, b⟩ | a
    · rw [if_neg (by rw [a]; simp)]
      obtain ⟨r1, r2, r3, r4, r5⟩ := ih (i + 1) D1 b hok (fun x hx => hp x (by simp [hx])) (by rw [w4]; omega)
      have hcat : ∀ X : List (Nat × List UInt8), D1.und ++ X = D.und ++ ((at_ + (used + i), sealB (stampN v (used + i) : Nat) q) :: X) := fun X => by
        rw [w2, List.append_assoc, ← Nat.add_assoc at_ used i]; rfl
      refine ⟨?_, by rw [r2, w3], by rw [r3, w4], r4, by rw [r5, w6]⟩
      rcases r1 with ⟨c1, c2, c3⟩ | ⟨c1, c2, m, c3⟩
      · exact .inl ⟨c1, c2, by rw [c3, hcat]; rfl⟩
      · exact .inr ⟨c1, c2, m + 1, by rw [c3, hcat]; rfl⟩
    · rw [if_pos (by rw [a]; simp)]
      refine ⟨.inr ⟨rfl, w5 a, 1, ?_⟩, w3, w4, hok, w6⟩
      rw [w2, Nat.add_assoc at_ used i]
      rfl

/-- the sectors of a log: each piece whole, or it does not open -/
structure Seen (at_ n v : Nat) (rs : List (List UInt8)) (sy : Nat) (sec : Nat → List UInt8) : Prop where
  each : ∀ j p, (rs.flatMap pcsJ)[j]? = some p → sec (at_ + j) = sealB (stampN v j : Nat) p ∨ openS (stampN v j : Nat) (sec (at_ + j)) = none
  syn : ∀ j p, ((rs.take sy).flatMap pcsJ)[j]? = some p → sec (at_ + j) = sealB (stampN v j : Nat) p
  rest : ∀ j, (rs.flatMap pcsJ).length ≤ j → j < n → openS (stampN v j : Nat) (sec (at_ + j)) = none
  tails : ∀ j, j < n → getB ((sec (at_ + j)).drop 248) 8 ≤ (stampN v j : Nat)
theorem openS_tail {s : Nat} {raw : List UInt8} (hs : s < 2 ^ 64) (h : getB (raw.drop 248) 8 < (s : Int)) : openS s raw = none := by
  unfold openS
  split
  · rfl
  split
  · rfl
  split
  · rfl
  split
  · rename_i h234 heq
    exfalso
    have hpl : (openP raw).length ≤ 234 := by
      unfold openP
      rw [List.length_drop, List.length_take]
      omega
    have h1 := seal_getT s (openP raw) hpl hs
    rw [heq] at h1
    omega
  · rfl
theorem pcs_le_all (rs : List (List UInt8)) : ∀ p ∈ rs.flatMap pcsJ, p.length ≤ 234 := by
  intro p hp
  obtain ⟨r, _, hr⟩ := List.mem_flatMap.1 hp
  exact pcsJ_le r p hr
theorem stamp_lt {v j : Nat} (hv : v ≤ 1099511627776) (hj : j < 65536) : stampN v j < 2 ^ 64 := by unfold stampN; omega
/-- read back: some first ones, the synced ones among them, all if all is whole -/
theorem seen_read {at_ n v : Nat} {rs : List (List UInt8)} {sy : Nat} {sec : Nat → List UInt8} (hS : Seen at_ n v rs sy sec) (hv : 1 ≤ v ∧ v ≤ 1099511627776) (hn : n ≤ 60) (hG : (rs.flatMap pcsJ).length ≤ n) (hsm : ∀ r ∈ rs, r.length ≤ 3000) (hsy : sy ≤ rs.length)
    {D : Dsk} (hrd : ∀ j, j < n → D.readE ((at_ : Int) + (j : Nat)) = 0 ∧ D.readS ((at_ : Int) + (j : Nat)) = sec (at_ + j)) :
    ∃ m, sy ≤ m ∧ m ≤ rs.length ∧ rpGo D at_ (n : Nat) v (((n : Nat) : Int).toNat + 1) 0 [] = rs.take m ∧ ((∀ j p, (rs.flatMap pcsJ)[j]? = some p → sec (at_ + j) = sealB (stampN v j : Nat) p) → m = rs.length) := by
  have hpay : ∀ j, j < n → payO D at_ (n : Nat) v j = openS (stampN v j : Nat) (sec (at_ + j)) := by
    intro j hj
    obtain ⟨h1, h2⟩ := hrd j hj
    unfold payO
    rw [if_neg (by omega), h1, if_neg (by simp), h2]
  have hop : ∀ j p, p.length ≤ 234 → openS (stampN v j : Nat) (sealB (stampN v j : Nat) p) = some p := fun j p hp => seal_open (stampN v j) p hp (by unfold stampN; omega)
  have hlenr : rs.length ≤ (rs.flatMap pcsJ).length := by
    clear hS hrd hpay hop hG hsm hsy
    induction rs with
    | nil => simp
    | cons r rs ih =>
      rw [List.flatMap_cons, List.length_append, List.length_cons]
      have : 1 ≤ (pcsJ r).length := by unfold pcsJ; rw [List.length_cons]; omega
      omega
  have hz : payO D at_ (n : Nat) v (0 + (rs.flatMap pcsJ).length) = none := by
    rw [Nat.zero_add]
    by_cases h : (rs.flatMap pcsJ).length < n
    · rw [hpay _ h]; exact hS.rest _ (Nat.le_refl _) h
    · unfold payO; rw [if_pos (by omega)]
  obtain ⟨m, m1, m2, m3⟩ := rp_read (D := D) (at_ := at_) (n := (n : Nat)) (ver := v) rs 0 [] (((n : Nat) : Int).toNat + 1) (fun r hr => by have := hsm r hr; omega) (fun j p hj => by
    have hjl := (List.getElem?_eq_some_iff.1 hj).1
    rw [Nat.zero_add, hpay j (by omega)]
    rcases hS.each j p hj with h | h
    · rw [h]; exact .inl (hop j p (pcs_le_all rs p (List.mem_of_getElem? hj)))
    · exact .inr h) (by omega) hz (by omega)
  have hbad : ∀ j, j < ((rs.take (m + 1)).flatMap pcsJ).length → m < rs.length → payO D at_ (n : Nat) v (0 + j) = none → ∀ p, (rs.flatMap pcsJ)[j]? = some p → sec (at_ + j) ≠ sealB (stampN v j : Nat) p := by
    intro j hj hm hno p hp he
    have hjl := (List.getElem?_eq_some_iff.1 hp).1
    rw [Nat.zero_add, hpay j (by omega), he, hop j p (pcs_le_all rs p (List.mem_of_getElem? hp))] at hno
    cases hno
  have hsub : ∀ k j, j < ((rs.take k).flatMap pcsJ).length → (rs.flatMap pcsJ)[j]? = ((rs.take k).flatMap pcsJ)[j]? := by
    intro k j hj
    have e : rs.flatMap pcsJ = (rs.take k).flatMap pcsJ ++ (rs.drop k).flatMap pcsJ := by rw [← List.flatMap_append, List.take_append_drop]
    rw [e, List.getElem?_append_left hj]
  refine ⟨m, ?_, m1, by rw [m2]; rfl, fun hall => ?_⟩
  · rcases Nat.lt_or_ge m sy with h | h
    · exfalso
      obtain ⟨j, j1, j2⟩ := m3 (by omega)
      have hle : ((rs.take (m + 1)).flatMap pcsJ).length ≤ ((rs.take sy).flatMap pcsJ).length := by
        have e : (rs.take sy).flatMap pcsJ = (rs.take (m + 1)).flatMap pcsJ ++ ((rs.take sy).drop (m + 1)).flatMap pcsJ := by
          rw [← List.flatMap_append]
          congr 1
          conv => lhs; rw [← List.take_append_drop (m + 1) (rs.take sy)]
          rw [List.take_take, Nat.min_eq_left (by omega)]
        rw [e, List.length_append]; omega
      obtain ⟨p, hp⟩ : ∃ p, ((rs.take sy).flatMap pcsJ)[j]? = some p := ⟨_, List.getElem?_eq_getElem (by omega)⟩
      exact hbad j j1 (by omega) j2 p (by rw [hsub sy j (by omega)]; exact hp) (hS.syn j p hp)
    · exact h
  · rcases Nat.lt_or_ge m rs.length with h | h
    · exfalso
      obtain ⟨j, j1, j2⟩ := m3 h
      obtain ⟨p, hp⟩ : ∃ p, ((rs.take (m + 1)).flatMap pcsJ)[j]? = some p := ⟨_, List.getElem?_eq_getElem j1⟩
      have hp2 := (hsub (m + 1) j j1).trans hp
      exact hbad j j1 h j2 p hp2 (hall j p hp2)
    · omega
end Go.Proofs.YteklldbfdmaafaaDoor
/-
  A journal's life: the state, step by step, as plain data.
-/
namespace Go.Proofs.YteklldbfdmaafaaDoor
open Go Go.RowKit
structure JL (N at_ n v : Nat) (lf : Int) (rs : List (List UInt8)) (sy : Nat) (D : Dsk) : Prop where
  ok : D.ok
  n40 : D.n = N
  life : D.life = lf
  fit : (rs.flatMap pcsJ).length ≤ n
  small : ∀ r ∈ rs, r.length ≤ 3000
  syl : sy ≤ rs.length
  whole : ∀ j p, ((rs.take sy).flatMap pcsJ)[j]? = some p → D.sec (at_ + j) = sealB (stampN v j : Nat) p
  old : ∀ j, ((rs.take sy).flatMap pcsJ).length ≤ j → j < n → getB ((D.sec (at_ + j)).drop 248) 8 < (stampN v j : Nat)
  und : ∃ m, D.und = (wsJ at_ v ((rs.take sy).flatMap pcsJ).length ((rs.drop sy).flatMap pcsJ)).take m ∧ (D.off = false → ((rs.drop sy).flatMap pcsJ).length ≤ m)
section
variable {N at_ n v : Nat} {lf : Int} {rs : List (List UInt8)} {sy : Nat} {D : Dsk}
theorem JL.split (rs : List (List UInt8)) (sy : Nat) : rs.flatMap pcsJ = (rs.take sy).flatMap pcsJ ++ (rs.drop sy).flatMap pcsJ := by rw [← List.flatMap_append, List.take_append_drop]
theorem JL.seen (h : JL N at_ n v lf rs sy D) (hv : v ≤ 1099511627776) (hat : at_ + n ≤ N) (hn : n ≤ 60) (dn : Nat → Nat) (hd : ∀ k, dn k ≤ 256) :
    Seen at_ n v rs sy (fun i => cut (layAll D.img (cutP dn D.und 0)) (i * 256) 256) ∧ ((∀ k, dn k = 256) → D.off = false → ∀ j p, (rs.flatMap pcsJ)[j]? = some p → cut (layAll D.img (cutP dn D.und 0)) ((at_ + j) * 256) 256 = sealB (stampN v j : Nat) p) ∧
    (∀ j, (rs.flatMap pcsJ).length ≤ j → j < n → cut (layAll D.img (cutP dn D.und 0)) ((at_ + j) * 256) 256 = D.sec (at_ + j)) := by
  obtain ⟨m, hu, hm⟩ := h.und
  have hlen := h.ok.len
  rw [h.n40] at hlen
  have hfit := h.fit
  have hsp := JL.split rs sy
  have hple := pcs_le_all rs
  have hwhole := h.whole
  have hold := h.old
  obtain ⟨T, hT⟩ : ∃ T, T = (rs.take sy).flatMap pcsJ := ⟨_, rfl⟩
  obtain ⟨F, hF⟩ : ∃ F, F = (rs.drop sy).flatMap pcsJ := ⟨_, rfl⟩
  obtain ⟨G, hG⟩ : ∃ G, G = rs.flatMap pcsJ := ⟨_, rfl⟩
  rw [← hT, ← hF] at hu
  rw [← hF] at hm
  rw [← hT, ← hF, ← hG] at hsp
  rw [← hG] at hfit hple
  rw [← hT] at hwhole hold
  have hGl : G.length = T.length + F.length := by rw [hsp, List.length_append]
  have hFle : ∀ p ∈ F, p.length ≤ 234 := fun p hp => hple p (by rw [hsp]; simp [hp])
  rw [hu]
  have hsl : ∀ j, j < n → (D.sec (at_ + j)).length = 256 := fun j hj => cut_length _ _ _ (by omega)
  have hoff : ∀ j, j < T.length ∨ G.length ≤ j → cut (layAll D.img (cutP dn ((wsJ at_ v T.length F).take m) 0)) ((at_ + j) * 256) 256 = D.sec (at_ + j) := fun j hj =>
    torn_ws_off at_ v N dn F T.length m 0 (at_ + j) D.img hlen (by omega) hFle (by omega)
  have hin : ∀ j p, G[j]? = some p → T.length ≤ j → ∃ d, d ≤ 256 ∧ cut (layAll D.img (cutP dn ((wsJ at_ v T.length F).take m) 0)) ((at_ + j) * 256) 256 = tornB (sealB (stampN v j : Nat) p) (D.sec (at_ + j)) d ∧ ((∀ k, dn k = 256) → F.length ≤ m → d = 256) := fun j p hj hTj => by
    rw [hsp, List.getElem?_append_right hTj] at hj
    have := torn_ws at_ v N dn hd F T.length m 0 D.img hlen (by omega) hFle (j - T.length) p hj
    rw [show at_ + T.length + (j - T.length) = at_ + j by omega, show T.length + (j - T.length) = j by omega] at this
    exact this
  have htorn : ∀ j p d, G[j]? = some p → T.length ≤ j → d ≤ 256 → getB ((tornB (sealB (stampN v j : Nat) p) (D.sec (at_ + j)) d).drop 248) 8 ≤ (stampN v j : Nat) ∧ (tornB (sealB (stampN v j : Nat) p) (D.sec (at_ + j)) d = sealB (stampN v j : Nat) p ∨ openS (stampN v j : Nat) (tornB (sealB (stampN v j : Nat) p) (D.sec (at_ + j)) d) = none) := fun j p d hj hTj hd2 => by
    have hjl := (List.getElem?_eq_some_iff.1 hj).1
    have ho := hold j hTj (by omega)
    have hst : 1 ≤ stampN v j := by unfold stampN; omega
    exact torn_tail (t := stampN v j - 1) (stamp_lt hv (by omega)) (by omega) (hple p (List.mem_of_getElem? hj)) (hsl j (by omega)) hd2 (by omega)
  have hTG : ∀ j p, T[j]? = some p → G[j]? = some p := fun j p hj => by rw [hsp, List.getElem?_append_left (List.getElem?_eq_some_iff.1 hj).1]; exact hj
  refine ⟨⟨fun j p hj => ?_, fun j p hj => ?_, fun j hj1 hj2 => ?_, fun j hj => ?_⟩, fun h256 hon j p hj => ?_, fun j hj1 hj2 => ?_⟩
  · rw [← hG] at hj
    rcases Nat.lt_or_ge j T.length with hlt | hge
    · left
      rw [hoff j (.inl hlt)]
      exact hwhole j p (by rw [hsp, List.getElem?_append_left hlt] at hj; exact hj)
    · obtain ⟨d, d1, d2, d3⟩ := hin j p hj hge
      rw [d2]
      exact (htorn j p d hj hge d1).2
  · rw [← hT] at hj
    rw [hoff j (.inl (List.getElem?_eq_some_iff.1 hj).1)]
    exact hwhole j p hj
  · rw [← hG] at hj1
    rw [hoff j (.inr hj1)]
    exact openS_tail (stamp_lt hv (by omega)) (hold j (by omega) hj2)
  · rcases Nat.lt_or_ge j T.length with hlt | hge
    · rw [hoff j (.inl hlt)]
      have hp : T[j]? = some T[j] := List.getElem?_eq_getElem hlt
      rw [hwhole j _ hp, seal_getT (stampN v j) _ (hple _ (List.mem_of_getElem? (hTG j _ hp))) (stamp_lt hv (by omega))]
      omega
    · rcases Nat.lt_or_ge j G.length with hlt2 | hge2
      · have hp : G[j]? = some G[j] := List.getElem?_eq_getElem hlt2
        obtain ⟨d, d1, d2, d3⟩ := hin j _ hp hge
        rw [d2]
        exact (htorn j _ d hp hge d1).1
      · rw [hoff j (.inr hge2)]
        have := hold j hge hj
        omega
  · rw [← hG] at hj
    rcases Nat.lt_or_ge j T.length with hlt | hge
    · rw [hoff j (.inl hlt)]
      exact hwhole j p (by rw [hsp, List.getElem?_append_left hlt] at hj; exact hj)
    · obtain ⟨d, d1, d2, d3⟩ := hin j p hj hge
      have hjl := (List.getElem?_eq_some_iff.1 hj).1
      rw [d2, d3 h256 (hm hon), torn_full _ _ (sealB_length _ _ (hple p (List.mem_of_getElem? hj))) (hsl j (by omega))]
  · rw [← hG] at hj1
    exact hoff j (.inr hj1)
theorem JL.und_in (h : JL N at_ n v lf rs sy D) (hat : at_ + n ≤ N) (hn : n ≤ 60) : (∀ x ∈ D.und, x.1 < N ∧ x.2.length = 256) ∧ D.und.length ≤ 60 := by
  obtain ⟨m, hu, hm⟩ := h.und
  have hfit := h.fit
  have hsp := congrArg List.length (JL.split rs sy)
  rw [List.length_append] at hsp
  rw [hu]
  refine ⟨fun x hx => ?_, by rw [List.length_take, wsJ_length]; omega⟩
  obtain ⟨h1, h2, h3⟩ := wsJ_in at_ v _ _ (fun p hp => pcs_le_all (rs.drop sy) p hp) x (List.mem_of_mem_take hx)
  exact ⟨by omega, h3⟩
theorem JL.full (h : JL N at_ n v lf rs sy D) (hat : at_ + n ≤ N) (hn : n ≤ 60) : cutP (fun _ => 256) D.und 0 = D.und := cutP_full _ (fun _ => rfl) _ _ (fun x hx => ((h.und_in hat hn).1 x hx).2)
theorem JL.start (hok : D.ok) (hn : D.n = N) (hu : D.und = []) (ht : ∀ j, j < n → getB ((D.sec (at_ + j)).drop 248) 8 < (stampN v j : Nat)) : JL N at_ n v D.life [] 0 D :=
  ⟨hok, hn, rfl, by simp, fun r hr => by simp at hr, Nat.le_refl _, fun j p hj => by simp at hj, fun j _ hj => ht j hj, ⟨0, by rw [hu]; rfl, fun _ => Nat.le_refl _⟩⟩
/-- what stands there now -/
theorem JL.now (h : JL N at_ n v lf rs sy D) (ho : D.off = false) (hv : 1 ≤ v ∧ v ≤ 1099511627776) (hat : at_ + n ≤ N) (hn : n ≤ 60) : rpGo D at_ (n : Nat) v (((n : Nat) : Int).toNat + 1) 0 [] = rs := by
  obtain ⟨s1, s2, s3⟩ := h.seen hv.2 hat hn (fun _ => 256) (fun _ => Nat.le_refl _)
  obtain ⟨m, m1, m2, m3, m4⟩ := seen_read (D := D) s1 hv hn h.fit h.small h.syl (fun j hj => by
    have hhas : D.has ((at_ + j : Nat) : Int) = true := by unfold Dsk.has; exact decide_eq_true (by rw [h.n40]; omega)
    have hE : D.readE ((at_ + j : Nat) : Int) = 0 := by unfold Dsk.readE; rw [ho, hhas]; rfl
    have hS : D.readS ((at_ + j : Nat) : Int) = D.rd (at_ + j) := by unfold Dsk.readS; rw [ho, hhas]; rfl
    have hl := h.ok.len
    rw [h.n40] at hl
    refine ⟨hE, ?_⟩
    show D.readS ((at_ + j : Nat) : Int) = _
    rw [hS, h.full hat hn]
    exact rd_lay D.img N (at_ + j) (by omega) hl D.und (h.und_in hat hn).1)
  rw [m3, m4 (s2 (fun _ => rfl) ho)]
  exact List.take_length
/-- a record more -/
theorem JL.append (h : JL N at_ n v lf rs sy D) (ho : D.off = false) (hat : at_ + n ≤ N) (hn : n ≤ 60) (r : List UInt8) (hr : r.length ≤ 3000) (hfit : (rs.flatMap pcsJ).length + (pcsJ r).length ≤ n) :
    JL N at_ n v lf (rs ++ [r]) sy (apGo at_ v (rs.flatMap pcsJ).length (pcsJ r) 0 D).2 ∧ (apGo at_ v (rs.flatMap pcsJ).length (pcsJ r) 0 D).2.off = !(apGo at_ v (rs.flatMap pcsJ).length (pcsJ r) 0 D).1 := by
  obtain ⟨w1, w2, w3, w4, w5⟩ := ap_ways at_ v (rs.flatMap pcsJ).length (pcsJ r) 0 D ho h.ok (pcsJ_le r) (by rw [h.n40]; omega)
  obtain ⟨m, hu, hm⟩ := h.und
  have hm := hm ho
  have hsp := congrArg List.length (JL.split rs sy)
  rw [List.length_append] at hsp
  have htk : (rs ++ [r]).take sy = rs.take sy := List.take_append_of_le_length h.syl
  have hdr : ((rs ++ [r]).drop sy).flatMap pcsJ = (rs.drop sy).flatMap pcsJ ++ pcsJ r := by
    rw [List.drop_append_of_le_length h.syl, List.flatMap_append]
    simp
  rw [List.take_of_length_le (by rw [wsJ_length]; exact hm)] at hu
  have hws : wsJ at_ v ((rs.take sy).flatMap pcsJ).length ((rs.drop sy).flatMap pcsJ ++ pcsJ r) = D.und ++ wsJ at_ v (rs.flatMap pcsJ).length (pcsJ r) := by rw [wsJ_app, ← hu, ← hsp]
  have hul : D.und.length = ((rs.drop sy).flatMap pcsJ).length := by rw [hu, wsJ_length]
  obtain ⟨A, hA⟩ : ∃ A, A = apGo at_ v (rs.flatMap pcsJ).length (pcsJ r) 0 D := ⟨_, rfl⟩
  rw [← hA] at w1 w2 w3 w4 w5 ⊢
  rw [Nat.add_zero] at w1
  have hsec : ∀ i, A.2.sec i = D.sec i := fun i => by unfold Dsk.sec; rw [w2]
  refine ⟨⟨w4, by rw [w3, h.n40], by rw [w5, h.life], by rw [List.flatMap_append, List.length_append]; simpa using hfit, fun x hx => ?_, by rw [List.length_append]; have := h.syl; omega, fun j p hj => ?_, fun j hj1 hj2 => ?_, ?_⟩, ?_⟩
  · rcases List.mem_append.1 hx with hx | hx
    · exact h.small x hx
    · simp at hx; rw [hx]; exact hr
  · rw [htk] at hj
    rw [hsec]
    exact h.whole j p hj
  · rw [htk] at hj1
    rw [hsec]
    exact h.old j hj1 hj2
  · rw [htk, hdr, hws]
    rcases w1 with ⟨_, b, c⟩ | ⟨_, b, k, c⟩
    · refine ⟨D.und.length + (pcsJ r).length, ?_, fun _ => by rw [List.length_append, hul]; omega⟩
      rw [List.take_of_length_le (by rw [List.length_append, wsJ_length]; omega)]
      exact c
    · refine ⟨D.und.length + k, ?_, fun q => by rw [b] at q; cases q⟩
      rw [List.take_append, List.take_of_length_le (by omega), Nat.add_sub_cancel_left]
      exact c
  · rcases w1 with ⟨a, b, c⟩ | ⟨a, b, k, c⟩
    · rw [a, b]; rfl
    · rw [a, b]; rfl
/-- the crash: some first ones, the synced ones among them; the tails tell no later stamp; a later version tells nothing -/
theorem JL.crash (h : JL N at_ n v lf rs sy D) (hv : 1 ≤ v ∧ v + 1 ≤ 1099511627776) (hat : at_ + n ≤ N) (hn : n ≤ 60) (kept : List Bool) (torn bytes : Int) :
    (∃ m, sy ≤ m ∧ m ≤ rs.length ∧ rpGo (D.crash kept torn bytes) at_ (n : Nat) v (((n : Nat) : Int).toNat + 1) 0 [] = rs.take m) ∧ (∀ j, j < n → getB (((D.crash kept torn bytes).sec (at_ + j)).drop 248) 8 ≤ (stampN v j : Nat)) ∧
    rpGo (D.crash kept torn bytes) at_ (n : Nat) (v + 1) (((n : Nat) : Int).toNat + 1) 0 [] = [] ∧ (D.crash kept torn bytes).ok ∧ (D.crash kept torn bytes).n = N := by
  obtain ⟨s1, -, -⟩ := h.seen (by omega) hat hn (done kept torn bytes) (doneK_le kept torn bytes)
  have hsec : ∀ i, (D.crash kept torn bytes).sec i = cut (layAll D.img (cutP (done kept torn bytes) D.und 0)) (i * 256) 256 := fun i => by
    unfold Dsk.sec
    show cut (layDone _ _ _ _ _) _ _ = _
    rw [layDone_eq]
  have hok := Dsk.crash_ok h.ok kept torn bytes
  have hn40 : (D.crash kept torn bytes).n = N := h.n40
  have hcl : (D.crash kept torn bytes).off = false ∧ (D.crash kept torn bytes).und = [] := ⟨rfl, rfl⟩
  obtain ⟨D2, hD2⟩ : ∃ D2, D2 = D.crash kept torn bytes := ⟨_, rfl⟩
  rw [← hD2] at hok hn40 hcl ⊢
  simp only [← hD2] at hsec
  clear hD2
  have hrd : ∀ j, j < n → D2.readE ((at_ : Int) + (j : Nat)) = 0 ∧ D2.readS ((at_ : Int) + (j : Nat)) = D2.sec (at_ + j) := fun j hj => by
    have hhas : D2.has ((at_ + j : Nat) : Int) = true := by unfold Dsk.has; exact decide_eq_true (by rw [hn40]; omega)
    refine ⟨?_, ?_⟩
    · show D2.readE ((at_ + j : Nat) : Int) = 0
      unfold Dsk.readE; rw [hcl.1, hhas]; rfl
    · show D2.readS ((at_ + j : Nat) : Int) = _
      unfold Dsk.readS Dsk.rd; rw [hcl.1, hhas, hcl.2]; rfl
  refine ⟨?_, fun j hj => by rw [hsec]; exact s1.tails j hj, ?_, hok, hn40⟩
  · obtain ⟨m, m1, m2, m3, -⟩ := seen_read (D := D2) s1 ⟨hv.1, by omega⟩ hn h.fit h.small h.syl (fun j hj => by
      obtain ⟨a, b⟩ := hrd j hj
      exact ⟨a, by rw [b, hsec]⟩)
    exact ⟨m, m1, m2, m3⟩
  · have hp : payO D2 at_ (n : Nat) (v + 1) 0 = none := by
      unfold payO
      by_cases h0 : n = 0
      · rw [if_pos (by omega)]
      · rw [if_neg (by omega)]
        obtain ⟨a, b⟩ := hrd 0 (by omega)
        rw [a, if_neg (by simp), b, hsec]
        have ht := s1.tails 0 (by omega)
        exact openS_tail (stamp_lt (by omega) (by omega)) (by unfold stampN at ht ⊢; omega)
    have hr := recO_none (i := 0) hp
    show (match recO D2 at_ (n : Nat) (v + 1) 0 with | none => [] | some (s, u) => rpGo D2 at_ (n : Nat) (v + 1) ((n : Nat) : Int).toNat (0 + u.toNat) ([] ++ [s])) = []
    rw [hr]
end
end Go.Proofs.YteklldbfdmaafaaDoor
/-
  JournalMemory (chapter 10): what the walk needs of plain data.
-/
namespace Go.Proofs.YteklldbfdmaafaaDoor
open Go Go.RowKit
theorem ap_calmC (at_ ver used : Nat) : ∀ (ps : List (List UInt8)) (i : Nat) (D : Dsk), Calm D → (∀ q ∈ ps, q.length ≤ 234) → at_ + used + i + ps.length ≤ D.n →
    (apGo at_ ver used ps i D).1 = true ∧ Calm (apGo at_ ver used ps i D).2 := by
  intro ps
  induction ps with
  | nil => intro i D h _ _; exact ⟨rfl, h⟩
  | cons q ps ih =>
    intro i D h hl hn
    rw [List.length_cons] at hn
    have hS := sealB_length (stampN ver (used + i) : Nat) q (hl q (by simp))
    obtain ⟨w1, w2⟩ := write_calm h (at_ + used + i) (by omega) _ hS
    have hadr : (at_ : Int) + (used : Nat) + (i : Nat) = ((at_ + used + i : Nat) : Int) := by omega
    have hu : apGo at_ ver used (q :: ps) i D = if D.writeE ((at_ + used + i : Nat) : Int) (sealB (stampN ver (used + i) : Nat) q) ≠ 0 then (false, D.writeD ((at_ + used + i : Nat) : Int) (sealB (stampN ver (used + i) : Nat) q))
        else apGo at_ ver used ps (i + 1) (D.writeD ((at_ + used + i : Nat) : Int) (sealB (stampN ver (used + i) : Nat) q)) := by
      rw [← hadr]; rfl
    rw [hu, if_neg (by rw [w1]; simp)]
    have hc := writeD_calm h ((at_ + used + i : Nat) : Int) (sealB (stampN ver (used + i) : Nat) q)
    exact ih (i + 1) _ hc.1 (fun x hx => hl x (by simp [hx])) (by rw [hc.2]; omega)
/-- a sector of nought where the log begins: it tells nothing -/
theorem zero_tells {D : Dsk} (h : Calm D) (hn : D.n = 64) (m ver : Nat) (hv : 1 ≤ ver ∧ ver ≤ 1099511627776) : D.writeE 1 (zs 256) = 0 ∧ (D.writeD 1 (zs 256)).off = false ∧ (D.writeD 1 (zs 256)).n = 64 ∧ rpGo (D.writeD 1 (zs 256)) 1 (m : Nat) ver (((m : Nat) : Int).toNat + 1) 0 [] = [] := by
  obtain ⟨w1, w2⟩ := write_calm h 1 (by omega) (zs 256) (zs_length 256)
  have hc := writeD_calm h 1 (zs 256)
  have w2' : D.writeD 1 (zs 256) = { D with und := D.und ++ [(1, zs 256)], writes := w64 (D.writes + 1) } := w2
  obtain ⟨D2, hD2⟩ : ∃ D2, D2 = D.writeD 1 (zs 256) := ⟨_, rfl⟩
  have hu : D2.und = D.und ++ [(1, zs 256)] := by rw [hD2, w2']
  rw [← hD2] at hc ⊢
  refine ⟨w1, hc.1.1, hc.2.trans hn, ?_⟩
  have hp : payO D2 1 (m : Nat) ver 0 = none := by
    unfold payO
    by_cases h0 : m = 0
    · rw [if_pos (by omega)]
    · rw [if_neg (by omega)]
      have hhas : D2.has ((1 : Int) + ((0 : Nat) : Int)) = true := by unfold Dsk.has; rw [hc.2, hn]; rfl
      have hS : D2.readS ((1 : Int) + ((0 : Nat) : Int)) = zs 256 := by
        unfold Dsk.readS Dsk.rd
        rw [hc.1.1, hhas, hu]
        show (lastW (D.und ++ [(1, zs 256)]) 1).getD _ = _
        rw [lastW_snoc, if_pos rfl]; rfl
      have hE : D2.readE ((1 : Int) + ((0 : Nat) : Int)) = 0 := by unfold Dsk.readE; rw [hc.1.1, hhas]; rfl
      rw [hE, hS, if_neg (by simp)]
      exact openS_tail (stamp_lt (by omega) (by omega)) (by rw [zs_tail0]; unfold stampN; omega)
  have hr := recO_none (i := 0) hp
  show (match recO D2 1 (m : Nat) ver 0 with | none => [] | some (s, u) => rpGo D2 1 (m : Nat) ver ((m : Nat) : Int).toNat (0 + u.toNat) ([] ++ [s])) = []
  rw [hr]
end Go.Proofs.YteklldbfdmaafaaDoor
/-
  Sync, Append to a dead journal, the law's record for every fill, same: contracts.
-/
namespace Go.Proofs.YteklldbfdmaafaaDoor
open Go Go.RowKit
section
variable {P : Program} {W : World} {n : Nat} {k : KK} {E : Env} {H R : List SP} {x z : Operand} {t e : TypeId}
theorem KJ.row_shapeJ {v : Value} {e size m : Nat} {xs : List Value} (hsel : Sel (rowP v e size m xs) H R) (hm : 0 < m) (h : ∀ g c, v = .slice (some ⟨g, 0, none⟩) m c → KJ W n k E H) : KJ W n k E H :=
  ⟨fun a w p s => by
    rcases (s.left.row hsel).2 with ⟨_, q⟩ | ⟨g, c, _, q, _⟩
    · omega
    · exact (h g c q).go a w p s⟩
theorem Ct.rowSl {P : Program} {W : World} {f : FuncId} {args : List Value} {Hpre : List SP} {A : SP} {e size m : Nat} {xs : List Value} (h : Ct P W f args Hpre (fun v : Value => .tuple #[v, .nilIface]) (fun v => [A, rowP v e size m xs])) :
    Ct P W f args Hpre (fun x : Option Addr × Nat => .tuple #[.slice x.1 m x.2, .nilIface]) (fun x => [A, rowP (.slice x.1 m x.2) e size m xs]) :=
  ⟨fun R w s => (h.go R w s).mono fun en w' ⟨v, he, st⟩ => by
    have hrow := St.row (v := v) (e := e) (size := size) (n := m) (xs := xs) st (.there .here)
    rcases hrow.2 with ⟨hv, q⟩ | ⟨g, cap, cur, hv, _⟩
    · subst hv
      subst q
      exact ⟨(none, 0), he, st⟩
    · subst hv
      exact ⟨(some ⟨g, 0, none⟩, cap), he, st⟩⟩
end
section
variable {W : World} {E : Nat → Addr} {p g : Nat} {D : Dsk}
theorem i64_mod (x : Int) : IntKind.i64.wrap x % 256 = x % 256 := by
  have : IntKind.i64.wrap x = if x % 18446744073709551616 ≥ 9223372036854775808 then x % 18446744073709551616 - 18446744073709551616 else x % 18446744073709551616 := by
    simp [IntKind.wrap, IntKind.signed, IntKind.bits]
  rw [this]
  split <;> omega
theorem recC_any (fill : Int) (i : Nat) : IntKind.u8.wrap (IntKind.i64.wrap (IntKind.i64.wrap (fill + (i : Int) * 7) + (i : Int) / 251)) = ((recC fill i).toNat : Int) := by
  have e : ∀ z, IntKind.u8.wrap z = z % 256 := fun _ => rfl
  rw [e, i64_mod, Int.add_emod, i64_mod, ← Int.add_emod, ← e]
  exact recC_int fill i
set_option maxHeartbeats 400000 in
set_option maxRecDepth 100000 in
theorem record10a_ct (size fill : Int) : Ct Tryd.prog W 68 [.int .i64 size, .int .i64 fill] [] (fun _ : Unit => strV (recL size fill)) (fun _ => []) := by
  obtain ⟨B, hB⟩ : ∃ B, IntKind.u64.wrap size = B := ⟨_, rfl⟩
  have hBb : 0 ≤ B ∧ B < 18446744073709551616 := by
    have e : IntKind.u64.wrap size = size % 18446744073709551616 := rfl
    omega
  obtain ⟨n, hn⟩ : ∃ n : Nat, B % 3001 = (n : Int) := ⟨(B % 3001).toNat, by omega⟩
  have hn2 : n ≤ 3000 := by omega
  have eL : recL size fill = recB fill n := by unfold recL; rw [hB, hn]; rfl
  rw [eL]
  clear eL
  refine Ct.enter Tryd.func68 rfl Tryd.ntmps68 (by simp) (fun R => ?_)
  repeat' (first 
    | refine KJ_stp (by first | constructor | fail) ?_
    | (refine is_oper ?_; first | (refine is_store ?_; first | (refine KJ_store rfl rfl (by (repeat' (first | exact Sel.here | apply Sel.there)); first | done | fail) (by first | exact CellsOf.agg | exact CellsOf.one rfl) (by rfl) (by (repeat' (first | exact Ones.nil | exact Ones_bvs _ | refine Ones.cons rfl ?_)); first | done | fail) (by (repeat' (first | exact Laid.nil | apply Laid.cons | apply Laid.skip)); first | done | fail) (by (repeat' (first | exact Rep.here | apply Rep.there)); first | done | fail) ?_)) | (refine is_mkSlice ?_; first | (refine KJ_makeBytes rfl rfl rfl (by omega) rfl (fun g => ?_))) | (refine KJ_ek rfl ?_) | (refine KJ_ek0 ?_))
    | (refine is_ek ?_; first | (refine ek_move ?_; first | (refine EK_ev (Ev_move rfl) ?_)) | (refine ek_assign ?_; first | (refine EK_ev (Ev_assign rfl) ?_)) | (refine ek_conv ?_; first | (refine EK_ev (Ev_convI_v rfl hB) ?_) | (refine EK_ev (Ev_convI64 rfl (by omega)) ?_) | (refine EK_ev (Ev_convI rfl) ?_) | (refine EK_ev (Ev_convS rfl) ?_)) | (refine ek_indexAddr ?_; first | (refine EK_ev (Ev_indexSlice rfl rfl (by omega)) ?_) | (refine EK_ev (Ev_indexArr rfl rfl (by omega)) ?_)) | (refine ek_len ?_; first | (refine EK_ev (Ev_len_str rfl) ?_) | (refine EK_ev (Ev_len_slice rfl) ?_) | (refine EK_ev (Ev_len_arr rfl) ?_) | (refine EK_ev (Ev_len_map rfl (by (repeat' (first | exact Sel.here | apply Sel.there)); first | done | fail)) ?_)) | (refine ek_add ?_; first | (refine EK_ev (Ev_addI rfl rfl (by omega)) ?_) | (refine EK_ev (Ev_addS rfl rfl (by simp <;> omega)) ?_) | (refine EK_ev (Ev_add rfl rfl) ?_)) | (refine ek_mul ?_; first | (refine EK_ev (Ev_mulI rfl rfl (by omega)) ?_) | (refine EK_ev (Ev_mul rfl rfl) ?_)) | (refine ek_quo ?_; first | (refine EK_ev (Ev_quoI rfl rfl (by omega)) ?_) | (refine EK_ev (Ev_quo rfl rfl (by omega)) ?_)) | (refine ek_rem ?_; first | (refine EK_ev (Ev_rem_w rfl rfl (by omega) hn) ?_) | (refine EK_ev (Ev_remI rfl rfl (by omega)) ?_) | (refine EK_ev (Ev_rem rfl rfl (by omega)) ?_)) | (refine ek_lss ?_; first | (refine EK_ev (Ev_lssI rfl rfl) ?_) | (refine EK_ev (Ev_lssS rfl rfl) ?_)))
    | (refine is_ex ?_; first | (refine KJ_blk_exit' rfl ?_))
    | (refine is_code ?_; first | (refine KJ_cond_dec rfl (fun _ => ?_) (fun _ => ?_) <;> first | (exfalso; omega) | skip) | (refine KJ_cond_t rfl ?_) | (refine KJ_cond_f rfl ?_)))
  refine KJ_loop (fun i : {k : Nat // k ≤ n} => [(1, .int .i64 fill), (6, .slice (some ⟨g, 0, none⟩) n n), (15, .int .i64 (n : Nat)), (16, .int .i64 (i.1 : Nat))]) (fun i => [cellsP g (bvs (recB fill i.1 ++ zs (n - i.1))) 5] ++ R) (fun i => n - i.1) ⟨0, by omega⟩ (by (repeat' (first | exact Subs.nil | refine Subs.cons rfl ?_)); first | done | fail) (by show ∀ h, starL (cellsP g (bvs (zs n)) 5 :: R) h → _; exact (Ent.of (by (repeat' (first | exact Pick.nil | apply Pick.cons | exact Sel.here | apply Sel.there)); first | done | fail) (by (repeat' (first | exact DropTo.refl | apply DropTo.there)); first | done | fail))) (fun ⟨k, hk⟩ => ?_)
  dsimp only
  by_cases hlt : k < n
  · have ql : decide ((k : Int) < (n : Nat)) = true := decide_eq_true (by omega)
    have hlen := recB_length fill k
    have hzl : (zs (n - k)).length = n - k := by simp [zs]
    have hcv := recC_any fill k
    obtain ⟨s1, hs1⟩ : ∃ s, IntKind.i64.wrap (fill + (k : Int) * 7) = s := ⟨_, rfl⟩
    rw [hs1] at hcv
    obtain ⟨q1, hq1⟩ : ∃ q, (k : Int) / 251 = q := ⟨_, rfl⟩
    rw [hq1] at hcv
    obtain ⟨s2, hs2⟩ : ∃ s, IntKind.i64.wrap (s1 + q1) = s := ⟨_, rfl⟩
    rw [hs2] at hcv
    have hfit : 0 + (k : Int).toNat * 1 + [Value.int IntKind.u8 ((recC fill k).toNat : Int)].length ≤ (bvs (recB fill k ++ zs (n - k))).length := by rw [bvs_length', List.length_append, hlen, hzl]; simp; omega
    repeat' (first 
    | refine KJ_stp (by first | constructor | fail) ?_
    | (refine is_oper ?_; first | (refine is_store ?_; first | (refine KJ_store (v := .int .u8 ((recC fill k).toNat : Int)) rfl rfl (by (repeat' (first | exact Sel.here | apply Sel.there)); first | done | fail) (by first | exact CellsOf.agg | exact CellsOf.one rfl) (by rfl) (by (repeat' (first | exact Ones.nil | exact Ones_bvs _ | refine Ones.cons rfl ?_)); first | done | fail) (Laid.of hfit) (by (repeat' (first | exact Rep.here | apply Rep.there)); first | done | fail) ?_) | (refine KJ_store rfl rfl (by (repeat' (first | exact Sel.here | apply Sel.there)); first | done | fail) (by first | exact CellsOf.agg | exact CellsOf.one rfl) (by rfl) (by (repeat' (first | exact Ones.nil | exact Ones_bvs _ | refine Ones.cons rfl ?_)); first | done | fail) (by (repeat' (first | exact Laid.nil | apply Laid.cons | apply Laid.skip)); first | done | fail) (by (repeat' (first | exact Rep.here | apply Rep.there)); first | done | fail) ?_)) | (refine KJ_ek rfl ?_) | (refine KJ_ek0 ?_))
    | (refine is_ek ?_; first | (refine ek_move ?_; first | (refine EK_ev (Ev_move rfl) ?_)) | (refine ek_assign ?_; first | (refine EK_ev (Ev_assign rfl) ?_)) | (refine ek_conv ?_; first | (refine EK_ev (Ev_convI_v rfl hcv) ?_) | (refine EK_ev (Ev_convI64 rfl (by omega)) ?_) | (refine EK_ev (Ev_convI rfl) ?_) | (refine EK_ev (Ev_convS rfl) ?_)) | (refine ek_indexAddr ?_; first | (refine EK_ev (Ev_indexSlice rfl rfl (by omega)) ?_) | (refine EK_ev (Ev_indexArr rfl rfl (by omega)) ?_)) | (refine ek_len ?_; first | (refine EK_ev (Ev_len_str rfl) ?_) | (refine EK_ev (Ev_len_slice rfl) ?_) | (refine EK_ev (Ev_len_arr rfl) ?_) | (refine EK_ev (Ev_len_map rfl (by (repeat' (first | exact Sel.here | apply Sel.there)); first | done | fail)) ?_)) | (refine ek_add ?_; first | (refine EK_ev (Ev_add_w rfl rfl hs2) ?_) | (refine EK_ev (Ev_add_w rfl rfl hs1) ?_) | (refine EK_ev (Ev_addI rfl rfl (by omega)) ?_) | (refine EK_ev (Ev_addS rfl rfl (by simp <;> omega)) ?_) | (refine EK_ev (Ev_add rfl rfl) ?_)) | (refine ek_mul ?_; first | (refine EK_ev (Ev_mulI rfl rfl (by omega)) ?_) | (refine EK_ev (Ev_mul rfl rfl) ?_)) | (refine ek_quo ?_; first | (refine EK_ev (Ev_quo_w rfl rfl (by omega) hq1) ?_) | (refine EK_ev (Ev_quoI rfl rfl (by omega)) ?_) | (refine EK_ev (Ev_quo rfl rfl (by omega)) ?_)) | (refine ek_rem ?_; first | (refine EK_ev (Ev_remI rfl rfl (by omega)) ?_) | (refine EK_ev (Ev_rem rfl rfl (by omega)) ?_)) | (refine ek_lss ?_; first | (refine EK_ev (Ev_lssI_q rfl rfl ql) ?_) | (refine EK_ev (Ev_lssI rfl rfl) ?_) | (refine EK_ev (Ev_lssS rfl rfl) ?_)))
    | (refine is_ex ?_; first | (refine KJ_blk_exit' rfl ?_))
    | (refine is_code ?_; first | (refine KJ_cond_dec rfl (fun _ => ?_) (fun _ => ?_) <;> first | (exfalso; omega) | skip) | (refine KJ_cond_t rfl ?_) | (refine KJ_cond_f rfl ?_)))
    refine KJ_again ⟨k + 1, by omega⟩ (by show n - (k + 1) < n - k; omega) (by (repeat' (first | exact Subs.nil | refine Subs.cons rfl ?_)); first | done | fail) ?_
    have e3 : 0 + (k : Int).toNat * 1 = k := by simp
    have e := lay_zs (recB fill k) k (n - k - 1) (recC fill k) hlen
    rw [show n - k - 1 + 1 = n - k by omega, ← recB_next] at e
    rw [e3]
    have e2 : lay (bvs (recB fill k ++ zs (n - k))) k [Value.int IntKind.u8 ((recC fill k).toNat : Int)] = bvs (recB fill (k + 1) ++ zs (n - (k + 1))) := by
      rw [show n - (k + 1) = n - k - 1 by omega]; exact e
    rw [e2]
    exact (Ent.of (by (repeat' (first | exact Pick.nil | apply Pick.cons | exact Sel.here | apply Sel.there)); first | done | fail) (by (repeat' (first | exact DropTo.refl | apply DropTo.there)); first | done | fail))
  · have hkn : k = n := by omega
    subst hkn
    have ql : decide ((k : Int) < (k : Int)) = false := decide_eq_false (by omega)
    have e0 : recB fill k ++ zs (k - k) = recB fill k := by simp [zs]
    rw [e0]
    repeat' (first 
    | refine KJ_stp (by first | constructor | fail) ?_
    | (refine is_oper ?_; first | (refine is_store ?_; first | (refine KJ_store rfl rfl (by (repeat' (first | exact Sel.here | apply Sel.there)); first | done | fail) (by first | exact CellsOf.agg | exact CellsOf.one rfl) (by rfl) (by (repeat' (first | exact Ones.nil | exact Ones_bvs _ | refine Ones.cons rfl ?_)); first | done | fail) (by (repeat' (first | exact Laid.nil | apply Laid.cons | apply Laid.skip)); first | done | fail) (by (repeat' (first | exact Rep.here | apply Rep.there)); first | done | fail) ?_)) | (refine KJ_ek rfl ?_) | (refine KJ_ek0 ?_))
    | (refine is_ek ?_; first | (refine ek_move ?_; first | (refine EK_ev (Ev_move rfl) ?_)) | (refine ek_assign ?_; first | (refine EK_ev (Ev_assign rfl) ?_)) | (refine ek_conv ?_; first | (refine EK_ev (Ev_bytesAll rfl (by (repeat' (first | exact Sel.here | apply Sel.there)); first | done | fail) (recB_length _ _)) ?_) | (refine EK_ev (Ev_convI64 rfl (by omega)) ?_) | (refine EK_ev (Ev_convI rfl) ?_) | (refine EK_ev (Ev_convS rfl) ?_)) | (refine ek_indexAddr ?_; first | (refine EK_ev (Ev_indexSlice rfl rfl (by omega)) ?_) | (refine EK_ev (Ev_indexArr rfl rfl (by omega)) ?_)) | (refine ek_len ?_; first | (refine EK_ev (Ev_len_str rfl) ?_) | (refine EK_ev (Ev_len_slice rfl) ?_) | (refine EK_ev (Ev_len_arr rfl) ?_) | (refine EK_ev (Ev_len_map rfl (by (repeat' (first | exact Sel.here | apply Sel.there)); first | done | fail)) ?_)) | (refine ek_add ?_; first | (refine EK_ev (Ev_addI rfl rfl (by omega)) ?_) | (refine EK_ev (Ev_addS rfl rfl (by simp <;> omega)) ?_) | (refine EK_ev (Ev_add rfl rfl) ?_)) | (refine ek_mul ?_; first | (refine EK_ev (Ev_mulI rfl rfl (by omega)) ?_) | (refine EK_ev (Ev_mul rfl rfl) ?_)) | (refine ek_quo ?_; first | (refine EK_ev (Ev_quoI rfl rfl (by omega)) ?_) | (refine EK_ev (Ev_quo rfl rfl (by omega)) ?_)) | (refine ek_rem ?_; first | (refine EK_ev (Ev_remI rfl rfl (by omega)) ?_) | (refine EK_ev (Ev_rem rfl rfl (by omega)) ?_)) | (refine ek_lss ?_; first | (refine EK_ev (Ev_lssI_q rfl rfl ql) ?_) | (refine EK_ev (Ev_lssI rfl rfl) ?_) | (refine EK_ev (Ev_lssS rfl rfl) ?_)))
    | (refine is_ex ?_; first | (refine KJ_blk_exit' rfl ?_))
    | (refine is_code ?_; first | (refine KJ_cond_dec rfl (fun _ => ?_) (fun _ => ?_) <;> first | (exfalso; omega) | skip) | (refine KJ_cond_t rfl ?_) | (refine KJ_cond_f rfl ?_)))
    all_goals (refine is_ex ?_; exact KJ_done (by first | exact Or.inl rfl | exact Or.inr rfl) rfl (by (repeat' (first | exact Rvs.nil | (apply Rvs.tmp; exact rfl))); first | done | fail) () (by rfl) (Ent.of (by (repeat' (first | exact Pick.nil | apply Pick.cons | exact Sel.here | apply Sel.there)); first | done | fail) (by (repeat' (first | exact DropTo.refl | apply DropTo.there)); first | done | fail)))
set_option maxHeartbeats 400000 in
set_option maxRecDepth 100000 in
/-- alike: a list, and the beginning of another one -/
theorem same_ct (l L : List (List UInt8)) (a1 a2 : Option Addr) (c1 c2 : Nat) (hl : l.length ≤ L.length) (he : L.take l.length = l) (hL : L.length ≤ 1048576) : Ct Tryd.prog W 72 [.slice a1 l.length c1, .slice a2 l.length c2] [rowP (.slice a1 l.length c1) 9 1 l.length (l.map strV), rowP (.slice a2 L.length c2) 9 1 L.length (L.map strV)] (fun _ : Unit => .bool true) (fun _ => [rowP (.slice a1 l.length c1) 9 1 l.length (l.map strV), rowP (.slice a2 L.length c2) 9 1 L.length (L.map strV)]) := by
  by_cases h0 : l.length = 0
  · have ql : decide ((((0 : Nat)) : Int) < (l.length : Int)) = false := decide_eq_false (by omega)
    have ql' : decide ((0 : Int) < (l.length : Int)) = false := ql
    refine Ct.enter Tryd.func72 rfl Tryd.ntmps72 (by simp) (fun R => ?_)
    repeat' (first 
    | refine KJ_stp (by first | constructor | fail) ?_
    | (refine is_oper ?_; first | (refine KJ_ek rfl ?_) | (refine KJ_ek0 ?_))
    | (refine is_ek ?_; first | (refine ek_move ?_; first | (refine EK_ev (Ev_move rfl) ?_)) | (refine ek_assign ?_; first | (refine EK_ev (Ev_assign rfl) ?_)) | (refine ek_load ?_; first | (refine EK_ev (Ev_loadAgg rfl (by (repeat' (first | exact Sel.here | apply Sel.there)); first | done | fail) (by (repeat' (first | exact Cut.nil | apply Cut.cons | apply Cut.skip)); first | done | fail)) ?_) | (refine EK_ev (Ev_load rfl (by (repeat' (first | exact Sel.here | apply Sel.there)); first | done | fail) (by rfl)) ?_) | (refine EK_ev (Ev_load rfl (by (repeat' (first | exact Sel.here | apply Sel.there)); first | done | fail) (by rfl)) ?_) | (refine EK_ev (Ev_loadOld rfl (by assumption)) ?_) | (refine EK_ev (Ev_loadAgg rfl (by (repeat' (first | exact Sel.here | apply Sel.there)); first | done | fail) (by (repeat' (first | exact Cut.nil | apply Cut.cons | apply Cut.skip)); first | done | fail)) ?_)) | (refine ek_indexAddr ?_; first | (refine EK_ev (Ev_indexSlice rfl rfl (by omega)) ?_) | (refine EK_ev (Ev_indexArr rfl rfl (by omega)) ?_)) | (refine ek_len ?_; first | (refine EK_ev (Ev_len_str rfl) ?_) | (refine EK_ev (Ev_len_slice rfl) ?_) | (refine EK_ev (Ev_len_arr rfl) ?_) | (refine EK_ev (Ev_len_map rfl (by (repeat' (first | exact Sel.here | apply Sel.there)); first | done | fail)) ?_)) | (refine ek_add ?_; first | (refine EK_ev (Ev_addI rfl rfl (by omega)) ?_) | (refine EK_ev (Ev_addS rfl rfl (by simp <;> omega)) ?_) | (refine EK_ev (Ev_add rfl rfl) ?_)) | (refine ek_neq ?_; first | (refine EK_ev (Ev_neqI_f rfl rfl rfl) ?_) | (refine EK_ev (Ev_neqI rfl rfl) ?_) | (refine EK_ev (Ev_neqS rfl rfl) ?_) | (refine EK_ev (Ev_neqNil rfl rfl) ?_) | (refine EK_ev (Ev_neqB rfl rfl) ?_) | (refine EK_ev (Ev_neqO rfl rfl rfl (fun _ => rfl)) ?_)) | (refine ek_lss ?_; first | (refine EK_ev (Ev_lssI rfl rfl) ?_) | (refine EK_ev (Ev_lssS rfl rfl) ?_)))
    | (refine is_ex ?_; first | (refine KJ_blk_exit' rfl ?_))
    | (refine is_code ?_; first | (refine KJ_cond_dec rfl (fun _ => ?_) (fun _ => ?_) <;> first | (exfalso; omega) | skip) | (refine KJ_cond_t rfl ?_) | (refine KJ_cond_f rfl ?_) | (refine KJ_draws (id := 6) (.op 0 (.op 1 (.op 2 (.op 3 (.op 4 (.op 5 (.op 6 (.op 7 (.op 8 .nil))))))))) (by kernel_rfl) (by kernel_rfl) ?_))
    | (refine is_fw ?_; first | (refine FW_open rfl ?_) | (refine FW_nil ?_) | (refine FW_ef rfl ?_) | (refine FW_efg rfl rfl rfl ?_) | (refine FW_alt ?_ ?_))
    | (refine is_fo ?_; first | (refine FO_dec_t rfl rfl (fun _ => ?_) (fun _ => ?_) <;> first | (exfalso; omega) | skip) | (refine FO_dec_f rfl rfl (fun _ => ?_) (fun _ => ?_) <;> first | (exfalso; omega) | skip) | (refine FO_no rfl rfl rfl rfl ?_) | (refine FO_ekg rfl rfl rfl ?_) | (refine FO_ek rfl ?_))
    | (refine is_ro ?_; first | (refine RO_no rfl rfl rfl rfl ?_) | (refine RO_ekg rfl rfl ?_) | (refine RO_ek ?_))
    | (refine is_raw ?_; first | (refine KJ_flow ?_ ?_))
    | (refine AtR_mk rfl ?_)
    | exact Rech.nil
    | (refine Rech_open rfl ?_))
    refine KJ_loop (fun i : {k : Nat // k = 0} => [(12, .int .i64 (l.length : Nat)), (13, .int .i64 (i.1 : Nat))]) (fun _ => [rowP (.slice a1 l.length c1) 9 1 l.length (l.map strV), rowP (.slice a2 L.length c2) 9 1 L.length (L.map strV)] ++ R) (fun i => 0) ⟨0, rfl⟩ (by (repeat' (first | exact Subs.nil | refine Subs.cons rfl ?_)); first | done | fail) (Ent.of (by (repeat' (first | exact Pick.nil | apply Pick.cons | exact Sel.here | apply Sel.there)); first | done | fail) (by (repeat' (first | exact DropTo.refl | apply DropTo.there)); first | done | fail)) (fun ⟨k, hk⟩ => ?_)
    subst hk
    dsimp only
    repeat' (first 
    | refine KJ_stp (by first | constructor | fail) ?_
    | (refine is_oper ?_; first | (refine KJ_ek rfl ?_) | (refine KJ_ek0 ?_))
    | (refine is_ek ?_; first | (refine ek_move ?_; first | (refine EK_ev (Ev_move rfl) ?_)) | (refine ek_assign ?_; first | (refine EK_ev (Ev_assign rfl) ?_)) | (refine ek_load ?_; first | (refine EK_ev (Ev_loadAgg rfl (by (repeat' (first | exact Sel.here | apply Sel.there)); first | done | fail) (by (repeat' (first | exact Cut.nil | apply Cut.cons | apply Cut.skip)); first | done | fail)) ?_) | (refine EK_ev (Ev_load rfl (by (repeat' (first | exact Sel.here | apply Sel.there)); first | done | fail) (by rfl)) ?_) | (refine EK_ev (Ev_load rfl (by (repeat' (first | exact Sel.here | apply Sel.there)); first | done | fail) (by rfl)) ?_) | (refine EK_ev (Ev_loadOld rfl (by assumption)) ?_) | (refine EK_ev (Ev_loadAgg rfl (by (repeat' (first | exact Sel.here | apply Sel.there)); first | done | fail) (by (repeat' (first | exact Cut.nil | apply Cut.cons | apply Cut.skip)); first | done | fail)) ?_)) | (refine ek_indexAddr ?_; first | (refine EK_ev (Ev_indexSlice rfl rfl (by omega)) ?_) | (refine EK_ev (Ev_indexArr rfl rfl (by omega)) ?_)) | (refine ek_len ?_; first | (refine EK_ev (Ev_len_str rfl) ?_) | (refine EK_ev (Ev_len_slice rfl) ?_) | (refine EK_ev (Ev_len_arr rfl) ?_) | (refine EK_ev (Ev_len_map rfl (by (repeat' (first | exact Sel.here | apply Sel.there)); first | done | fail)) ?_)) | (refine ek_add ?_; first | (refine EK_ev (Ev_addI rfl rfl (by omega)) ?_) | (refine EK_ev (Ev_addS rfl rfl (by simp <;> omega)) ?_) | (refine EK_ev (Ev_add rfl rfl) ?_)) | (refine ek_neq ?_; first | (refine EK_ev (Ev_neqI rfl rfl) ?_) | (refine EK_ev (Ev_neqS rfl rfl) ?_) | (refine EK_ev (Ev_neqNil rfl rfl) ?_) | (refine EK_ev (Ev_neqB rfl rfl) ?_) | (refine EK_ev (Ev_neqO rfl rfl rfl (fun _ => rfl)) ?_)) | (refine ek_lss ?_; first | (refine EK_ev (Ev_lssI_q rfl rfl ql) ?_) | (refine EK_ev (Ev_lssI rfl rfl) ?_) | (refine EK_ev (Ev_lssS rfl rfl) ?_)))
    | (refine is_ex ?_; first | (refine KJ_blk_exit' rfl ?_))
    | (refine is_code ?_; first | (refine KJ_cond_dec rfl (fun _ => ?_) (fun _ => ?_) <;> first | (exfalso; omega) | skip) | (refine KJ_cond_t rfl ?_) | (refine KJ_cond_f rfl ?_) | (refine KJ_draws (id := 6) (.op 0 (.op 1 (.op 2 (.op 3 (.op 4 (.op 5 (.op 6 (.op 7 (.op 8 .nil))))))))) (by kernel_rfl) (by kernel_rfl) ?_))
    | (refine is_fw ?_; first | (refine FW_open rfl ?_) | (refine FW_nil ?_) | (refine FW_ef rfl ?_) | (refine FW_efg rfl rfl rfl ?_) | (refine FW_alt ?_ ?_))
    | (refine is_fo ?_; first | (refine FO_dec_t rfl rfl (fun _ => ?_) (fun _ => ?_) <;> first | (exfalso; omega) | skip) | (refine FO_dec_f rfl rfl (fun _ => ?_) (fun _ => ?_) <;> first | (exfalso; omega) | skip) | (refine FO_no rfl rfl rfl rfl ?_) | (refine FO_ekg rfl rfl rfl ?_) | (refine FO_ek rfl ?_))
    | (refine is_ro ?_; first | (refine RO_no rfl rfl rfl rfl ?_) | (refine RO_ekg rfl rfl ?_) | (refine RO_ek ?_))
    | (refine is_raw ?_; first | (refine KJ_flow ?_ ?_))
    | (refine AtR_mk rfl ?_)
    | exact Rech.nil
    | (refine Rech_open rfl ?_))
    all_goals (refine is_ex ?_; exact KJ_done (by first | exact Or.inl rfl | exact Or.inr rfl) rfl (by (repeat' (first | exact Rvs.nil | (apply Rvs.tmp; exact rfl))); first | done | fail) () (by rfl) (Ent.of (by (repeat' (first | exact Pick.nil | apply Pick.cons | exact Sel.here | apply Sel.there)); first | done | fail) (by (repeat' (first | exact DropTo.refl | apply DropTo.there)); first | done | fail)))
  refine Ct.enter Tryd.func72 rfl Tryd.ntmps72 (by simp) (fun R => ?_)
  refine KJ.row_shapeJ (v := .slice a1 l.length c1) (by (repeat' (first | exact Sel.here | apply Sel.there)); first | done | fail) (by omega) (fun g1 d1 e1 => ?_)
  simp only [Value.slice.injEq] at e1
  obtain ⟨rfl, -, rfl⟩ := e1
  refine KJ.row_shapeJ (v := .slice a2 L.length c2) (by (repeat' (first | exact Sel.here | apply Sel.there)); first | done | fail) (by omega) (fun g2 d2 e2 => ?_)
  simp only [Value.slice.injEq] at e2
  obtain ⟨rfl, -, rfl⟩ := e2
  repeat' (first 
    | refine KJ_stp (by first | constructor | fail) ?_
    | (refine is_oper ?_; first | (refine KJ_ek rfl ?_) | (refine KJ_ek0 ?_))
    | (refine is_ek ?_; first | (refine ek_move ?_; first | (refine EK_ev (Ev_move rfl) ?_)) | (refine ek_assign ?_; first | (refine EK_ev (Ev_assign rfl) ?_)) | (refine ek_load ?_; first | (refine EK_ev (Ev_loadAgg rfl (by (repeat' (first | exact Sel.here | apply Sel.there)); first | done | fail) (by (repeat' (first | exact Cut.nil | apply Cut.cons | apply Cut.skip)); first | done | fail)) ?_) | (refine EK_ev (Ev_load rfl (by (repeat' (first | exact Sel.here | apply Sel.there)); first | done | fail) (by rfl)) ?_) | (refine EK_ev (Ev_load rfl (by (repeat' (first | exact Sel.here | apply Sel.there)); first | done | fail) (by rfl)) ?_) | (refine EK_ev (Ev_loadOld rfl (by assumption)) ?_) | (refine EK_ev (Ev_loadAgg rfl (by (repeat' (first | exact Sel.here | apply Sel.there)); first | done | fail) (by (repeat' (first | exact Cut.nil | apply Cut.cons | apply Cut.skip)); first | done | fail)) ?_)) | (refine ek_indexAddr ?_; first | (refine EK_ev (Ev_indexSlice rfl rfl (by omega)) ?_) | (refine EK_ev (Ev_indexArr rfl rfl (by omega)) ?_)) | (refine ek_len ?_; first | (refine EK_ev (Ev_len_str rfl) ?_) | (refine EK_ev (Ev_len_slice rfl) ?_) | (refine EK_ev (Ev_len_arr rfl) ?_) | (refine EK_ev (Ev_len_map rfl (by (repeat' (first | exact Sel.here | apply Sel.there)); first | done | fail)) ?_)) | (refine ek_add ?_; first | (refine EK_ev (Ev_addI rfl rfl (by omega)) ?_) | (refine EK_ev (Ev_addS rfl rfl (by simp <;> omega)) ?_) | (refine EK_ev (Ev_add rfl rfl) ?_)) | (refine ek_neq ?_; first | (refine EK_ev (Ev_neqI_f rfl rfl rfl) ?_) | (refine EK_ev (Ev_neqI rfl rfl) ?_) | (refine EK_ev (Ev_neqS rfl rfl) ?_) | (refine EK_ev (Ev_neqNil rfl rfl) ?_) | (refine EK_ev (Ev_neqB rfl rfl) ?_) | (refine EK_ev (Ev_neqO rfl rfl rfl (fun _ => rfl)) ?_)) | (refine ek_lss ?_; first | (refine EK_ev (Ev_lssI rfl rfl) ?_) | (refine EK_ev (Ev_lssS rfl rfl) ?_)))
    | (refine is_ex ?_; first | (refine KJ_blk_exit' rfl ?_))
    | (refine is_code ?_; first | (refine KJ_cond_dec rfl (fun _ => ?_) (fun _ => ?_) <;> first | (exfalso; omega) | skip) | (refine KJ_cond_t rfl ?_) | (refine KJ_cond_f rfl ?_) | (refine KJ_draws (id := 6) (.op 0 (.op 1 (.op 2 (.op 3 (.op 4 (.op 5 (.op 6 (.op 7 (.op 8 .nil))))))))) (by kernel_rfl) (by kernel_rfl) ?_))
    | (refine is_fw ?_; first | (refine FW_open rfl ?_) | (refine FW_nil ?_) | (refine FW_ef rfl ?_) | (refine FW_efg rfl rfl rfl ?_) | (refine FW_alt ?_ ?_))
    | (refine is_fo ?_; first | (refine FO_dec_t rfl rfl (fun _ => ?_) (fun _ => ?_) <;> first | (exfalso; omega) | skip) | (refine FO_dec_f rfl rfl (fun _ => ?_) (fun _ => ?_) <;> first | (exfalso; omega) | skip) | (refine FO_no rfl rfl rfl rfl ?_) | (refine FO_ekg rfl rfl rfl ?_) | (refine FO_ek rfl ?_))
    | (refine is_ro ?_; first | (refine RO_no rfl rfl rfl rfl ?_) | (refine RO_ekg rfl rfl ?_) | (refine RO_ek ?_))
    | (refine is_raw ?_; first | (refine KJ_flow ?_ ?_))
    | (refine AtR_mk rfl ?_)
    | exact Rech.nil
    | (refine Rech_open rfl ?_))
  refine KJ_loop (fun i : {k : Nat // k ≤ l.length} => [(0, .slice (some ⟨g1, 0, none⟩) l.length c1), (1, .slice (some ⟨g2, 0, none⟩) l.length c2), (12, .int .i64 (l.length : Nat)), (13, .int .i64 (i.1 : Nat))]) (fun _ => [rowP (.slice (some ⟨g1, 0, none⟩) l.length c1) 9 1 l.length (l.map strV), rowP (.slice (some ⟨g2, 0, none⟩) L.length c2) 9 1 L.length (L.map strV)] ++ R) (fun i => l.length - i.1) ⟨0, by omega⟩ (by (repeat' (first | exact Subs.nil | refine Subs.cons rfl ?_)); first | done | fail) (Ent.of (by (repeat' (first | exact Pick.nil | apply Pick.cons | exact Sel.here | apply Sel.there)); first | done | fail) (by (repeat' (first | exact DropTo.refl | apply DropTo.there)); first | done | fail)) (fun ⟨k, hk⟩ => ?_)
  dsimp only
  by_cases hlt : k < l.length
  rotate_left
  · have hkl : k = l.length := by omega
    subst hkl
    have ql : decide ((l.length : Int) < (l.length : Int)) = false := decide_eq_false (by omega)
    repeat' (first 
    | refine KJ_stp (by first | constructor | fail) ?_
    | (refine is_oper ?_; first | (refine KJ_ek rfl ?_) | (refine KJ_ek0 ?_))
    | (refine is_ek ?_; first | (refine ek_move ?_; first | (refine EK_ev (Ev_move rfl) ?_)) | (refine ek_assign ?_; first | (refine EK_ev (Ev_assign rfl) ?_)) | (refine ek_load ?_; first | (refine EK_ev (Ev_loadAgg rfl (by (repeat' (first | exact Sel.here | apply Sel.there)); first | done | fail) (by (repeat' (first | exact Cut.nil | apply Cut.cons | apply Cut.skip)); first | done | fail)) ?_) | (refine EK_ev (Ev_load rfl (by (repeat' (first | exact Sel.here | apply Sel.there)); first | done | fail) (by rfl)) ?_) | (refine EK_ev (Ev_load rfl (by (repeat' (first | exact Sel.here | apply Sel.there)); first | done | fail) (by rfl)) ?_) | (refine EK_ev (Ev_loadOld rfl (by assumption)) ?_) | (refine EK_ev (Ev_loadAgg rfl (by (repeat' (first | exact Sel.here | apply Sel.there)); first | done | fail) (by (repeat' (first | exact Cut.nil | apply Cut.cons | apply Cut.skip)); first | done | fail)) ?_)) | (refine ek_indexAddr ?_; first | (refine EK_ev (Ev_indexSlice rfl rfl (by omega)) ?_) | (refine EK_ev (Ev_indexArr rfl rfl (by omega)) ?_)) | (refine ek_len ?_; first | (refine EK_ev (Ev_len_str rfl) ?_) | (refine EK_ev (Ev_len_slice rfl) ?_) | (refine EK_ev (Ev_len_arr rfl) ?_) | (refine EK_ev (Ev_len_map rfl (by (repeat' (first | exact Sel.here | apply Sel.there)); first | done | fail)) ?_)) | (refine ek_add ?_; first | (refine EK_ev (Ev_addI rfl rfl (by omega)) ?_) | (refine EK_ev (Ev_addS rfl rfl (by simp <;> omega)) ?_) | (refine EK_ev (Ev_add rfl rfl) ?_)) | (refine ek_neq ?_; first | (refine EK_ev (Ev_neqI rfl rfl) ?_) | (refine EK_ev (Ev_neqS rfl rfl) ?_) | (refine EK_ev (Ev_neqNil rfl rfl) ?_) | (refine EK_ev (Ev_neqB rfl rfl) ?_) | (refine EK_ev (Ev_neqO rfl rfl rfl (fun _ => rfl)) ?_)) | (refine ek_lss ?_; first | (refine EK_ev (Ev_lssI_q rfl rfl ql) ?_) | (refine EK_ev (Ev_lssI rfl rfl) ?_) | (refine EK_ev (Ev_lssS rfl rfl) ?_)))
    | (refine is_ex ?_; first | (refine KJ_blk_exit' rfl ?_))
    | (refine is_code ?_; first | (refine KJ_cond_dec rfl (fun _ => ?_) (fun _ => ?_) <;> first | (exfalso; omega) | skip) | (refine KJ_cond_t rfl ?_) | (refine KJ_cond_f rfl ?_) | (refine KJ_draws (id := 6) (.op 0 (.op 1 (.op 2 (.op 3 (.op 4 (.op 5 (.op 6 (.op 7 (.op 8 .nil))))))))) (by kernel_rfl) (by kernel_rfl) ?_))
    | (refine is_fw ?_; first | (refine FW_open rfl ?_) | (refine FW_nil ?_) | (refine FW_ef rfl ?_) | (refine FW_efg rfl rfl rfl ?_) | (refine FW_alt ?_ ?_))
    | (refine is_fo ?_; first | (refine FO_dec_t rfl rfl (fun _ => ?_) (fun _ => ?_) <;> first | (exfalso; omega) | skip) | (refine FO_dec_f rfl rfl (fun _ => ?_) (fun _ => ?_) <;> first | (exfalso; omega) | skip) | (refine FO_no rfl rfl rfl rfl ?_) | (refine FO_ekg rfl rfl rfl ?_) | (refine FO_ek rfl ?_))
    | (refine is_ro ?_; first | (refine RO_no rfl rfl rfl rfl ?_) | (refine RO_ekg rfl rfl ?_) | (refine RO_ek ?_))
    | (refine is_raw ?_; first | (refine KJ_flow ?_ ?_))
    | (refine AtR_mk rfl ?_)
    | exact Rech.nil
    | (refine Rech_open rfl ?_))
    all_goals (refine is_ex ?_; exact KJ_done (by first | exact Or.inl rfl | exact Or.inr rfl) rfl (by (repeat' (first | exact Rvs.nil | (apply Rvs.tmp; exact rfl))); first | done | fail) () (by rfl) (Ent.of (by (repeat' (first | exact Pick.nil | apply Pick.cons | exact Sel.here | apply Sel.there)); first | done | fail) (by (repeat' (first | exact DropTo.refl | apply DropTo.there)); first | done | fail)))
  have ql : decide ((k : Int) < (l.length : Int)) = true := decide_eq_true (by omega)
  obtain ⟨s, hs⟩ : ∃ s, l[k]? = some s := ⟨_, List.getElem?_eq_getElem hlt⟩
  have hs2 : L[k]? = some s := by
    rw [← he, List.getElem?_take, if_pos hlt] at hs
    exact hs
  have hg1 : (l.map strV)[0 + ((k : Nat) : Int).toNat * 1]? = some (strV s) := by rw [Int.toNat_natCast, Nat.mul_one, Nat.zero_add, List.getElem?_map, hs]; rfl
  have hg2 : (L.map strV)[0 + ((k : Nat) : Int).toNat * 1]? = some (strV s) := by rw [Int.toNat_natCast, Nat.mul_one, Nat.zero_add, List.getElem?_map, hs2]; rfl
  repeat' (first 
    | refine KJ_stp (by first | constructor | fail) ?_
    | (refine is_oper ?_; first | (refine KJ_ek rfl ?_) | (refine KJ_ek0 ?_))
    | (refine is_ek ?_; first | (refine ek_move ?_; first | (refine EK_ev (Ev_move rfl) ?_)) | (refine ek_assign ?_; first | (refine EK_ev (Ev_assign rfl) ?_)) | (refine ek_load ?_; first | (refine EK_ev (Ev_loadAgg rfl (by (repeat' (first | exact Sel.here | apply Sel.there)); first | done | fail) (by (repeat' (first | exact Cut.nil | apply Cut.cons | apply Cut.skip)); first | done | fail)) ?_) | (refine EK_ev (Ev_load rfl (by (repeat' (first | exact Sel.here | apply Sel.there)); first | done | fail) (by rfl)) ?_) | (refine EK_ev (Ev_loadRow (g := g2) (i := L.length) rfl (by (repeat' (first | exact Sel.here | apply Sel.there)); first | done | fail) hg2) ?_) | (refine EK_ev (Ev_loadRow (g := g1) (i := l.length) (c := c1) rfl (by (repeat' (first | exact Sel.here | apply Sel.there)); first | done | fail) hg1) ?_) | (refine EK_ev (Ev_load rfl (by (repeat' (first | exact Sel.here | apply Sel.there)); first | done | fail) (by rfl)) ?_) | (refine EK_ev (Ev_loadOld rfl (by assumption)) ?_) | (refine EK_ev (Ev_loadAgg rfl (by (repeat' (first | exact Sel.here | apply Sel.there)); first | done | fail) (by (repeat' (first | exact Cut.nil | apply Cut.cons | apply Cut.skip)); first | done | fail)) ?_)) | (refine ek_indexAddr ?_; first | (refine EK_ev (Ev_indexSlice rfl rfl (by omega)) ?_) | (refine EK_ev (Ev_indexArr rfl rfl (by omega)) ?_)) | (refine ek_len ?_; first | (refine EK_ev (Ev_len_str rfl) ?_) | (refine EK_ev (Ev_len_slice rfl) ?_) | (refine EK_ev (Ev_len_arr rfl) ?_) | (refine EK_ev (Ev_len_map rfl (by (repeat' (first | exact Sel.here | apply Sel.there)); first | done | fail)) ?_)) | (refine ek_add ?_; first | (refine EK_ev (Ev_addI_v (r := ((k + 1 : Nat) : Int)) rfl rfl (by omega) (by omega)) ?_) | (refine EK_ev (Ev_addI rfl rfl (by omega)) ?_) | (refine EK_ev (Ev_addS rfl rfl (by simp <;> omega)) ?_) | (refine EK_ev (Ev_add rfl rfl) ?_)) | (refine ek_neq ?_; first | (refine EK_ev (Ev_neqS_f rfl rfl rfl) ?_) | (refine EK_ev (Ev_neqI rfl rfl) ?_) | (refine EK_ev (Ev_neqS rfl rfl) ?_) | (refine EK_ev (Ev_neqNil rfl rfl) ?_) | (refine EK_ev (Ev_neqB rfl rfl) ?_) | (refine EK_ev (Ev_neqO rfl rfl rfl (fun _ => rfl)) ?_)) | (refine ek_lss ?_; first | (refine EK_ev (Ev_lssI_q rfl rfl ql) ?_) | (refine EK_ev (Ev_lssI rfl rfl) ?_) | (refine EK_ev (Ev_lssS rfl rfl) ?_)))
    | (refine is_ex ?_; first | (refine KJ_blk_exit' rfl ?_))
    | (refine is_code ?_; first | (refine KJ_cond_dec rfl (fun _ => ?_) (fun _ => ?_) <;> first | (exfalso; omega) | skip) | (refine KJ_cond_t rfl ?_) | (refine KJ_cond_f rfl ?_) | (refine KJ_draws (id := 6) (.op 0 (.op 1 (.op 2 (.op 3 (.op 4 (.op 5 (.op 6 (.op 7 (.op 8 .nil))))))))) (by kernel_rfl) (by kernel_rfl) ?_))
    | (refine is_fw ?_; first | (refine FW_open rfl ?_) | (refine FW_nil ?_) | (refine FW_ef rfl ?_) | (refine FW_efg rfl rfl rfl ?_) | (refine FW_alt ?_ ?_))
    | (refine is_fo ?_; first | (refine FO_dec_t rfl rfl (fun _ => ?_) (fun _ => ?_) <;> first | (exfalso; omega) | skip) | (refine FO_dec_f rfl rfl (fun _ => ?_) (fun _ => ?_) <;> first | (exfalso; omega) | skip) | (refine FO_no rfl rfl rfl rfl ?_) | (refine FO_ekg rfl rfl rfl ?_) | (refine FO_ek rfl ?_))
    | (refine is_ro ?_; first | (refine RO_no rfl rfl rfl rfl ?_) | (refine RO_ekg rfl rfl ?_) | (refine RO_ek ?_))
    | (refine is_raw ?_; first | (refine KJ_flow ?_ ?_))
    | (refine AtR_mk rfl ?_)
    | exact Rech.nil
    | (refine Rech_open rfl ?_))
  all_goals exact KJ_again ⟨k + 1, by omega⟩ (by show l.length - (k + 1) < l.length - k; omega) (by (repeat' (first | exact Subs.nil | refine Subs.cons rfl ?_)); first | done | fail) (Ent.of (by (repeat' (first | exact Pick.nil | apply Pick.cons | exact Sel.here | apply Sel.there)); first | done | fail) (by (repeat' (first | exact DropTo.refl | apply DropTo.there)); first | done | fail))
end
end Go.Proofs.YteklldbfdmaafaaDoor
/-
  Range over a function: the rounds' contract, the statement, the rounds' own walk.
-/
namespace Go.Proofs.YteklldbfdmaafaaDoor
open Go Go.RowKit
/-- the value of yield -/
abbrev yv (l : Nat) : Value := .func (.yield l) #[] #[]
/-- the loop's record: in what state, with what jump; the slots asg E says -/
def recP (l : Nat) (st : LoopState) (pe : Option Code) (n : Nat) (E : Env) (ps : Array Tmp) (asg bd : Code) : SP :=
  ⟨4, l, fun h => ∃ fn tmps D, h l = some (.loop { state := st, pending := pe, fn, tmps, params := ps, assign := asg, body := bd, defers := D }) ∧ tmps.size = n ∧ ∀ t v, Env.at E t = some v → tmps[t]? = some v⟩
theorem recP_up {l : Nat} {st : LoopState} {pe : Option Code} {n : Nat} {E : Env} {ps : Array Tmp} {asg bd : Code} : ∀ h g, Hl.le h g → (recP l st pe n E ps asg bd).ok h → (recP l st pe n E ps asg bd).ok g :=
  fun _ _ le ⟨fn, tmps, D, a, b, c⟩ => ⟨fn, tmps, D, le _ _ a, b, c⟩
section
variable {P : Program} {W w : World} {n : Nat} {q : QQ} {k : KK} {E : Env} {H H' R : List SP} {l : Nat} {st : LoopState} {pe : Option Code} {ps : Array Tmp} {asg bd : Code} {X : Type}
theorem St.recd (s : St W H w) (p : Sel (recP l st pe n E ps asg bd) H R) : ∃ fn tmps D, w.heap[l]? = some (.loop { state := st, pending := pe, fn, tmps, params := ps, assign := asg, body := bd, defers := D }) ∧ tmps.size = n ∧ ∀ t v, Env.at E t = some v → tmps[t]? = some v := by
  obtain ⟨h, ⟨fn, tmps, D, a, b⟩, lies⟩ := s.sel p recP_up
  exact ⟨fn, tmps, D, (lies l _ a).2, b⟩
/-- the record turns -/
theorem St.recTurn {st' : LoopState} {pe' : Option Code} {fn : FuncId} {tmps : Array Value} {D : Nat} (s : St W H w) (p : Sel (recP l st pe n E ps asg bd) H R) (hh : w.heap[l]? = some (.loop { state := st, pending := pe, fn, tmps, params := ps, assign := asg, body := bd, defers := D })) :
    St W (recP l st' pe' n E ps asg bd :: R) (w.putObj l (.loop { state := st', pending := pe', fn, tmps, params := ps, assign := asg, body := bd, defers := D })) := by
  have hlt := (Array.getElem?_eq_some_iff.1 hh).1
  refine St.act (A := [recP l st pe n E ps asg bd]) (B := [recP l st' pe' n E ps asg bd]) (H := R) (s.perm p.perm) rfl rfl rfl (by simp) ?_
  intro h1 ⟨h, _, _, le, _, ⟨fn', tmps', D', a, b⟩, _⟩ lies
  have ha := (lies l _ (le _ _ a)).2
  rw [hh] at ha; cases ha
  refine ⟨Hl.one l _, starL_one ⟨fn, tmps, D, Hl.one_self _ _, b⟩, fun k x hx => ?_, fun k x hx => ?_, fun k _ hn => World.putObj_heap_other ?_⟩
  · obtain ⟨rfl, rfl⟩ := Hl.one_some hx; exact World.putObj_heap_same hlt
  · obtain ⟨rfl, rfl⟩ := Hl.one_some hx; exact .inl ⟨_, le _ _ a⟩
  · intro e; subst e; rw [le _ _ a] at hn; cases hn

/-- what a round's end must show -/
def RPost (W : World) {X : Type} (r : X → Bool) (H' : X → List SP) (R : List SP) : Ending → World → Prop := fun e w => ∃ x, e = .returned (.bool (r x)) ∧ St W (H' x ++ R) w
/-- a round's contract: yield, called with args where Hpre is owned -/
structure Yt (P : Program) (W : World) (l : Nat) (args : List Value) (Hpre : List SP) {X : Type} (r : X → Bool) (H' : X → List SP) : Prop where
  go : ∀ R w, St W (Hpre ++ R) w → ∃ f tmps asg bd, (Instr.yield l args.toArray).run P w = .ok (.round l f tmps asg bd) w ∧ RoundIn Fence.wide 0 P l f tmps asg bd w (RPost W r H' R)
/-- yield is called -/
theorem KJ_yield {x : Operand} {xs : List Operand} {ts : Array TypeId} {vs : List Value} {dd : Option Tmp} {Hpre : List SP} {r : X → Bool} {Hp : X → List SP} (hf : Env.ev E x = some (yv l)) (hx : Evs E xs vs) (hc : Yt P W l vs Hpre r Hp) (hp : Pick Hpre H R) (hn : dstOk n dd = true)
    (h : ∀ c, KJ W n k (Env.put E dd (.bool (r c))) (Hp c ++ R)) : KJ W n (.oper P (.call { callee := .value x, args := xs.toArray, argTypes := ts }) dd k) E H := by
  refine ⟨fun a w p s o ho hd => ?_⟩
  subst hd
  show uponP P o a _ ((execOp a.eval o).run P w)
  obtain ⟨f, tmps, asg, bd, hy, hr⟩ := hc.go (R ++ dm a.defers) w (s.perm ((hp.perm.append_right _).trans (by rw [List.append_assoc])))
  have hv := p.evs hx
  have hrun : (execOp a.eval o).run P w = .ok (.round l f tmps asg bd) w := by
    have : (execOp a.eval o).run P w = (Instr.yield l vs.toArray).run P w := by
      simp [execOp, ho, resolve, p.ev hf, Deferred.ofValue, invoke, hv, Sem.run_bind, Result.andThen, callFunc]
    rw [this, hy]
  rw [hrun]
  refine RoundIn.mono hr ?_
  rintro e w' ⟨c, rfl, s⟩
  refine ⟨_, rfl, (h c).go _ w' (p.put hn _) ?_⟩
  show St W (_ ++ dm (a.put o.dst _).defers) w'
  rw [put_defers, List.append_assoc]; exact s
theorem Yt.frame {args : List Value} {Hpre : List SP} {r : X → Bool} {Hp : X → List SP} (h : Yt P W l args Hpre r Hp) (F : List SP) : Yt P W l args (Hpre ++ F) r (fun x => Hp x ++ F) :=
  ⟨fun R w s => by
    obtain ⟨f, tmps, asg, bd, h1, h2⟩ := h.go (F ++ R) w (by rw [← List.append_assoc]; exact s)
    exact ⟨f, tmps, asg, bd, h1, h2.mono fun e w' ⟨x, he, s⟩ => ⟨x, he, by rw [List.append_assoc]; exact s⟩⟩⟩
theorem Pick.all (H : List SP) : Pick H H [] := by
  induction H with
  | nil => exact .nil
  | cons A H ih => exact .cons .here ih
/-- yield is called with all that is owned -/
theorem KJ_yield_all {x : Operand} {xs : List Operand} {ts : Array TypeId} {vs : List Value} {dd : Option Tmp} {H0 : List SP} {r : X → Bool} {Hp : X → List SP} (hf : Env.ev E x = some (yv l)) (hx : Evs E xs vs) (hc : Yt P W l vs H0 r Hp) (hp : H.Perm H0) (hn : dstOk n dd = true)
    (h : ∀ c, KJ W n k (Env.put E dd (.bool (r c))) (Hp c)) : KJ W n (.oper P (.call { callee := .value x, args := xs.toArray, argTypes := ts }) dd k) E H :=
  KJ.perm (KJ_yield hf hx hc (Pick.all H0) hn (fun c => by rw [List.append_nil]; exact h c)) hp
theorem KJ_cond_b {c : Operand} {x y : Code} {t : Bool} (hc : Env.ev E c = some (.bool t)) (ht : t = true → KJ W n (.code P x q) E H) (hf : t = false → KJ W n (.code P y q) E H) : KJ W n (.code P (Code.cond c x y) q) E H := KJ_cond hc ht hf

/-- the slots of a round: yield's arguments in the parameters -/
def Env.ofPs : List Tmp → List Value → Env → Env
  | p :: ps, v :: vs, E => Env.ofPs ps vs ((p, v) :: E)
  | _, _, E => E
theorem Hd.ofPs : ∀ (ps : List Tmp) (vs : List Value) (E : Env) (tmps : Array Value), (∀ p ∈ ps, p < n) → tmps.size = n → (∀ t v, Env.at E t = some v → tmps[t]? = some v) →
    Hd n (Env.ofPs ps vs E) { tmps := (ps.zip vs).foldl (fun t (p, v) => t.setIfInBounds p v) tmps, defers := [] }
  | [], vs, E, tmps, _, h1, h2 => ⟨by simpa using h1, fun t v q => by simpa using h2 t v (by simpa [Env.ofPs] using q)⟩
  | p :: ps, [], E, tmps, _, h1, h2 => ⟨by simpa using h1, fun t v q => by simpa using h2 t v (by simpa [Env.ofPs] using q)⟩
  | p :: ps, v :: vs, E, tmps, hp, h1, h2 => by
    have := Hd.ofPs ps vs ((p, v) :: E) (tmps.setIfInBounds p v) (fun x hx => hp x (by simp [hx])) (by simpa using h1) (fun t u q => by
      rw [Env.at_cons] at q
      split at q
      · rename_i e; subst e; cases q
        have : p < tmps.size := by rw [h1]; exact hp p (by simp)
        simp [this]
      · rename_i e
        rw [Array.getElem?_setIfInBounds_ne e]
        exact h2 t u q)
    simpa [Env.ofPs] using this

/-- behind the assignment: the round begins; the body is walked in the round's frame -/
def BeginK (P : Program) (l : Nat) (bd : Code) (Q : Exit → Act → World → Prop) : Act → World → Prop := fun a₁ w₁ => ∃ w₂, (Instr.beginRound l).run P w₁ = .ok () w₂ ∧ bd.wpIn (fen (some l)) 0 P Q a₁ w₂
abbrev asgQ (P : Program) (l : Nat) (bd : Code) (Q : Exit → Act → World → Prop) : QQ := .thn (BeginK P l bd Q) (.rnd l fun _ _ _ => False)
theorem is_begin {bd : Code} {Q : Exit → Act → World → Prop} (h : KJ W n (.raw (BeginK P l bd Q)) E H) : KJ W n (.raw (BeginK P l bd Q)) E H := h
theorem KJ_begin {Q : Exit → Act → World → Prop} {E' : Env} {bd' : Code} (hs : Sel (recP l .ready pe n E' ps asg bd') H R) (h : KJ W n (.code P bd (.rnd l Q)) E (recP l .busy pe n E' ps asg bd' :: R)) : KJ W n (.raw (BeginK P l bd Q)) E H :=
  ⟨fun a w p s => by
    obtain ⟨fn, tmps, D, hh, _⟩ := s.left.recd hs
    exact ⟨_, run_beginRound hh rfl, h.go a _ p (St.recTurn s (hs.app _) hh)⟩⟩
/-- a round is over: jump: how it is left -/
theorem KJ_round {r : X → Bool} {Hp : X → List SP} {ex : Exit} {jump : Option Code} {E' : Env} (hj : ex = .normal ∧ jump = none ∨ ex = .ret ∧ jump = some .ret ∨ ∃ id, ex = .exit id ∧ jump = some (.exit id)) (hs : Sel (recP l .busy pe n E' ps asg bd) H H') (c : X) (hc : jump.isNone = r c)
    (hE : ∀ g, starL (recP l (if jump.isNone then .ready else .done) jump n E' ps asg bd :: H') g → starL (Hp c ++ R) g) : KJ W n (.ex (.rnd l (roundPost P l (RPost W r Hp R))) ex) E H :=
  ⟨fun a w p s => by
    obtain ⟨fn, tmps, D, hh, _⟩ := s.left.recd hs
    have hrun := run_endRound (P := P) jump hh
    have st : St W (recP l (if jump.isNone then .ready else .done) jump n E' ps asg bd :: H') _ := (St.recTurn (st' := if jump.isNone then .ready else .done) (pe' := jump) s (hs.app _) hh).left (B := dm a.defers)
    have fin : ∃ v w', (Instr.endRound l jump).run P w = .ok v w' ∧ RPost W r Hp R (.returned v) w' := ⟨_, _, hrun, c, by rw [hc], st.mono hE⟩
    rcases hj with ⟨rfl, rfl⟩ | ⟨rfl, rfl⟩ | ⟨id, rfl, rfl⟩
    · exact fin
    · exact fin
    · exact fin⟩
theorem KJ_round_t {A B : List SP} {E' : Env} (hs : Sel (recP l .busy pe n E' ps asg bd) H H') (hE : ∀ g, starL (recP l .ready none n E' ps asg bd :: H') g → starL (A ++ R) g) : KJ W n (.ex (.rnd l (roundPost P l (RPost W (fun b : Bool => b) (fun b => if b then A else B) R))) .normal) E H :=
  KJ_round (.inl ⟨rfl, rfl⟩) hs true rfl hE
theorem KJ_round_f {A B : List SP} {E' : Env} {id : Nat} (hs : Sel (recP l .busy pe n E' ps asg bd) H H') (hE : ∀ g, starL (recP l .done (some (.exit id)) n E' ps asg bd :: H') g → starL (B ++ R) g) : KJ W n (.ex (.rnd l (roundPost P l (RPost W (fun b : Bool => b) (fun b => if b then A else B) R))) (.exit id)) E H :=
  KJ_round (.inr (.inr ⟨id, rfl, rfl⟩)) hs false rfl hE
theorem KJ.addFact {p : Prop} (h : p) (hk : KJ W n k E (factP p :: H)) : KJ W n k E H :=
  ⟨fun a w q s => hk.go a w q (s.mono fun g hg => ⟨fun _ => none, g, (fun _ _ (e : none = some _) => nomatch e), (fun _ _ (e : none = some _) => nomatch e), .rfl, h, hg⟩)⟩
/-- a round's contract from its walk -/
theorem Yt.of {args : List Value} {psl : List Tmp} {Hpre : List SP} {r : X → Bool} {Hp : X → List SP} (hl : args.length = psl.length) (hp : ∀ p ∈ psl, p < n)
    (h : ∀ R, KJ W n (.code P asg (asgQ P l bd (roundPost P l (RPost W r Hp R)))) (Env.ofPs psl args E) (recP l .ready pe n E psl.toArray asg bd :: Hpre ++ R)) : Yt P W l args (recP l .ready pe n E psl.toArray asg bd :: Hpre) r Hp :=
  ⟨fun R w s => by
    obtain ⟨fn, tmps, D, hh, h1, h2⟩ := s.recd .here
    refine ⟨_, _, _, _, run_yield hh (by simpa using hl), ?_⟩
    refine roundIn_of_wpIn (F := Fence.wide) (n := 0) trivial ?_
    have hd := Hd.ofPs psl args E tmps hp h1 h2
    have := (h R).go _ w hd (s.perm (by show _; simp [dm]))
    simp only [List.zip_toArray, List.foldl_toArray', List.size_toArray]
    exact this⟩
/-- the statement -/
theorem KJ_range {g : Operand} {gf : FuncId} {lb : List Value} {Hpre : List SP} {pe : X → Option Code} {Hp : X → List SP} {v : X → Value} (hro : q.ro = none) (hg : Env.ev E g = some (.func (.func gf) #[] lb.toArray)) [hf : FnIs P gf]
    (hc : ∀ l, Ct P W gf (yv l :: lb) (recP l .ready none n E ps asg bd :: Hpre) v (fun x => recP l (if (pe x).isNone then .ready else .done) (pe x) n E ps asg bd :: Hp x)) (hp : Pick Hpre H R)
    (h0 : ∀ x, pe x = none → KJ W n (.ex q .normal) E (Hp x ++ R)) (h1 : ∀ x c, pe x = some c → KJ W n (.code P c q) E (Hp x ++ R)) : KJ W n (.code P (Code.rangeFunc g ps asg bd) q) E H := by
  refine ⟨fun a w p s => ?_⟩
  show (Code.rangeFunc g ps asg bd).wpIn (fen q.ro) 0 P q.den a w
  rw [hro]
  refine wpIn_rangeFunc fun fn _ => ?_
  obtain ⟨W1, hW1⟩ : ∃ W1, ((w.alloc (.deferred (some []))).alloc (.loop { state := .ready, pending := none, fn, tmps := a.tmps, params := ps, assign := asg, body := bd, defers := w.heap.size })) = W1 := ⟨_, rfl⟩
  have hev := p.ev hg
  have hb : FnIs P gf := hf
  refine ⟨w.heap.size + 1, [{ target := .collected w.heap.size, args := #[] }], W1, { target := .fn (.func gf) lb.toArray, args := #[yv (w.heap.size + 1)] }, W1, gf, (yv (w.heap.size + 1) :: lb).toArray, W1, ?_, ?_, fun _ _ => trivial, ?_, fun e => by simp at e, ?_⟩
  · rw [← hW1]; exact run_enterLoop_outer _ _ _ _ _
  · simp only [resolve, hev]
    simp [go_sem]
  · have hf := hf.h
    cases hq : P.funcs[gf]? with
    | none => simp [hq] at hf
    | some fnn =>
      simp [hq] at hf
      obtain ⟨h1, h2⟩ := hf
      have hb : ¬ fnn.body = none := by cases h : fnn.body <;> simp_all
      simp [invoke, callFunc, Go.program, Sem.run, hq, h2, hb, Result.andThen]
  · have s1 : St W (recP (w.heap.size + 1) .ready none n E ps asg bd :: objP w.heap.size (.deferred (some [])) :: (H ++ dm a.defers)) W1 := by
      rw [← hW1]
      have := (St.alloc (A := objP w.heap.size (.deferred (some []))) (o := .deferred (some [])) s (Hl.one_self _ _))
      refine this.alloc (A := recP (w.heap.size + 1) .ready none n E ps asg bd) ?_
      rw [World.size_alloc]
      exact ⟨fn, a.tmps, w.heap.size, Hl.one_self _ _, p.size, p.at_⟩
    have hpm : (recP (w.heap.size + 1) .ready none n E ps asg bd :: objP w.heap.size (.deferred (some [])) :: (H ++ dm a.defers)).Perm ((recP (w.heap.size + 1) .ready none n E ps asg bd :: Hpre) ++ (R ++ (objP w.heap.size (.deferred (some [])) :: dm a.defers))) := by
      refine List.Perm.cons _ ?_
      refine (List.perm_middle (l₁ := H)).symm.trans ?_
      refine List.Perm.trans (hp.perm.append_right _) ?_
      show ((Hpre ++ R) ++ _).Perm (Hpre ++ (R ++ _))
      rw [List.append_assoc]
    refine (callsIn_wide (n := 0)).2 (((hc (w.heap.size + 1)).go _ W1 (s1.perm hpm)).mono ?_)
    rintro e w2 ⟨x, rfl, s2⟩
    obtain ⟨fn', tmps', D', hh, _⟩ := s2.recd .here
    have hne : (if (pe x).isNone then LoopState.ready else LoopState.done) ≠ .busy := by split <;> simp
    have s3 := St.recTurn (st' := .exhausted) (pe' := pe x) s2 .here hh
    have s4 : St W ((Hp x ++ R) ++ (objP w.heap.size (.deferred (some [])) :: dm a.defers)) (w2.putObj (w.heap.size + 1) (.loop { state := .exhausted, pending := pe x, fn := fn', tmps := tmps', params := ps, assign := asg, body := bd, defers := D' })) := by
      have := s3.right (A := [recP (w.heap.size + 1) .exhausted (pe x) n E ps asg bd])
      rw [List.append_assoc]; exact this
    refine ⟨pe x, _, run_endLoop hh hne, ?_⟩
    have p2 : Hd n E { a with defers := [{ target := .collected w.heap.size, args := #[] }] ++ a.defers } := ⟨p.size, p.at_⟩
    cases hpe : pe x with
    | none =>
      rw [hpe] at s4
      exact (h0 x hpe).go _ _ p2 s4
    | some c =>
      rw [hpe] at s4
      have := (h1 x c hpe).go _ _ p2 s4
      have e2 : KK.den (.code P c q) = c.wpIn (fen q.ro) 0 P q.den := rfl
      rw [e2, hro] at this
      exact this
end
end Go.Proofs.YteklldbfdmaafaaDoor
/-
  journal.Each, its iterator, and a range over it.
-/
namespace Go.Proofs.YteklldbfdmaafaaDoor
open Go Go.RowKit
theorem Ev_makeFunc {P : Program} {W : World} {n : Nat} {E : Env} {H : List SP} {f : Fn} {xs ys : List Operand} {us vs : List Value} (hx : Evs E xs us) (hy : Evs E ys vs) (hc : (Instr.makeFunc f us.toArray vs.toArray) = pure (.func f us.toArray vs.toArray)) : Ev P W n E H (.makeFunc f xs.toArray ys.toArray) (.func f us.toArray vs.toArray) :=
  Ev.mk fun o ho a w p _ => by
    have h1 := p.evs hx
    have h2 := p.evs hy
    simp [execOp, ho, h1, h2, hc, Sem.run_bind, Sem.run_pure, Result.andThen]
/-- a function is not nil -/
theorem Ev_eqlFn {P : Program} {W : World} {n : Nat} {E : Env} {H : List SP} {t u : TypeId} {x y : Operand} {f : Fn} {us vs : Array Value} {ps rs : Array TypeId} {vr : Bool} (hx : Env.ev E x = some (.func f us vs)) (hy : Env.ev E y = some .nilFunc) [hu : UIs P t (.func ps rs vr)] : Ev P W n E H (.binOp .eql t x y u) (.bool false) := by
  refine Ev_bin hx hy (fun w => ?_) (fun w => ?_)
  · cases x <;> cases y <;> simp [eqGuard]
  · have e : (Op.equal t (.func f us vs) .nilFunc).run P w = .ok false w := by
      unfold Op.equal Op.maxDepth
      have key : ∀ m, (Op.equalIn (m + 1) t (.func f us vs) .nilFunc).run P w = .ok false w := by
        intro m
        simp [Op.equalIn, run_underlying hu.h]
      exact key 9999
    simp [binOp, e, Result.andThen]
theorem KJ_absurd {W : World} {n : Nat} {k : KK} {E : Env} {H R : List SP} (hs : Sel (factP False) H R) : KJ W n k E H := ⟨fun _ _ _ s => (s.left.fact hs).elim⟩
theorem KJ.fact {W : World} {n : Nat} {k : KK} {E : Env} {H R : List SP} {p : Prop} (hs : Sel (factP p) H R) (h : p → KJ W n k E H) : KJ W n k E H := ⟨fun a w q s => (h (s.left.fact hs)).go a w q s⟩
theorem Ct.post_eq {P : Program} {W : World} {f : FuncId} {args : List Value} {Hpre : List SP} {X : Type} {r : X → Value} {H' H'' : X → List SP} (h : Ct P W f args Hpre r H') (e : ∀ x, H' x = H'' x) : Ct P W f args Hpre r H'' := by
  have : H' = H'' := funext e
  subst this; exact h
section
variable {W : World} {E : Nat → Addr} {p g l : Nat} {D : Dsk}
/-- a slot that holds a list of texts -/
abbrev lstP (g : Nat) (a : Option Addr) (c : Nat) (L : List (List UInt8)) : List SP := [cellsP g [.slice a L.length c] 47, rowP (.slice a L.length c) 9 1 L.length (L.map strV)]
set_option maxHeartbeats 400000 in
theorem each1_ct (L : List (List UInt8)) (a : Option Addr) (c : Nat) (J S : Nat → List SP) (hL : L.length ≤ 1048576)
    (hy : ∀ i s, L[i]? = some s → Yt Tryd.prog W l [.int .i64 (i : Nat), strV s] (J i) (fun b : Bool => b) (fun b => if b then J (i + 1) else S i)) :
    Ct Tryd.prog W 103 [yv l, .pointer (some ⟨g, 0, none⟩)] (J 0 ++ lstP g a c L) (fun _ : Option {i // i < L.length} => .tuple #[]) (fun x => (match x with | none => J L.length | some i => S i.1) ++ lstP g a c L) := by
  by_cases h0 : L.length = 0
  · have ql : decide ((((0 : Nat)) : Int) < (L.length : Int)) = false := decide_eq_false (by omega)
    have ql' : decide ((0 : Int) < (L.length : Int)) = false := ql
    refine Ct.enter Tryd.func103 rfl Tryd.ntmps103 (by simp) (fun R => ?_)
    obtain ⟨H0, hH0⟩ : ∃ H0, H0 = lstP g a c L ++ (J 0 ++ R) := ⟨_, rfl⟩
    refine KJ.perm (H' := lstP g a c L ++ (J 0 ++ R)) ?_ (by rw [List.append_assoc]; exact List.perm_append_comm_assoc _ _ _)
    repeat' (first 
    | refine KJ_stp (by first | constructor | fail) ?_
    | (refine is_oper ?_; first | (refine KJ_ek rfl ?_) | (refine KJ_ek0 ?_))
    | (refine is_ek ?_; first | (refine ek_move ?_; first | (refine EK_ev (Ev_move rfl) ?_)) | (refine ek_assign ?_; first | (refine EK_ev (Ev_assign rfl) ?_)) | (refine ek_load ?_; first | (refine EK_ev (Ev_load rfl (by (repeat' (first | exact Sel.here | apply Sel.there)); first | done | fail) (by rfl)) ?_) | (refine EK_ev (Ev_load rfl (by (repeat' (first | exact Sel.here | apply Sel.there)); first | done | fail) (by rfl)) ?_) | (refine EK_ev (Ev_loadOld rfl (by assumption)) ?_) | (refine EK_ev (Ev_loadAgg rfl (by (repeat' (first | exact Sel.here | apply Sel.there)); first | done | fail) (by (repeat' (first | exact Cut.nil | apply Cut.cons | apply Cut.skip)); first | done | fail)) ?_)) | (refine ek_un ?_; first | (refine EK_ev (Ev_notD rfl) ?_) | (refine EK_ev (Ev_not rfl) ?_) | (refine EK_ev (Ev_neg rfl) ?_)) | (refine ek_indexAddr ?_; first | (refine EK_ev (Ev_indexSlice rfl rfl (by omega)) ?_) | (refine EK_ev (Ev_indexArr rfl rfl (by omega)) ?_)) | (refine ek_len ?_; first | (refine EK_ev (Ev_len_str rfl) ?_) | (refine EK_ev (Ev_len_slice rfl) ?_) | (refine EK_ev (Ev_len_arr rfl) ?_) | (refine EK_ev (Ev_len_map rfl (by (repeat' (first | exact Sel.here | apply Sel.there)); first | done | fail)) ?_)) | (refine ek_add ?_; first | (refine EK_ev (Ev_addI rfl rfl (by omega)) ?_) | (refine EK_ev (Ev_addS rfl rfl (by simp <;> omega)) ?_) | (refine EK_ev (Ev_add rfl rfl) ?_)) | (refine ek_lss ?_; first | (refine EK_ev (Ev_lssI rfl rfl) ?_) | (refine EK_ev (Ev_lssS rfl rfl) ?_)))
    | (refine is_ex ?_; first | (refine KJ_blk_exit' rfl ?_))
    | (refine is_code ?_; first | (refine KJ_cond_dec rfl (fun _ => ?_) (fun _ => ?_) <;> first | (exfalso; omega) | skip) | (refine KJ_cond_t rfl ?_) | (refine KJ_cond_f rfl ?_)))
    refine KJ_loop (fun i : {k : Nat // k = 0} => [(5, .slice a L.length c), (6, .int .i64 (L.length : Nat)), (7, .int .i64 (i.1 : Nat))]) (fun _ => lstP g a c L ++ (J 0 ++ R)) (fun i => 0) ⟨0, rfl⟩ (by (repeat' (first | exact Subs.nil | refine Subs.cons rfl ?_)); first | done | fail) (fun _ q => q) (fun ⟨k, hk⟩ => ?_)
    subst hk
    dsimp only
    repeat' (first 
    | refine KJ_stp (by first | constructor | fail) ?_
    | (refine is_oper ?_; first | (refine KJ_ek rfl ?_) | (refine KJ_ek0 ?_))
    | (refine is_ek ?_; first | (refine ek_move ?_; first | (refine EK_ev (Ev_move rfl) ?_)) | (refine ek_assign ?_; first | (refine EK_ev (Ev_assign rfl) ?_)) | (refine ek_load ?_; first | (refine EK_ev (Ev_load rfl (by (repeat' (first | exact Sel.here | apply Sel.there)); first | done | fail) (by rfl)) ?_) | (refine EK_ev (Ev_loadOld rfl (by assumption)) ?_) | (refine EK_ev (Ev_loadAgg rfl (by (repeat' (first | exact Sel.here | apply Sel.there)); first | done | fail) (by (repeat' (first | exact Cut.nil | apply Cut.cons | apply Cut.skip)); first | done | fail)) ?_)) | (refine ek_un ?_; first | (refine EK_ev (Ev_notD rfl) ?_) | (refine EK_ev (Ev_not rfl) ?_) | (refine EK_ev (Ev_neg rfl) ?_)) | (refine ek_indexAddr ?_; first | (refine EK_ev (Ev_indexSlice rfl rfl (by omega)) ?_) | (refine EK_ev (Ev_indexArr rfl rfl (by omega)) ?_)) | (refine ek_len ?_; first | (refine EK_ev (Ev_len_str rfl) ?_) | (refine EK_ev (Ev_len_slice rfl) ?_) | (refine EK_ev (Ev_len_arr rfl) ?_) | (refine EK_ev (Ev_len_map rfl (by (repeat' (first | exact Sel.here | apply Sel.there)); first | done | fail)) ?_)) | (refine ek_add ?_; first | (refine EK_ev (Ev_addI rfl rfl (by omega)) ?_) | (refine EK_ev (Ev_addS rfl rfl (by simp <;> omega)) ?_) | (refine EK_ev (Ev_add rfl rfl) ?_)) | (refine ek_lss ?_; first | (refine EK_ev (Ev_lssI_q rfl rfl ql) ?_) | (refine EK_ev (Ev_lssI rfl rfl) ?_) | (refine EK_ev (Ev_lssS rfl rfl) ?_)))
    | (refine is_ex ?_; first | (refine KJ_blk_exit' rfl ?_))
    | (refine is_code ?_; first | (refine KJ_cond_dec rfl (fun _ => ?_) (fun _ => ?_) <;> first | (exfalso; omega) | skip) | (refine KJ_cond_t rfl ?_) | (refine KJ_cond_f rfl ?_)))
    (refine is_ex ?_; exact KJ_done (by first | exact Or.inl rfl | exact Or.inr rfl) rfl Rvs.nil none (by rfl) (fun gg q => by
      have q2 := starL_perm (List.perm_append_comm_assoc _ _ _) gg q
      show starL ((J L.length ++ _) ++ R) gg
      rw [h0, List.append_assoc]
      exact q2))
  refine Ct.enter Tryd.func103 rfl Tryd.ntmps103 (by simp) (fun R => ?_)
  refine KJ.perm (H' := lstP g a c L ++ (J 0 ++ R)) ?_ (by rw [List.append_assoc]; exact List.perm_append_comm_assoc _ _ _)
  refine KJ.row_shapeJ (v := .slice a L.length c) (e := 9) (size := 1) (m := L.length) (xs := L.map strV) (R := cellsP g [.slice a L.length c] 47 :: (J 0 ++ R)) (by (repeat' (first | exact Sel.here | apply Sel.there)); first | done | fail) (by omega) (fun g1 d1 e1 => ?_)
  simp only [Value.slice.injEq] at e1
  obtain ⟨rfl, -, rfl⟩ := e1
  repeat' (first 
    | refine KJ_stp (by first | constructor | fail) ?_
    | (refine is_oper ?_; first | (refine KJ_ek rfl ?_) | (refine KJ_ek0 ?_))
    | (refine is_ek ?_; first | (refine ek_move ?_; first | (refine EK_ev (Ev_move rfl) ?_)) | (refine ek_assign ?_; first | (refine EK_ev (Ev_assign rfl) ?_)) | (refine ek_load ?_; first | (refine EK_ev (Ev_load rfl (by (repeat' (first | exact Sel.here | apply Sel.there)); first | done | fail) (by rfl)) ?_) | (refine EK_ev (Ev_load rfl (by (repeat' (first | exact Sel.here | apply Sel.there)); first | done | fail) (by rfl)) ?_) | (refine EK_ev (Ev_loadOld rfl (by assumption)) ?_) | (refine EK_ev (Ev_loadAgg rfl (by (repeat' (first | exact Sel.here | apply Sel.there)); first | done | fail) (by (repeat' (first | exact Cut.nil | apply Cut.cons | apply Cut.skip)); first | done | fail)) ?_)) | (refine ek_un ?_; first | (refine EK_ev (Ev_notD rfl) ?_) | (refine EK_ev (Ev_not rfl) ?_) | (refine EK_ev (Ev_neg rfl) ?_)) | (refine ek_indexAddr ?_; first | (refine EK_ev (Ev_indexSlice rfl rfl (by omega)) ?_) | (refine EK_ev (Ev_indexArr rfl rfl (by omega)) ?_)) | (refine ek_len ?_; first | (refine EK_ev (Ev_len_str rfl) ?_) | (refine EK_ev (Ev_len_slice rfl) ?_) | (refine EK_ev (Ev_len_arr rfl) ?_) | (refine EK_ev (Ev_len_map rfl (by (repeat' (first | exact Sel.here | apply Sel.there)); first | done | fail)) ?_)) | (refine ek_add ?_; first | (refine EK_ev (Ev_addI rfl rfl (by omega)) ?_) | (refine EK_ev (Ev_addS rfl rfl (by simp <;> omega)) ?_) | (refine EK_ev (Ev_add rfl rfl) ?_)) | (refine ek_lss ?_; first | (refine EK_ev (Ev_lssI rfl rfl) ?_) | (refine EK_ev (Ev_lssS rfl rfl) ?_)))
    | (refine is_ex ?_; first | (refine KJ_blk_exit' rfl ?_))
    | (refine is_code ?_; first | (refine KJ_cond_dec rfl (fun _ => ?_) (fun _ => ?_) <;> first | (exfalso; omega) | skip) | (refine KJ_cond_t rfl ?_) | (refine KJ_cond_f rfl ?_)))
  refine KJ_loop (fun i : {k : Nat // k ≤ L.length} => [(0, yv l), (5, .slice (some ⟨g1, 0, none⟩) L.length c), (6, .int .i64 (L.length : Nat)), (7, .int .i64 (i.1 : Nat))]) (fun i => lstP g (some ⟨g1, 0, none⟩) c L ++ (J i.1 ++ R)) (fun i => L.length - i.1) ⟨0, by omega⟩ (by (repeat' (first | exact Subs.nil | refine Subs.cons rfl ?_)); first | done | fail) (fun _ q => q) (fun ⟨k, hk⟩ => ?_)
  dsimp only
  by_cases hlt : k < L.length
  rotate_left
  · have hkl : k = L.length := by omega
    subst hkl
    have ql : decide ((L.length : Int) < (L.length : Int)) = false := decide_eq_false (by omega)
    repeat' (first 
    | refine KJ_stp (by first | constructor | fail) ?_
    | (refine is_oper ?_; first | (refine KJ_ek rfl ?_) | (refine KJ_ek0 ?_))
    | (refine is_ek ?_; first | (refine ek_move ?_; first | (refine EK_ev (Ev_move rfl) ?_)) | (refine ek_assign ?_; first | (refine EK_ev (Ev_assign rfl) ?_)) | (refine ek_load ?_; first | (refine EK_ev (Ev_load rfl (by (repeat' (first | exact Sel.here | apply Sel.there)); first | done | fail) (by rfl)) ?_) | (refine EK_ev (Ev_loadOld rfl (by assumption)) ?_) | (refine EK_ev (Ev_loadAgg rfl (by (repeat' (first | exact Sel.here | apply Sel.there)); first | done | fail) (by (repeat' (first | exact Cut.nil | apply Cut.cons | apply Cut.skip)); first | done | fail)) ?_)) | (refine ek_un ?_; first | (refine EK_ev (Ev_notD rfl) ?_) | (refine EK_ev (Ev_not rfl) ?_) | (refine EK_ev (Ev_neg rfl) ?_)) | (refine ek_indexAddr ?_; first | (refine EK_ev (Ev_indexSlice rfl rfl (by omega)) ?_) | (refine EK_ev (Ev_indexArr rfl rfl (by omega)) ?_)) | (refine ek_len ?_; first | (refine EK_ev (Ev_len_str rfl) ?_) | (refine EK_ev (Ev_len_slice rfl) ?_) | (refine EK_ev (Ev_len_arr rfl) ?_) | (refine EK_ev (Ev_len_map rfl (by (repeat' (first | exact Sel.here | apply Sel.there)); first | done | fail)) ?_)) | (refine ek_add ?_; first | (refine EK_ev (Ev_addI rfl rfl (by omega)) ?_) | (refine EK_ev (Ev_addS rfl rfl (by simp <;> omega)) ?_) | (refine EK_ev (Ev_add rfl rfl) ?_)) | (refine ek_lss ?_; first | (refine EK_ev (Ev_lssI_q rfl rfl ql) ?_) | (refine EK_ev (Ev_lssI rfl rfl) ?_) | (refine EK_ev (Ev_lssS rfl rfl) ?_)))
    | (refine is_ex ?_; first | (refine KJ_blk_exit' rfl ?_))
    | (refine is_code ?_; first | (refine KJ_cond_dec rfl (fun _ => ?_) (fun _ => ?_) <;> first | (exfalso; omega) | skip) | (refine KJ_cond_t rfl ?_) | (refine KJ_cond_f rfl ?_)))
    (refine is_ex ?_; exact KJ_done (by first | exact Or.inl rfl | exact Or.inr rfl) rfl Rvs.nil none (by rfl) (fun gg q => by
      have q2 := starL_perm (List.perm_append_comm_assoc _ _ _) gg q
      show starL ((J L.length ++ _) ++ R) gg
      rw [List.append_assoc]
      exact q2))
  have ql : decide ((k : Int) < (L.length : Int)) = true := decide_eq_true (by omega)
  obtain ⟨s, hs⟩ : ∃ s, L[k]? = some s := ⟨_, List.getElem?_eq_getElem hlt⟩
  have hg1 : (L.map strV)[0 + ((k : Nat) : Int).toNat * 1]? = some (strV s) := by rw [Int.toNat_natCast, Nat.mul_one, Nat.zero_add, List.getElem?_map, hs]; rfl
  have hyk : Yt Tryd.prog W l [.int .i64 (k : Nat), strV s] (J k ++ (lstP g (some ⟨g1, 0, none⟩) c L ++ R)) (fun b : Bool => b) (fun b => (if b then J (k + 1) else S k) ++ (lstP g (some ⟨g1, 0, none⟩) c L ++ R)) := (hy k s hs).frame _
  have hpk : (lstP g (some ⟨g1, 0, none⟩) c L ++ (J k ++ R)).Perm (J k ++ (lstP g (some ⟨g1, 0, none⟩) c L ++ R)) := List.perm_append_comm_assoc _ _ _
  repeat' (first 
    | (refine KJ_yield_all (l := l) rfl (by (repeat' (first | exact Evs.nil | refine Evs.cons rfl ?_)); first | done | fail) hyk hpk rfl (fun b => ?_))
    | (refine KJ_cond_b rfl (fun q => ?_) (fun q => ?_))
    | refine KJ_stp (by first | constructor | fail) ?_
    | (refine is_oper ?_; first | (refine KJ_ek rfl ?_) | (refine KJ_ek0 ?_))
    | (refine is_ek ?_; first | (refine ek_move ?_; first | (refine EK_ev (Ev_move rfl) ?_)) | (refine ek_assign ?_; first | (refine EK_ev (Ev_assign rfl) ?_)) | (refine ek_load ?_; first | (refine EK_ev (Ev_loadRow (g := g1) (i := L.length) (c := c) rfl (by (repeat' (first | exact Sel.here | apply Sel.there)); first | done | fail) hg1) ?_) | (refine EK_ev (Ev_load rfl (by (repeat' (first | exact Sel.here | apply Sel.there)); first | done | fail) (by rfl)) ?_) | (refine EK_ev (Ev_loadOld rfl (by assumption)) ?_) | (refine EK_ev (Ev_loadAgg rfl (by (repeat' (first | exact Sel.here | apply Sel.there)); first | done | fail) (by (repeat' (first | exact Cut.nil | apply Cut.cons | apply Cut.skip)); first | done | fail)) ?_)) | (refine ek_un ?_; first | (refine EK_ev (Ev_notD rfl) ?_) | (refine EK_ev (Ev_not rfl) ?_) | (refine EK_ev (Ev_neg rfl) ?_)) | (refine ek_indexAddr ?_; first | (refine EK_ev (Ev_indexSlice rfl rfl (by omega)) ?_) | (refine EK_ev (Ev_indexArr rfl rfl (by omega)) ?_)) | (refine ek_len ?_; first | (refine EK_ev (Ev_len_str rfl) ?_) | (refine EK_ev (Ev_len_slice rfl) ?_) | (refine EK_ev (Ev_len_arr rfl) ?_) | (refine EK_ev (Ev_len_map rfl (by (repeat' (first | exact Sel.here | apply Sel.there)); first | done | fail)) ?_)) | (refine ek_add ?_; first | (refine EK_ev (Ev_addI_v (r := ((k + 1 : Nat) : Int)) rfl rfl (by omega) (by omega)) ?_) | (refine EK_ev (Ev_addI rfl rfl (by omega)) ?_) | (refine EK_ev (Ev_addS rfl rfl (by simp <;> omega)) ?_) | (refine EK_ev (Ev_add rfl rfl) ?_)) | (refine ek_lss ?_; first | (refine EK_ev (Ev_lssI_q rfl rfl ql) ?_) | (refine EK_ev (Ev_lssI rfl rfl) ?_) | (refine EK_ev (Ev_lssS rfl rfl) ?_)))
    | (refine is_ex ?_; first | (refine KJ_blk_exit' rfl ?_))
    | (refine is_code ?_; first | (refine KJ_cond_dec rfl (fun _ => ?_) (fun _ => ?_) <;> first | (exfalso; omega) | skip) | (refine KJ_cond_t rfl ?_) | (refine KJ_cond_f rfl ?_)))
  · have hb : b = false := by cases b <;> simp_all
    subst hb
    refine is_ex ?_
    exact KJ_done (by first | exact Or.inl rfl | exact Or.inr rfl) rfl Rvs.nil (some ⟨k, hlt⟩) (by rfl) (fun gg q => by
      show starL ((S k ++ _) ++ R) gg
      rw [List.append_assoc]
      exact q)
  · have hb : b = true := by cases b <;> simp_all
    subst hb
    refine KJ_again ⟨k + 1, hlt⟩ (by show L.length - (k + 1) < L.length - k; omega) (by refine Subs.cons rfl (Subs.cons rfl (Subs.cons rfl (Subs.cons rfl Subs.nil)))) (fun gg q => ?_)
    exact starL_perm (List.perm_append_comm_assoc _ _ _) gg q
  · cases q
/-- a range over a list that journal.Each has made; jump: how a round leaves -/
theorem KJ_rangeEach {n : Nat} {q : QQ} {gop : Operand} {En : Env} {H R : List SP} {psl : List Tmp} {asg bd : Code} {L : List (List UInt8)} {a : Option Addr} {c : Nat} (hro : q.ro = none) (hg : Env.ev En gop = some (.func (.func 103) #[] #[.pointer (some ⟨g, 0, none⟩)])) (hL : L.length ≤ 1048576) (hpl : psl.length = 2) (hpn : ∀ p ∈ psl, p < n)
    (J S : Nat → List SP) (jump : Code) (hp : Pick (J 0 ++ lstP g a c L) H R)
    (hb : ∀ l i s, L[i]? = some s → ∀ R, KJ W n (.code Tryd.prog asg (asgQ Tryd.prog l bd (roundPost Tryd.prog l (RPost W (fun b : Bool => b) (fun b => if b then recP l .ready none n En psl.toArray asg bd :: J (i + 1) else recP l .done (some jump) n En psl.toArray asg bd :: S i) R)))) (Env.ofPs psl [.int .i64 (i : Nat), strV s] En) (recP l .ready none n En psl.toArray asg bd :: J i ++ R))
    (h0 : KJ W n (.ex q .normal) En ((J L.length ++ lstP g a c L) ++ R)) (h1 : ∀ i, i < L.length → KJ W n (.code Tryd.prog jump q) En ((S i ++ lstP g a c L) ++ R)) : KJ W n (.code Tryd.prog (Code.rangeFunc gop psl.toArray asg bd) q) En H := by
  refine KJ_range (X := Option {i // i < L.length}) (lb := [.pointer (some ⟨g, 0, none⟩)]) (pe := fun x => match x with | none => none | some _ => some jump) (Hp := fun x => (match x with | none => J L.length | some i => S i.1) ++ lstP g a c L) (v := fun _ => .tuple #[]) hro hg (fun l => ?_) hp (fun x hx => ?_) (fun x cc hx => ?_)
  · refine Ct.post_eq (each1_ct (l := l) (g := g) L a c (fun i => recP l .ready none n En psl.toArray asg bd :: J i) (fun i => recP l .done (some jump) n En psl.toArray asg bd :: S i) hL (fun i s hs => ?_)) (fun x => by cases x <;> rfl)
    exact Yt.of (n := n) (by rw [hpl]; rfl) hpn (fun R => hb l i s hs R)
  · cases x with
    | none => exact h0
    | some i => cases hx
  · cases x with
    | none => cases hx
    | some i =>
      cases hx
      exact h1 i.1 i.2
set_option maxHeartbeats 400000 in
set_option maxRecDepth 100000 in
/-- Each, where Replay tells L -/
theorem each_ct (L : List (List UInt8)) (e : Value) (at_ n ver : Int) (hr : Ct Tryd.prog W 70 [.pointer (some ⟨p, 0, none⟩), .int .i64 at_, .int .i64 n, .int .i64 ver] [DiskP p D] (fun x : Option Addr × Nat => .tuple #[.slice x.1 L.length x.2, e]) (fun x => [DiskP p D, rowP (.slice x.1 L.length x.2) 9 1 L.length (L.map strV)])) :
    Ct Tryd.prog W 71 [.pointer (some ⟨p, 0, none⟩), .int .i64 at_, .int .i64 n, .int .i64 ver] [DiskP p D] (fun x : Nat × Option Addr × Nat => .func (.func 103) #[] #[.pointer (some ⟨x.1, 0, none⟩)]) (fun x => DiskP p D :: lstP x.1 x.2.1 x.2.2 L) := by
  refine Ct.enter Tryd.func71 rfl Tryd.ntmps71 (by simp) (fun R => ?_)
  repeat' (first 
    | refine KJ_stp (by first | constructor | fail) ?_
    | (refine is_oper ?_; first | (refine is_store ?_; first | (refine KJ_store rfl rfl (by (repeat' (first | exact Sel.here | apply Sel.there)); first | done | fail) (by first | exact CellsOf.agg | exact CellsOf.one rfl) (by rfl) (by (repeat' (first | exact Ones.nil | exact Ones_bvs _ | refine Ones.cons rfl ?_)); first | done | fail) (by (repeat' (first | exact Laid.nil | apply Laid.cons | apply Laid.skip)); first | done | fail) (by (repeat' (first | exact Rep.here | apply Rep.there)); first | done | fail) ?_)) | (refine is_alloc ?_; first | (refine KJ_alloc rfl (fun gl => ?_)) | (refine KJ_alloc rfl (fun _ => ?_))) | (refine is_call ?_; first | (refine KJ_call (by (repeat' (first | exact Evs.nil | refine Evs.cons rfl ?_)); first | done | fail) hr (by (repeat' (first | exact Pick.nil | apply Pick.cons | exact Sel.here | apply Sel.there)); first | done | fail) rfl (fun x => ?_))) | (refine KJ_ek rfl ?_) | (refine KJ_ek0 ?_))
    | (refine is_ek ?_; first | (refine ek_move ?_; first | (refine EK_ev (Ev_move rfl) ?_)) | (refine ek_assign ?_; first | (refine EK_ev (Ev_assign rfl) ?_)) | (refine ek_extract ?_; first | (refine EK_ev (Ev_extract rfl rfl) ?_)) | (refine ek_mkFunc ?_; first | (refine EK_ev (Ev_makeFunc (us := []) (vs := [.pointer (some ⟨gl, 0, none⟩)]) (by (repeat' (first | exact Evs.nil | refine Evs.cons rfl ?_)); first | done | fail) (by (repeat' (first | exact Evs.nil | refine Evs.cons rfl ?_)); first | done | fail) rfl) ?_)))
    | (refine is_ex ?_; first | (refine KJ_blk_exit' rfl ?_))
    | (refine is_code ?_; first | (refine KJ_cond_dec rfl (fun _ => ?_) (fun _ => ?_) <;> first | (exfalso; omega) | skip) | (refine KJ_cond_t rfl ?_) | (refine KJ_cond_f rfl ?_)))
  all_goals (refine is_ex ?_; exact KJ_done (by first | exact Or.inl rfl | exact Or.inr rfl) rfl (by (repeat' (first | exact Rvs.nil | (apply Rvs.tmp; exact rfl))); first | done | fail) (gl, x.1, x.2) (by rfl) (Ent.of (by (repeat' (first | exact Pick.nil | apply Pick.cons | exact Sel.here | apply Sel.there)); first | done | fail) (by (repeat' (first | exact DropTo.refl | apply DropTo.there)); first | done | fail)))
end
end Go.Proofs.YteklldbfdmaafaaDoor
/-
  The arguments of the laws of chapter 6, opened: a fate, a script; with what the bound gives of their sizes.
-/
namespace Go.Proofs.YteklldbfdmaafaaDoor
open Go Go.RowKit Go.ChangeShapes Go.WideShapes Go.Deep
section
variable {H : Type} {enc : TypeId × Value → H} {W : World} {base : Nat} {held : Bool}
theorem cell_spot {a : Addr} {v : Value} (h : W.cell? a = some v) : a.spot = none ∧ a.block < W.heap.size := by
  unfold World.cell? at h
  split at h
  · rename_i c t fr hh
    refine ⟨?_, (Array.getElem?_eq_some_iff.1 hh).1⟩
    split at h
    · cases h
    · rename_i hs
      cases hq : a.spot with
      | none => rfl
      | some _ => rw [hq] at hs; simp at hs
  · cases h
theorem spot_add {a : Addr} {i : Nat} (hi : i = 0) {v : Value} (h : W.cell? (a.add i) = some v) : a.spot = none ∧ a.block < W.heap.size := by
  subst hi
  have h1 := cell_spot h
  simpa [Addr.add] using h1
instance : Inhabited POp := ⟨⟨0, 0, [], 0, [], 0, 0⟩⟩
theorem add_is {a : Addr} (h : a.spot = none) (i : Nat) : a.add i = ⟨a.block, a.off + i, none⟩ := by
  cases a; simp at h; subst h
  unfold Addr.add
  simp
theorem addr_is {a : Addr} (h : a.spot = none) : a = ⟨a.block, a.off, none⟩ := by
  cases a; simp at h; subst h; rfl
theorem cellsInt : Tryd.prog.cellsOf 3 = 1 := by kernel_rfl
end
end Go.Proofs.YteklldbfdmaafaaDoor
/-
  SlotsApart (chapter 8): slots at two places do not see each other; no other sector is touched.
-/
namespace Go.Proofs.YteklldbfdmaafaaDoor
open Go Go.RowKit
/-- what stands behind the first values -/
structure ApSt (c0 c1 : Nat) (l0 l1 : List UInt8) (m : Nat) (D : Dsk) : Prop where
  rest : Rest D
  n : D.n = 6
  h0 : Holds D 1 c0 l0
  h1 : Holds D 3 c1 l1
  z0 : D.sec 0 = zs 256
  z5 : D.sec 5 = zs 256
  m0 : c0 ≤ m
  m1 : c1 ≤ m
theorem ApSt.start : ApSt 0 0 [] [] 0 (Dsk.blank 6) :=
  ⟨blank_rest 6 (by omega) (by omega), rfl, Holds.blank 6 1 (by omega), Holds.blank 6 3 (by omega), blank_sec _ _ (by omega), blank_sec _ _ (by omega), Nat.le_refl _, Nat.le_refl _⟩
theorem ApSt.step {c0 c1 m : Nat} {l0 l1 : List UInt8} {D : Dsk} (h : ApSt c0 c1 l0 l1 m D) : ApSt c0 c1 l0 l1 (m + 1) D :=
  ⟨h.rest, h.n, h.h0, h.h1, h.z0, h.z5, by have := h.m0; omega, by have := h.m1; omega⟩
end Go.Proofs.YteklldbfdmaafaaDoor
/-
  Arguments opened: slices of texts, of bools, of structs; with what the bound gives of their sizes.
-/
namespace Go.Proofs.YteklldbfdmaafaaDoor
open Go Go.RowKit Go.ChangeShapes Go.WideShapes Go.Deep
section
variable {H : Type} {enc : TypeId × Value → H} {W : World} {base : Nat} {held : Bool}
/-- A slice whose elements can be opened. -/
theorem elems_of {α : Type} [Inhabited α] {T eT k : Nat} (hu : Tryd.prog.underlying T = some (.slice eT)) (hk : Tryd.prog.cellsOf eT = k) (hk0 : 0 < k) (Q : α → List Value → DataW H → Prop)
    (hQ : ∀ n cs x, DataW.trod enc Tryd.prog W base (fun _ => true) held n eT cs = some x → ∃ a, Q a cs x.1) {n : Nat} {cs : List Value} {x : DataW H × List MemPlace} (h : DataW.trod enc Tryd.prog W base (fun _ => true) held n T cs = some x) :
    ∃ (l : List α) (ad : Option Addr) (c : Nat), cs = [.slice ad l.length c] ∧ l.length ≤ Rows.uptoBulk x.1 ∧ l.length ≤ c ∧ c ≤ maxLen ∧ (ad = none → c = 0) ∧ (l ≠ [] → ∃ b o, ad = some ⟨b, o, none⟩ ∧ b < W.heap.size ∧
      ∀ i a, l[i]? = some a → ∃ cs D, Q a cs D ∧ Rows.uptoBulk D ≤ Rows.uptoBulk x.1 ∧ cs.length = k ∧ W.rangeAt b (o + k * i) cs) := by
  rcases open_slice hu h with ⟨rfl, rfl⟩ | ⟨a, len, cap, m, n, D, Pl, rfl, _, hl, hm, hmm, rfl, hi⟩
  · exact ⟨[], none, 0, rfl, by simp, by simp, by unfold maxLen; omega, fun _ => rfl, fun h => absurd rfl h⟩
  · simp only [if_true] at hmm
    have hmm' := hmm.symm
    subst hmm'
    obtain ⟨f, hfo⟩ := choose_lt (α := α) (n := len) (p := fun i al => ∃ cs, Q al cs (D i) ∧ cs.length = k ∧ ∀ j v, cs[j]? = some v → W.cell? (a.add (i * k + j)) = some v) (fun i hil => by
      obtain ⟨cs', hc, ht⟩ := hi i (by omega)
      rw [hk] at hc
      obtain ⟨_, hcl, hat⟩ := World.cells?_some hc
      obtain ⟨al, hq⟩ := hQ _ _ _ ht
      refine ⟨al, cs', hq, hcl, fun j v hj => ?_⟩
      have hjl : j < k := by
        have := (List.getElem?_eq_some_iff.1 hj).1
        omega
      rw [← Go.Deep.add_add, hat j hjl, hj])
    have hbulk : ∀ i, i < len → Rows.uptoBulk (D i) ≤ Rows.uptoBulk (DataW.slice ((List.range len).map D) ((List.range (cap - len)).map fun j => D (len + j))) := fun i hil => by
      have h1 := part_le (H := H) (d := D i) (l := (List.range len).map D) (List.mem_map.2 ⟨i, List.mem_range.2 hil, rfl⟩)
      have h2 := slice_elems (H := H) ((List.range len).map D) ((List.range (cap - len)).map fun j => D (len + j))
      omega
    refine ⟨(List.range len).map f, some a, cap, by simp, ?_, by simpa using hl, hm, fun q => (by cases q), fun hne => ?_⟩
    · have := slice_le (H := H) ((List.range len).map D) ((List.range (cap - len)).map fun j => D (len + j))
      simp only [List.length_map, List.length_range] at this ⊢
      omega
    · have h0 : 0 < len := by
        rcases Nat.eq_zero_or_pos len with h | h
        · subst h; simp at hne
        · exact h
      obtain ⟨cs0, _, hl0, hc0⟩ := hfo 0 h0
      obtain ⟨v0, hv0⟩ : ∃ v, cs0[0]? = some v := ⟨_, List.getElem?_eq_getElem (by omega)⟩
      obtain ⟨hs, hb⟩ := spot_add (by simp) (hc0 0 v0 hv0)
      have ha : a = ⟨a.block, a.off, none⟩ := addr_is hs
      refine ⟨a.block, a.off, by rw [← ha], hb, fun i al hal => ?_⟩
      simp only [List.getElem?_map, Option.map_eq_some_iff] at hal
      obtain ⟨i', hi', rfl⟩ := hal
      have hij : i' = i ∧ i < len := by
        rw [List.getElem?_eq_some_iff] at hi'
        obtain ⟨h1, h2⟩ := hi'
        simp at h1 h2
        exact ⟨h2.symm, h1⟩
      obtain ⟨rfl, hij⟩ := hij
      obtain ⟨cs', hq, hcl, hc⟩ := hfo i' hij
      refine ⟨cs', D i', hq, hbulk i' hij, hcl, fun j v hj => ?_⟩
      have := hc j v hj
      rw [add_is hs] at this
      rw [Nat.mul_comm k i', Nat.add_assoc]
      exact this
set_option maxRecDepth 100000 in
/-- a parameter's cells are the value's own -/
theorem param_slice {r : Reach} {b0 T eT : Nat} {v : Value} {d : DataW H} {p : List MemPlace} (hu : Tryd.prog.underlying T = some (.slice eT)) (hv : Value.okWide Tryd.prog W r b0 T v) (h : DataW.Trod enc Tryd.prog W base (fun _ => true) held T v d p) :
    ∃ n, DataW.trod enc Tryd.prog W base (fun _ => true) held n T [v] = some (d, p) := by
  obtain ⟨a', len', cap', rfl⟩ := okWide_slice hu hv
  obtain ⟨fuel, hf⟩ := h
  exact ⟨fuel, hf⟩
/-- a step of SlotsKeeps -/
structure KStep where
  val : List UInt8
  arm : Int
  crash : Bool
  kept : List Bool
  torn : Int
  bytes : Int
instance : Inhabited KStep := ⟨⟨[], 0, false, [], 0, 0⟩⟩
def KStep.cells (o : KStep) (kv : Value) : List Value := [strV o.val, .int .i64 o.arm, .bool o.crash, kv, .int .i64 o.torn, .int .i64 o.bytes]
end
end Go.Proofs.YteklldbfdmaafaaDoor
/-
  Arguments of chapter 10 opened: lives.
-/
namespace Go.Proofs.YteklldbfdmaafaaDoor
open Go Go.RowKit Go.ChangeShapes Go.WideShapes Go.Deep
/-- a Life -/
structure LLife where
  more : Int
  sizes : List Int
  syncs : List Bool
  arm : Int
  kept : List Bool
  torn : Int
  fb : Int
instance : Inhabited LLife := ⟨⟨0, [], [], 0, [], 0, 0⟩⟩
def LLife.cells (o : LLife) (sv yv kv : Value) : List Value := [.int .i64 o.more, sv, yv, .int .i64 o.arm, kv, .int .i64 o.torn, .int .i64 o.fb]
def IntsAt (w : World) (v : Value) (l : List Int) : Prop :=
  ∃ a c, v = .slice a l.length c ∧ l.length ≤ 9223372036854775807 ∧ (l ≠ [] → ∃ b o, a = some ⟨b, o, none⟩ ∧ b < w.heap.size ∧ ∀ k i, l[k]? = some i → w.cell? ⟨b, o + k, none⟩ = some (.int .i64 i))
section
variable {H : Type} {enc : TypeId × Value → H} {W : World} {base : Nat} {held : Bool}
set_option maxRecDepth 100000 in
theorem ints_of {n : Nat} {cs : List Value} {x : DataW H × List MemPlace} (h : DataW.trod enc Tryd.prog W base (fun _ => true) held n 105 cs = some x) : ∃ sv l, cs = [sv] ∧ IntsAt W sv l := by
  obtain ⟨l, ad, c, e, hb, h1, h2, -, hx⟩ := elems_of (α := Int) Tryd.underlying105 cellsInt (by omega) (fun i cs D => cs = [.int .i64 i]) (fun n cs x hx => by
    obtain ⟨i, e2, _, _⟩ := DataW.trod_int Tryd.underlying3 hx
    exact ⟨i, e2⟩) h
  refine ⟨_, l, e, ad, c, rfl, by unfold maxLen at h2; omega, fun hne => ?_⟩
  obtain ⟨b, o, h1, h2, h3⟩ := hx hne
  refine ⟨b, o, h1, h2, fun k i hk => ?_⟩
  obtain ⟨cs, D, rfl, _, _, h4⟩ := h3 k i hk
  have := h4 0 _ rfl
  rwa [Nat.one_mul, Nat.add_zero] at this
end
end Go.Proofs.YteklldbfdmaafaaDoor
/-
  lives (chapter 10): the walk.
-/
namespace Go.Proofs.YteklldbfdmaafaaDoor
open Go Go.RowKit
theorem JL.cnt {N at_ n v : Nat} {lf : Int} {rs : List (List UInt8)} {sy : Nat} {D : Dsk} (h : JL N at_ n v lf rs sy D) : rs.length ≤ n := by
  have h1 := h.fit
  have h2 : rs.length ≤ (rs.flatMap pcsJ).length := by
    clear h h1
    induction rs with
    | nil => simp
    | cons r rs ih =>
      rw [List.flatMap_cons, List.length_append, List.length_cons]
      have : 1 ≤ (pcsJ r).length := by unfold pcsJ; rw [List.length_cons]; omega
      omega
  omega
end Go.Proofs.YteklldbfdmaafaaDoor
