/-
  Slots behind crashes, as plain data: a torn sector counts for the new version only if it is whole.
-/
import Derived.Test.YteklldbfdmaafaaDoorCalm8
namespace Go.Proofs.YteklldbfdmaafaaDoor
open Go Go.RowKit

/-- bytes back from the number that they tell -/
theorem getB_bytes (l : List UInt8) (n : Nat) (hn : n ≤ 8) : ∃ v : Nat, v < 2 ^ (8 * n) ∧ getB l n = (v : Int) ∧ ∀ i, i < n → l.getD i 0 = byteAt (v : Int) i := by
  induction n with
  | zero => exact ⟨0, by simp, rfl, fun i hi => by omega⟩
  | succ n ih =>
    obtain ⟨v, hv, hg, hb⟩ := ih (by omega)
    have hc := UInt8.toNat_lt (l.getD n 0)
    obtain ⟨c, hcc⟩ : ∃ c, c = (l.getD n 0).toNat := ⟨_, rfl⟩
    refine ⟨v + (l.getD n 0).toNat * 2 ^ (8 * n), ?_, ?_, fun i hi => ?_⟩
    · rw [← hcc]
      rw [← hcc] at hc
      rw [show 8 * (n + 1) = 8 * n + 8 by omega, Nat.pow_add]
      have h1 : v + c * 2 ^ (8 * n) < (1 + c) * 2 ^ (8 * n) := by rw [Nat.add_mul]; omega
      have h2 : (1 + c) * 2 ^ (8 * n) ≤ 256 * 2 ^ (8 * n) := Nat.mul_le_mul_right _ (by omega)
      rw [Nat.mul_comm _ (2 ^ 8)]
      omega
    · show getPart (getB l n) n (l.getD n 0) = _
      rw [hg, getPart_val _ _ _ (by omega) hv]
    · apply UInt8.toNat_inj.1
      rw [byteAt_val _ _ (by omega)]
      rcases Nat.lt_or_ge i n with h | h
      · have h0 := congrArg UInt8.toNat (hb i h)
        rw [byteAt_val _ _ (by omega)] at h0
        rw [h0, ← hcc]
        have e : c * 2 ^ (8 * n) = (c * 2 ^ (8 * (n - i - 1)) * 256) * 2 ^ (8 * i) := by
          rw [Nat.mul_assoc, Nat.mul_assoc]
          congr 1
          rw [← Nat.mul_assoc, show (256 : Nat) = 2 ^ 8 from rfl, ← Nat.pow_add, ← Nat.pow_add]
          congr 1
          omega
        rw [e, Nat.add_mul_div_right _ _ (Nat.two_pow_pos _), Nat.add_mul_mod_self_right]
      · have : i = n := by omega
        subst this
        rw [← hcc]
        rw [← hcc] at hc
        rw [Nat.add_mul_div_right _ _ (Nat.two_pow_pos _), Nat.div_eq_of_lt hv, Nat.zero_add, Nat.mod_eq_of_lt hc, hcc]
theorem ext_getD (a b : List UInt8) (h : a.length = b.length) (e : ∀ i, i < a.length → a.getD i 0 = b.getD i 0) : a = b := by
  apply List.ext_getElem h
  intro i h1 h2
  have := e i h1
  rw [List.getD, List.getElem?_eq_getElem h1, List.getD, List.getElem?_eq_getElem h2] at this
  simpa using this

/-- the first k bytes of the new one, the rest of the old one -/
def tornB (new old : List UInt8) (k : Nat) : List UInt8 := new.take k ++ old.drop k
theorem torn_length {new old : List UInt8} {k : Nat} (h1 : new.length = 256) (h2 : old.length = 256) (hk : k ≤ 256) : (tornB new old k).length = 256 := by
  simp [tornB]; omega
theorem torn_get {new old : List UInt8} {k : Nat} (h1 : new.length = 256) (hk : k ≤ 256) (i : Nat) : (tornB new old k).getD i 0 = if i < k then new.getD i 0 else old.getD i 0 := by
  unfold tornB
  simp only [List.getD]
  split
  · rw [List.getElem?_append_left (by simp; omega), List.getElem?_take_of_lt (by omega)]
  · rw [List.getElem?_append_right (by simp; omega), List.length_take, Nat.min_eq_left (by omega), List.getElem?_drop]
    congr 2
    omega
theorem torn_torn {new old : List UInt8} {k d : Nat} (h1 : new.length = 256) (h2 : old.length = 256) (hk : k ≤ 256) (hd : d ≤ 256) : new.take d ++ (tornB new old k).drop d = tornB new old (max k d) := by
  have hl := torn_length h1 h2 hk
  have e : new.take d ++ (tornB new old k).drop d = tornB new (tornB new old k) d := rfl
  have hm : max k d ≤ 256 := by omega
  rw [e]
  refine ext_getD _ _ (by rw [torn_length h1 hl hd, torn_length h1 h2 hm]) fun i _ => ?_
  rw [torn_get h1 hd, torn_get h1 hm, torn_get h1 hk]
  repeat' split
  all_goals first | rfl | omega
/-- an old sector of a version two below -/
structure Old (c : Nat) (old : List UInt8) : Prop where
  len : old.length = 256
  tail : ∀ i, i < 8 → old.getD (248 + i) 0 = byteAt ((c - 1 : Nat) : Int) i
theorem countV_tail (raw : List UInt8) (k : Int) : countV raw k = getB (raw.drop 248) 8 ∧ getB raw 8 = getB (raw.drop 248) 8 ∨ countV raw k = 0 := by
  unfold countV countO
  split
  · exact .inr rfl
  split
  · exact .inr rfl
  rename_i h
  split
  · exact .inr rfl
  split
  · exact .inr rfl
  split
  · exact .inr rfl
  · cases openS (getB raw 8) raw with
    | none => exact .inr rfl
    | some v =>
      have h : getB raw 8 = getB (raw.drop 248) 8 := by simpa using h
      exact .inl ⟨h, h⟩
theorem old_tail {c : Nat} {s old : List UInt8} {k : Nat} (ho : Old c old) (hs : s.length ≤ 234) (hk : k ≤ 248) (hc : c + 1 ≤ 1099511627776) :
    getB ((tornB (sealB (c + 1 : Nat) s) old k).drop 248) 8 = ((c - 1 : Nat) : Int) := by
  have hl := sealB_length ((c + 1 : Nat) : Int) s hs
  rw [getB_of _ (c - 1) 8 (by omega) (fun i hi => by rw [getD_drop, torn_get hl (by omega), if_neg (by omega)]; exact ho.tail i hi), Nat.mod_eq_of_lt (by omega)]
theorem torn_early {c : Nat} {s old : List UInt8} {k : Nat} (ho : Old c old) (hs : s.length ≤ 234) (hk : k ≤ 248) (hc : c + 1 ≤ 1099511627776) (j : Int) :
    countV (tornB (sealB (c + 1 : Nat) s) old k) j < (if c = 0 then 1 else (c : Int)) := by
  have h := old_tail ho hs hk hc
  rcases countV_tail (tornB (sealB (c + 1 : Nat) s) old k) j with ⟨h1, _⟩ | h1
  · rw [h1, h]; split <;> omega
  · rw [h1]; split <;> omega
theorem torn_count {c : Nat} {s old : List UInt8} {k : Nat} (ho : Old c old) (hs : s.length ≤ 234) (hk : k ≤ 256) (hc : c + 1 ≤ 1099511627776) (j : Int) :
    tornB (sealB (c + 1 : Nat) s) old k = sealB (c + 1 : Nat) s ∨ countV (tornB (sealB (c + 1 : Nat) s) old k) j < (if c = 0 then 1 else (c : Int)) := by
  have hl := sealB_length ((c + 1 : Nat) : Int) s hs
  have hl2 := torn_length hl ho.len hk
  by_cases h : k ≤ 248
  · exact .inr (torn_early ho hs h hc j)
  by_cases heq : tornB (sealB (c + 1 : Nat) s) old k = sealB (c + 1 : Nat) s
  · exact .inl heq
  right
  have hH : getB (tornB (sealB (c + 1 : Nat) s) old k) 8 = ((c + 1 : Nat) : Int) := by
    rw [getB_of _ (c + 1) 8 (by omega) (fun i hi => by rw [torn_get hl hk, if_pos (by omega)]; exact seal_head (c + 1) s hs i hi), Nat.mod_eq_of_lt (by omega)]
  have hz : countV (tornB (sealB (c + 1 : Nat) s) old k) j = 0 := by
    rcases countV_tail (tornB (sealB (c + 1 : Nat) s) old k) j with ⟨_, h2⟩ | h1
    · exfalso
      apply heq
      rw [hH] at h2
      obtain ⟨v, hv, hg, hb⟩ := getB_bytes ((tornB (sealB (c + 1 : Nat) s) old k).drop 248) 8 (by omega)
      have hvc : v = c + 1 := by rw [hg] at h2; omega
      subst hvc
      refine ext_getD _ _ (by rw [hl, hl2]) fun i hi => ?_
      rw [hl2] at hi
      by_cases hik : i < k
      · rw [torn_get hl hk, if_pos hik]
      · have := hb (i - 248) (by omega)
        rw [getD_drop, show 248 + (i - 248) = i by omega] at this
        rw [this, seal_tail (c + 1) s hs i (by omega) hi]
    · exact h1
  rw [hz]
  split <;> omega

/-- power on, nothing under way; it may be armed -/
structure Still (D : Dsk) : Prop where
  on : D.off = false
  und : D.und = []
  ok : D.ok
theorem Still.rest {D : Dsk} (h : Still D) : Rest ({ D with armed := -1 } : Dsk) := ⟨⟨h.on, rfl⟩, h.und, ⟨h.ok.n1, h.ok.n2, h.ok.len, h.ok.und, by simp, by simp⟩⟩
theorem Still.told {D : Dsk} {a c : Nat} {l : List UInt8} (hr : Still D) (ha : a + 2 ≤ D.n) (h : Holds D a c l) :
    slotE D a = (if c = 0 then 14 else 0) ∧ slotN D a = c ∧ slotS D a = (if c = 0 then [] else l) :=
  Holds.told (D := { D with armed := -1 }) hr.rest ha ⟨h.here, h.other, h.none_⟩
theorem arm_still {D : Dsk} (h : Still D) (k : Int) (hk : k ≤ 9223372036854775807) : Still (D.arm k) := ⟨h.on, h.und, Dsk.arm_ok h.ok k hk⟩
/-- a write to a disk at rest that may be armed: the three ways -/
theorem slot_three {D : Dsk} (h : Still D) (a v : Nat) (s : List UInt8) (ha : a + 2 ≤ D.n) (hv : 1 ≤ v) (hv2 : v ≤ 1099511627776) (hs : s.length ≤ 234) :
    (D.armed = 0 → slotWE D a v s = 12 ∧ slotWD D a v s = { D with off := true, und := [(a + v % 2, sealB v s)] }) ∧
    (D.armed = 1 → slotWE D a v s = 12 ∧ slotWD D a v s = { D with armed := 0, off := true, und := [(a + v % 2, sealB v s)], writes := w64 (D.writes + 1) }) ∧
    (D.armed ≠ 0 → D.armed ≠ 1 → slotWE D a v s = 0 ∧ ∃ r, slotWD D a v s = { D with armed := r, img := lay D.img ((a + v % 2) * 256) (sealB v s), writes := w64 (D.writes + 1), flushes := w64 (D.flushes + 1) }) := by
  have hroom : D.roomB (a : Int) = true := by unfold Dsk.roomB; exact decide_eq_true (by omega)
  have hmay : slotMay D (a : Int) (v : Int) = true := by
    unfold slotMay; rw [hroom, decide_eq_true (show (1 : Int) ≤ v by omega), decide_eq_true (show (v : Int) ≤ 1099511627776 by omega)]; rfl
  have hi : ((a : Int) + (v : Int) % 2) = ((a + v % 2 : Nat) : Int) := by omega
  have hlen := sealB_length (v : Int) s hs
  have hhas : D.has ((a + v % 2 : Nat) : Int) = true := by unfold Dsk.has; exact decide_eq_true (by omega)
  have ha1 := h.ok.arm1
  obtain ⟨n, img, und, off, armed, wr, fl, lf⟩ := D
  obtain rfl : off = false := h.on
  obtain rfl : und = [] := h.und
  have hb : ¬ (slotMay ({ n := n, img := img, und := [], off := false, armed := armed, writes := wr, flushes := fl, life := lf } : Dsk) (a : Int) (v : Int) = false) := by rw [hmay]; simp
  obtain ⟨q, hq⟩ : ∃ q, q = sealB (v : Int) s := ⟨_, rfl⟩
  have h234 : ¬ (234 < s.length) := by omega
  unfold slotWE slotWD slotW1
  rw [if_neg hb, if_neg h234, if_neg hb, if_neg h234, hi, ← hq]
  rw [← hq] at hlen
  obtain ⟨i, hii⟩ : ∃ i, i = a + v % 2 := ⟨_, rfl⟩
  rw [← hii] at hhas ⊢
  dsimp only at ha1
  refine ⟨fun h0 => ?_, fun h0 => ?_, fun h0 h1 => ?_⟩
  · dsimp only at h0
    subst h0
    simp [Dsk.writeE, Dsk.writeD, Dsk.dead, Dsk.gone, hhas, hlen]
  · dsimp only at h0
    subst h0
    simp [Dsk.writeE, Dsk.writeD, Dsk.flushE, Dsk.flushD, Dsk.dead, Dsk.gone, hhas, hlen]
  · dsimp only at h0 h1
    by_cases hp : 0 < armed
    · have h2 : 0 < armed - 1 := by omega
      have h3 : ¬ (armed - 1 = 0) := by omega
      have h4 : 1 < armed := by omega
      simp [h4, Dsk.writeE, Dsk.writeD, Dsk.flushE, Dsk.flushD, Dsk.dead, Dsk.gone, hhas, hlen, h0, hp, h2, h3, layAll]
    · simp [Dsk.writeE, Dsk.writeD, Dsk.flushE, Dsk.flushD, Dsk.dead, Dsk.gone, hhas, hlen, h0, hp, layAll]

/-- a slot at place 1 of a disk of three sectors: version c with value l, and, if a next value is chosen, some of it -/
structure Kp (c : Nat) (l : List UInt8) (nx : Option (List UInt8)) (D : Dsk) : Prop where
  still : Still D
  n : D.n = 3
  len : l.length ≤ 234
  here : 0 < c → D.sec (1 + c % 2) = sealB c l
  none_ : c = 0 → D.sec 1 = zs 256
  other : ∃ old k s, Old c old ∧ k ≤ 256 ∧ s.length ≤ 234 ∧ D.sec (1 + (c + 1) % 2) = tornB (sealB (c + 1 : Nat) s) old k ∧ (∀ x, nx = some x → s = x) ∧ (nx = none → k = 0)
theorem zs_old : Old 0 (zs 256) := by
  refine ⟨zs_length _, fun i hi => ?_⟩
  have h1 : (zs 256).getD (248 + i) 0 = 0 := by
    rw [List.getD, zs, List.getElem?_replicate, if_pos (by omega)]; rfl
  rw [h1]
  apply UInt8.toNat_inj.1
  rw [byteAt_val _ _ hi]
  simp
theorem zs_old1 : Old 1 (zs 256) := ⟨zs_old.len, zs_old.tail⟩
theorem seal_old {c : Nat} {l : List UInt8} (hl : l.length ≤ 234) : Old (c + 1) (sealB c l) :=
  ⟨sealB_length _ _ hl, fun i hi => by rw [seal_tail c l hl _ (by omega) (by omega), Nat.add_sub_cancel_left, Nat.add_sub_cancel]⟩
theorem Kp.start : Kp 0 [] none (Dsk.blank 3) :=
  ⟨⟨rfl, rfl, Dsk.blank_ok 3 (by omega) (by omega)⟩, rfl, by simp, fun h => by omega, fun _ => blank_sec 3 1 (by omega), zs 256, 0, [], zs_old, by omega, by simp, by
    rw [blank_sec 3 _ (by omega)]; simp [tornB], fun x h => (by cases h), fun _ => rfl⟩
theorem Kp.choose {c : Nat} {l s : List UInt8} {D : Dsk} (h : Kp c l none D) (hs : s.length ≤ 234) : Kp c l (some s) D := by
  obtain ⟨old, k, s', ho, hk, hs', e, -, hz⟩ := h.other
  have hz := hz rfl
  subst hz
  exact ⟨h.still, h.n, h.len, h.here, h.none_, old, 0, s, ho, by omega, hs, by rw [e]; simp [tornB], fun x hx => (by cases hx; rfl), fun hx => by cases hx⟩
theorem Kp.arm {c : Nat} {l : List UInt8} {nx : Option (List UInt8)} {D : Dsk} (h : Kp c l nx D) (k : Int) (hk : k ≤ 9223372036854775807) : Kp c l nx (D.arm k) :=
  ⟨arm_still h.still k hk, h.n, h.len, h.here, h.none_, h.other⟩
/-- the new version is there -/
theorem Kp.newer {c : Nat} {l s : List UInt8} {nx : Option (List UInt8)} {D D' : Dsk} (h : Kp c l nx D) (hs : s.length ≤ 234) (hst : Still D') (hn : D'.n = 3) (h1 : D'.sec (1 + (c + 1) % 2) = sealB (c + 1 : Nat) s) (h2 : D'.sec (1 + c % 2) = D.sec (1 + c % 2)) : Kp (c + 1) s none D' := by
  refine ⟨hst, hn, hs, fun _ => h1, fun q => by omega, ?_⟩
  have e : (c + 1 + 1) % 2 = c % 2 := by omega
  rw [e, h2]
  by_cases hc : c = 0
  · subst hc
    exact ⟨zs 256, 0, [], zs_old1, by omega, by simp, by rw [show 1 + 0 % 2 = 1 from rfl, h.none_ rfl]; simp [tornB], fun x hx => (by cases hx), fun _ => rfl⟩
  · exact ⟨sealB c l, 0, [], seal_old h.len, by omega, by simp, by rw [h.here (by omega)]; simp [tornB], fun x hx => (by cases hx), fun _ => rfl⟩
theorem Kp.told {c : Nat} {l s : List UInt8} {D : Dsk} (h : Kp c l (some s) D) (hc : c + 1 ≤ 1099511627776) :
    (slotE D (1 : Nat) = 0 ∧ slotN D (1 : Nat) = ((c + 1 : Nat) : Int) ∧ slotS D (1 : Nat) = s ∧ Kp (c + 1) s none D) ∨ (slotE D (1 : Nat) = (if c = 0 then 14 else 0) ∧ slotN D (1 : Nat) = c ∧ slotS D (1 : Nat) = (if c = 0 then [] else l)) := by
  obtain ⟨old, k, s', ho, hk, hs', e, hx, -⟩ := h.other
  have hx := hx s rfl
  subst hx
  have hn := h.n
  rcases torn_count ho hs' hk hc (((c + 1) % 2 : Nat) : Int) with ht | ht
  · left
    rw [ht] at e
    have hcnt := seal_count (c + 1) s' hs' (by omega) hc
    have hh : Holds D 1 (c + 1) s' := by
      refine ⟨fun _ => by rw [e, show (((c + 1) % 2 : Nat) : Int) = ((c + 1 : Nat) : Int) % 2 by omega]; exact hcnt, ?_, fun q => by omega⟩
      have e2 : (c + 1 + 1) % 2 = c % 2 := by omega
      rw [e2, if_neg (by omega)]
      by_cases hz : c = 0
      · subst hz
        rw [show 1 + 0 % 2 = 1 from rfl, h.none_ rfl, show ((0 % 2 : Nat) : Int) = 0 from rfl, count_zero0]
        omega
      · have hcl := seal_count c l h.len (by omega) (by omega)
        rw [h.here (by omega), show ((c % 2 : Nat) : Int) = ((c : Nat) : Int) % 2 by omega]
        have : countV (sealB c l) ((c : Int) % 2) = c := by unfold countV; rw [hcl]; rfl
        rw [this]; omega
    obtain ⟨t1, t2, t3⟩ := h.still.told (by rw [hn]; omega) hh
    rw [if_neg (by omega)] at t1 t3
    exact ⟨t1, t2, t3, h.newer hs' h.still hn e rfl⟩
  · right
    refine h.still.told (by rw [hn]; omega) ⟨fun hp => ?_, by rw [e]; exact ht, fun q => ?_⟩
    · rw [h.here hp, show ((c % 2 : Nat) : Int) = ((c : Nat) : Int) % 2 by omega]
      exact seal_count c l h.len hp (by omega)
    · rw [h.none_ q, count_zero0]
theorem Kp.told0 {c : Nat} {l : List UInt8} {D : Dsk} (h : Kp c l none D) (hc : c + 1 ≤ 1099511627776) :
    slotE D (1 : Nat) = (if c = 0 then 14 else 0) ∧ slotN D (1 : Nat) = c ∧ slotS D (1 : Nat) = (if c = 0 then [] else l) := by
  obtain ⟨old, k, s', ho, hk, hs', e, -, hz⟩ := h.other
  have hz := hz rfl
  subst hz
  have hn := h.n
  refine h.still.told (by rw [hn]; omega) ⟨fun hp => ?_, by rw [e]; exact torn_early ho hs' (by omega) hc _, fun q => ?_⟩
  · rw [h.here hp, show ((c % 2 : Nat) : Int) = ((c : Nat) : Int) % 2 by omega]
    exact seal_count c l h.len hp (by omega)
  · rw [h.none_ q, count_zero0]
theorem Kp.ok {c : Nat} {l s : List UInt8} {D : Dsk} (h : Kp c l (some s) D) (hc : c + 1 ≤ 1099511627776) (hs : s.length ≤ 234) (h0 : D.armed ≠ 0) (h1 : D.armed ≠ 1) :
    slotWE D (1 : Nat) (c + 1 : Nat) s = 0 ∧ Kp (c + 1) s none (slotWD D (1 : Nat) (c + 1 : Nat) s) := by
  have hn := h.n
  obtain ⟨e, r, hD⟩ := (slot_three h.still 1 (c + 1) s (by omega) (by omega) hc hs).2.2 h0 h1
  refine ⟨e, ?_⟩
  have hlen := sealB_length ((c + 1 : Nat) : Int) s hs
  have hl := h.still.ok.len
  have hok : (slotWD D (1 : Nat) (c + 1 : Nat) s).ok := by
    unfold slotWD slotW1
    split
    · exact h.still.ok
    split
    · exact h.still.ok
    split
    · exact Dsk.writeD_ok h.still.ok _ _
    · exact Dsk.flushD_ok (Dsk.writeD_ok h.still.ok _ _)
  refine h.newer hs ⟨by rw [hD]; exact h.still.on, by rw [hD]; exact h.still.und, hok⟩ (by rw [hD]; exact hn) ?_ ?_
  · unfold Dsk.sec
    rw [hD]
    have := cut_lay_same D.img (sealB ((c + 1 : Nat) : Int) s) ((1 + (c + 1) % 2) * 256) (by rw [hlen]; omega)
    rw [hlen] at this
    exact this
  · unfold Dsk.sec
    rw [hD]
    rcases Nat.lt_or_ge (1 + c % 2) (1 + (c + 1) % 2) with hlt | hge
    · exact cut_lay_before _ _ _ _ _ (by rw [hlen]; omega) (by omega)
    · exact cut_lay_behind _ _ _ _ _ (by rw [hlen]; omega) (by rw [hlen]; omega)
/-- a crash of a disk at rest -/
theorem Kp.crash {c : Nat} {l : List UInt8} {nx : Option (List UInt8)} {D : Dsk} (h : Kp c l nx D) (kept : List Bool) (torn bytes : Int) : Kp c l nx (D.crash kept torn bytes) := by
  have hi := crash_clean D h.still.und kept torn bytes
  have hsec : ∀ i, (D.crash kept torn bytes).sec i = D.sec i := fun i => by unfold Dsk.sec; rw [hi]
  exact ⟨⟨rfl, rfl, Dsk.crash_ok h.still.ok _ _ _⟩, h.n, h.len, fun q => by rw [hsec]; exact h.here q, fun q => by rw [hsec]; exact h.none_ q, by obtain ⟨o, k, s, a1, a2, a3, a4, a5⟩ := h.other; exact ⟨o, k, s, a1, a2, a3, by rw [hsec]; exact a4, a5⟩⟩
/-- the power goes in a write -/
theorem Kp.dead {c : Nat} {l s : List UInt8} {D : Dsk} (h : Kp c l (some s) D) (hc : c + 1 ≤ 1099511627776) (hs : s.length ≤ 234) (h0 : D.armed = 0 ∨ D.armed = 1) :
    slotWE D (1 : Nat) (c + 1 : Nat) s = 12 ∧ (slotWD D (1 : Nat) (c + 1 : Nat) s).und.length = 1 ∧ (slotWD D (1 : Nat) (c + 1 : Nat) s).n = 3 ∧ ∀ kept torn bytes, Kp c l (some s) ((slotWD D (1 : Nat) (c + 1 : Nat) s).crash kept torn bytes) := by
  have hn := h.n
  have h3 := slot_three h.still 1 (c + 1) s (by omega) (by omega) hc hs
  have hok : (slotWD D (1 : Nat) (c + 1 : Nat) s).ok := by
    unfold slotWD slotW1
    split
    · exact h.still.ok
    split
    · exact h.still.ok
    split
    · exact Dsk.writeD_ok h.still.ok _ _
    · exact Dsk.flushD_ok (Dsk.writeD_ok h.still.ok _ _)
  obtain ⟨e, hu, him, hN⟩ : slotWE D (1 : Nat) (c + 1 : Nat) s = 12 ∧ (slotWD D (1 : Nat) (c + 1 : Nat) s).und = [(1 + (c + 1) % 2, sealB (c + 1 : Nat) s)] ∧ (slotWD D (1 : Nat) (c + 1 : Nat) s).img = D.img ∧ (slotWD D (1 : Nat) (c + 1 : Nat) s).n = D.n := by
    rcases h0 with h0 | h0
    · obtain ⟨e, hD⟩ := h3.1 h0
      exact ⟨e, by rw [hD], by rw [hD], by rw [hD]⟩
    · obtain ⟨e, hD⟩ := h3.2.1 h0
      exact ⟨e, by rw [hD], by rw [hD], by rw [hD]⟩
  refine ⟨e, by rw [hu]; rfl, by rw [hN, hn], fun kept torn bytes => ?_⟩
  have hlen := sealB_length ((c + 1 : Nat) : Int) s hs
  have hl := h.still.ok.len
  have hd : done kept torn bytes 0 ≤ 256 := by
    unfold done
    split
    · omega
    · split <;> omega
  obtain ⟨d, hdd⟩ : ∃ d, d = done kept torn bytes 0 := ⟨_, rfl⟩
  rw [← hdd] at hd
  have hci : ((slotWD D (1 : Nat) (c + 1 : Nat) s).crash kept torn bytes).img = lay D.img ((1 + (c + 1) % 2) * 256) ((sealB (c + 1 : Nat) s).take d) := by
    show layDone _ _ _ _ _ = _
    rw [hu, him, hdd]
    simp [layDone]
  have htl : ((sealB ((c + 1 : Nat) : Int) s).take d).length = d := by rw [List.length_take]; omega
  have hN' : ((slotWD D (1 : Nat) (c + 1 : Nat) s).crash kept torn bytes).n = 3 := by show (slotWD D (1 : Nat) (c + 1 : Nat) s).n = 3; rw [hN, hn]
  have hfar : ((slotWD D (1 : Nat) (c + 1 : Nat) s).crash kept torn bytes).sec (1 + c % 2) = D.sec (1 + c % 2) := by
    unfold Dsk.sec
    rw [hci]
    rcases Nat.lt_or_ge (1 + c % 2) (1 + (c + 1) % 2) with hlt | hge
    · exact cut_lay_before _ _ _ _ _ (by rw [htl]; omega) (by omega)
    · exact cut_lay_behind _ _ _ _ _ (by rw [htl]; omega) (by rw [htl]; omega)
  have hnear : ((slotWD D (1 : Nat) (c + 1 : Nat) s).crash kept torn bytes).sec (1 + (c + 1) % 2) = (sealB (c + 1 : Nat) s).take d ++ (D.sec (1 + (c + 1) % 2)).drop d := by
    unfold Dsk.sec
    rw [hci]
    have hb : (1 + (c + 1) % 2) * 256 + 256 ≤ D.img.length := by omega
    obtain ⟨o, hoo⟩ : ∃ o, o = (1 + (c + 1) % 2) * 256 := ⟨_, rfl⟩
    rw [← hoo] at hb ⊢
    unfold cut lay
    rw [List.drop_left' (by simp; omega), htl, List.take_append, htl, List.take_of_length_le (by omega), List.drop_take, List.drop_drop]
  obtain ⟨old, k, s', ho, hk, hs', eo, hx, -⟩ := h.other
  have hx := hx s rfl
  subst hx
  rw [eo, torn_torn hlen ho.len hk hd] at hnear
  exact ⟨⟨rfl, rfl, Dsk.crash_ok hok _ _ _⟩, hN', h.len, fun q => by rw [hfar]; exact h.here q, fun q => by
    have := h.none_ q
    subst q
    rw [← this]; exact hfar, old, max k d, s', ho, by omega, hs', hnear, fun x hx => (by cases hx; rfl), fun hx => by cases hx⟩
end Go.Proofs.YteklldbfdmaafaaDoor
