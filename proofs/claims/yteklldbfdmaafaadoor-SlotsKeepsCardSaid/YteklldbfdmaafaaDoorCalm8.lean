/-
  Slots over a disk that nobody armed, as plain data: a write lays one sector; what a slot tells then.
-/
import Derived.Test.YteklldbfdmaafaaDoorErrq
import Derived.Test.YteklldbfdmaafaaDoorFlu
namespace Go.Proofs.YteklldbfdmaafaaDoor
open Go Go.RowKit

theorem cut_lay_same (l b : List UInt8) (o : Nat) (h : o + b.length ≤ l.length) : cut (lay l o b) o b.length = b := by
  unfold cut lay
  rw [List.drop_left' (by simp; omega), List.take_left' rfl]
theorem cut_lay_before (l b : List UInt8) (o p m : Nat) (h : o + b.length ≤ l.length) (hp : p + m ≤ o) : cut (lay l o b) p m = cut l p m := by
  unfold cut lay
  rw [List.drop_append_of_le_length (by simp; omega), List.take_append_of_le_length (by simp; omega), List.drop_take, List.take_take, Nat.min_eq_left (by omega)]
theorem cut_lay_behind (l b : List UInt8) (o p m : Nat) (h : o + b.length ≤ l.length) (hp : o + b.length ≤ p) : cut (lay l o b) p m = cut l p m := by
  unfold cut lay
  rw [← List.append_assoc, List.drop_append, List.drop_of_length_le (by simp; omega)]
  simp only [List.nil_append, List.drop_drop]
  congr 2
  simp
  omega
/-- a disk at rest: power on, nobody armed it, nothing under way -/
structure Rest (D : Dsk) : Prop where
  calm : Calm D
  und : D.und = []
  ok : D.ok
theorem Rest.rd {D : Dsk} (h : Rest D) (i : Nat) : D.rd i = D.sec i := by simp [Dsk.rd, h.und, lastW_nil]
/-- a write of a version at rest -/
theorem rest_write {D : Dsk} (h : Rest D) (a v : Nat) (s : List UInt8) (ha : a + 2 ≤ D.n) (hv : 1 ≤ v) (hv2 : v ≤ 1099511627776) (hs : s.length ≤ 234) :
    slotWE D a v s = 0 ∧ Rest (slotWD D a v s) ∧ (slotWD D a v s).n = D.n ∧ (slotWD D a v s).sec (a + v % 2) = sealB v s ∧ ∀ j, j ≠ a + v % 2 → j < D.n → (slotWD D a v s).sec j = D.sec j := by
  have hn := h.ok.n2
  have hroom : D.roomB (a : Int) = true := by unfold Dsk.roomB; exact decide_eq_true (by omega)
  have hmay : slotMay D (a : Int) (v : Int) = true := by
    unfold slotMay; rw [hroom, decide_eq_true (show (1 : Int) ≤ v by omega), decide_eq_true (show (v : Int) ≤ 1099511627776 by omega)]; rfl
  have hb : ¬ (slotMay D (a : Int) (v : Int) = false) := by rw [hmay]; simp
  have hi : ((a : Int) + (v : Int) % 2) = ((a + v % 2 : Nat) : Int) := by omega
  have hlen := sealB_length (v : Int) s hs
  have hi2 : a + v % 2 < D.n := by omega
  have hhas : D.has ((a + v % 2 : Nat) : Int) = true := by unfold Dsk.has; exact decide_eq_true (by omega)
  have hwE : D.writeE ((a : Int) + (v : Int) % 2) (sealB v s) = 0 := by
    rw [hi]; unfold Dsk.writeE; rw [if_neg (by rw [h.calm.1]; simp), if_pos hhas, if_pos hlen, if_neg (by rw [dead_calm h.calm]; simp)]
  have hD1 : Calm ({ D with und := D.und ++ [(a + v % 2, sealB (v : Int) s)] } : Dsk) := h.calm
  have hw : slotW1 D (a : Int) (v : Int) s = { D with und := [(a + v % 2, sealB (v : Int) s)], writes := w64 (D.writes + 1) } := by
    unfold slotW1 Dsk.writeD
    rw [hi, if_neg (by rw [h.calm.1]; simp), if_pos hhas, if_pos hlen]
    simp only [dead_calm h.calm, gone_calm hD1, Int.toNat_natCast]
    simp [h.und]
  have hok1 : (slotW1 D (a : Int) (v : Int) s).ok := Dsk.writeD_ok h.ok _ _
  have hc1 : Calm (slotW1 D (a : Int) (v : Int) s) := by rw [hw]; exact h.calm
  have hf := flushD_calm hc1
  have hl := h.ok.len
  have e1 : slotWE D a v s = 0 := by
    unfold slotWE
    rw [if_neg hb, if_neg (by omega), if_neg (by rw [hwE]; simp)]
    exact hf.2.2.1
  have e2 : slotWD D a v s = (slotW1 D (a : Int) (v : Int) s).flushD := by
    unfold slotWD
    rw [if_neg hb, if_neg (by omega), if_neg (by rw [hwE]; simp)]
  have hn1 : (slotW1 D (a : Int) (v : Int) s).n = D.n := by rw [hw]
  have himg : (slotWD D a v s).img = lay D.img ((a + v % 2) * 256) (sealB (v : Int) s) := by
    rw [e2, hf.2.2.2.2, hw]; rfl
  refine ⟨e1, ⟨by rw [e2]; exact hf.1, by rw [e2]; exact hf.2.2.2.1, by rw [e2]; exact Dsk.flushD_ok hok1⟩, by rw [e2, hf.2.1, hn1], ?_, fun j hj hjn => ?_⟩
  · unfold Dsk.sec
    rw [himg]
    have := cut_lay_same D.img (sealB (v : Int) s) ((a + v % 2) * 256) (by rw [hlen]; omega)
    rw [hlen] at this
    exact this
  · unfold Dsk.sec
    rw [himg]
    rcases Nat.lt_or_ge j (a + v % 2) with hlt | hge
    · exact cut_lay_before _ _ _ _ _ (by rw [hlen]; omega) (by omega)
    · exact cut_lay_behind _ _ _ _ _ (by rw [hlen]; omega) (by rw [hlen]; omega)

/-- a slot that holds version c (0: none) and its value -/
structure Holds (D : Dsk) (a c : Nat) (l : List UInt8) : Prop where
  here : 0 < c → countO (D.sec (a + c % 2)) ((c % 2 : Nat) : Int) = some ((c : Int), l)
  other : countV (D.sec (a + (c + 1) % 2)) (((c + 1) % 2 : Nat) : Int) < (if c = 0 then 1 else (c : Int))
  none_ : c = 0 → countV (D.sec a) 0 = 0
theorem Holds.told {D : Dsk} {a c : Nat} {l : List UInt8} (hr : Rest D) (ha : a + 2 ≤ D.n) (h : Holds D a c l) :
    slotE D a = (if c = 0 then 14 else 0) ∧ slotN D a = c ∧ slotS D a = (if c = 0 then [] else l) := by
  have hroom : D.roomB (a : Int) = true := by unfold Dsk.roomB; exact decide_eq_true (by omega)
  have b0 := countV_bounds (D.sec a) 0
  have b1 := countV_bounds (D.sec (a + 1)) 1
  have hE : slotE D a = if slotVer D a 2 = 0 then 14 else 0 := by
    unfold slotE
    rw [if_neg (by rw [hroom]; simp), if_neg (by rw [hr.calm.1]; simp), Int.toNat_natCast]
  have hV : slotVer D a 2 = if (if 0 < countV (D.sec a) 0 then countV (D.sec a) 0 else 0) < countV (D.sec (a + 1)) 1 then countV (D.sec (a + 1)) 1 else (if 0 < countV (D.sec a) 0 then countV (D.sec a) 0 else 0) := by
    simp only [slotVer, hr.rd]; rfl
  have hS : slotVal D a 2 = if (if 0 < countV (D.sec a) 0 then countV (D.sec a) 0 else 0) < countV (D.sec (a + 1)) 1 then countS (D.sec (a + 1)) 1 else (if 0 < countV (D.sec a) 0 then countS (D.sec a) 0 else []) := by
    simp only [slotVal, slotVer, hr.rd]; rfl
  have hoth := h.other
  unfold slotS slotN
  rw [hE, Int.toNat_natCast]
  by_cases hc : c = 0
  · subst hc
    have h0 := h.none_ rfl
    simp only [Nat.zero_add, if_true] at hoth
    have h1 : countV (D.sec (a + 1)) 1 = 0 := by
      have : countV (D.sec (a + 1)) 1 < 1 := hoth
      omega
    have e : slotVer D a 2 = 0 := by rw [hV, h0, h1]; simp
    rw [e]
    simp
  · have hh := h.here (by omega)
    rw [if_neg hc] at hoth
    rcases Nat.mod_two_eq_zero_or_one c with hm | hm
    · have hm' : (c + 1) % 2 = 1 := by omega
      rw [hm] at hh
      rw [hm'] at hoth
      have hv0 : countV (D.sec a) 0 = c := by unfold countV; rw [show countO (D.sec a) 0 = some ((c : Int), l) from hh]; rfl
      have hs0 : countS (D.sec a) 0 = l := by unfold countS; rw [show countO (D.sec a) 0 = some ((c : Int), l) from hh]; rfl
      have ho : countV (D.sec (a + 1)) 1 < c := hoth
      have p0 : (0 : Int) < (c : Int) := by omega
      have p1 : ¬ ((c : Int) < countV (D.sec (a + 1)) 1) := by omega
      have e : slotVer D a 2 = c := by rw [hV, hv0, if_pos p0, if_neg p1]
      have e3 : slotVal D a 2 = l := by rw [hS, hv0, if_pos p0, if_neg p1, if_pos p0, hs0]
      rw [e, e3, if_neg (by omega), if_neg hc, if_neg hc]
      simp
    · have hm' : (c + 1) % 2 = 0 := by omega
      rw [hm] at hh
      rw [hm'] at hoth
      have hv1 : countV (D.sec (a + 1)) 1 = c := by unfold countV; rw [show countO (D.sec (a + 1)) 1 = some ((c : Int), l) from hh]; rfl
      have hs1 : countS (D.sec (a + 1)) 1 = l := by unfold countS; rw [show countO (D.sec (a + 1)) 1 = some ((c : Int), l) from hh]; rfl
      have ho : countV (D.sec a) 0 < c := hoth
      have hlt : (if 0 < countV (D.sec a) 0 then countV (D.sec a) 0 else 0) < (c : Int) := by split <;> omega
      have e : slotVer D a 2 = c := by rw [hV, hv1, if_pos hlt]
      have e3 : slotVal D a 2 = l := by rw [hS, hv1, if_pos hlt, hs1]
      rw [e, e3, if_neg (by omega), if_neg hc, if_neg hc]
      simp
theorem Holds.keep {D D' : Dsk} {a c : Nat} {l : List UInt8} (h : Holds D a c l) (hs : ∀ k, k < 2 → D'.sec (a + k) = D.sec (a + k)) : Holds D' a c l := by
  have h0 : D'.sec a = D.sec a := hs 0 (by omega)
  exact ⟨fun q => by rw [hs _ (Nat.mod_lt _ (by omega))]; exact h.here q, by rw [hs _ (Nat.mod_lt _ (by omega))]; exact h.other, fun q => by rw [h0]; exact h.none_ q⟩
/-- the next version is written -/
theorem Holds.next {D : Dsk} {a c : Nat} {l s : List UInt8} (hr : Rest D) (ha : a + 2 ≤ D.n) (h : Holds D a c l) (hc : c + 1 ≤ 1099511627776) (hs : s.length ≤ 234) : Holds (slotWD D a (c + 1 : Nat) s) a (c + 1) s := by
  obtain ⟨_, _, _, h1, h2⟩ := rest_write hr a (c + 1) s ha (by omega) hc hs
  refine ⟨fun _ => ?_, ?_, fun q => by omega⟩
  · rw [h1, show (((c + 1) % 2 : Nat) : Int) = ((c + 1 : Nat) : Int) % 2 by omega]
    exact seal_count (c + 1) s hs (by omega) hc
  · have e : (c + 1 + 1) % 2 = c % 2 := by omega
    rw [e, h2 _ (by omega) (by omega), if_neg (by omega)]
    by_cases hz : c = 0
    · subst hz
      have : countV (D.sec a) 0 = 0 := h.none_ rfl
      show countV (D.sec a) 0 < ((0 + 1 : Nat) : Int)
      omega
    · have hh := h.here (by omega)
      have : countV (D.sec (a + c % 2)) ((c % 2 : Nat) : Int) = c := by unfold countV; rw [hh]; rfl
      rw [this]
      omega
theorem zs_cut (m o n : Nat) (h : o + n ≤ m) : cut (zs m) o n = zs n := by
  unfold cut zs
  rw [List.drop_replicate, List.take_replicate]
  congr 1
  omega
theorem blank_sec (n i : Nat) (h : i < n) : (Dsk.blank n).sec i = zs 256 := zs_cut _ _ _ (by omega)
theorem count_zero0 : countV (zs 256) 0 = 0 := by kernel_rfl
theorem count_zero1 : countV (zs 256) 1 = 0 := by kernel_rfl
theorem Holds.blank (n a : Nat) (h : a + 2 ≤ n) : Holds (Dsk.blank n) a 0 [] := by
  refine ⟨fun q => by omega, ?_, fun _ => ?_⟩
  · show countV ((Dsk.blank n).sec (a + 1)) 1 < 1
    rw [blank_sec _ _ (by omega), count_zero1]
    omega
  · rw [blank_sec _ _ (by omega), count_zero0]
theorem blank_rest (n : Nat) (h1 : 1 ≤ n) (h2 : n ≤ 65536) : Rest (Dsk.blank n) := ⟨blank_calm n, rfl, Dsk.blank_ok n h1 h2⟩
end Go.Proofs.YteklldbfdmaafaaDoor
