/-
  The disk's Write, refused; every Write.
-/
import Derived.Test.YteklldbfdmaafaaDoorDisk4
namespace Go.Proofs.YteklldbfdmaafaaDoor
open Go Go.RowKit

theorem write_off (w : World) (F : Nat → Prop) (p : Nat) (D : Dsk) (E : Nat → Addr) (hd : DiskAt w F p D) (i : Int) (s : List UInt8) (h12 : ErrAt w E 12) (ho : D.off = true) :
    Calls Tryd.prog 32 #[.pointer (some ⟨p, 0, none⟩), .int .i64 i, .string ⟨s.toArray⟩] w fun e w' => e = .returned (errV E 12) ∧ w = w' := by
  obtain ⟨c3, -⟩ := hd.cell
  have e12 : w.cell? ⟨2, 0, none⟩ = some (errV E 12) := h12
  rw [ho] at c3
  clear h12 hd ho
  go_enter Tryd.func32, Tryd.ntmps32
  go_wp2
  all_goals go_ret
  all_goals exact ⟨rfl, rfl⟩
theorem write_out (w : World) (F : Nat → Prop) (p : Nat) (D : Dsk) (E : Nat → Addr) (hd : DiskAt w F p D) (i : Int) (s : List UInt8) (h6 : ErrAt w E 6) (ho : D.off = false) (hh : D.has i = false) :
    Calls Tryd.prog 32 #[.pointer (some ⟨p, 0, none⟩), .int .i64 i, .string ⟨s.toArray⟩] w fun e w' => e = .returned (errV E 6) ∧ w = w' := by
  have Hc := Lib.hid (has_any w F p D hd i)
  obtain ⟨c3, -⟩ := hd.cell
  have e6 : w.cell? ⟨3, 0, none⟩ = some (errV E 6) := h6
  rw [ho] at c3
  rw [hh] at Hc
  clear h6 hd ho hh
  go_enter Tryd.func32, Tryd.ntmps32
  go_wp2_with (first | (go_at_call 78; refine Hc.out.mono ?_; rintro e w' ⟨rfl, rfl⟩))
  all_goals go_ret
  all_goals exact ⟨rfl, rfl⟩
theorem write_form (w : World) (F : Nat → Prop) (p : Nat) (D : Dsk) (E : Nat → Addr) (hd : DiskAt w F p D) (i : Int) (s : List UInt8) (h7 : ErrAt w E 7) (ho : D.off = false) (hh : D.has i = true) (hs : s.length ≠ 256) :
    Calls Tryd.prog 32 #[.pointer (some ⟨p, 0, none⟩), .int .i64 i, .string ⟨s.toArray⟩] w fun e w' => e = .returned (errV E 7) ∧ w = w' := by
  have Hc := Lib.hid (has_any w F p D hd i)
  obtain ⟨c3, -⟩ := hd.cell
  have e7 : w.cell? ⟨4, 0, none⟩ = some (errV E 7) := h7
  rw [ho] at c3
  rw [hh] at Hc
  have hs1 : ((s.length : Int) != 256) = true := by rw [bne_iff_ne]; omega
  clear h7 hd ho hh hs
  go_enter Tryd.func32, Tryd.ntmps32
  go_wp2_with (first | (go_at_call 78; refine Hc.out.mono ?_; rintro e w' ⟨rfl, rfl⟩))
  all_goals go_ret
  all_goals exact ⟨rfl, rfl⟩

theorem write_any (w : World) (F : Nat → Prop) (p : Nat) (D : Dsk) (E : Nat → Addr) (hd : DiskAt w F p D) (i : Int) (s : List UInt8) (h12 : ErrAt w E 12) (h6 : ErrAt w E 6) (h7 : ErrAt w E 7) (hul : D.und.length < 1073741824) :
    Calls Tryd.prog 32 #[.pointer (some ⟨p, 0, none⟩), .int .i64 i, .string ⟨s.toArray⟩] w fun e w' => e = .returned (errV E (D.writeE i s)) ∧ ∃ F', DiskAt w' F' p (D.writeD i s) ∧ Fr F w w' ∧ ∀ k, F' k → F k ∨ w.heap.size ≤ k := by
  have same : ∀ e w', e = w → w = w' → ∀ D', D' = D → ∃ F', DiskAt w' F' p D' ∧ Fr F w w' ∧ ∀ k, F' k → F k ∨ w.heap.size ≤ k := by
    rintro _ w' - rfl _ rfl
    exact ⟨F, hd, Fr.refl _ _, fun k hk => .inl hk⟩
  by_cases ho : D.off = true
  · have e1 : D.writeE i s = 12 := by simp [Dsk.writeE, ho]
    have e2 : D.writeD i s = D := by simp [Dsk.writeD, ho]
    rw [e1, e2]
    refine (write_off w F p D E hd i s h12 ho).mono ?_
    rintro e w' ⟨rfl, h⟩
    exact ⟨rfl, same w w' rfl h _ rfl⟩
  have ho : D.off = false := by simpa using ho
  by_cases hh : D.has i = true
  · by_cases hs : s.length = 256
    · have hi : 0 ≤ i ∧ i < D.n := by simpa [Dsk.has] using hh
      obtain ⟨j, rfl⟩ := Int.eq_ofNat_of_zero_le hi.1
      exact write_ok w F p D E hd j s h12 ho (by omega) hs hul
    · have e1 : D.writeE i s = 7 := by simp [Dsk.writeE, ho, hh, hs]
      have e2 : D.writeD i s = D := by simp [Dsk.writeD, ho, hh, hs]
      rw [e1, e2]
      refine (write_form w F p D E hd i s h7 ho hh hs).mono ?_
      rintro e w' ⟨rfl, h⟩
      exact ⟨rfl, same w w' rfl h _ rfl⟩
  · have hh : D.has i = false := by simpa using hh
    have e1 : D.writeE i s = 6 := by simp [Dsk.writeE, ho, hh]
    have e2 : D.writeD i s = D := by simp [Dsk.writeD, ho, hh]
    rw [e1, e2]
    refine (write_out w F p D E hd i s h6 ho hh).mono ?_
    rintro e w' ⟨rfl, h⟩
    exact ⟨rfl, same w w' rfl h _ rfl⟩
end Go.Proofs.YteklldbfdmaafaaDoor
