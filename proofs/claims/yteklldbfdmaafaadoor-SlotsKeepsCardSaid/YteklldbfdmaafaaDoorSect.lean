/-
  The law's own helpers: what an op writes; a fate with spare room.
-/
import Derived.Test.YteklldbfdmaafaaDoorNum
namespace Go.Proofs.YteklldbfdmaafaaDoor
open Go Go.RowKit

/-- what an op writes -/
def fillOf (fill : UInt8) : List UInt8 := (List.range 256).map fun i => fill + UInt8.ofNat (i / 16)
def secOf (s : List UInt8) (fill : UInt8) : List UInt8 := if s = [] then fillOf fill else s
theorem info_byte4 : (Tryd.prog.info? 5).map (fun i => (i.zero.map (·.cells), i.size, i.bytes)) = some (some (bvs (zs 1)).toArray, 1, 1) := by kernel_rfl
def fillPart (fill : UInt8) (k : Nat) : List UInt8 := (fillOf fill).take k ++ zs (256 - k)
theorem fillOf_length (fill : UInt8) : (fillOf fill).length = 256 := by simp [fillOf]
theorem fillPart_next (fill : UInt8) (k : Nat) (hk : k < 256) : (bvs (fillPart fill k)).set k (bv (fill + UInt8.ofNat (k / 16))) = bvs (fillPart fill (k + 1)) := by
  have hl := fillOf_length fill
  unfold fillPart
  rw [bvs_append, List.set_append_right _ _ (by simp [hl]; omega), bvs_append]
  have e1 : k - (bvs ((fillOf fill).take k)).length = 0 := by simp [hl]; omega
  rw [e1]
  have e2 : zs (256 - k) = 0 :: zs (256 - (k + 1)) := by
    unfold zs; rw [show 256 - k = (256 - (k + 1)) + 1 by omega, List.replicate_succ]
  rw [e2, List.take_succ_eq_append_getElem (by omega)]
  simp [bvs, fillOf]

set_option maxRecDepth 100000 in
theorem sector_given (w : World) (k0 k1 k2 k3 k4 : Value) (s : List UInt8) (fill : UInt8) (hs : s ≠ []) :
    Calls Tryd.prog 31 #[.agg #[k0, k1, .string ⟨s.toArray⟩, .int .u8 fill.toNat, k2, k3, k4]] w fun e w' => e = .returned (.string ⟨s.toArray⟩) ∧ Fr noB w w' := by
  have h1 : s.isEmpty = false := by cases s <;> simp_all
  go_enter Tryd.func31, Tryd.ntmps31
  go_wp2
  all_goals go_ret
  all_goals exact ⟨rfl, (Fr.refl _ _).alloc _⟩
set_option maxRecDepth 100000 in
set_option maxHeartbeats 1000000 in
theorem sector_fill (w : World) (k0 k1 k2 k3 k4 : Value) (fill : UInt8) :
    Calls Tryd.prog 31 #[.agg #[k0, k1, .string ⟨#[]⟩, .int .u8 fill.toNat, k2, k3, k4]] w fun e w' => e = .returned (.string ⟨(fillOf fill).toArray⟩) ∧ Fr noB w w' := by
  have hfl : (fill.toNat : Int) < 256 := by have := fill.toNat_lt; omega
  go_enter Tryd.func31, Tryd.ntmps31
  go_wp2_with (first | ((with_reducible refine wpList_make_zero ?_ (.const (.int .i64 256)) (.const (.int .i64 256)) 112 5 ?_ Tryd.underlying112 1 1 (bvs (zs 1)).toArray info_byte4 256 256 ?_ ?_ rfl (by omega) (by unfold maxLen; omega) ?_); (rfl); (rfl); (rfl); (rfl); (intro w1 hw1)))
  have hq : Blk w1 (w.heap.size + 1) (bvs (fillPart fill 0)) 5 := by
    have := hw1.out.1
    rw [made_zeros 1 _ (by omega)] at this
    simpa [fillPart] using this
  have hz : Fr noB w w1 := ((Fr.refl noB w).alloc _).grown hw1.out.2 (fun k hk => by cases hk)
  have HQ := Lib.hid (And.intro hq hz)
  have Hc : Hid (w1.cell? ⟨w.heap.size, 3, none⟩ = some (.int .u8 fill.toNat)) :=
    (World.cell?_of_block (hw1.out.2.block w.heap.size (by simp) (by simp))).trans (cell_of_row _ _ _ _ _ _ (heap_alloc_new w _))
  clear hq hz hw1
  go_loopw [13] (fun x wr => ∃ k : Nat, k ≤ 256 ∧ x = .int .i64 k ∧ Hid (Blk wr (w.heap.size + 1) (bvs (fillPart fill k)) 5 ∧ Fr noB w wr ∧ wr.cell? ⟨w.heap.size, 3, none⟩ = some (.int .u8 fill.toNat))) (fun x _ => 256 - (intOf x).toNat)
  case atStart => exact ⟨0, Nat.zero_le _, rfl, HQ.out.1, HQ.out.2, Hc.out⟩
  case round =>
    obtain ⟨k, hk, rfl, HR⟩ := hrel
    clear HQ Hc
    by_cases hlt : k < 256
    · have cf := HR.out.2.2
      have ck : wr.cell? ⟨w.heap.size + 1, k, none⟩ = some (bv ((fillPart fill k).getD k 0)) := by
        have hl : k < (fillPart fill k).length := by simp [fillPart, fillOf_length, zs_length]; omega
        rw [HR.out.1.cell]
        simp [bvs, hl]
      have fk := HR.out.1.free k
      go_wp2
      go_roundw
      case rel =>
        refine ⟨k + 1, by omega, by go_num, ?_⟩
        have ev : Value.int .u8 (((fill.toNat : Int) + (k : Int) / 16) % 256) = bv (fill + UInt8.ofNat (k / 16)) := by
          unfold bv
          rw [UInt8.toNat_add, UInt8.toNat_ofNat']
          congr 1
          omega
        rw [ev]
        refine ⟨?_, HR.out.2.1.setCell (.inr (by simp)) _, ?_⟩
        · rw [← fillPart_next fill k hlt]; exact HR.out.1.set k _
        · rw [← HR.out.2.2]; exact World.cell?_of_block (heap_setCell_other _ _ _ _ (by simp))
      case measure => simp [intOf]; omega
    · have hkk : k = 256 := by omega
      subst hkk
      have Hr : Hid (wr.rangeAt (w.heap.size + 1) 0 (bvs (fillOf fill))) := by
        have h1 := HR.out.1.range (o := 0) (n := 256)
        have e : ((bvs (fillPart fill 256)).drop 0).take 256 = bvs (fillOf fill) := by
          rw [List.drop_zero, bvs_take]
          exact congrArg bvs (by simp [fillPart, zs, List.take_of_length_le, fillOf_length])
        rw [e] at h1
        exact h1
      go_wp2_with ((with_reducible refine wpList_bytes_string ?_ 112 9 5 (.tmp 26) ?_ Tryd.underlying112 Tryd.underlying5 Tryd.underlying9 (w.heap.size + 1) 0 256 256 (fillOf fill) ?_ (fillOf_length fill).symm Hr.out ?_); (rfl); (rfl); (rfl))
      go_ret
      exact ⟨rfl, HR.out.2.1⟩
theorem sector_any (w : World) (k0 k1 k2 k3 k4 : Value) (s : List UInt8) (fill : UInt8) :
    Calls Tryd.prog 31 #[.agg #[k0, k1, .string ⟨s.toArray⟩, .int .u8 fill.toNat, k2, k3, k4]] w fun e w' => e = .returned (.string ⟨(secOf s fill).toArray⟩) ∧ Fr noB w w' := by
  by_cases hs : s = []
  · subst hs; exact sector_fill w k0 k1 k2 k3 k4 fill
  · rw [secOf, if_neg hs]; exact sector_given w k0 k1 k2 k3 k4 s fill hs
end Go.Proofs.YteklldbfdmaafaaDoor
