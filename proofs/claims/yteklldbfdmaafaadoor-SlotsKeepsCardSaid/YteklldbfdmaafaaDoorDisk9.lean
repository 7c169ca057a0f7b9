/-
  A new disk.
-/
import Derived.Test.YteklldbfdmaafaaDoorDisk8
namespace Go.Proofs.YteklldbfdmaafaaDoor
open Go Go.RowKit

theorem made_zeros (m n : Nat) (hm : 0 < m) : (madeCells (bvs (zs m)).toArray n).toList = bvs (zs n) := by
  have e : bvs (zs n) = List.replicate n (bv 0) := by simp [bvs, zs]
  rw [e, List.eq_replicate_iff]
  refine ⟨by simp [madeCells], fun b hb => ?_⟩
  simp only [madeCells, Array.toList_map, Array.toList_range, List.mem_map, List.mem_range, List.size_toArray, bvs_length, zs_length] at hb
  obtain ⟨i, _, rfl⟩ := hb
  have hlt : i % m < m := Nat.mod_lt _ hm
  have h2 : (bvs (zs m))[i % m]? = some (bv 0) := by simp [bvs, zs, hlt]
  simp [Array.getElem!_eq_getD, Array.getD_eq_getD_getElem?, h2]
theorem info_block3 : (Tryd.prog.info? 136).map (fun i => (i.zero.map (·.cells), i.size, i.bytes)) = some (some (bvs (zs 256)).toArray, 256, 256) := by kernel_rfl

set_option maxRecDepth 100000 in
theorem blank_any (w : World) (n : Nat) (h1 : 1 ≤ n) (h2 : n ≤ 65536) (hg : gB ≤ w.heap.size) :
    Calls Tryd.prog 79 #[.int .i64 n] w fun e w' => ∃ p F, e = .returned (.pointer (some ⟨p, 0, none⟩)) ∧ DiskAt w' F p (Dsk.blank n) ∧ Fr noB w w' ∧ ∀ k, F k → w.heap.size ≤ k := by
  have hmm := @run_makeMap Tryd.prog
  have Hg := Lib.hid hg
  clear hg
  go_enter Tryd.func79, Tryd.ntmps79
  go_wp2_with (first | ((with_reducible refine wpList_make_zero ?_ (.tmp 3) (.tmp 3) 130 136 ?_ Tryd.underlying130 256 256 (bvs (zs 256)).toArray info_block3 (n : Int) n ?_ ?_ rfl (by omega) (by unfold maxLen; omega) ?_); (rfl); (rfl); (rfl); (rfl); (intro w1 hw1)))
  go_ret
  obtain ⟨hb, hgr⟩ := hw1
  rw [made_zeros 256 _ (by omega)] at hb
  have sz : w.heap.size < w1.heap.size := hb.lt
  refine ⟨w1.heap.size + 1, fun k => w.heap.size ≤ k ∧ k < w1.heap.size + 2, rfl, ⟨w.heap.size, w1.heap.size, .slice none 0 0, ?_, ?_, World.ownsRow_nil _ _ _ _, ?_, ⟨⟨by omega, by omega⟩, ⟨by omega, by omega⟩, ⟨by omega, by omega⟩, fun g hg => by simp [Value.ownBlock] at hg⟩, fun k hk => ⟨by have := Hg.out; omega, by simp; omega⟩, Dsk.blank_ok n h1 h2⟩, ?_, fun k hk => hk.1⟩
  · have := heap_alloc_new (w1.alloc (.map #[] 0)) (.cells #[.slice (some ⟨w.heap.size, 0, none⟩) n n, .slice none 0 0, .map (some w1.heap.size), .bool false, .int .i64 (-1), .int .i64 0, .int .i64 0, .int .i64 0] 134)
    simpa [Blk, Dsk.blank] using this
  · have e : Blk w1 w.heap.size (bvs (Dsk.blank n).img) 136 := by
      show Blk w1 w.heap.size (bvs (zs (256 * n))) _
      rw [Nat.mul_comm]; exact hb
    exact e.keep ((Below.heap_alloc _ _ _ (by simp; omega)).trans (Below.heap_alloc _ _ _ sz))
  · refine ⟨.map [], ((World.ownsMap_made w1 _ _ _).alloc _).mono (Nat.zero_le _), fun i => ⟨rfl, rfl⟩⟩
  · exact (((Fr.refl noB w).grown hgr (fun k hk => by cases hk)).alloc _).alloc _

theorem new_bad (w : World) (n : Int) (E : Nat → Addr) (h6 : ErrAt w E 6) (h : n < 1 ∨ 65536 < n) :
    Calls Tryd.prog 33 #[.int .i64 n] w fun e w' => e = .returned (.tuple #[.pointer none, errV E 6]) ∧ Fr noB w w' := by
  have e6 : w.cell? ⟨3, 0, none⟩ = some (errV E 6) := h6
  clear h6
  by_cases h1 : n < 1
  · have hd : decide (n < 1) = true := by simpa using h1
    clear h
    go_enter Tryd.func33, Tryd.ntmps33
    go_wp2
    go_quiet (fail)
    all_goals go_wp2
    all_goals go_ret2
    all_goals exact ⟨rfl, (Fr.refl _ _).drewN _⟩
  · have h2 : 65536 < n := by omega
    have hd : decide (n < 1) = false := by simpa using h1
    clear h
    go_enter Tryd.func33, Tryd.ntmps33
    go_wp2
    go_quiet (fail)
    all_goals go_wp2
    all_goals go_ret2
    all_goals exact ⟨rfl, (Fr.refl _ _).drewN _⟩
theorem new_ok (w : World) (n : Nat) (h1 : 1 ≤ n) (h2 : n ≤ 65536) (hg : gB ≤ w.heap.size) :
    Calls Tryd.prog 33 #[.int .i64 n] w fun e w' => ∃ p F, e = .returned (.tuple #[.pointer (some ⟨p, 0, none⟩), .nilIface]) ∧ DiskAt w' F p (Dsk.blank n) ∧ Fr noB w w' ∧ ∀ k, F k → w.heap.size ≤ k := by
  have HB := Lib.hid (blank_any w n h1 h2 hg)
  clear hg
  go_enter Tryd.func33, Tryd.ntmps33
  go_wp2_with (go_at_call 79; refine HB.out.mono ?_; rintro e w1 ⟨p, F, rfl, hq⟩; have Hq := Lib.hid hq; clear hq)
  all_goals go_ret2
  all_goals exact ⟨p, F, rfl, Hq.out⟩
end Go.Proofs.YteklldbfdmaafaaDoor
