/-
  The disk's Read.
-/
import Derived.Test.YteklldbfdmaafaaDoorDisk1
import Derived.Test.YteklldbfdmaafaaDoorLaws
import Derived.Deep.Cut
import Derived.Deep.CutBlock
import Derived.Deep.CutRange
import Derived.Outline
import Derived.Maps.RangeWalk
namespace Go.Proofs.YteklldbfdmaafaaDoor
open Go Go.RowKit

theorem info_block : (Tryd.prog.info? 136).map (·.size) = some 256 := by kernel_rfl

theorem read_none (w : World) (F : Nat → Prop) (p : Nat) (D : Dsk) (hd : DiskAt w F p D) (i : Nat) (hoff : D.off = false) (hi : i < D.n) (hl : lastIx D.und i = none) :
    Calls Tryd.prog 26 #[.pointer (some ⟨p, 0, none⟩), .int .i64 i] w fun e w' => e = .returned (.tuple #[.string ⟨(D.rd i).toArray⟩, .nilIface]) ∧ Fr noB w w' := by
  have hok := hd.good
  have hhas : D.has i = true := by simp [Dsk.has, hi]
  have Hc := Lib.hid (has_any w F p D hd i)
  obtain ⟨pd, pm, uv, hp, hpd, hu, hm, hF, hb, -⟩ := hd
  have hrd : D.rd i = D.sec i := by rw [Dsk.rd, lastIx_none _ _ hl]; rfl
  have hlen : (D.sec i).length = 256 := by have := hok.len; exact cut_length _ _ _ (by omega)
  have c0 : w.cell? ⟨p, 0, none⟩ = some (.slice (some ⟨pd, 0, none⟩) D.n D.n) := by rw [hp.cell]; rfl
  have c2 : w.cell? ⟨p, 2, none⟩ = some (.map (some pm)) := by rw [hp.cell]; rfl
  have c3 : w.cell? ⟨p, 3, none⟩ = some (.bool false) := by rw [hp.cell, ← hoff]; rfl
  have b2 := hok.n2
  have lp := hp.lt
  have hr : w.rangeAt pd (i * 256) (bvs (D.sec i)) := by
    have := hpd.range (o := i * 256) (n := 256)
    rwa [bvs_drop, bvs_take] at this
  rw [hhas] at Hc
  have H : Hid (w.rangeAt pd (i * 256) (bvs (D.sec i)) ∧ LastAt (w.alloc (.cells (bvs (D.sec i)).toArray 136)) pm D.und ∧ (D.sec i).length = 256 ∧ D.rd i = D.sec i ∧ lastIx D.und i = none) :=
    ⟨hr, hm.keep (Below.heap_alloc _ _ _ hm.lt), hlen, hrd, hl⟩
  clear hp hpd hu hm hF hb hok hoff hhas hr hrd hlen hl
  go_enter Tryd.func26, Tryd.ntmps26
  go_upto_region 5 with (first | (go_at_call 78; refine Hc.out.mono ?_; rintro e w' ⟨rfl, rfl⟩))
  go_upto_region 6 with (first | ((with_reducible refine wpList_load_mid ?_ 136 (.tmp 24) ?_ pd (i * 256) ?_ (bvs (D.sec i)) _ H.out.1 Tryd.underlying136 rfl ?hi ?_); (rfl); (rfl); (rfl)) | ((with_reducible refine wpList_store_top ?_ 136 (.tmp 6) (.tmp 25) ?_ _ (bvs (D.sec i)).toArray _ ?_ ?_ ?hz ?hi2 (all_bvs _) ?_); (rfl); (rfl); (rfl); (rfl)))
  case hi => rw [info_block, bvs_length, H.out.2.2.1]
  case hz => simp [Tryd.zeroCells136_size, H.out.2.2.1]
  case hi2 => rw [info_block]; simp [H.out.2.2.1]
  go_frame
  go_wp2_with (first | (at_lookup; (with_reducible refine wpList_lookup_none ?_ (.tmp 30) (.tmp 31) ?_ pm D.und i ?_ ?_ H.out.2.1 (by omega) H.out.2.2.2.2 ?_); (rfl); (rfl); (rfl); (rfl)) | ((with_reducible refine wpList_bytes_string ?_ 112 9 5 (.tmp 44) ?_ Tryd.underlying112 Tryd.underlying5 Tryd.underlying9 w.heap.size 0 256 256 (D.sec i) ?_ H.out.2.2.1.symm ?hc ?_); (rfl); (rfl); (rfl)))
  case hc => exact range_new _ _ _
  go_ret2
  exact ⟨congrArg (fun l : List UInt8 => Ending.returned (.tuple #[.string ⟨l.toArray⟩, .nilIface])) H.out.2.2.2.1.symm, (Fr.refl _ _).alloc _⟩

theorem read_some (w : World) (F : Nat → Prop) (p : Nat) (D : Dsk) (hd : DiskAt w F p D) (i : Nat) (hoff : D.off = false) (hi : i < D.n) (k : Nat) (hl : lastIx D.und i = some k) :
    Calls Tryd.prog 26 #[.pointer (some ⟨p, 0, none⟩), .int .i64 i] w fun e w' => e = .returned (.tuple #[.string ⟨(D.rd i).toArray⟩, .nilIface]) ∧ Fr noB w w' := by
  have hok := hd.good
  have hhas : D.has i = true := by simp [Dsk.has, hi]
  have Hc := Lib.hid (has_any w F p D hd i)
  obtain ⟨pd, pm, uv, hp, hpd, hu, hm, hF, hb, -⟩ := hd
  obtain ⟨b, hk, hW⟩ := lastIx_some _ _ _ hl
  have hrd : D.rd i = b := by rw [Dsk.rd, hW]; rfl
  have hbl : b.length = 256 := (hok.und _ (List.mem_of_getElem? hk)).2
  have hkl : k < D.und.length := (List.getElem?_eq_some_iff.1 hk).1
  obtain ⟨g, cap, rfl, hc1, hc2, hgl, hg⟩ := under_at hu hok.und k i b hk
  have hlen : (D.sec i).length = 256 := by have := hok.len; exact cut_length _ _ _ (by omega)
  have c0 : w.cell? ⟨p, 0, none⟩ = some (.slice (some ⟨pd, 0, none⟩) D.n D.n) := by rw [hp.cell]; rfl
  have c1 : w.cell? ⟨p, 1, none⟩ = some (.slice (some ⟨g, 0, none⟩) D.und.length cap) := by rw [hp.cell]; rfl
  have c2 : w.cell? ⟨p, 2, none⟩ = some (.map (some pm)) := by rw [hp.cell]; rfl
  have c3 : w.cell? ⟨p, 3, none⟩ = some (.bool false) := by rw [hp.cell, ← hoff]; rfl
  have b2 := hok.n2
  have lp := hp.lt
  have hr : w.rangeAt pd (i * 256) (bvs (D.sec i)) := by
    have := hpd.range (o := i * 256) (n := 256)
    rwa [bvs_drop, bvs_take] at this
  have hg2 : (w.alloc (.cells (bvs (D.sec i)).toArray 136)).rangeAt g (k * 257 + 1) (bvs b) := by
    refine World.rangeAt_alloc (fun j v hj => ?_) _
    have := hg (j + 1) v (by simpa [wayCells] using hj)
    rw [show k * 257 + 1 + j = k * 257 + (j + 1) by omega]; exact this
  rw [hhas] at Hc
  unfold maxLen at hc2
  have H : Hid (w.rangeAt pd (i * 256) (bvs (D.sec i)) ∧ LastAt (w.alloc (.cells (bvs (D.sec i)).toArray 136)) pm D.und ∧ (D.sec i).length = 256 ∧ D.rd i = b ∧ lastIx D.und i = some k ∧ (w.alloc (.cells (bvs (D.sec i)).toArray 136)).rangeAt g (k * 257 + 1) (bvs b) ∧ b.length = 256) :=
    ⟨hr, hm.keep (Below.heap_alloc _ _ _ hm.lt), hlen, hrd, hl, hg2, hbl⟩
  clear hp hpd hu hm hF hb hok hoff hhas hr hrd hlen hl hg hg2 hbl hk hW
  go_enter Tryd.func26, Tryd.ntmps26
  go_upto_region 5 with (first | (go_at_call 78; refine Hc.out.mono ?_; rintro e w' ⟨rfl, rfl⟩))
  go_upto_region 6 with (first | ((with_reducible refine wpList_load_mid ?_ 136 (.tmp 24) ?_ pd (i * 256) ?_ (bvs (D.sec i)) _ H.out.1 Tryd.underlying136 rfl ?hi ?_); (rfl); (rfl); (rfl)) | ((with_reducible refine wpList_store_top ?_ 136 (.tmp 6) (.tmp 25) ?_ _ (bvs (D.sec i)).toArray _ ?_ ?_ ?hz ?hi2 (all_bvs _) ?_); (rfl); (rfl); (rfl); (rfl)))
  case hi => rw [info_block, bvs_length, H.out.2.2.1]
  case hz => simp [Tryd.zeroCells136_size, H.out.2.2.1]
  case hi2 => rw [info_block]; simp [H.out.2.2.1]
  go_frame
  go_upto_region 8 with (first | (at_lookup; (with_reducible refine wpList_lookup_some ?_ (.tmp 30) (.tmp 31) ?_ pm D.und i ?_ ?_ H.out.2.1 (by omega) k H.out.2.2.2.2.1 ?_); (rfl); (rfl); (rfl); (rfl)))
  go_upto_region 9 with (first | ((with_reducible refine wpList_load_mid ?_ 136 (.tmp 42) ?_ g (k * 257 + 1) ?_ (bvs b) _ H.out.2.2.2.2.2.1 Tryd.underlying136 rfl ?hi3 ?_); (rfl); (rfl); (rfl)) | ((with_reducible refine wpList_store_top ?_ 136 (.tmp 6) (.tmp 43) ?_ _ (bvs b).toArray _ ?_ ?_ ?hz4 ?hi4 (all_bvs _) ?_); (rfl); (rfl); (rfl); (rfl)))
  case hi3 => rw [info_block, bvs_length, H.out.2.2.2.2.2.2]
  case hz4 => simp [H.out.2.2.1, H.out.2.2.2.2.2.2]
  case hi4 => rw [info_block]; simp [H.out.2.2.2.2.2.2]
  go_frame
  go_wp2_with (first | ((with_reducible refine wpList_bytes_string ?_ 112 9 5 (.tmp 44) ?_ Tryd.underlying112 Tryd.underlying5 Tryd.underlying9 w.heap.size 0 256 256 b ?_ H.out.2.2.2.2.2.2.symm ?hc ?_); (rfl); (rfl); (rfl)))
  case hc => exact range_new _ _ _
  go_ret2
  exact ⟨congrArg (fun l : List UInt8 => Ending.returned (.tuple #[.string ⟨l.toArray⟩, .nilIface])) H.out.2.2.2.1.symm, (Fr.refl _ _).alloc _⟩

theorem read_off (w : World) (F : Nat → Prop) (p : Nat) (D : Dsk) (E : Nat → Addr) (hd : DiskAt w F p D) (i : Int) (h12 : ErrAt w E 12) (ho : D.off = true) :
    Calls Tryd.prog 26 #[.pointer (some ⟨p, 0, none⟩), .int .i64 i] w fun e w' => e = .returned (.tuple #[.string ⟨#[]⟩, errV E 12]) ∧ Fr noB w w' := by
  obtain ⟨c3, -⟩ := hd.cell
  have e12 : w.cell? ⟨2, 0, none⟩ = some (errV E 12) := h12
  rw [ho] at c3
  clear h12 hd ho
  go_enter Tryd.func26, Tryd.ntmps26
  go_wp2
  go_quiet (fail)
  all_goals go_wp2
  all_goals go_ret2
  all_goals exact ⟨rfl, (Fr.refl _ _).drewN _⟩
theorem read_out (w : World) (F : Nat → Prop) (p : Nat) (D : Dsk) (E : Nat → Addr) (hd : DiskAt w F p D) (i : Int) (h6 : ErrAt w E 6) (ho : D.off = false) (hh : D.has i = false) :
    Calls Tryd.prog 26 #[.pointer (some ⟨p, 0, none⟩), .int .i64 i] w fun e w' => e = .returned (.tuple #[.string ⟨#[]⟩, errV E 6]) ∧ Fr noB w w' := by
  have Hc := Lib.hid (has_any w F p D hd i)
  obtain ⟨c3, -⟩ := hd.cell
  have e6 : w.cell? ⟨3, 0, none⟩ = some (errV E 6) := h6
  rw [ho] at c3
  rw [hh] at Hc
  clear h6 hd ho hh
  go_enter Tryd.func26, Tryd.ntmps26
  go_wp2_with (first | (go_at_call 78; refine Hc.out.mono ?_; rintro e w' ⟨rfl, rfl⟩))
  go_quiet (fail)
  all_goals go_wp2
  all_goals go_ret2
  all_goals exact ⟨rfl, (Fr.refl _ _).drewN _⟩

theorem read_any (w : World) (F : Nat → Prop) (p : Nat) (D : Dsk) (E : Nat → Addr) (hd : DiskAt w F p D) (i : Int) (h12 : ErrAt w E 12) (h6 : ErrAt w E 6) :
    Calls Tryd.prog 26 #[.pointer (some ⟨p, 0, none⟩), .int .i64 i] w fun e w' => e = .returned (.tuple #[.string ⟨(D.readS i).toArray⟩, errV E (D.readE i)]) ∧ Fr noB w w' := by
  by_cases ho : D.off = true
  · have e1 : D.readS i = [] := by simp [Dsk.readS, ho]
    have e2 : D.readE i = 12 := by simp [Dsk.readE, ho]
    rw [e1, e2]
    exact read_off w F p D E hd i h12 ho
  have ho : D.off = false := by simpa using ho
  by_cases hh : D.has i = true
  · have hi : 0 ≤ i ∧ i < D.n := by simpa [Dsk.has] using hh
    obtain ⟨j, rfl⟩ := Int.eq_ofNat_of_zero_le hi.1
    have e1 : D.readS j = D.rd j := by simp [Dsk.readS, ho, hh]
    have e2 : D.readE j = 0 := by simp [Dsk.readE, ho, hh]
    rw [e1, e2]
    cases hl : lastIx D.und j with
    | none => exact read_none w F p D hd j ho (by omega) hl
    | some k => exact read_some w F p D hd j ho (by omega) k hl
  · have hh : D.has i = false := by simpa using hh
    have e1 : D.readS i = [] := by simp [Dsk.readS, ho, hh]
    have e2 : D.readE i = 6 := by simp [Dsk.readE, ho, hh]
    rw [e1, e2]
    exact read_out w F p D E hd i h6 ho hh
end Go.Proofs.YteklldbfdmaafaaDoor
