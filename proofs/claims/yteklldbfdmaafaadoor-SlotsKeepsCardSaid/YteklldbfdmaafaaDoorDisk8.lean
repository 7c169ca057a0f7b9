/-
  The disk's Image.
-/
import Derived.Test.YteklldbfdmaafaaDoorDisk7
namespace Go.Proofs.YteklldbfdmaafaaDoor
open Go Go.RowKit

theorem info_byte3 : (Tryd.prog.info? 5).map (fun i => (i.zero.map (·.cells.size), i.size, i.bytes)) = some (some 1, 1, 1) := by kernel_rfl

set_option maxRecDepth 100000 in
set_option maxHeartbeats 1000000 in
theorem image_any (w : World) (F : Nat → Prop) (p : Nat) (D : Dsk) (hd : DiskAt w F p D) :
    Calls Tryd.prog 27 #[.pointer (some ⟨p, 0, none⟩)] w fun e w' => e = .returned (.string ⟨D.img.toArray⟩) ∧ Fr noB w w' := by
  obtain ⟨pd, pm, uv, hp, hpd, hu, hm, hF, hb, hok⟩ := hd
  have c0 : w.cell? ⟨p, 0, none⟩ = some (.slice (some ⟨pd, 0, none⟩) D.n D.n) := by rw [hp.cell]; rfl
  have lp := hp.lt
  have b2 := hok.n2
  have HI := Lib.hid (And.intro hpd hok)
  clear hp hpd hu hm hF hb hok
  go_enter Tryd.func27, Tryd.ntmps27
  go_upto_region 2 with (first | ((with_reducible refine wpList_make_empty ?_ (.const (.int .i64 0)) (.tmp 11) 112 5 ?_ Tryd.underlying112 1 1 info_byte3 ((D.n : Int) * 256) (D.n * 256) ?_ ?_ (by omega) (by omega) (by unfold maxLen; omega) ?_); (rfl); (rfl); (rfl); (rfl); (intro w1 hw1)))
  have sz1 : w.heap.size ≤ w1.heap.size := hw1.out.2.size
  have d0 : w1.cell? ⟨p, 0, none⟩ = some (.slice (some ⟨pd, 0, none⟩) D.n D.n) := (World.cell?_of_block (hw1.out.2.block p lp (by simp))).trans c0
  clear c0
  go_wp2_with (fail)
  go_loopw [3, 18] (fun v x wr => ∃ k : Nat, k ≤ D.n ∧ x = .int .i64 k ∧ (∃ a c, v = .slice a (k * 256) c) ∧ Hid (wr.ownsRow 0 5 1 v (k * 256) (bvs (D.img.take (k * 256))) ∧ Fr noB w wr ∧ ∀ g, v.ownBlock = some g → w.heap.size ≤ g)) (fun _ x _ => D.n - (intOf x).toNat)
  case atStart => exact ⟨0, Nat.zero_le _, rfl, ⟨_, _, by rw [Nat.zero_mul]⟩, by rw [Nat.zero_mul, List.take_zero]; exact hw1.out.1, (Fr.refl _ _).grown hw1.out.2 (fun k hk => by cases hk), fun g hg => by cases hg; exact Nat.le_refl _⟩
  case round =>
    obtain ⟨k, hk, rfl, ⟨va, vc, rfl⟩, HR⟩ := hrel
    have hokl := HI.out.2.len
    by_cases hlt : k < D.n
    · obtain ⟨bs, hbs⟩ : ∃ bs, bs = cut D.img (k * 256) 256 := ⟨_, rfl⟩
      have Hbl : Hid (bs.length = 256) := by rw [hbs]; exact cut_length _ _ _ (by omega)
      have HRg : Hid (wr.rangeAt pd (k * 256) (bvs bs)) := by
        intro z v hz
        have h1 := HI.out.1.range (o := k * 256) (n := 256)
        rw [bvs_drop, bvs_take] at h1
        rw [hbs] at hz
        rw [HR.out.2.1.cell (a := ⟨pd, k * 256 + z, none⟩) HI.out.1.lt id]
        exact h1 z v hz
      have Htk : Hid (D.img.take ((k + 1) * 256) = D.img.take (k * 256) ++ bs) := by
        rw [hbs]; show _ = _; rw [cut, Nat.succ_mul, List.take_add]
      have HO : Hid ((wr.alloc (.cells (bvs bs).toArray 136)).ownsRow 0 5 1 (.slice va (k * 256) vc) (k * 256) (bvs (D.img.take (k * 256)))) := HR.out.1.alloc _
      have HN := Lib.hid (range_new wr (bvs bs) 136)
      clear hbs hokl
      go_upto_region 5 with (first | ((with_reducible refine wpList_load_mid ?_ 136 (.tmp 20) ?_ pd (k * 256) ?_ (bvs bs) _ HRg.out Tryd.underlying136 rfl (by rw [info_block, bvs_length, Hbl.out]) ?_); (rfl); (rfl); (rfl)) | ((with_reducible refine wpList_store_top ?_ 136 (.tmp 5) (.tmp 21) ?_ _ (bvs bs).toArray _ ?_ ?_ (by rw [Tryd.zeroCells136_size, List.size_toArray, bvs_length, Hbl.out]) (by rw [info_block, List.size_toArray, bvs_length, Hbl.out]) (all_bvs _) ?_); (rfl); (rfl); (rfl); (rfl)))
      go_frame
      go_upto_region 6 with ((with_reducible refine wpList_append_row ?_ (.tmp 22) (.tmp 23) 112 5 ?_ Tryd.underlying112 1 1 info_byte3 (by omega) (.slice va (k * 256) vc) (k * 256) (bvs (D.img.take (k * 256))) ?_ HO.out wr.heap.size 0 256 256 (bvs bs) ?_ (by rw [bvs_length, Hbl.out]) HN.out (bvs_one _) (by unfold maxLen; omega) (by omega) ?_); (rfl); (rfl); (rfl); (rfl); (intro v2 w2 hw2))
      go_wp2
      go_roundw
      case rel =>
        obtain ⟨h1, h2, h3⟩ := hw2
        refine ⟨k + 1, by omega, by go_num, ?_, ?_, ?_, ?_⟩
        · rw [Nat.succ_mul]; exact own_shape h1
        · rw [Htk.out, bvs_append, Nat.succ_mul]; exact h1
        · exact (HR.out.2.1.alloc _).grown h2 (fun g hg => .inr (HR.out.2.2 g hg))
        · intro g hg
          have := HR.out.2.1.size
          rcases h3 with h3 | h3
          · rw [h3] at hg; exact HR.out.2.2 g hg
          · rw [h3] at hg; simp at hg; omega
      case measure => simp [intOf]; omega
    · have hkk : k = D.n := by omega
      have n1 := HI.out.2.n1
      subst hkk
      obtain ⟨g, cap, hv, _, hg⟩ := own_range HR.out.1 (by omega)
      cases hv
      have Hg : Hid (wr.rangeAt g 0 (bvs D.img)) := by
        have e : D.img.take (D.n * 256) = D.img := List.take_of_length_le (by omega)
        rw [e] at hg; exact hg
      have Hl : Hid (D.n * 256 = D.img.length) := by show _ = _; omega
      clear hg hokl
      go_wp2_with ((with_reducible refine wpList_bytes_string ?_ 112 9 5 (.tmp 26) ?_ Tryd.underlying112 Tryd.underlying5 Tryd.underlying9 g 0 (D.n * 256) vc D.img ?_ Hl.out Hg.out ?_); (rfl); (rfl); (rfl))
      go_ret
      exact ⟨rfl, HR.out.2.1⟩
end Go.Proofs.YteklldbfdmaafaaDoor
