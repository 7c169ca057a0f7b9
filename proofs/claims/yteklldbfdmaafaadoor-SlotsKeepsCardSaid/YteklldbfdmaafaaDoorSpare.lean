/-
  The law's 'spare': a fate whose Kept has spare room.
-/
import Derived.Test.YteklldbfdmaafaaDoorSect
namespace Go.Proofs.YteklldbfdmaafaaDoor
open Go Go.RowKit

theorem info_bool3 : (Tryd.prog.info? 4).map (fun i => (i.zero.map (·.cells.size), i.size, i.bytes)) = some (some 1, 1, 1) := by kernel_rfl
theorem bools_one (l : List Bool) : ∀ u ∈ l.map Value.bool, u.oneCell' = true := by
  intro u hu; obtain ⟨b, _, rfl⟩ := List.mem_map.1 hu; rfl

theorem own_shape' {w : World} {base : Nat} {e : TypeId} {size : Nat} {v : Value} {n : Nat} {xs : List Value} (h : w.ownsRow base e size v (0 + n) xs) : ∃ a c, v = .slice a n c := by
  rw [Nat.zero_add] at h; exact own_shape h
theorem own_heap {w w' : World} {base : Nat} {e : TypeId} {size : Nat} {v : Value} {n : Nat} {xs : List Value} (h : w.ownsRow base e size v n xs) (hk : ∀ k, v.ownBlock = some k → w'.heap[k]? = w.heap[k]?) : w'.ownsRow base e size v n xs := by
  refine ⟨h.1, ?_⟩
  rcases h.2 with hn | ⟨g, cap, cur, rfl, hb, hgg, rest⟩
  · exact .inl hn
  · exact .inr ⟨g, cap, cur, rfl, hb, (hk g rfl).trans hgg, rest⟩
set_option maxRecDepth 100000 in
set_option maxHeartbeats 1000000 in
theorem spare_any (w : World) (kv : Value) (kept : List Bool) (torn bytes : Int) (hk : BoolsAt w kv kept) (hkl : kept.length ≤ 4294967296) :
    Calls Tryd.prog 28 #[.agg #[kv, .int .i64 torn, .int .i64 bytes]] w fun e w' => ∃ (g c : Nat), e = .returned (.tuple #[.agg #[.slice (some ⟨g, 0, none⟩) kept.length c, .int .i64 torn, .int .i64 bytes], .slice (some ⟨g, 0, none⟩) (kept.length + 3) c]) ∧
      w.heap.size ≤ g ∧ w'.ownsRow 0 4 1 (.slice (some ⟨g, 0, none⟩) (kept.length + 3) c) (kept.length + 3) ((kept ++ [true, false, true]).map .bool) ∧ Fr noB w w' := by
  obtain ⟨ka, kc, rfl, hkc, hka, -⟩ := hk
  have HK := Lib.hid (And.intro hkc hka)
  obtain ⟨wa, hwa⟩ : ∃ wa : World, wa = ((w.alloc (.cells #[.slice ka kept.length kc, .int .i64 torn, .int .i64 bytes] 25)).alloc (.cells #[.slice none 0 0, .int .i64 0, .int .i64 0] 25)).alloc (.cells #[] 4) := ⟨_, rfl⟩
  have HO : Hid (wa.ownsRow 0 4 1 (.slice (some ⟨w.heap.size + 2, 0, none⟩) 0 0) 0 []) := by
    refine ⟨rfl, .inr ⟨w.heap.size + 2, 0, #[], rfl, Nat.zero_le _, ?_, Nat.le_refl _, by unfold maxLen; omega, rfl, rfl⟩⟩
    rw [hwa]
    have := heap_alloc_new ((w.alloc (.cells #[.slice ka kept.length kc, .int .i64 torn, .int .i64 bytes] 25)).alloc (.cells #[.slice none 0 0, .int .i64 0, .int .i64 0] 25)) (.cells #[] 4)
    simpa using this
  have Hn : Hid (0 < kept.length → ∃ b o, ka = some ⟨b, o, none⟩ ∧ wa.rangeAt b o (kept.map .bool)) := fun h => by
    obtain ⟨b, o, h1, _, h3⟩ := HK.out.1 (by intro e; rw [e] at h; simp at h)
    exact ⟨b, o, h1, by rw [hwa]; exact World.rangeAt_alloc (World.rangeAt_alloc (World.rangeAt_alloc h3 _) _) _⟩
  have HF : Hid (Blk wa (w.heap.size + 1) [.slice none 0 0, .int .i64 0, .int .i64 0] 25 ∧ Blk wa w.heap.size [.slice ka kept.length kc, .int .i64 torn, .int .i64 bytes] 25 ∧ Fr noB w wa ∧ wa.heap.size = w.heap.size + 3) := by
    rw [hwa]
    refine ⟨?_, ?_, (((Fr.refl _ _).alloc _).alloc _).alloc _, by simp⟩
    · have := heap_alloc_new (w.alloc (.cells #[.slice ka kept.length kc, .int .i64 torn, .int .i64 bytes] 25)) (.cells #[.slice none 0 0, .int .i64 0, .int .i64 0] 25)
      exact (Below.heap_alloc _ _ _ (by simp)).trans (by simpa using this)
    · exact (Below.heap_alloc _ _ _ (by simp; omega)).trans ((Below.heap_alloc _ _ _ (by simp)).trans (heap_alloc_new w _))
  have Hwa := Lib.hid hwa
  have H3 : Hid (∀ u ∈ [Value.bool true, Value.bool false, Value.bool true], u.oneCell' = true) := bools_one [true, false, true]
  clear hkc hka hwa
  go_enter Tryd.func28, Tryd.ntmps28
  go_wp2_with (first | ((with_reducible refine wpList_append_any ?_ (.tmp 5) (.tmp 7) 23 4 ?_ Tryd.underlying23 1 1 info_bool3 (by omega) (.slice (some ⟨w.heap.size + 2, 0, none⟩) 0 0) 0 [] ?_ (Hwa.out ▸ HO.out) ka kept.length kc (kept.map .bool) ?_ (by simp) (Hwa.out ▸ Hn.out) HK.out.2 (bools_one _) (by unfold maxLen; omega) (by omega) ?_); (rfl); (rfl); (rfl); (rfl); (intro v1 w1 hw1; obtain ⟨a1, c1, rfl⟩ := own_shape' hw1.out.1; have HO1 : Hid (w1.ownsRow 0 4 1 (.slice a1 kept.length c1) kept.length (kept.map .bool)) := (by have h := hw1.out.1; rw [Nat.zero_add, List.nil_append] at h; exact h))) | ((with_reducible refine wpList_append_row ?_ (.tmp 8) (.tmp 9) 23 4 ?_ Tryd.underlying23 1 1 info_bool3 (by omega) (.slice a1 kept.length c1) kept.length (kept.map .bool) ?_ (HO1.out.alloc _) w1.heap.size 0 3 3 [.bool true, .bool false, .bool true] ?_ rfl (range_new w1 _ _) H3.out (by unfold maxLen; omega) (by omega) ?_); (rfl); (rfl); (rfl); (rfl); (intro v2 w2 hw2; obtain ⟨g, c2, rfl, hg2, hr2⟩ := own_range hw2.out.1 (by omega))))
  have hsz := HF.out.2.2.2
  have g1 := hw1.out.2.1
  have g2 := hw2.out.2.1
  rw [← Hwa.out] at g1
  have hloc1 := hw1.out.2.2
  rw [← Hwa.out, hsz] at hloc1
  have hn1 : ∀ q, (Value.slice a1 kept.length c1).ownBlock = some q → w.heap.size + 2 ≤ q := fun q hq => by
    rcases hloc1 with h | h <;> rw [h] at hq <;> simp [Value.ownBlock] at hq <;> omega
  have hs1 : w.heap.size + 3 ≤ w1.heap.size := by have := g1.size; omega
  have hk : ∀ k, k ≤ w.heap.size + 1 → w2.heap[k]? = wa.heap[k]? := fun k hk =>
    ((g2.block k (by simp; omega) (by intro e; have := hn1 k e.symm; omega)).trans (Below.heap_alloc _ _ _ (by omega))).trans (g1.block k (by omega) (by simp [Value.ownBlock]; omega))
  have hgs : w.heap.size + 2 ≤ g := by
    rcases hw2.out.2.2 with h | h
    · exact hn1 g (by rw [← h]; rfl)
    · simp [Value.ownBlock] at h; omega
  have HB1 : Hid (Blk w2 (w.heap.size + 1) [.slice none 0 0, .int .i64 0, .int .i64 0] 25) := HF.out.1.keep (hk _ (by omega))
  have HB0 : Hid (Blk w2 w.heap.size [.slice ka kept.length kc, .int .i64 torn, .int .i64 bytes] 25) := HF.out.2.1.keep (hk _ (by omega))
  have HFr : Hid (Fr noB w w2) := (((HF.out.2.2.1.grown g1 (fun k hk => by simp [Value.ownBlock] at hk; exact .inr (by omega))).alloc _).grown g2 (fun k hk => .inr (by have := hn1 k hk; omega)))
  have hcap : kept.length + 3 ≤ c2 := by
    rcases hw2.out.1.2 with h | ⟨g', cap, cur, hv, _, _, h4, _⟩
    · cases h.1
    · cases hv; exact h4
  have hcapM : c2 ≤ 9223372036854775807 := by
    rcases hw2.out.1.2 with h | ⟨g', cap, cur, hv, _, _, _, h5, _⟩
    · cases h.1
    · cases hv; exact h5
  have hc0 : (0 : Int) ≤ (kept.length : Int) := by omega
  have hc1 : (kept.length : Int) ≤ (c2 : Int) := by omega
  have HW2 := Lib.hid hw2.out.1
  have HB1d : Hid (Blk w2.drew (w.heap.size + 1) [.slice none 0 0, .int .i64 0, .int .i64 0] 25) := HB1.out
  have H6 : Hid (0 + ([.slice (some ⟨g, 0, none⟩) kept.length c2, .int .i64 torn, .int .i64 bytes] : List Value).length ≤ ([.slice none 0 0, .int .i64 0, .int .i64 0] : List Value).length) := Nat.le_refl 3
  have H5 : Hid (∀ v ∈ ([.slice (some ⟨g, 0, none⟩) kept.length c2, .int .i64 torn, .int .i64 bytes] : List Value), v.oneCell' = true) := by
    intro v hv
    rcases List.mem_cons.1 hv with h | hv
    · subst h; rfl
    rcases List.mem_cons.1 hv with h | hv
    · subst h; rfl
    rcases List.mem_cons.1 hv with h | hv
    · subst h; rfl
    cases hv
  clear hk hn1 hloc1 g1 g2 hw1 hw2 HO1 hr2 H3 HF HO Hn Hwa HK hs1 hsz
  refine wp_region_reads 11 11 (fun w' => w'.cell? ⟨w.heap.size, 0, none⟩ = some (.slice ka kept.length kc) ∧ w'.cell? ⟨w.heap.size, 1, none⟩ = some (.int .i64 torn) ∧ w'.cell? ⟨w.heap.size, 2, none⟩ = some (.int .i64 bytes)) (by kernel_rfl) ?_ ?_ ⟨HB0.out.cell 0, HB0.out.cell 1, HB0.out.cell 2⟩ ?_
  · kernel_rfl
  · intro c a d v w h; cases d <;> exact h
  simp only [List.take_succ_cons, List.take_zero, List.drop_succ_cons, List.drop_zero, Nat.reduceSub]
  refine readsT_move rfl _ rfl (.slice (some ⟨g, 0, none⟩) (kept.length + 3) c2) rfl ?_
  go_frame
  refine readsT_pure rfl rfl (.pointer (some ⟨w.heap.size, 0, none⟩)) (fun w' => by go_simp) ?_
  go_frame
  refine readsT_load rfl rfl (.slice ka kept.length kc) (fun w' hS => by have hS1 := hS.1; clear hS; go_simp) ?_
  go_frame
  refine readsT_pure rfl rfl (.int .i64 kept.length) (fun w' => by go_simp) ?_
  go_frame
  refine readsT_pure rfl rfl (.slice (some ⟨g, 0, none⟩) kept.length c2) (fun w' => by go_simp) ?_
  go_frame
  refine readsT_pure rfl rfl (.pointer (some ⟨w.heap.size, 1, none⟩)) (fun w' => by go_simp) ?_
  go_frame
  refine readsT_load rfl rfl (.int .i64 torn) (fun w' hS => by have hS1 := hS.2.1; clear hS; go_simp) ?_
  go_frame
  refine readsT_pure rfl rfl (.pointer (some ⟨w.heap.size, 2, none⟩)) (fun w' => by go_simp) ?_
  go_frame
  refine readsT_load rfl rfl (.int .i64 bytes) (fun w' hS => by have hS1 := hS.2.2; clear hS; go_simp) ?_
  go_frame
  refine readsT_pure rfl rfl (.agg [.slice (some ⟨g, 0, none⟩) kept.length c2, .int .i64 torn, .int .i64 bytes].toArray) (fun w' => by go_simp) ?_
  go_frame
  refine readsT_move rfl _ rfl (.slice (some ⟨g, 0, none⟩) (kept.length + 3) c2) rfl ?_
  go_frame
  unfold readsT earlyT
  (with_reducible refine wpList_store_lay ?_ 25 (.tmp 2) (.tmp 20) ?_ (w.heap.size + 1) 0 _ [.slice (some ⟨g, 0, none⟩) kept.length c2, .int .i64 torn, .int .i64 bytes] 25 ?_ ?_ HB1d.out H6.out (by kernel_rfl) H5.out ?_); rfl; rfl; rfl; rfl
  have HF3 : Hid (∀ cs, Fr noB w (w2.drew.setRow (w.heap.size + 1) cs)) := fun cs => (HFr.out.drew).setRow (.inr (by omega)) cs
  have HB3 := HB1d.out.row (lay [.slice none 0 0, .int .i64 0, .int .i64 0] 0 [.slice (some ⟨g, 0, none⟩) kept.length c2, .int .i64 torn, .int .i64 bytes])
  have HW3 : Hid (∀ cs, (w2.drew.setRow (w.heap.size + 1) cs).ownsRow 0 4 1 (.slice (some ⟨g, 0, none⟩) (kept.length + 3) c2) (kept.length + 3) ((kept ++ [true, false, true]).map .bool)) := fun cs => by
    have e : (kept ++ [true, false, true]).map Value.bool = kept.map .bool ++ [.bool true, .bool false, .bool true] := by simp
    rw [e]
    refine own_heap HW2.out fun k hk => ?_
    obtain rfl : g = k := by simpa [Value.ownBlock] using hk
    exact setRow_other _ _ _ _ (by omega)
  have c0 := HB3.cell 0
  have c1 := HB3.cell 1
  have c2' := HB3.cell 2
  have hlay : lay ([.slice none 0 0, .int .i64 0, .int .i64 0] : List Value) 0 [.slice (some ⟨g, 0, none⟩) kept.length c2, .int .i64 torn, .int .i64 bytes] = [.slice (some ⟨g, 0, none⟩) kept.length c2, .int .i64 torn, .int .i64 bytes] := rfl
  rw [hlay] at c0 c1 c2'
  simp only [List.getElem?_cons_zero, List.getElem?_cons_succ] at c0 c1 c2'
  rw [hlay]
  go_wp2
  refine bodyPost_ret (v := .tuple #[.agg #[.slice (some ⟨g, 0, none⟩) kept.length c2, .int .i64 torn, .int .i64 bytes], .slice (some ⟨g, 0, none⟩) (kept.length + 3) c2]) (by simp [results, Tryd.results28, go_sem, c0, c1, c2']) rfl ⟨g, c2, rfl, by omega, HW3.out _, HF3.out _⟩
end Go.Proofs.YteklldbfdmaafaaDoor
