/-
  The disk's Write.
-/
import Derived.Test.YteklldbfdmaafaaDoorDisk3
import Derived.Test.YteklldbfdmaafaaDoorRegion
namespace Go.Proofs.YteklldbfdmaafaaDoor
open Go Go.RowKit

theorem built_write (v : Int) : Tryd.prog.built 138 [(0, .int .i64 v)] = some (.int .i64 v :: bvs (zs 256)).toArray := by kernel_rfl
theorem info_write : (Tryd.prog.info? 138).map (·.size) = some 257 := by kernel_rfl
theorem info_byte : (Tryd.prog.info? 5).map (·.size) = some 1 := by kernel_rfl
/-- a write's cells before its bytes are there -/
def rawWay (i : Nat) : List Value := .int .i64 i :: bvs (zs 256)
theorem rawWay_length (i : Nat) : (rawWay i).length = 257 := by rw [rawWay, List.length_cons, bvs_length, zs_length]
theorem rawWay_one (i : Nat) : (rawWay i).toArray.all (·.oneCell') = true := by
  rw [Array.all_eq_true_iff_forall_mem]
  intro v hv
  rcases List.mem_cons.1 (show v ∈ _ :: bvs _ by simpa only [List.mem_toArray, rawWay] using hv) with h | h
  · subst h; rfl
  · exact bvs_one _ v h
theorem wayCells_len (i : Nat) (s : List UInt8) (hs : s.length = 256) : (wayCells (i, s)).length = 257 := by simp [wayCells, hs]
theorem wayCells_one (x : Nat × List UInt8) : ∀ u ∈ wayCells x, u.oneCell' = true := by
  intro v hv
  rcases List.mem_cons.1 hv with h | h
  · subst h; rfl
  · exact bvs_one _ v h
theorem lay_way (i : Nat) (s : List UInt8) (hs : s.length = 256) : lay (rawWay i) 1 (bvs (s.take 256)) = wayCells (i, s) := by
  have : s.take 256 = s := List.take_of_length_le (by omega)
  rw [this]
  unfold lay rawWay wayCells
  rw [List.drop_eq_nil_of_le (by rw [List.length_cons, bvs_length, bvs_length, zs_length]; omega)]
  simp

theorem own_shape {w : World} {base : Nat} {e : TypeId} {size : Nat} {v : Value} {n : Nat} {xs : List Value} (h : w.ownsRow base e size v n xs) : ∃ a c, v = .slice a n c := by
  rcases h.2 with h | ⟨g, cap, cur, hv, _⟩
  · exact ⟨none, 0, by rw [h.1, h.2]⟩
  · exact ⟨_, _, hv⟩
/-- the blocks of F and the new ones -/
def grow (F : Nat → Prop) (w w' : World) : Nat → Prop := fun k => F k ∨ (w.heap.size ≤ k ∧ k < w'.heap.size)
def Dsk.push (D : Dsk) (i : Nat) (s : List UInt8) : Dsk := { D with und := D.und ++ [(i, s)] }
theorem Dsk.push_ok {D : Dsk} (h : D.ok) (i : Nat) (s : List UInt8) (hi : i < D.n) (hs : s.length = 256) : (D.push i s).ok := ⟨h.n1, h.n2, h.len, by
  intro x hx
  rcases List.mem_append.1 hx with hx | hx
  · exact h.und x hx
  · simp at hx; subst hx; exact ⟨hi, hs⟩, h.arm1, h.arm2⟩

/-- what the write's two statements leave: the new write lies behind the others -/
theorem pushed {w w1 w3 : World} {F : Nat → Prop} {p pd pm : Nat} {uv v' : Value} {D : Dsk} {i : Nat} {s : List UInt8} {A B : Obj}
    (hp : Blk w p [.slice (some ⟨pd, 0, none⟩) D.n D.n, uv, .map (some pm), .bool D.off, .int .i64 D.armed, .int .i64 D.writes, .int .i64 D.flushes, .int .i64 D.life] 134)
    (hpd : Blk w pd (bvs D.img) 136) (hu : w.ownsRow 0 138 257 uv D.und.length (undCells D.und)) (hm : LastAt w pm D.und)
    (hF : F p ∧ F pd ∧ F pm ∧ ∀ g, uv.ownBlock = some g → F g) (hb : ∀ k, F k → gB ≤ k ∧ k < w.heap.size) (hok : D.ok) (hi : i < D.n) (hs : s.length = 256)
    (hw1 : LastAt w1 pm (D.und ++ [(i, s)]) ∧ (w.alloc A).drew.grownBy w1 (some pm))
    (hw3 : w3.ownsRow 0 138 257 v' (D.und.length + 1) (undCells D.und ++ wayCells (i, s)) ∧ (w1.drew.alloc B).grownBy w3 uv.ownBlock ∧ (v'.ownBlock = uv.ownBlock ∨ v'.ownBlock = some (w1.drew.alloc B).heap.size)) :
    DiskAt (w3.setCell ⟨p, 1, none⟩ v') (grow F w (w3.setCell ⟨p, 1, none⟩ v')) p (D.push i s) ∧ Fr F w (w3.setCell ⟨p, 1, none⟩ v') ∧
      w3.cell? ⟨p, 1, none⟩ = some uv ∧ w3.frozen? ⟨p, 1, none⟩ = false := by
  have n1 : pd ≠ p := hpd.ne hp (by decide)
  have n2 : pm ≠ p := by obtain ⟨_, ⟨_, _, h, _⟩, _⟩ := hm; exact hp.ne_map h
  have n3 : pm ≠ pd := by obtain ⟨_, ⟨_, _, h, _⟩, _⟩ := hm; exact hpd.ne_map h
  have n4 : ∀ g, uv.ownBlock = some g → g ≠ p := fun g hg => hp.ne_row hu hg (by decide)
  have n5 : ∀ g, uv.ownBlock = some g → g ≠ pd := fun g hg => hpd.ne_row hu hg (by decide)
  have n6 : ∀ g, uv.ownBlock = some g → g ≠ pm := fun g hg => by
    obtain ⟨_, ⟨_, _, h, _⟩, _⟩ := hm
    intro e; subst e
    rcases hu.2 with h1 | ⟨g', cap, cur, hv, _, hh, _⟩
    · rw [h1.1] at hg; simp [Value.ownBlock] at hg
    · rw [hv] at hg; simp [Value.ownBlock] at hg; subst hg; rw [h] at hh; cases hh
  obtain ⟨hL, g1⟩ := hw1
  obtain ⟨ho, g3, hloc⟩ := hw3
  have s1 : w.heap.size + 1 ≤ w1.heap.size := by have := g1.size; simpa using this
  have s3 : w1.heap.size + 1 ≤ w3.heap.size := by have := g3.size; simpa using this
  have k1 : ∀ k, k < w.heap.size → k ≠ pm → w1.heap[k]? = w.heap[k]? := fun k hk hne =>
    (g1.block k (by simp; omega) (by simpa using hne)).trans (Below.heap_alloc w A k hk)
  have k3 : ∀ k, k < w1.heap.size → (∀ g, uv.ownBlock = some g → g ≠ k) → w3.heap[k]? = w1.heap[k]? := fun k hk hne =>
    (g3.block k (by simp; omega) (by intro e; exact hne k e.symm rfl)).trans (Below.heap_alloc w1.drew B k (by simpa using hk))
  have lp := hp.lt
  have lpd := hpd.lt
  have lpm := hm.lt
  have b3 : Blk w3 p _ _ := hp.keep ((k3 p (by omega) (fun g hg => n4 g hg)).trans (k1 p lp (Ne.symm n2)))
  have bd3 : Blk w3 pd _ _ := hpd.keep ((k3 pd (by omega) (fun g hg => n5 g hg)).trans (k1 pd lpd (Ne.symm n3)))
  have L3 : LastAt w3 pm _ := hL.keep (k3 pm (by omega) (fun g hg => n6 g hg))
  have hs4 : (w3.setCell ⟨p, 1, none⟩ v').heap.size = w3.heap.size := by simp [World.setCell]
  have q : ∀ k, k ≠ p → (w3.setCell ⟨p, 1, none⟩ v').heap[k]? = w3.heap[k]? := fun k hk => heap_setCell_other _ _ _ _ hk
  have hv' : ∀ g, v'.ownBlock = some g → g ≠ p ∧ grow F w (w3.setCell ⟨p, 1, none⟩ v') g := fun g hg => by
    have hlt := (ho.lt g hg).2
    rcases hloc with h | h
    · rw [h] at hg; exact ⟨n4 g hg, .inl (hF.2.2.2 g hg)⟩
    · rw [h] at hg
      simp at hg
      exact ⟨by omega, .inr ⟨by omega, by rw [hs4]; exact hlt⟩⟩
  refine ⟨⟨pd, pm, v', b3.set 1 v', bd3.keep (q _ n1), ?_, L3.keep (q _ n2), ⟨.inl hF.1, .inl hF.2.1, .inl hF.2.2.1, fun g hg => (hv' g hg).2⟩, ?_, Dsk.push_ok hok i s hi hs⟩, ?_, by rw [b3.cell]; rfl, b3.free 1⟩
  · have e : undCells (D.push i s).und = undCells D.und ++ wayCells (i, s) := by simp [undCells, Dsk.push]
    have e2 : (D.push i s).und.length = D.und.length + 1 := by simp [Dsk.push]
    rw [e, e2]
    exact ownsRow_keep ho (fun g hg => q g (hv' g hg).1)
  · intro k hk
    have := hb p hF.1
    rcases hk with hk | hk
    · have := hb k hk; rw [hs4]; omega
    · rw [hs4] at hk ⊢; omega
  · have f1 : Fr F w w1 := ((Fr.refl F w).alloc A).drew.grown g1 (fun k hk => by cases hk; exact .inl hF.2.2.1)
    have f3 : Fr F w w3 := (f1.drew.alloc B).grown g3 (fun k hk => .inl (hF.2.2.2 k hk))
    exact f3.setCell (.inl hF.1) _

set_option maxRecDepth 100000 in
set_option maxHeartbeats 400000 in
theorem write_ok (w : World) (F : Nat → Prop) (p : Nat) (D : Dsk) (E : Nat → Addr) (hd : DiskAt w F p D) (i : Nat) (s : List UInt8) (h12 : ErrAt w E 12) (hoff : D.off = false) (hi : i < D.n) (hs : s.length = 256) (hul : D.und.length < 1073741824) :
    Calls Tryd.prog 32 #[.pointer (some ⟨p, 0, none⟩), .int .i64 i, .string ⟨s.toArray⟩] w fun e w' => e = .returned (errV E (D.writeE i s)) ∧ ∃ F', DiskAt w' F' p (D.writeD i s) ∧ Fr F w w' ∧ ∀ k, F' k → F k ∨ w.heap.size ≤ k := by
  have hok := hd.good
  have hhas : D.has i = true := by simp [Dsk.has, hi]
  have Hc := Lib.hid (has_any w F p D hd i)
  rw [hhas] at Hc
  obtain ⟨c3, -⟩ := hd.cell
  rw [hoff] at c3
  have Hs := Lib.hid hs
  have hs1 : ((s.length : Int) != 256) = false := by rw [hs]; rfl
  have hb2 := hok.n2
  obtain ⟨pd, pm, uv, hp, hpd, hu, hm, hF, hb, -⟩ := hd
  have c1 : w.cell? ⟨p, 1, none⟩ = some uv := by rw [hp.cell]; rfl
  have c2 : w.cell? ⟨p, 2, none⟩ = some (.map (some pm)) := by rw [hp.cell]; rfl
  have huv : ∃ a c, uv = .slice a D.und.length c := by
    rcases hu.2 with h | ⟨g, cap, cur, hv, _⟩
    · exact ⟨none, 0, by rw [h.1, h.2]⟩
    · exact ⟨_, _, hv⟩
  obtain ⟨ua, uc, rfl⟩ := huv
  have lp := hp.lt
  have lm := hm.lt
  have npm : pm ≠ p := by obtain ⟨_, ⟨_, _, h, _⟩, _⟩ := hm; exact hp.ne_map h
  have f1 := hp.free 1
  have hoff' := Lib.hid hoff
  have Hp := Lib.hid hF.1
  have HD := Lib.hid (And.intro hp (And.intro hpd (And.intro hu (And.intro hm (And.intro hF (And.intro hb hok))))))
  have HU : Hid (w.ownsRow 0 138 257 (.slice ua D.und.length uc) D.und.length (undCells D.und) ∧ ∀ g, (Value.slice ua D.und.length uc).ownBlock = some g → g < w.heap.size ∧ g ≠ pm) :=
    ⟨hu, fun g hg => ⟨(hu.lt g hg).2, by
      obtain ⟨_, ⟨_, _, h, _⟩, _⟩ := hm
      intro e; subst e
      rcases hu.2 with h1 | ⟨g', cap, cur, hv, _, hh, _⟩
      · rw [h1.1] at hg; simp [Value.ownBlock] at hg
      · rw [hv] at hg; simp [Value.ownBlock] at hg; subst hg; rw [h] at hh; cases hh⟩⟩
  have HL : Hid (LastAt (w.alloc (.cells (wayCells (i, s)).toArray 138)).drew pm D.und) := hm.keep (Below.heap_alloc _ _ _ hm.lt)
  clear hok hhas hoff hs hp hpd hu hm hF hb
  go_enter Tryd.func32, Tryd.ntmps32
  go_upto_region 7 with (first | (go_at_call 78; refine Hc.out.mono ?_; rintro e w' ⟨rfl, rfl⟩))

  go_upto_region 8 with (first | ((with_reducible refine wpList_build_as ?_ 138 [(0, .tmp 22)] ?_ (rawWay i).toArray ?_ ?_); (rfl); (rfl); (exact built_write i)) | ((with_reducible refine wpList_store_top ?_ 138 (.tmp 7) (.tmp 23) ?_ _ (rawWay i).toArray _ ?_ ?_ (by rw [Tryd.zeroCells138_size, List.size_toArray, rawWay_length]) (by rw [info_write, List.size_toArray, rawWay_length]) (rawWay_one i) ?_); (rfl); (rfl); (rfl); (rfl)))
  go_frame
  go_upto_region 9 with (first | ((with_reducible refine wpList_copy_str_top ?_ (.tmp 25) (.tmp 26) 112 9 5 ?_ Tryd.underlying112 info_byte 1 256 256 s (rawWay i) (wayCells (i, s)) _ ?_ ?_ (by rw [rawWay_length]; simp [Hs.out]) (lay_way i s Hs.out) ?_); (rfl); (rfl); (rfl); (rfl)))
  go_frame
  refine wp_region_tail 10 (by kernel_rfl) (by kernel_rfl) ?_
  simp only [List.take_succ_cons, List.take_zero, List.drop_succ_cons, List.drop_zero]
  repeat still_step
  refine wpStill_nil ?_
  (with_reducible refine wpList_update_last ?_ (.tmp 31) (.tmp 32) (.tmp 37) ?_ pm D.und i s ?_ ?_ ?_ HL.out (by omega) hul ?_); rfl; rfl; rfl; rfl; rfl
  intro w1 hw1
  have hsz : (w.alloc (.cells (wayCells (i, s)).toArray 138)).drew.heap.size = w.heap.size + 1 := by simp
  have hk : ∀ k, k ≤ w.heap.size → k ≠ pm → w1.heap[k]? = (w.alloc (.cells (wayCells (i, s)).toArray 138)).heap[k]? := fun k h1 h2 => hw1.out.2.block k (by rw [hsz]; omega) (by simpa using h2)
  have d1 : w1.cell? ⟨p, 1, none⟩ = some (.slice ua D.und.length uc) := by
    rw [World.cell?_of_block (hk p (by omega) (by omega)), ← c1]; exact World.cell?_of_block (Below.heap_alloc _ _ _ lp)
  have e1 : w1.frozen? ⟨p, 1, none⟩ = false := by
    rw [World.frozen?_of_block (hk p (by omega) (by omega)), ← f1]; exact World.frozen?_of_block (Below.heap_alloc _ _ _ lp)
  have Hr : Hid (w1.rangeAt w.heap.size 0 (wayCells (i, s))) := fun j v hj => (World.cell?_of_block (w := w.alloc _) (hk w.heap.size (by omega) (by omega))).trans (range_new w _ _ j v hj)
  have hk1 : p < w1.heap.size := by have := hw1.out.2.size; rw [hsz] at this; omega
  have HO : Hid ((w1.drew.alloc (.cells (wayCells (i, s)).toArray 138)).ownsRow 0 138 257 (.slice ua D.und.length uc) D.und.length (undCells D.und)) := by
    refine ownsRow_keep (w := w) HU.out.1 (fun g hg => ?_)
    have h2 := HU.out.2 g hg
    have h3 := hw1.out.2.size
    rw [hsz] at h3
    exact (Below.heap_alloc w1.drew _ g (by simpa using (by omega : g < w1.heap.size))).trans ((hk g (by omega) h2.2).trans (Below.heap_alloc _ _ _ h2.1))
  have Hk := Lib.hid hk
  clear hk
  go_upto_region 10 with (fail)
  refine wp_region_reads 6 7 (fun w' => w'.cell? ⟨p, 1, none⟩ = some (.slice ua D.und.length uc) ∧ w'.rangeAt w.heap.size 0 (wayCells (i, s))) (by kernel_rfl) ?hBB ?hQQ ?hSS ?hMM
  case hBB => kernel_rfl
  case hQQ => intro c a d v w h; cases d <;> exact h
  case hSS => exact ⟨d1, Hr.out⟩
  simp only [List.take_succ_cons, List.take_zero, List.drop_succ_cons, List.drop_zero, Nat.reduceSub]
  refine readsT_move rfl _ rfl (.pointer (some ⟨p, 0, none⟩)) rfl ?_
  go_frame
  refine readsT_move rfl _ rfl (.pointer (some ⟨p, 0, none⟩)) rfl ?_
  go_frame
  refine readsT_pure rfl rfl (.pointer (some ⟨p, 0, none⟩)) (fun w' => by go_simp) ?_
  go_frame
  refine readsT_pure rfl rfl (.pointer (some ⟨p, 1, none⟩)) (fun w' => by go_simp) ?_
  go_frame
  refine readsT_load rfl rfl (.slice ua D.und.length uc) (fun w' hS => by have hS1 := hS.1; clear hS; go_simp) ?_
  go_frame
  refine readsT_load_mid rfl 138 (.tmp 7) rfl w.heap.size 0 rfl (wayCells (i, s)) _ (fun w' hS => hS.2) Tryd.underlying138 rfl (by rw [info_write, wayCells_len _ _ Hs.out]) ?_
  go_frame
  unfold readsT
  refine earlyT_step rfl (wp_buildSlice_one 131 138 (.tmp 43) rfl Tryd.underlying131 257 (by kernel_rfl) (.agg (wayCells (i, s)).toArray) rfl (wayCells (i, s)).toArray rfl (by rw [List.size_toArray, wayCells_len _ _ Hs.out]) (by omega) (by omega) ⟨?_, ?_⟩)
  · exact ⟨(World.cell?_of_block (w := w1.drew) (Below.heap_alloc _ _ _ (by have := hk1; simpa using this))).trans d1, World.rangeAt_alloc Hr.out _⟩
  unfold earlyT
  go_frame
  have hB : (w1.drew.alloc (.cells (wayCells (i, s)).toArray 138)).rangeAt w1.heap.size 0 (wayCells (i, s)) := range_new w1.drew _ _
  (with_reducible refine wpList_append_row ?_ (.tmp 42) (.tmp 44) 131 138 ?_ Tryd.underlying131 257 264 (by kernel_rfl) (by omega) (.slice ua D.und.length uc) D.und.length (undCells D.und) ?_ HO.out w1.heap.size 0 1 1 (wayCells (i, s)) ?_ (by rw [wayCells_len _ _ Hs.out]) hB (wayCells_one _) (by unfold maxLen; omega) (by omega) ?_); rfl; rfl; rfl; rfl
  intro vn w3 hw3
  obtain ⟨va, vc, rfl⟩ := own_shape hw3.out.1
  have HP := Lib.hid (pushed HD.out.1 HD.out.2.1 HD.out.2.2.1 HD.out.2.2.2.1 HD.out.2.2.2.2.1 HD.out.2.2.2.2.2.1 HD.out.2.2.2.2.2.2 hi Hs.out hw1.out hw3.out)
  have d3 := HP.out.2.2.1
  have e3 := HP.out.2.2.2
  go_frame
  go_upto_region 11 with (fail)
  obtain ⟨D1, hD1⟩ : ∃ D1, D1 = D.push i s := ⟨_, rfl⟩
  obtain ⟨w4, hw4⟩ : ∃ w4, w4 = w3.setCell ⟨p, 1, none⟩ (.slice va (D.und.length + 1) vc) := ⟨_, rfl⟩
  have G := goes_any w4 (grow F w w4) p D1 (by rw [hw4, hD1]; exact HP.out.1)
  rw [← hw4]
  have hdd : D1.dead = D.dead := by rw [hD1]; rfl
  rw [hdd] at G
  have HF4 : Hid (Fr F w w4) := by rw [hw4]; exact HP.out.2.1
  have HD1 := Lib.hid hD1
  have h12' := h12
  have hh12 : ErrAt w4 E 12 := h12.keep HF4.out (fun k hk => (HD.out.2.2.2.2.2.1 k hk).1) (by decide)
  have HE : Hid (D.writeE i s = if D.dead then 12 else 0) := by
    have h1 : D.off = false := hoff'.out
    have h2 : D.has i = true := by simp [Dsk.has, hi]
    show _ = _
    simp [Dsk.writeE, h1, h2, Hs.out]
  have HW : Hid (D.writeD i s = if D.dead then D1.gone else { D1.gone with writes := w64 (D1.gone.writes + 1) }) := by
    have h1 : D.off = false := hoff'.out
    have h2 : D.has i = true := by simp [Dsk.has, hi]
    show _ = _
    rw [HD1.out]
    simp [Dsk.writeD, h1, h2, Hs.out, Dsk.push]
  have Hgr : Hid (∀ w', Fr (grow F w w4) w4 w' → Fr F w w') := fun w' h => HF4.out.trans h (fun k hk => hk.imp id (fun q => q.1))
  have Hb := Lib.hid HD.out.2.2.2.2.2.1
  clear hD1 hdd hw4 HP hw3 hw1 HO d1 e1 d3 e3 c1 c2 c3 f1 HL HU h12' HD hB
  by_cases hdead : D.dead = true
  · rw [hdead] at G
    have GH := Lib.hid G
    have Hdead := Lib.hid hdead
    have H12 := Lib.hid hh12
    clear G hdead hh12
    go_upto_region 12 with (go_at_call 76; refine GH.out.mono ?_; rintro e w5 ⟨rfl, hd5⟩; have Hd5 := Lib.hid hd5; have e12 : w5.cell? ⟨2, 0, none⟩ = some (errV E 12) := (H12.out.keep hd5.2 (fun k hk => by rcases hk with hk | hk; exact (Hb.out k hk).1; have := (Hb.out p Hp.out).1; omega) (by decide)); clear hd5)
    go_wp2
    go_ret
    refine ⟨show Ending.returned (errV E 12) = .returned (errV E (D.writeE i s)) from by rw [HE.out, Hdead.out]; rfl, grow F w w4, ?_, Hgr.out _ Hd5.out.2, fun k hk => hk.imp id (fun q => q.1)⟩
    rw [HW.out, Hdead.out]; exact Hd5.out.1
  · have hdead : D.dead = false := by simpa using hdead
    rw [hdead] at G
    have GH := Lib.hid G
    have Hdead := Lib.hid hdead
    clear G hdead hh12
    go_upto_region 13 with (go_at_call 76; refine GH.out.mono ?_; rintro e w5 ⟨rfl, hd5⟩; have c5 := hd5.1.cell.2.2.1; have f5 := hd5.1.cell.2.2.2.2.2 5; have Hd5 := Lib.hid hd5; clear hd5)
    go_wp2
    go_ret
    refine ⟨show Ending.returned Value.nilIface = .returned (errV E (D.writeE i s)) from by rw [HE.out, Hdead.out]; rfl, grow F w w4, ?_, Hgr.out _ (Hd5.out.2.setCell (.inl (.inl Hp.out)) _), fun k hk => hk.imp id (fun q => q.1)⟩
    rw [HW.out, Hdead.out]
    simp only [Bool.false_eq_true, if_false]
    refine Hd5.out.1.store 5 _ _ rfl rfl rfl (fun a u m => ?_) ?_
    · rfl
    · have := Hd5.out.1.good; exact ⟨this.n1, this.n2, this.len, this.und, this.arm1, this.arm2⟩
end Go.Proofs.YteklldbfdmaafaaDoor
