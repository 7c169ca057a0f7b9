/-
  The disk's Flush.
-/
import Derived.Test.YteklldbfdmaafaaDoorDisk5
namespace Go.Proofs.YteklldbfdmaafaaDoor
open Go Go.RowKit

/-- the flush's loop behind k writes -/
structure Flushing (w : World) (F : Nat → Prop) (p pd pm : Nat) (uv : Value) (D : Dsk) (img : List UInt8) (wr : World) : Prop where
  hp : Blk wr p [.slice (some ⟨pd, 0, none⟩) D.n D.n, uv, .map (some pm), .bool D.off, .int .i64 D.armed, .int .i64 D.writes, .int .i64 D.flushes, .int .i64 D.life] 134
  hpd : Blk wr pd (bvs img) 136
  hu : wr.ownsRow 0 138 257 uv D.und.length (undCells D.und)
  hm : LastAt wr pm D.und
  fr : Fr F w wr

theorem bvs_lay (img b : List UInt8) (o : Nat) : lay (bvs img) o (bvs b) = bvs (lay img o b) := by simp [lay, bvs, List.map_take, List.map_drop]

theorem Flushing.next {w wr : World} {F : Nat → Prop} {p pd pm : Nat} {uv : Value} {D : Dsk} {img : List UInt8} (h : Flushing w F p pd pm uv D img wr) (hF : F pd) (O : Obj) (j : Nat) (b : List UInt8) :
    Flushing w F p pd pm uv D (lay img j b) ((wr.alloc O).drew.setRow pd (bvs (lay img j b)).toArray) := by
  obtain ⟨hp, hpd, hu, hm, fr⟩ := h
  have n1 : p ≠ pd := hp.ne hpd (by decide)
  have n3 : pm ≠ pd := by obtain ⟨_, ⟨_, _, h, _⟩, _⟩ := hm; exact hpd.ne_map h
  have k : ∀ i, i < wr.heap.size → i ≠ pd → ((wr.alloc O).drew.setRow pd (bvs (lay img j b)).toArray).heap[i]? = wr.heap[i]? := fun i h1 h2 =>
    (setRow_other _ _ _ _ h2).trans (Below.heap_alloc _ _ _ h1)
  have hpd' : Blk (wr.alloc O).drew pd (bvs img) 136 := hpd.keep (Below.heap_alloc _ _ _ hpd.lt)
  exact ⟨hp.keep (k p hp.lt n1), hpd'.row _, ownsRow_keep hu (fun g hg => k g (hu.lt g hg).2 (hpd.ne_row hu hg (by decide))), hm.keep (k pm hm.lt n3), ((fr.alloc _).drew).setRow (.inl hF) _⟩

theorem all_way (x : Nat × List UInt8) : (wayCells x).toArray.all (·.oneCell') = true := by
  rw [Array.all_eq_true_iff_forall_mem]
  intro v hv
  exact wayCells_one x v (by simpa using hv)

set_option maxRecDepth 100000 in
set_option maxHeartbeats 1000000 in
theorem flush_ok (w : World) (F : Nat → Prop) (p : Nat) (D : Dsk) (hd : DiskAt w F p D) (hoff : D.off = false) (hdead : D.dead = false) (hul : D.und.length < 1073741824) :
    Calls Tryd.prog 24 #[.pointer (some ⟨p, 0, none⟩)] w fun e w' => e = .returned .nilIface ∧ DiskAt w' F p D.flushD ∧ Fr F w w' := by
  have HG := Lib.hid (goes_any w F p D hd)
  obtain ⟨c3, -⟩ := hd.cell
  rw [hoff] at c3
  rw [hdead] at HG
  have HR : Hid (D.flushD = { D.gone with img := layAll D.img D.und, und := [], flushes := w64 (D.flushes + 1) }) := by
    show _ = _
    simp [Dsk.flushD, hoff, hdead]
  clear hd hoff hdead
  go_enter Tryd.func24, Tryd.ntmps24
  go_upto_region 3 with (go_at_call 76; refine HG.out.mono ?_; rintro e w1 ⟨rfl, hd1⟩; have Hd1 := Lib.hid hd1; clear hd1)
  obtain ⟨hd1, hf1⟩ := Hd1
  obtain ⟨pd, pm, uv, hp, hpd, hu, hm, hF, hb, hok⟩ := hd1
  obtain ⟨ua, uc, rfl⟩ := own_shape hu
  have c1 : w1.cell? ⟨p, 1, none⟩ = some (.slice ua D.gone.und.length uc) := by rw [hp.cell]; rfl
  have hul' : D.gone.und.length < 1073741824 := by rw [Dsk.gone_und]; exact hul
  have HI := Lib.hid (And.intro hF (And.intro hb hok))
  have HI0 := Lib.hid (Flushing.mk (w := w1) (F := F) (img := D.gone.img) hp hpd hu hm (Fr.refl F w1))
  have Hf1 := Lib.hid hf1
  clear hp hpd hu hm hF hb hok hf1 c3
  go_wp2_with (fail)
  go_loopw [19] (fun x wr => ∃ k : Nat, k ≤ D.gone.und.length ∧ x = .int .i64 k ∧ Hid (Flushing w1 F p pd pm (.slice ua D.gone.und.length uc) D.gone (layAll D.gone.img (D.gone.und.take k)) wr)) (fun x _ => D.gone.und.length - (intOf x).toNat)
  case atStart => exact ⟨0, Nat.zero_le _, rfl, by rw [List.take_zero]; exact HI0.out⟩
  case round =>
    obtain ⟨k, hk, rfl, HK⟩ := hrel
    have hokg := HI.out.2.2
    have b2 := hokg.n2
    by_cases hlt : k < D.gone.und.length
    · obtain ⟨j, b, hkj⟩ : ∃ j b, D.gone.und[k]? = some (j, b) := ⟨(D.gone.und[k]).1, (D.gone.und[k]).2, by rw [List.getElem?_eq_getElem hlt]⟩
      have hjb := hokg.und _ (List.mem_of_getElem? hkj)
      have hj : j < D.gone.n := hjb.1
      have Hbl : Hid (b.length = 256) := hjb.2
      obtain ⟨g, cap, hv, hc1, hc2, hgl, hg⟩ := under_at HK.out.hu hokg.und k j b hkj
      cases hv
      unfold maxLen at hc2
      have c0 : wr.cell? ⟨p, 0, none⟩ = some (.slice (some ⟨pd, 0, none⟩) D.gone.n D.gone.n) := by rw [HK.out.hp.cell]; rfl
      have lpr := HK.out.hp.lt
      have Hg := Lib.hid hg
      have Hkj := Lib.hid hkj
      clear hokg hjb hg hkj
      have HS : Hid ((wr.alloc (.cells (wayCells (j, b)).toArray 138)).drew.cell? ⟨p, 0, none⟩ = some (.slice (some ⟨pd, 0, none⟩) D.gone.n D.gone.n) ∧ (wr.alloc (.cells (wayCells (j, b)).toArray 138)).drew.cell? ⟨wr.heap.size, 0, none⟩ = some (.int .i64 j) ∧ (wr.alloc (.cells (wayCells (j, b)).toArray 138)).drew.rangeAt wr.heap.size 1 (bvs b)) := by
        have hrn := range_new wr (wayCells (j, b)) 138
        refine ⟨(World.cell?_of_block (w := wr) (Below.heap_alloc _ _ _ lpr)).trans c0, hrn 0 _ rfl, fun z v hz => ?_⟩
        have := hrn (z + 1) v (by simpa [wayCells] using hz)
        rw [show 1 + z = 0 + (z + 1) by omega]; exact this
      have HB2 : Hid (Blk (wr.alloc (.cells (wayCells (j, b)).toArray 138)).drew pd (bvs (layAll D.gone.img (D.gone.und.take k))) 136) := HK.out.hpd.keep (Below.heap_alloc _ _ _ HK.out.hpd.lt)
      have Hlen : Hid ((layAll D.gone.img (D.gone.und.take k)).length = 256 * D.gone.n) := layAll_length _ _ _ HI.out.2.2.len (fun x hx => HI.out.2.2.und x (List.mem_of_mem_take hx))
      go_upto_region 6 with (first | ((with_reducible refine wpList_load_mid ?_ 138 (.tmp 21) ?_ g (k * 257) ?_ (wayCells (j, b)) _ Hg.out Tryd.underlying138 rfl (by rw [info_write, wayCells_len _ _ Hbl.out]) ?_); (rfl); (rfl); (rfl)) | ((with_reducible refine wpList_store_top ?_ 138 (.tmp 4) (.tmp 22) ?_ _ (wayCells (j, b)).toArray _ ?_ ?_ (by rw [Tryd.zeroCells138_size, List.size_toArray, wayCells_len _ _ Hbl.out]) (by rw [info_write, List.size_toArray, wayCells_len _ _ Hbl.out]) (all_way _) ?_); (rfl); (rfl); (rfl); (rfl)))
      go_frame
      refine wp_region_reads 9 9 (fun w' => w'.cell? ⟨p, 0, none⟩ = some (.slice (some ⟨pd, 0, none⟩) D.gone.n D.gone.n) ∧ w'.cell? ⟨wr.heap.size, 0, none⟩ = some (.int .i64 j) ∧ w'.rangeAt wr.heap.size 1 (bvs b)) (by kernel_rfl) ?hBB ?hQQ ?hSS ?hMM
      case hBB => kernel_rfl
      case hQQ => intro c a d v w h; cases d <;> exact h
      case hSS => exact HS.out
      simp only [List.take_succ_cons, List.take_zero, List.drop_succ_cons, List.drop_zero, Nat.reduceSub]
      refine readsT_move rfl _ rfl (.pointer (some ⟨p, 0, none⟩)) rfl ?_
      go_frame
      refine readsT_pure rfl rfl (.pointer (some ⟨p, 0, none⟩)) (fun w' => by go_simp) ?_
      go_frame
      refine readsT_pure rfl rfl (.pointer (some ⟨p, 0, none⟩)) (fun w' => by go_simp) ?_
      go_frame
      refine readsT_load rfl rfl (.slice (some ⟨pd, 0, none⟩) D.gone.n D.gone.n) (fun w' hS => by have hS1 := hS.1; clear hS; go_simp) ?_
      go_frame
      refine readsT_pure rfl rfl (.pointer (some ⟨wr.heap.size, 0, none⟩)) (fun w' => by go_simp) ?_
      go_frame
      refine readsT_load rfl rfl (.int .i64 j) (fun w' hS => by have hS1 := hS.2.1; clear hS; go_simp) ?_
      go_frame
      refine readsT_pure rfl rfl (.pointer (some ⟨wr.heap.size, 1, none⟩)) (fun w' => by go_simp) ?_
      go_frame
      refine readsT_load_mid rfl 136 (.tmp 29) rfl wr.heap.size 1 rfl (bvs b) _ (fun w' hS => hS.2.2) Tryd.underlying136 rfl (by rw [info_block, bvs_length, Hbl.out]) ?_
      go_frame
      refine readsT_pure rfl rfl (.pointer (some ⟨pd, j * 256, none⟩)) (fun w' => by go_simp) ?_
      go_frame
      unfold readsT earlyT
      (with_reducible refine wpList_store_lay ?_ 136 (.tmp 31) (.tmp 30) ?_ pd (j * 256) _ (bvs b) 136 ?_ ?_ HB2.out (by rw [bvs_length, bvs_length, Hlen.out, Hbl.out]; omega) (by rw [info_block, bvs_length, Hbl.out]) (bvs_one _) ?_); rfl; rfl; rfl; rfl
      go_wp2
      go_roundw
      case rel =>
        refine ⟨k + 1, by omega, by go_num, ?_⟩
        have := HK.out.next HI.out.1.2.1 (.cells (wayCells (j, b)).toArray 138) (j * 256) b
        rw [layAll_take _ _ _ _ _ Hkj.out, bvs_lay]
        exact this
      case measure => simp [intOf]; omega
    · have hkk : k = D.gone.und.length := by omega
      obtain ⟨Df, hDf⟩ : ∃ Df : Dsk, Df = { D.gone with img := layAll D.gone.img D.gone.und } := ⟨_, rfl⟩
      have hlen : (layAll D.gone.img D.gone.und).length = 256 * D.gone.n := layAll_length _ _ _ hokg.len hokg.und
      have hdr : DiskAt wr F p Df := by
        have hk2 := HK.out
        rw [hkk, List.take_length] at hk2
        rw [hDf]
        exact ⟨pd, pm, _, hk2.hp, hk2.hpd, hk2.hu, hk2.hm, HI.out.1, fun i hi => ⟨(HI.out.2.1 i hi).1, Nat.lt_of_lt_of_le (HI.out.2.1 i hi).2 hk2.fr.size⟩, ⟨hokg.n1, hokg.n2, hlen, hokg.und, hokg.arm1, hokg.arm2⟩⟩
      have HSt := Lib.hid (settled_any wr F p Df hdr)
      have HDf : Hid (D.flushD = { Df.clr with flushes := w64 (Df.clr.flushes + 1) }) := by
        show _ = _
        rw [HR.out, hDf]
        simp only [Dsk.clr, Dsk.gone_und, Dsk.gone_img, Dsk.gone_flushes]
      have HFr : Hid (Fr F w wr) := Hf1.out.trans' HK.out.fr
      clear hokg hkk hDf hlen hdr HK
      go_upto_region 10 with (go_at_call 77; refine HSt.out.mono ?_; rintro e w2 ⟨rfl, hd2⟩; have c6 := hd2.1.cell.2.2.2.1; have f6 := hd2.1.cell.2.2.2.2.2 6; have Hd2 := Lib.hid hd2; clear hd2)
      go_wp2
      go_ret
      refine ⟨rfl, ?_, (HFr.out.trans' Hd2.out.2).setCell (.inl HI.out.1.1) _⟩
      rw [HDf.out]
      refine Hd2.out.1.store 6 _ _ rfl rfl rfl (fun a u m => rfl) ?_
      have := Hd2.out.1.good; exact ⟨this.n1, this.n2, this.len, this.und, this.arm1, this.arm2⟩

theorem flush_dead (w : World) (F : Nat → Prop) (p : Nat) (D : Dsk) (E : Nat → Addr) (hd : DiskAt w F p D) (h12 : ErrAt w E 12) (hoff : D.off = false) (hdead : D.dead = true) :
    Calls Tryd.prog 24 #[.pointer (some ⟨p, 0, none⟩)] w fun e w' => e = .returned (errV E 12) ∧ DiskAt w' F p D.gone ∧ Fr F w w' := by
  have HG := Lib.hid (goes_any w F p D hd)
  have HB := Lib.hid hd.bound
  obtain ⟨c3, -⟩ := hd.cell
  rw [hoff] at c3
  rw [hdead] at HG
  have H12 := Lib.hid h12
  clear hd hoff hdead h12
  go_enter Tryd.func24, Tryd.ntmps24
  go_upto_region 2 with (go_at_call 76; refine HG.out.mono ?_; rintro e w1 ⟨rfl, hd1⟩; have e12 : w1.cell? ⟨2, 0, none⟩ = some (errV E 12) := H12.out.keep hd1.2 (fun k hk => (HB.out k hk).1) (by decide); have Hd1 := Lib.hid hd1; clear hd1)
  go_wp2
  go_ret
  exact ⟨rfl, Hd1.out⟩
theorem flush_off (w : World) (F : Nat → Prop) (p : Nat) (D : Dsk) (E : Nat → Addr) (hd : DiskAt w F p D) (h12 : ErrAt w E 12) (hoff : D.off = true) :
    Calls Tryd.prog 24 #[.pointer (some ⟨p, 0, none⟩)] w fun e w' => e = .returned (errV E 12) ∧ w = w' := by
  obtain ⟨c3, -⟩ := hd.cell
  rw [hoff] at c3
  have e12 : w.cell? ⟨2, 0, none⟩ = some (errV E 12) := h12
  clear hd hoff h12
  go_enter Tryd.func24, Tryd.ntmps24
  go_wp2
  all_goals go_ret
  all_goals exact ⟨rfl, rfl⟩
theorem flush_any (w : World) (F : Nat → Prop) (p : Nat) (D : Dsk) (E : Nat → Addr) (hd : DiskAt w F p D) (h12 : ErrAt w E 12) (hul : D.und.length < 1073741824) :
    Calls Tryd.prog 24 #[.pointer (some ⟨p, 0, none⟩)] w fun e w' => e = .returned (errV E D.flushE) ∧ DiskAt w' F p D.flushD ∧ Fr F w w' := by
  cases hoff : D.off
  · cases hdead : D.dead
    · have e1 : D.flushE = 0 := by simp [Dsk.flushE, hoff, hdead]
      rw [e1]
      exact flush_ok w F p D hd hoff hdead hul
    · have e1 : D.flushE = 12 := by simp [Dsk.flushE, hoff, hdead]
      have e2 : D.flushD = D.gone := by simp [Dsk.flushD, hoff, hdead]
      rw [e1, e2]
      exact flush_dead w F p D E hd h12 hoff hdead
  · have e1 : D.flushE = 12 := by simp [Dsk.flushE, hoff]
    have e2 : D.flushD = D := by simp [Dsk.flushD, hoff]
    rw [e1, e2]
    refine (flush_off w F p D E hd h12 hoff).mono ?_
    rintro e w' ⟨rfl, rfl⟩
    exact ⟨rfl, hd, Fr.refl _ _⟩
end Go.Proofs.YteklldbfdmaafaaDoor
