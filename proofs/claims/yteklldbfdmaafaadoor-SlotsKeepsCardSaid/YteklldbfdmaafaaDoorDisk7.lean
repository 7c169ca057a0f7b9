/-
  The disk's Crash.
-/
import Derived.Test.YteklldbfdmaafaaDoorDisk6
namespace Go.Proofs.YteklldbfdmaafaaDoor
open Go Go.RowKit

/-- v is a slice of these bools -/
def BoolsAt (w : World) (v : Value) (l : List Bool) : Prop := ∃ a c, v = .slice a l.length c ∧ (l ≠ [] → ∃ b o, a = some ⟨b, o, none⟩ ∧ b < w.heap.size ∧ w.rangeAt b o (l.map .bool)) ∧ (a = none → c = 0) ∧ l.length ≤ c ∧ c ≤ maxLen

theorem Flushing.skip {w wr : World} {F : Nat → Prop} {p pd pm : Nat} {uv : Value} {D : Dsk} {img : List UInt8} (h : Flushing w F p pd pm uv D img wr) (O : Obj) : Flushing w F p pd pm uv D img (wr.alloc O) := by
  obtain ⟨hp, hpd, hu, hm, fr⟩ := h
  exact ⟨hp.keep (Below.heap_alloc _ _ _ hp.lt), hpd.keep (Below.heap_alloc _ _ _ hpd.lt), hu.alloc _, hm.keep (Below.heap_alloc _ _ _ hm.lt), fr.alloc _⟩

set_option maxRecDepth 100000 in
set_option maxHeartbeats 2000000 in
theorem crash_any (w : World) (F : Nat → Prop) (p : Nat) (D : Dsk) (hd : DiskAt w F p D) (kv : Value) (kept : List Bool) (torn bytes : Int) (hk : BoolsAt w kv kept) (hkF : kept ≠ [] → ∀ g, kv.ownBlock = some g → ¬ F g) (_hul : D.und.length < 1073741824) :
    Calls Tryd.prog 29 #[.pointer (some ⟨p, 0, none⟩), .agg #[kv, .int .i64 torn, .int .i64 bytes]] w fun e w' => e = .returned (.tuple #[]) ∧ DiskAt w' F p (D.crash kept torn bytes) ∧ Fr F w w' := by
  obtain ⟨pd, pm, uv, hp, hpd, hu, hm, hF, hb, hok⟩ := hd
  obtain ⟨ua, uc, rfl⟩ := own_shape hu
  obtain ⟨ka, kc, rfl, hkc, -⟩ := hk
  have lp := hp.lt
  have c1 : w.cell? ⟨p, 1, none⟩ = some (.slice ua D.und.length uc) := by rw [hp.cell]; rfl
  have HI := Lib.hid (And.intro hF (And.intro hb hok))
  have HK := Lib.hid hkc
  have HkF := Lib.hid hkF
  have HI0 : Hid (Flushing (w.alloc (.cells #[.slice ka kept.length kc, .int .i64 torn, .int .i64 bytes] 25)) F p pd pm (.slice ua D.und.length uc) D D.img (w.alloc (.cells #[.slice ka kept.length kc, .int .i64 torn, .int .i64 bytes] 25))) :=
    ⟨hp.keep (Below.heap_alloc _ _ _ hp.lt), hpd.keep (Below.heap_alloc _ _ _ hpd.lt), hu.alloc _, hm.keep (Below.heap_alloc _ _ _ hm.lt), Fr.refl _ _⟩
  clear hp hpd hu hm hF hb hok hkc hkF
  go_enter Tryd.func29, Tryd.ntmps29
  go_wp2_with (fail)
  go_loopw [12] (fun x wr => ∃ k : Nat, k ≤ D.und.length ∧ x = .int .i64 k ∧ Hid (Flushing (w.alloc (.cells #[.slice ka kept.length kc, .int .i64 torn, .int .i64 bytes] 25)) F p pd pm (.slice ua D.und.length uc) D (layDone D.img kept torn bytes (D.und.take k)) wr)) (fun x _ => D.und.length - (intOf x).toNat)
  case atStart => exact ⟨0, Nat.zero_le _, rfl, by rw [List.take_zero]; exact HI0.out⟩
  case round =>
    obtain ⟨k, hk, rfl, HR⟩ := hrel
    have hokg := HI.out.2.2
    have b2 := hokg.n2
    clear HI0
    by_cases hlt : k < D.und.length
    · obtain ⟨j, b, hkj⟩ : ∃ j b, D.und[k]? = some (j, b) := ⟨(D.und[k]).1, (D.und[k]).2, by rw [List.getElem?_eq_getElem hlt]⟩
      have hjb := hokg.und _ (List.mem_of_getElem? hkj)
      have hj : j < D.n := hjb.1
      have Hbl : Hid (b.length = 256) := hjb.2
      obtain ⟨g, cap, hv, hc1, hc2, hgl, hg⟩ := under_at HR.out.hu hokg.und k j b hkj
      cases hv
      unfold maxLen at hc2
      have c0 : wr.cell? ⟨p, 0, none⟩ = some (.slice (some ⟨pd, 0, none⟩) D.n D.n) := by rw [HR.out.hp.cell]; rfl
      have lpr := HR.out.hp.lt
      have hsw : w.heap.size + 1 ≤ wr.heap.size := by have := HR.out.fr.size; simpa using this
      have hsw2 : w.heap.size < wr.heap.size := by omega
      have nF : ¬ F w.heap.size := fun q => by have := (HI.out.2.1 _ q).2; omega
      have fc : ∀ z, wr.cell? ⟨w.heap.size, z, none⟩ = (#[.slice ka kept.length kc, .int .i64 torn, .int .i64 bytes] : Array Value)[z]? := fun z =>
        (HR.out.fr.cell (a := ⟨w.heap.size, z, none⟩) (by simp) nF).trans (cell_of_row _ _ _ _ _ _ (heap_alloc_new w _))
      have f0 : wr.cell? ⟨w.heap.size, 0, none⟩ = some (.slice ka kept.length kc) := fc 0
      have f1 : wr.cell? ⟨w.heap.size, 1, none⟩ = some (.int .i64 torn) := fc 1
      have f2 : wr.cell? ⟨w.heap.size, 2, none⟩ = some (.int .i64 bytes) := fc 2
      have Hg := Lib.hid hg
      have Hkj := Lib.hid hkj
      have HLen : Hid ((layDone D.img kept torn bytes (D.und.take k)).length = 256 * D.n) := layDone_length _ _ _ _ _ _ hokg.len (fun x hx => hokg.und x (List.mem_of_mem_take hx))
      clear hokg hjb hg hkj fc nF c1
      have HS : Hid ((wr.alloc (.cells (wayCells (j, b)).toArray 138)).drew.cell? ⟨p, 0, none⟩ = some (.slice (some ⟨pd, 0, none⟩) D.n D.n) ∧ (wr.alloc (.cells (wayCells (j, b)).toArray 138)).drew.cell? ⟨wr.heap.size, 0, none⟩ = some (.int .i64 j) ∧ (wr.alloc (.cells (wayCells (j, b)).toArray 138)).drew.rangeAt wr.heap.size 1 (bvs b)) := by
        have hrn := range_new wr (wayCells (j, b)) 138
        refine ⟨(World.cell?_of_block (w := wr) (Below.heap_alloc _ _ _ lpr)).trans c0, hrn 0 _ rfl, fun z v hz => ?_⟩
        have := hrn (z + 1) v (by simpa [wayCells] using hz)
        rw [show 1 + z = 0 + (z + 1) by omega]; exact this
      have HB2 : Hid (Blk (wr.alloc (.cells (wayCells (j, b)).toArray 138)).drew pd (bvs (layDone D.img kept torn bytes (D.und.take k))) 136) := HR.out.hpd.keep (Below.heap_alloc _ _ _ HR.out.hpd.lt)
      go_upto_region 4 with (first | ((with_reducible refine wpList_load_mid ?_ 138 (.tmp 15) ?_ g (k * 257) ?_ (wayCells (j, b)) _ Hg.out Tryd.underlying138 rfl (by rw [info_write, wayCells_len _ _ Hbl.out]) ?_); (rfl); (rfl); (rfl)) | ((with_reducible refine wpList_store_top ?_ 138 (.tmp 5) (.tmp 16) ?_ _ (wayCells (j, b)).toArray _ ?_ ?_ (by rw [Tryd.zeroCells138_size, List.size_toArray, wayCells_len _ _ Hbl.out]) (by rw [info_write, List.size_toArray, wayCells_len _ _ Hbl.out]) (all_way _) ?_); (rfl); (rfl); (rfl); (rfl)))
      go_frame
      by_cases htorn : (k : Int) = torn
      · have ht : ((k : Int) == torn) = true := by simpa using htorn
        obtain ⟨nn, hnn, hn256⟩ : ∃ nn : Nat, min (max bytes 0) 256 = nn ∧ nn ≤ 256 := ⟨(min (max bytes 0) 256).toNat, by omega, by omega⟩
        have HDn : Hid (done kept torn bytes k = nn) := by show _ = _; unfold done; rw [if_pos htorn, hnn]; rfl
        have hn1 : (0 : Int) ≤ (nn : Int) := by omega
        have hn2 : (nn : Int) ≤ 256 := by omega
        have HN := Lib.hid hnn
        have Htl : Hid ((bvs (b.take nn)).length = nn) := by show _ = _; rw [bvs_length, List.length_take, Hbl.out]; omega
        have Hrt : Hid ((wr.alloc (.cells (wayCells (j, b)).toArray 138)).drew.rangeAt wr.heap.size 1 (bvs (b.take nn))) := fun z v hz => HS.out.2.2 z v (by rw [← bvs_take] at hz; rw [List.getElem?_take] at hz; split at hz; exact hz; cases hz)
        clear hnn htorn
        go_upto_region 6 with (first | ((with_reducible refine wpList_max2 ?_ (.tmp 23) (.const (.int .i64 0)) 3 3 ?_ bytes 0 (max bytes 0) ?_ ?_ rfl ?_); (rfl); (rfl); (rfl); (rfl)) | ((with_reducible refine wpList_min2 ?_ (.tmp 24) (.const (.int .i64 256)) 3 3 ?_ (max bytes 0) 256 nn ?_ ?_ HN.out ?_); (rfl); (rfl); (rfl); (rfl)))
        refine wp_region_reads 12 12 (fun w' => w'.cell? ⟨p, 0, none⟩ = some (.slice (some ⟨pd, 0, none⟩) D.n D.n) ∧ w'.cell? ⟨wr.heap.size, 0, none⟩ = some (.int .i64 j) ∧ w'.rangeAt wr.heap.size 1 (bvs b)) (by kernel_rfl) ?_ ?_ HS.out ?_
        · kernel_rfl
        · intro c a d v w h; cases d <;> exact h
        simp only [List.take_succ_cons, List.take_zero, List.drop_succ_cons, List.drop_zero, Nat.reduceSub]
        refine readsT_move rfl _ rfl (.pointer (some ⟨p, 0, none⟩)) rfl ?_
        go_frame
        refine readsT_pure rfl rfl (.pointer (some ⟨p, 0, none⟩)) (fun w' => by go_simp) ?_
        go_frame
        refine readsT_pure rfl rfl (.pointer (some ⟨p, 0, none⟩)) (fun w' => by go_simp) ?_
        go_frame
        refine readsT_load rfl rfl (.slice (some ⟨pd, 0, none⟩) D.n D.n) (fun w' hS => by have hS1 := hS.1; clear hS; go_simp) ?_
        go_frame
        refine readsT_pure rfl rfl (.pointer (some ⟨wr.heap.size, 0, none⟩)) (fun w' => by go_simp) ?_
        go_frame
        refine readsT_load rfl rfl (.int .i64 j) (fun w' hS => by have hS1 := hS.2.1; clear hS; go_simp) ?_
        go_frame
        refine readsT_pure rfl rfl (.pointer (some ⟨pd, j * 256, none⟩)) (fun w' => by go_simp) ?_
        go_frame
        refine readsT_move rfl _ rfl (.int .i64 nn) rfl ?_
        go_frame
        refine readsT_pure rfl rfl (.slice (some ⟨pd, j * 256, none⟩) nn 256) (fun w' => by go_simp) ?_
        go_frame
        refine readsT_pure rfl rfl (.pointer (some ⟨wr.heap.size, 1, none⟩)) (fun w' => by go_simp) ?_
        go_frame
        refine readsT_move rfl _ rfl (.int .i64 nn) rfl ?_
        go_frame
        refine readsT_pure rfl rfl (.slice (some ⟨wr.heap.size, 1, none⟩) nn 256) (fun w' => by go_simp) ?_
        go_frame
        unfold readsT earlyT
        (with_reducible refine wpList_copy_mid ?_ (.tmp 34) (.tmp 37) 112 112 5 ?_ Tryd.underlying112 info_byte pd (j * 256) nn 256 wr.heap.size 1 nn 256 _ (bvs (b.take nn)) 136 ?_ ?_ HB2.out (by rw [Htl.out]; exact (Nat.min_self nn).symm) Hrt.out (by rw [Htl.out, bvs_length, HLen.out]; omega) (bvs_one _) ?_); rfl; rfl; rfl; rfl
        go_wp2
        go_roundw
        case rel =>
          refine ⟨k + 1, by omega, by go_num, ?_⟩
          rw [layDone_take _ _ _ _ _ _ _ _ Hkj.out, HDn.out]
          have := HR.out.next HI.out.1.2.1 (.cells (wayCells (j, b)).toArray 138) (j * 256) (b.take nn)
          rw [bvs_lay]
          exact this
        case measure => simp [intOf]; omega
      have ht : ((k : Int) == torn) = false := by simpa using htorn
      by_cases hkk : k < kept.length
      · obtain ⟨kb, ko, hka, hkb, hkr⟩ := HK.out (by intro e; rw [e] at hkk; simp at hkk)
        subst hka
        have fk : wr.cell? ⟨kb, ko + k, none⟩ = some (.bool kept[k]) := by
          have h1 := HR.out.fr.cell (a := ⟨kb, ko + k, none⟩) (by simp; omega) (HkF.out (by intro e; rw [e] at hkk; simp at hkk) kb rfl)
          rw [h1]
          exact (World.cell?_of_block (w := w) (Below.heap_alloc _ _ _ hkb)).trans (hkr k _ (by simp [hkk]))
        have lkb : kb < wr.heap.size := by omega
        have hd1 : decide (k < kept.length) = true := by simpa using hkk
        have HDn0 : Hid (done kept torn bytes k = if kept[k] then 256 else 0) := by show _ = _; unfold done; rw [if_neg htorn]; simp [List.getD, hkk]
        clear htorn hkr
        cases hkv : kept[k]
        · rw [hkv] at fk
          have HDn : Hid (done kept torn bytes k = 0) := by show _ = _; rw [HDn0.out, hkv]; rfl
          clear hkv HDn0
          go_wp2
          go_roundw
          case rel =>
            refine ⟨k + 1, by omega, by go_num, ?_⟩
            rw [layDone_take _ _ _ _ _ _ _ _ Hkj.out, HDn.out]
            rw [List.take_zero, lay_nil]
            exact HR.out.skip _
          case measure => simp [intOf]; omega
        rw [hkv] at fk
        have HDn : Hid (done kept torn bytes k = 256) := by show _ = _; rw [HDn0.out, hkv]; rfl
        clear hkv HDn0
        go_upto_region 8 with (fail)
        refine wp_region_reads 9 9 (fun w' => w'.cell? ⟨p, 0, none⟩ = some (.slice (some ⟨pd, 0, none⟩) D.n D.n) ∧ w'.cell? ⟨wr.heap.size, 0, none⟩ = some (.int .i64 j) ∧ w'.rangeAt wr.heap.size 1 (bvs b)) (by kernel_rfl) ?_ ?_ HS.out ?_
        · kernel_rfl
        · intro c a d v w h; cases d <;> exact h
        simp only [List.take_succ_cons, List.take_zero, List.drop_succ_cons, List.drop_zero, Nat.reduceSub]
        refine readsT_move rfl _ rfl (.pointer (some ⟨p, 0, none⟩)) rfl ?_
        go_frame
        refine readsT_pure rfl rfl (.pointer (some ⟨p, 0, none⟩)) (fun w' => by go_simp) ?_
        go_frame
        refine readsT_pure rfl rfl (.pointer (some ⟨p, 0, none⟩)) (fun w' => by go_simp) ?_
        go_frame
        refine readsT_load rfl rfl (.slice (some ⟨pd, 0, none⟩) D.n D.n) (fun w' hS => by have hS1 := hS.1; clear hS; go_simp) ?_
        go_frame
        refine readsT_pure rfl rfl (.pointer (some ⟨wr.heap.size, 0, none⟩)) (fun w' => by go_simp) ?_
        go_frame
        refine readsT_load rfl rfl (.int .i64 j) (fun w' hS => by have hS1 := hS.2.1; clear hS; go_simp) ?_
        go_frame
        refine readsT_pure rfl rfl (.pointer (some ⟨wr.heap.size, 1, none⟩)) (fun w' => by go_simp) ?_
        go_frame
        refine readsT_load_mid rfl 136 (.tmp 58) rfl wr.heap.size 1 rfl (bvs b) _ (fun w' hS => hS.2.2) Tryd.underlying136 rfl (by rw [info_block, bvs_length, Hbl.out]) ?_
        go_frame
        refine readsT_pure rfl rfl (.pointer (some ⟨pd, j * 256, none⟩)) (fun w' => by go_simp) ?_
        go_frame
        unfold readsT earlyT
        (with_reducible refine wpList_store_lay ?_ 136 (.tmp 60) (.tmp 59) ?_ pd (j * 256) _ (bvs b) 136 ?_ ?_ HB2.out (by rw [bvs_length, bvs_length, HLen.out, Hbl.out]; omega) (by rw [info_block, bvs_length, Hbl.out]) (bvs_one _) ?_); rfl; rfl; rfl; rfl
        go_wp2
        go_roundw
        case rel =>
          refine ⟨k + 1, by omega, by go_num, ?_⟩
          rw [layDone_take _ _ _ _ _ _ _ _ Hkj.out, HDn.out]
          have := HR.out.next HI.out.1.2.1 (.cells (wayCells (j, b)).toArray 138) (j * 256) b
          rw [bvs_lay]
          rw [show b.take 256 = b from List.take_of_length_le (by rw [Hbl.out]; omega)]
          exact this
        case measure => simp [intOf]; omega
      · have hd1 : decide (k < kept.length) = false := by simpa using hkk
        have HDn : Hid (done kept torn bytes k = 0) := by
          show _ = _; unfold done; rw [if_neg htorn]; simp [List.getD, List.getElem?_eq_none (show kept.length ≤ k by omega)]
        clear htorn
        go_wp2
        go_roundw
        case rel =>
          refine ⟨k + 1, by omega, by go_num, ?_⟩
          rw [layDone_take _ _ _ _ _ _ _ _ Hkj.out, HDn.out]
          rw [List.take_zero, lay_nil]
          exact HR.out.skip _
        case measure => simp [intOf]; omega
    · have hkk : k = D.und.length := by omega
      obtain ⟨Df, hDf⟩ : ∃ Df : Dsk, Df = { D with img := layDone D.img kept torn bytes D.und } := ⟨_, rfl⟩
      have hlen : (layDone D.img kept torn bytes D.und).length = 256 * D.n := layDone_length _ _ _ _ _ _ hokg.len hokg.und
      have hdr : DiskAt wr F p Df := by
        have hk2 := HR.out
        rw [hkk, List.take_length] at hk2
        rw [hDf]
        exact ⟨pd, pm, _, hk2.hp, hk2.hpd, hk2.hu, hk2.hm, HI.out.1, fun i hi => ⟨(HI.out.2.1 i hi).1, by have := (HI.out.2.1 i hi).2; have := hk2.fr.size; simp at this; omega⟩, ⟨hokg.n1, hokg.n2, hlen, hokg.und, hokg.arm1, hokg.arm2⟩⟩
      have HSt := Lib.hid (settled_any wr F p Df hdr)
      have HDf : Hid (D.crash kept torn bytes = { ({ ({ Df.clr with armed := -1 } : Dsk) with off := false } : Dsk) with life := w64 (Df.clr.life + 1) }) := by
        show _ = _
        rw [hDf]; rfl
      have HFr : Hid (Fr F w wr) := ((Fr.refl F w).alloc _).trans' HR.out.fr
      clear hokg hkk hDf hlen hdr HR
      go_upto_region 11 with (go_at_call 77; refine HSt.out.mono ?_; rintro e w2 ⟨rfl, hd2⟩; have f3 := hd2.1.cell.2.2.2.2.2 3; have f4 := hd2.1.cell.2.2.2.2.2 4; have c4 := hd2.1.cell.2.1; have c3 := hd2.1.cell.1; have c7 := hd2.1.cell.2.2.2.2.1; have f7 := hd2.1.cell.2.2.2.2.2 7; have Hd2 := Lib.hid hd2; clear hd2)
      go_wp2
      go_end0
      refine ⟨rfl, ?_, (((HFr.out.trans' Hd2.out.2).setCell (.inl HI.out.1.1) _).setCell (.inl HI.out.1.1) _).setCell (.inl HI.out.1.1) _⟩
      rw [HDf.out]
      have hg := Hd2.out.1.good
      have s4 := Hd2.out.1.store 4 (.int .i64 (-1)) { Df.clr with armed := -1 } rfl rfl rfl (fun a u m => rfl) ⟨hg.n1, hg.n2, hg.len, hg.und, by show (-1 : Int) ≤ -1; omega, by show (-1 : Int) ≤ _; omega⟩
      have s3 := s4.store 3 (.bool false) ({ ({ Df.clr with armed := -1 } : Dsk) with off := false } : Dsk) rfl rfl rfl (fun a u m => rfl) ⟨hg.n1, hg.n2, hg.len, hg.und, by show (-1 : Int) ≤ -1; omega, by show (-1 : Int) ≤ _; omega⟩
      exact s3.store 7 _ _ rfl rfl rfl (fun a u m => rfl) ⟨hg.n1, hg.n2, hg.len, hg.und, by show (-1 : Int) ≤ -1; omega, by show (-1 : Int) ≤ _; omega⟩
end Go.Proofs.YteklldbfdmaafaaDoor
