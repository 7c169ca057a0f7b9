/-
  A disk of durable bytes.
-/
import Derived.Test.YteklldbfdmaafaaDoorDisk9
namespace Go.Proofs.YteklldbfdmaafaaDoor
open Go Go.RowKit

theorem extract_drop (l : List UInt8) (a : Nat) : (⟨l.toArray⟩ : ByteArray).extract a l.length = ⟨(l.drop a).toArray⟩ := by
  apply ByteArray.ext
  simp [ByteArray.data_extract]
  rw [List.take_of_length_le (by simp)]

theorem Flushing.laid {w wr : World} {F : Nat → Prop} {p pd pm : Nat} {uv : Value} {D : Dsk} {img img' : List UInt8} (h : Flushing w F p pd pm uv D img wr) (hF : F pd) :
    Flushing w F p pd pm uv D img' (wr.drew.setRow pd (bvs img').toArray) := by
  obtain ⟨hp, hpd, hu, hm, fr⟩ := h
  have n1 : p ≠ pd := hp.ne hpd (by decide)
  have n3 : pm ≠ pd := by obtain ⟨_, ⟨_, _, h, _⟩, _⟩ := hm; exact hpd.ne_map h
  have k : ∀ i, i ≠ pd → (wr.drew.setRow pd (bvs img').toArray).heap[i]? = wr.heap[i]? := fun i h2 => setRow_other _ _ _ _ h2
  have hpd' : Blk wr.drew pd (bvs img) 136 := hpd
  exact ⟨hp.keep (k p n1), hpd'.row _, ownsRow_keep hu (fun g hg => k g (hpd.ne_row hu hg (by decide))), hm.keep (k pm n3), (fr.drew).setRow (.inl hF) _⟩

/-- k sectors are there -/
def part (l : List UInt8) (n k : Nat) : List UInt8 := l.take (k * 256) ++ zs (n * 256 - k * 256)
theorem part_length (l : List UInt8) (n k : Nat) (hl : l.length = n * 256) (hk : k ≤ n) : (part l n k).length = n * 256 := by
  simp [part, zs_length]; omega
theorem part_next (l : List UInt8) (n k : Nat) (hl : l.length = n * 256) (hk : k < n) : lay (part l n k) (k * 256) (cut l (k * 256) 256) = part l n (k + 1) := by
  have h1 : (l.take (k * 256)).length = k * 256 := by rw [List.length_take]; omega
  have h2 : (cut l (k * 256) 256).length = 256 := cut_length _ _ _ (by omega)
  unfold lay
  rw [h2]
  have e1 : (part l n k).take (k * 256) = l.take (k * 256) := by rw [part, List.take_append_of_le_length (by omega), List.take_of_length_le (by omega)]
  have e2 : (part l n k).drop (k * 256 + 256) = zs (n * 256 - (k + 1) * 256) := by
    rw [part, List.drop_append, List.drop_eq_nil_of_le (by omega), h1]
    simp only [List.nil_append, zs, List.drop_replicate]
    congr 1; omega
  rw [e1, e2, part, Nat.succ_mul, List.take_add, List.append_assoc]
  rfl
theorem part_zero (l : List UInt8) (n : Nat) : part l n 0 = zs (n * 256) := by simp [part]
theorem part_all (l : List UInt8) (n : Nat) (hl : l.length = n * 256) : part l n n = l := by
  rw [part, List.take_of_length_le (by omega)]; simp [zs]

set_option maxRecDepth 100000 in
set_option maxHeartbeats 1000000 in
theorem from_ok (w : World) (l : List UInt8) (n : Nat) (hl : l.length = n * 256) (h1 : 1 ≤ n) (h2 : n ≤ 65536) (hg : gB ≤ w.heap.size) :
    Calls Tryd.prog 39 #[.string ⟨l.toArray⟩] w fun e w' => ∃ p F, e = .returned (.tuple #[.pointer (some ⟨p, 0, none⟩), .nilIface]) ∧ DiskAt w' F p (Dsk.of l) ∧ Fr noB w w' ∧ ∀ k, F k → w.heap.size ≤ k := by
  have HN := Lib.hid (new_ok w n h1 h2 hg)
  have hq : ((l.length : Int) % 256 != 0) = false := by rw [hl]; simp
  have He : Hid ((l.length : Int) / 256 = n) := by show _ = _; omega
  have Hl := Lib.hid hl
  have hlb : l.length ≤ 16777216 := by omega
  clear hl hg
  go_enter Tryd.func39, Tryd.ntmps39
  go_upto_region 6 with (go_at_call 33; rw [He.out]; refine HN.out.mono ?_; rintro e w1 ⟨p, F, rfl, hq1⟩; have Hq := Lib.hid hq1; clear hq1)
  obtain ⟨hd, hf, hFn⟩ := Hq
  obtain ⟨pd, pm, uv, hp, hpd, hu, hm, hF, hb, hok⟩ := hd
  have c0 : w1.cell? ⟨p, 0, none⟩ = some (.slice (some ⟨pd, 0, none⟩) n n) := by rw [hp.cell]; rfl
  have lp := hp.lt
  have HI := Lib.hid (And.intro hF (And.intro hb (And.intro hf hFn)))
  have HI0 : Hid (Flushing w1 F p pd pm uv (Dsk.blank n) (part l n 0) w1) := ⟨hp, by rw [part_zero, Nat.mul_comm]; exact hpd, hu, hm, Fr.refl _ _⟩
  clear hp hpd hu hm hF hb hok hf hFn
  go_wp2_with (fail)
  go_loopw [27] (fun x wr => ∃ k : Nat, k ≤ n ∧ x = .int .i64 k ∧ Hid (Flushing w1 F p pd pm uv (Dsk.blank n) (part l n k) wr)) (fun x _ => n - (intOf x).toNat)
  case atStart => exact ⟨0, Nat.zero_le _, rfl, HI0⟩
  case round =>
    obtain ⟨k, hk, rfl, HR⟩ := hrel
    clear HI0 c0
    by_cases hlt : k < n
    · have c0 : wr.cell? ⟨p, 0, none⟩ = some (.slice (some ⟨pd, 0, none⟩) n n) := by rw [HR.out.hp.cell]; rfl
      have HB : Hid (Blk wr.drew pd (bvs (part l n k)) 136) := HR.out.hpd
      have hkl : k * 256 ≤ l.length := by have := Hl.out; omega
      have hk1 : (0 : Int) ≤ (k : Int) * 256 := by omega
      have hk2 : (k : Int) * 256 ≤ (l.length : Int) := by omega
      go_upto_region 9 with (fail)
      refine wp_region_reads 11 11 (fun w' => w'.cell? ⟨p, 0, none⟩ = some (.slice (some ⟨pd, 0, none⟩) n n)) (by kernel_rfl) ?_ ?_ c0 ?_
      · kernel_rfl
      · intro c a d v w h; cases d <;> exact h
      simp only [List.take_succ_cons, List.take_zero, List.drop_succ_cons, List.drop_zero, Nat.reduceSub]
      refine readsT_move rfl _ rfl (.pointer (some ⟨p, 0, none⟩)) rfl ?_
      go_frame
      refine readsT_pure rfl rfl (.pointer (some ⟨p, 0, none⟩)) (fun w' => by go_simp) ?_
      go_frame
      refine readsT_pure rfl rfl (.pointer (some ⟨p, 0, none⟩)) (fun w' => by go_simp) ?_
      go_frame
      refine readsT_load rfl rfl (.slice (some ⟨pd, 0, none⟩) n n) (fun w' hS => by have hS1 := hS; clear hS; go_simp) ?_
      go_frame
      refine readsT_move rfl _ rfl (.int .i64 k) rfl ?_
      go_frame
      refine readsT_pure rfl rfl (.pointer (some ⟨pd, k * 256, none⟩)) (fun w' => by go_simp) ?_
      go_frame
      refine readsT_pure rfl rfl (.slice (some ⟨pd, k * 256, none⟩) 256 256) (fun w' => by go_simp) ?_
      go_frame
      refine readsT_move rfl _ rfl (.string ⟨l.toArray⟩) rfl ?_
      go_frame
      refine readsT_move rfl _ rfl (.int .i64 k) rfl ?_
      go_frame
      refine readsT_pure rfl rfl (.int .i64 ((k : Int) * 256)) (fun w' => by have hw : IntKind.i64.wrap ((k : Int) * 256) = (k : Int) * 256 := IntWalk.i64_in _ (by omega); go_simp) ?_
      go_frame
      refine readsT_pure rfl rfl (.string ⟨(l.drop (k * 256)).toArray⟩) (fun w' => by go_simp; rw [show ((k : Int) * 256).toNat = k * 256 by omega, extract_drop]) ?_
      go_frame
      unfold readsT earlyT
      (with_reducible refine wpList_copy_str ?_ (.tmp 36) (.tmp 40) 112 9 5 ?_ Tryd.underlying112 info_byte pd (k * 256) 256 256 (l.drop (k * 256)) _ 136 ?_ ?_ HB.out (by rw [bvs_length, part_length _ _ _ Hl.out (by omega), List.length_take]; omega) ?_); rfl; rfl; rfl; rfl
      go_wp2
      go_roundw
      case rel =>
        refine ⟨k + 1, by omega, by go_num, ?_⟩
        have := HR.out.laid HI.out.1.2.1 (img' := part l n (k + 1))
        rw [← part_next l n k Hl.out hlt] at this ⊢
        rw [bvs_lay]
        exact this
      case measure => simp [intOf]; omega
    · have hkk : k = n := by omega
      go_wp2
      go_ret2
      have hl := Hl.out
      have h3 := HR.out
      rw [hkk, part_all _ _ hl] at h3
      have e : Dsk.of l = { Dsk.blank n with img := l } := by
        have : l.length / 256 = n := by omega
        unfold Dsk.of
        rw [this]; rfl
      refine ⟨p, F, rfl, ?_, HI.out.2.2.1.trans h3.fr (fun i hi => .inr (HI.out.2.2.2 i hi)), HI.out.2.2.2⟩
      rw [e]
      exact ⟨pd, pm, uv, h3.hp, h3.hpd, h3.hu, h3.hm, HI.out.1, fun i hi => ⟨(HI.out.2.1 i hi).1, Nat.lt_of_lt_of_le (HI.out.2.1 i hi).2 h3.fr.size⟩, ⟨h1, h2, by show l.length = 256 * n; omega, by simp [Dsk.blank], by simp [Dsk.blank], by simp [Dsk.blank]⟩⟩

theorem from_form (w : World) (l : List UInt8) (E : Nat → Addr) (h7 : ErrAt w E 7) (hl : l.length % 256 ≠ 0) (hlb : l.length ≤ 9223372036854775807) :
    Calls Tryd.prog 39 #[.string ⟨l.toArray⟩] w fun e w' => e = .returned (.tuple #[.pointer none, errV E 7]) ∧ Fr noB w w' := by
  have e7 : w.cell? ⟨4, 0, none⟩ = some (errV E 7) := h7
  have hq : ((l.length : Int) % 256 != 0) = true := by rw [bne_iff_ne]; omega
  clear h7 hl
  go_enter Tryd.func39, Tryd.ntmps39
  go_wp2
  go_quiet (fail)
  all_goals go_wp2
  all_goals go_ret2
  all_goals exact ⟨rfl, (Fr.refl _ _).drewN _⟩
theorem from_range (w : World) (l : List UInt8) (E : Nat → Addr) (h6 : ErrAt w E 6) (hl : l.length % 256 = 0) (hlb : l.length ≤ 9223372036854775807) (h : l.length / 256 < 1 ∨ 65536 < l.length / 256) :
    Calls Tryd.prog 39 #[.string ⟨l.toArray⟩] w fun e w' => e = .returned (.tuple #[.pointer none, errV E 6]) ∧ Fr noB w w' := by
  have HN := Lib.hid (new_bad w ((l.length / 256 : Nat) : Int) E h6 (by omega))
  have hq : ((l.length : Int) % 256 != 0) = false := by rw [bne_eq_false_iff_eq]; omega
  have He : Hid ((l.length : Int) / 256 = ((l.length / 256 : Nat) : Int)) := by show _ = _; omega
  clear h6 hl h
  have hne : errV E 6 = .iface 204 (.pointer (some (E 6))) := rfl
  rw [hne] at HN ⊢
  clear hne
  go_enter Tryd.func39, Tryd.ntmps39
  go_wp2_with (go_at_call 33; rw [He.out]; refine HN.out.mono ?_; rintro e w1 ⟨rfl, hf⟩; have Hf := Lib.hid hf; clear hf)
  all_goals go_ret2
  all_goals exact ⟨rfl, Hf.out⟩
end Go.Proofs.YteklldbfdmaafaaDoor
