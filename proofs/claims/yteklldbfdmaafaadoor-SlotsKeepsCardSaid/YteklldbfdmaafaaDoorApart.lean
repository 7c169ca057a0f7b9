/-
  SlotsApart (chapter 8): slots at two places do not see each other; no other sector is touched.
-/
import Derived.Test.YteklldbfdmaafaaDoorCalm8
import Derived.Test.YteklldbfdmaafaaDoorLiv08
namespace Go.Proofs.YteklldbfdmaafaaDoor
open Go Go.RowKit

/-- a slice of texts that lay there before -/
def StrsAt (w : World) (v : Value) (l : List (List UInt8)) : Prop :=
  ∃ a c, v = .slice a l.length c ∧ (l ≠ [] → ∃ b o, a = some ⟨b, o, none⟩ ∧ b < w.heap.size ∧ w.rangeAt b o (l.map strV))

theorem zeros_ct {W : World} : Ct Tryd.prog W 46 [] [] (fun _ : Unit => strV (zs 256)) (fun _ => []) := by
  have h256 : (List.replicate 256 (0 : UInt8)).length = 256 := List.length_replicate
  refine Ct.enter Tryd.func46 rfl Tryd.ntmps46 (by simp) (fun R => ?_)
  repeat' (first 
    | (refine is_list ?_; first | (refine KJ_plain ?_) | (refine KJ_nil ?_) | (refine KJ_guard_dec_t rfl rfl rfl (fun _ => ?_) (fun _ => ?_) <;> first | (exfalso; omega) | skip) | (refine KJ_guard_dec_f rfl rfl rfl (fun _ => ?_) (fun _ => ?_) <;> first | (exfalso; omega) | skip) | (refine KJ_guard_yes rfl rfl ?_) | (refine KJ_guard_no rfl rfl rfl rfl ?_))
    | (refine is_oper ?_; first | (refine is_store ?_; first | (refine KJ_store rfl rfl (by (repeat' (first | exact Sel.here | apply Sel.there)); first | done | fail) (by first | exact CellsOf.agg | exact CellsOf.one rfl) (by rfl) (by (repeat' (first | exact Ones.nil | exact Ones_bvs _ | refine Ones.cons rfl ?_)); first | done | fail) (by (repeat' (first | exact Laid.nil | apply Laid.cons | apply Laid.skip)); first | done | fail) (by (repeat' (first | exact Rep.here | apply Rep.there)); first | done | fail) ?_)) | (refine is_alloc ?_; first | (refine KJ_alloc rfl (fun _ => ?_))) | (refine is_box ?_; first | (refine KJ_box rfl (by first | exact CellsOf.agg | exact CellsOf.one rfl) rfl (fun _ => ?_))) | (refine is_mkSlice ?_; first | (refine KJ_makeBytes (m := 256) rfl rfl rfl (by omega) rfl (fun g => ?_))) | (refine KJ_ek rfl ?_) | (refine KJ_ek0 ?_))
    | (refine is_ek ?_; first | (refine ek_move ?_; first | (refine EK_ev (Ev_move rfl) ?_)) | (refine ek_assign ?_; first | (refine EK_ev (Ev_assign rfl) ?_)) | (refine ek_pick ?_; first | (refine EK_ev (Ev_pick_t rfl rfl) ?_) | (refine EK_ev (Ev_pick_f rfl rfl) ?_)) | (refine ek_nilCheck ?_; first | (refine EK_ev (Ev_nilCheck rfl) ?_)) | (refine ek_fieldAddr ?_; first | (refine EK_ev (Ev_field rfl) ?_)) | (refine ek_load ?_; first | (refine EK_ev (Ev_load rfl (by (repeat' (first | exact Sel.here | apply Sel.there)); first | done | fail) (by rfl)) ?_) | (refine EK_ev (Ev_loadOld rfl (by assumption)) ?_) | (refine EK_ev (Ev_loadAgg rfl (by (repeat' (first | exact Sel.here | apply Sel.there)); first | done | fail) (by (repeat' (first | exact Cut.nil | apply Cut.cons | apply Cut.skip)); first | done | fail)) ?_)) | (refine ek_un ?_; first | (refine EK_ev (Ev_notD rfl) ?_) | (refine EK_ev (Ev_not rfl) ?_) | (refine EK_ev (Ev_neg rfl) ?_)) | (refine ek_conv ?_; first | (refine EK_ev (Ev_bytesAll rfl (by (repeat' (first | exact Sel.here | apply Sel.there)); first | done | fail) h256) ?_) | (refine EK_ev (Ev_convI64 rfl (by omega)) ?_) | (refine EK_ev (Ev_convI rfl) ?_) | (refine EK_ev (Ev_convS rfl) ?_)) | (refine ek_extract ?_; first | (refine EK_ev (Ev_extract rfl rfl) ?_)) | (refine ek_indexAddr ?_; first | (refine EK_ev (Ev_indexSlice rfl rfl (by omega)) ?_) | (refine EK_ev (Ev_indexArr rfl rfl (by omega)) ?_)) | (refine ek_field ?_; first | (refine EK_ev (Ev_fieldVal rfl rfl) ?_)) | (refine ek_mkIface ?_; first | (refine EK_ev (Ev_makeIface rfl rfl) ?_)) | (refine ek_len ?_; first | (refine EK_ev (Ev_len_str rfl) ?_) | (refine EK_ev (Ev_len_slice rfl) ?_) | (refine EK_ev (Ev_len_arr rfl) ?_) | (refine EK_ev (Ev_len_map rfl (by (repeat' (first | exact Sel.here | apply Sel.there)); first | done | fail)) ?_)) | (refine ek_min ?_; first | (refine EK_ev (Ev_min rfl rfl) ?_)) | (refine ek_max ?_; first | (refine EK_ev (Ev_max rfl rfl) ?_)) | (refine ek_add ?_; first | (refine EK_ev (Ev_addI rfl rfl (by omega)) ?_) | (refine EK_ev (Ev_addS rfl rfl (by simp <;> omega)) ?_) | (refine EK_ev (Ev_add rfl rfl) ?_)) | (refine ek_sub ?_; first | (refine EK_ev (Ev_subI rfl rfl (by omega)) ?_) | (refine EK_ev (Ev_sub rfl rfl) ?_)) | (refine ek_mul ?_; first | (refine EK_ev (Ev_mulI rfl rfl (by omega)) ?_) | (refine EK_ev (Ev_mul rfl rfl) ?_)) | (refine ek_quo ?_; first | (refine EK_ev (Ev_quoI rfl rfl (by omega)) ?_) | (refine EK_ev (Ev_quo rfl rfl (by omega)) ?_)) | (refine ek_rem ?_; first | (refine EK_ev (Ev_remI rfl rfl (by omega)) ?_) | (refine EK_ev (Ev_rem rfl rfl (by omega)) ?_)) | (refine ek_shl ?_; first | (refine EK_ev (Ev_shl rfl rfl (by omega)) ?_)) | (refine ek_shr ?_; first | (refine EK_ev (Ev_shr rfl rfl (by omega)) ?_)) | (refine ek_eql ?_; first | (refine EK_ev (Ev_eqlI rfl rfl) ?_) | (refine EK_ev (Ev_eqlS rfl rfl) ?_) | (refine EK_ev (Ev_eqlNil rfl rfl) ?_) | (refine EK_ev (Ev_eqlB rfl rfl) ?_) | (refine EK_ev (Ev_eqlO rfl rfl rfl (fun _ => rfl)) ?_)) | (refine ek_neq ?_; first | (refine EK_ev (Ev_neqI rfl rfl) ?_) | (refine EK_ev (Ev_neqS rfl rfl) ?_) | (refine EK_ev (Ev_neqNil rfl rfl) ?_) | (refine EK_ev (Ev_neqB rfl rfl) ?_) | (refine EK_ev (Ev_neqO rfl rfl rfl (fun _ => rfl)) ?_)) | (refine ek_lss ?_; first | (refine EK_ev (Ev_lssI rfl rfl) ?_) | (refine EK_ev (Ev_lssS rfl rfl) ?_)) | (refine ek_leq ?_; first | (refine EK_ev (Ev_leqI rfl rfl) ?_) | (refine EK_ev (Ev_leqS rfl rfl) ?_)) | (refine ek_gtr ?_; first | (refine EK_ev (Ev_gtrI rfl rfl) ?_) | (refine EK_ev (Ev_gtrS rfl rfl) ?_)) | (refine ek_geq ?_; first | (refine EK_ev (Ev_geqI rfl rfl) ?_) | (refine EK_ev (Ev_geqS rfl rfl) ?_)))
    | (refine is_ex ?_; first | (refine KJ_seq_normal ?_) | (refine KJ_seq_ret ?_) | (refine KJ_seq_exit ?_) | (refine KJ_thn_normal ?_) | (refine KJ_thn_ret ?_) | (refine KJ_thn_exit ?_) | (refine KJ_blk_normal ?_) | (refine KJ_blk_ret ?_) | (refine KJ_blk_exit ?_) | (refine KJ_blk_exit' rfl ?_))
    | (refine is_code ?_; first | (refine KJ_seq ?_) | (refine KJ_region ?_) | (refine KJ_cond_dec rfl (fun _ => ?_) (fun _ => ?_) <;> first | (exfalso; omega) | skip) | (refine KJ_cond_t rfl ?_) | (refine KJ_cond_f rfl ?_) | (refine KJ_skip ?_) | (refine KJ_ret ?_) | (refine KJ_exit ?_) | (refine KJ_block ?_)))
  all_goals exact KJ_done (by first | exact Or.inl rfl | exact Or.inr rfl) rfl (by (repeat' (first | exact Rvs.nil | (apply Rvs.tmp; exact rfl))); first | done | fail) () (by rfl) (Ent.of (by (repeat' (first | exact Pick.nil | apply Pick.cons | exact Sel.here | apply Sel.there)); first | done | fail) (by (repeat' (first | exact DropTo.refl | apply DropTo.there)); first | done | fail))

/-- what stands behind the first values -/
structure ApSt (c0 c1 : Nat) (l0 l1 : List UInt8) (m : Nat) (D : Dsk) : Prop where
  rest : Rest D
  n : D.n = 6
  h0 : Holds D 1 c0 l0
  h1 : Holds D 3 c1 l1
  z0 : D.sec 0 = zs 256
  z5 : D.sec 5 = zs 256
  m0 : c0 ≤ m
  m1 : c1 ≤ m
theorem ApSt.start : ApSt 0 0 [] [] 0 (Dsk.blank 6) :=
  ⟨blank_rest 6 (by omega) (by omega), rfl, Holds.blank 6 1 (by omega), Holds.blank 6 3 (by omega), blank_sec _ _ (by omega), blank_sec _ _ (by omega), Nat.le_refl _, Nat.le_refl _⟩
theorem ApSt.step {c0 c1 m : Nat} {l0 l1 : List UInt8} {D : Dsk} (h : ApSt c0 c1 l0 l1 m D) : ApSt c0 c1 l0 l1 (m + 1) D :=
  ⟨h.rest, h.n, h.h0, h.h1, h.z0, h.z5, by have := h.m0; omega, by have := h.m1; omega⟩
theorem ApSt.write0 {c0 c1 m : Nat} {l0 l1 : List UInt8} {D : Dsk} (h : ApSt c0 c1 l0 l1 m D) (hm : m < 1000000) (s : List UInt8) (hs : s.length ≤ 234) :
    slotWE D 1 (c0 + 1 : Nat) s = 0 ∧ ApSt (c0 + 1) c1 s l1 (m + 1) (slotWD D 1 (c0 + 1 : Nat) s) := by
  have hn := h.n
  have hm0 := h.m0
  obtain ⟨e, hr, hn', _, hsec⟩ := rest_write h.rest 1 (c0 + 1) s (by omega) (by omega) (by omega) hs
  refine ⟨e, hr, by rw [← hn]; exact hn', Holds.next (a := 1) h.rest (by omega) h.h0 (by omega) hs, h.h1.keep fun k hk => hsec _ (by omega) (by omega), ?_, ?_, by omega, by have := h.m1; omega⟩
  · rw [← h.z0]; exact hsec 0 (by omega) (by omega)
  · rw [← h.z5]; exact hsec 5 (by omega) (by omega)
theorem ApSt.write1 {c0 c1 m : Nat} {l0 l1 : List UInt8} {D : Dsk} (h : ApSt c0 c1 l0 l1 m D) (hm : m < 1000000) (s : List UInt8) (hs : s.length ≤ 234) :
    slotWE D 3 (c1 + 1 : Nat) s = 0 ∧ ApSt c0 (c1 + 1) l0 s (m + 1) (slotWD D 3 (c1 + 1 : Nat) s) := by
  have hn := h.n
  have hm1 := h.m1
  obtain ⟨e, hr, hn', _, hsec⟩ := rest_write h.rest 3 (c1 + 1) s (by omega) (by omega) (by omega) hs
  refine ⟨e, hr, by rw [← hn]; exact hn', h.h0.keep fun k hk => hsec _ (by omega) (by omega), Holds.next (a := 3) h.rest (by omega) h.h1 (by omega) hs, ?_, ?_, by have := h.m0; omega, by omega⟩
  · rw [← h.z0]; exact hsec 0 (by omega) (by omega)
  · rw [← h.z5]; exact hsec 5 (by omega) (by omega)
theorem long_write {D : Dsk} (a v : Int) (s : List UInt8) (h : slotMay D a v = true) (hl : 234 < s.length) : slotWE D a v s = 3 ∧ slotWD D a v s = D := by
  have hb : ¬ (slotMay D a v = false) := by rw [h]; simp
  unfold slotWE slotWD
  rw [if_neg hb, if_neg hb, if_pos hl, if_pos hl]
  exact ⟨rfl, rfl⟩
end Go.Proofs.YteklldbfdmaafaaDoor
