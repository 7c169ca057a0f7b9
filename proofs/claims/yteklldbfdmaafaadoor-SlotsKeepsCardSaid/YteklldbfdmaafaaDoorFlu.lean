/-
  DiskFlushes (chapter 6): behind a flush the image is what reads tell, and a crash changes nothing.
-/
import Derived.Test.YteklldbfdmaafaaDoorMade
namespace Go.Proofs.YteklldbfdmaafaaDoor
open Go Go.RowKit

/-- a disk that nobody armed: its power is on -/
def Calm (D : Dsk) : Prop := D.off = false ∧ D.armed = -1
theorem gone_calm {D : Dsk} (h : Calm D) : D.gone = D := by
  obtain ⟨h1, h2⟩ := h
  unfold Dsk.gone
  rw [if_neg (by omega), if_neg (by omega)]
theorem dead_calm {D : Dsk} (h : Calm D) : D.dead = false := by simp [Dsk.dead, h.2]
theorem blank_calm (n : Nat) : Calm (Dsk.blank n) := ⟨rfl, rfl⟩
theorem writeD_calm {D : Dsk} (h : Calm D) (i : Int) (s : List UInt8) : Calm (D.writeD i s) ∧ (D.writeD i s).n = D.n := by
  have h1 : Calm ({ D with und := D.und ++ [(i.toNat, s)] } : Dsk) := h
  unfold Dsk.writeD
  split
  · exact ⟨h, rfl⟩
  split
  · split
    · simp only [dead_calm h, gone_calm h1]
      exact ⟨h, rfl⟩
    · exact ⟨h, rfl⟩
  · exact ⟨h, rfl⟩
theorem flushD_calm {D : Dsk} (h : Calm D) : Calm D.flushD ∧ D.flushD.n = D.n ∧ D.flushE = 0 ∧ D.flushD.und = [] ∧ D.flushD.img = layAll D.img D.und := by
  have e : D.flushD = { D with img := layAll D.img D.und, und := [], flushes := w64 (D.flushes + 1) } := by
    unfold Dsk.flushD
    rw [if_neg (by rw [h.1]; simp), if_neg (by rw [dead_calm h]; simp), gone_calm h]
  rw [e]
  refine ⟨h, rfl, ?_, rfl, rfl⟩
  simp [Dsk.flushE, h.1, dead_calm h]
theorem crash_calm (D : Dsk) (kept : List Bool) (torn bytes : Int) : Calm (D.crash kept torn bytes) := ⟨rfl, rfl⟩
theorem make_calm {D : Dsk} (h : Calm D) (n : Nat) (o : POp) : Calm (o.make n D) ∧ (o.make n D).n = D.n := by
  unfold POp.make
  split
  · exact writeD_calm h _ _
  split
  · exact ⟨(flushD_calm h).1, (flushD_calm h).2.1⟩
  split
  · exact ⟨crash_calm _ _ _ _, rfl⟩
  · exact ⟨h, rfl⟩
theorem make_ok {D : Dsk} (h : D.ok) (n : Nat) (o : POp) : (o.make n D).ok := by
  unfold POp.make
  split
  · exact Dsk.writeD_ok h _ _
  split
  · exact Dsk.flushD_ok h
  split
  · exact Dsk.crash_ok h _ _ _
  · exact h
theorem makeAll_calm (n : Nat) (l : List POp) : ∀ {D : Dsk}, Calm D → D.ok → Calm (makeAll n l D) ∧ (makeAll n l D).n = D.n ∧ (makeAll n l D).ok := by
  unfold makeAll
  induction l with
  | nil => intro D h k; exact ⟨h, rfl, k⟩
  | cons o l ih =>
    intro D h k
    have h1 := make_calm h n o
    have h2 := ih h1.1 (make_ok k n o)
    exact ⟨h2.1, h2.2.1.trans h1.2, h2.2.2⟩
/-- reads of a disk that nothing is under way on -/
theorem read_clean {D : Dsk} (h : Calm D) (hu : D.und = []) (i : Nat) (hi : i < D.n) : D.readE i = 0 ∧ D.readS i = cut D.img (i * 256) 256 := by
  have h1 : D.has (i : Int) = true := by simp [Dsk.has, hi]
  constructor
  · simp [Dsk.readE, h.1, h1]
  · simp [Dsk.readS, h.1, h1, Dsk.rd, hu, lastW_nil, Dsk.sec]
theorem take_cut (l : List UInt8) (i : Nat) : l.take (256 * i) ++ cut l (i * 256) 256 = l.take (256 * (i + 1)) := by
  rw [show 256 * (i + 1) = 256 * i + 256 by omega, List.take_add, cut, Nat.mul_comm i 256]
theorem crash_clean (D : Dsk) (hu : D.und = []) (kept : List Bool) (torn bytes : Int) : (D.crash kept torn bytes).img = D.img := by
  simp [Dsk.crash, hu, layDone]

set_option maxHeartbeats 1000000 in
set_option maxRecDepth 100000 in
theorem flushes_ct {W : World} {E : Nat → Addr} (n : Int) (sv : Value) (ops : List POp) (kv : Value) (kept : List Bool) (torn bytes : Int) (hs : ScriptAt W sv ops) (hE : ErrsAt W E) (hg : gB ≤ W.heap.size) (hl : ops.length < 536870912) (hKB : ∀ o ∈ ops, o.kept.length ≤ 4294967296) (hk : BoolsAt W kv kept) (hkl : kept.length ≤ 4294967296) :
    Ct Tryd.prog W 3 [.int .i64 n, sv, .agg #[kv, .int .i64 torn, .int .i64 bytes]] [] (fun _ : Unit => .bool true) (fun _ => []) := by
  obtain ⟨ka, kc, rfl, -⟩ := id hk
  have hk0 := hk
  have cm := made_ct n sv ops hs hE hg hl hKB
  have hN1 := madeN_1 n
  have hN2 := madeN_2 n
  have hmk := makeAll_calm (madeN n) ops (blank_calm (madeN n)) (Dsk.blank_ok _ hN1 (by omega))
  have hmu := makeAll_und (madeN n) ops (Dsk.blank (madeN n))
  obtain ⟨N, hNN⟩ : ∃ N, N = madeN n := ⟨_, rfl⟩
  rw [← hNN] at cm hN1 hN2 hmk hmu
  obtain ⟨D, hD⟩ : ∃ D, D = makeAll N ops (Dsk.blank N) := ⟨_, rfl⟩
  rw [← hD] at cm hmk hmu
  have hul : D.und.length < 1073741824 := by
    have h0 : (Dsk.blank N).und.length = 0 := rfl
    omega
  obtain ⟨hcalm, hDn, hok⟩ := hmk
  have hDn : D.n = N := hDn
  have hf := flushD_calm hcalm
  have hok1 := Dsk.flushD_ok hok
  have cf : ∀ p, Ct Tryd.prog W 24 [.pointer (some ⟨p, 0, none⟩)] [DiskP p D] (fun _ : Unit => errV E 0) (fun _ => [DiskP p D.flushD]) := fun p => (flush_ct hE.on hul).val fun _ => by rw [hf.2.2.1]
  obtain ⟨D1, hD1⟩ : ∃ D1, D1 = D.flushD := ⟨_, rfl⟩
  rw [← hD1] at cf hf hok1
  obtain ⟨hc1, hn1, -, hu1, -⟩ := hf
  have hn1 : D1.n = N := hn1.trans hDn
  have hlen := hok1.len
  rw [hn1] at hlen
  have cp : ∀ p, Ct Tryd.prog W 25 [.pointer (some ⟨p, 0, none⟩)] [DiskP p D1] (fun _ : Unit => .int .i64 0) (fun _ => [DiskP p D1]) := fun p => pending_ct.val fun _ => by rw [hu1]; rfl
  have ci : ∀ p, Ct Tryd.prog W 27 [.pointer (some ⟨p, 0, none⟩)] [DiskP p D1] (fun _ : Unit => strV D1.img) (fun _ => [DiskP p D1]) := fun p => image_ct
  obtain ⟨D2, hD2⟩ : ∃ D2, D2 = D1.crash kept torn bytes := ⟨_, rfl⟩
  have hi2 : D2.img = D1.img := by rw [hD2]; exact crash_clean D1 hu1 _ _ _
  have ci2 : ∀ p, Ct Tryd.prog W 27 [.pointer (some ⟨p, 0, none⟩)] [DiskP p D2] (fun _ : Unit => strV D1.img) (fun _ => [DiskP p D2]) := fun p => image_ct.val fun _ => by rw [hi2]
  have co2 : ∀ p, Ct Tryd.prog W 30 [.pointer (some ⟨p, 0, none⟩)] [DiskP p D2] (fun _ : Unit => .bool false) (fun _ => [DiskP p D2]) := fun p => off_ct.val fun _ => by rw [hD2]; rfl
  have cc : ∀ p g c, Ct Tryd.prog W 29 [.pointer (some ⟨p, 0, none⟩), .agg #[.slice (some ⟨g, 0, none⟩) kept.length c, .int .i64 torn, .int .i64 bytes]] [DiskP p D1, rowP (.slice (some ⟨g, 0, none⟩) (kept.length + 3) c) 4 1 (kept.length + 3) (kept.map .bool ++ [.bool true, .bool false, .bool true])] (fun _ : Unit => .tuple #[]) (fun _ => [DiskP p D2, rowP (.slice (some ⟨g, 0, none⟩) (kept.length + 3) c) 4 1 (kept.length + 3) (kept.map .bool ++ [.bool true, .bool false, .bool true])]) := fun p g c => by
    rw [hD2]; exact crash_row g c _ kept _ torn bytes rfl (by rw [hu1]; simp) (by omega)
  refine Ct.enter Tryd.func3 rfl Tryd.ntmps3 (by simp) (fun R => ?_)
  repeat' (first 
    | (refine is_list ?_; first | (refine KJ_plain ?_) | (refine KJ_nil ?_) | (refine KJ_guard_dec_t rfl rfl rfl (fun _ => ?_) (fun _ => ?_) <;> first | (exfalso; omega) | skip) | (refine KJ_guard_dec_f rfl rfl rfl (fun _ => ?_) (fun _ => ?_) <;> first | (exfalso; omega) | skip) | (refine KJ_guard_yes rfl rfl ?_) | (refine KJ_guard_no rfl rfl rfl rfl ?_))
    | (refine is_oper ?_; first | (refine is_store ?_; first | (refine KJ_store rfl rfl (by (repeat' (first | exact Sel.here | apply Sel.there)); first | done | fail) (by first | exact CellsOf.agg | exact CellsOf.one rfl) (by rfl) (by (repeat' (first | exact Ones.nil | exact Ones_bvs _ | refine Ones.cons rfl ?_)); first | done | fail) (by (repeat' (first | exact Laid.nil | apply Laid.cons | apply Laid.skip)); first | done | fail) (by (repeat' (first | exact Rep.here | apply Rep.there)); first | done | fail) ?_)) | (refine is_alloc ?_; first | (refine KJ_alloc rfl (fun _ => ?_))) | (refine is_box ?_; first | (refine KJ_box rfl (by first | exact CellsOf.agg | exact CellsOf.one rfl) rfl (fun g5 => ?_)) | (refine KJ_box rfl (by first | exact CellsOf.agg | exact CellsOf.one rfl) rfl (fun _ => ?_))) | (refine is_call ?_; first | (refine KJ_call (by (repeat' (first | exact Evs.nil | refine Evs.cons rfl ?_)); first | done | fail) (cp _) (by (repeat' (first | exact Pick.nil | apply Pick.cons | exact Sel.here | apply Sel.there)); first | done | fail) rfl (fun _ => ?_)) | (refine KJ_call (by (repeat' (first | exact Evs.nil | refine Evs.cons rfl ?_)); first | done | fail) (cf _) (by (repeat' (first | exact Pick.nil | apply Pick.cons | exact Sel.here | apply Sel.there)); first | done | fail) rfl (fun _ => ?_)) | (refine KJ_call (by (repeat' (first | exact Evs.nil | refine Evs.cons rfl ?_)); first | done | fail) cm (by (repeat' (first | exact Pick.nil | apply Pick.cons | exact Sel.here | apply Sel.there)); first | done | fail) rfl (fun p => ?_)) | (refine KJ_call (by (repeat' (first | exact Evs.nil | refine Evs.cons rfl ?_)); first | done | fail) (lives06_ct hE hg) (by (repeat' (first | exact Pick.nil | apply Pick.cons | exact Sel.here | apply Sel.there)); first | done | fail) rfl (fun _ => ?_))) | (refine KJ_ek rfl ?_) | (refine KJ_ek0 ?_))
    | (refine is_ek ?_; first | (refine ek_move ?_; first | (refine EK_ev (Ev_move rfl) ?_)) | (refine ek_assign ?_; first | (refine EK_ev (Ev_assign rfl) ?_)) | (refine ek_pick ?_; first | (refine EK_ev (Ev_pick_t rfl rfl) ?_) | (refine EK_ev (Ev_pick_f rfl rfl) ?_)) | (refine ek_nilCheck ?_; first | (refine EK_ev (Ev_nilCheck rfl) ?_)) | (refine ek_fieldAddr ?_; first | (refine EK_ev (Ev_field rfl) ?_)) | (refine ek_load ?_; first | (refine EK_ev (Ev_load rfl (by (repeat' (first | exact Sel.here | apply Sel.there)); first | done | fail) (by rfl)) ?_) | (refine EK_ev (Ev_loadOld rfl (by assumption)) ?_) | (refine EK_ev (Ev_loadAgg rfl (by (repeat' (first | exact Sel.here | apply Sel.there)); first | done | fail) (by (repeat' (first | exact Cut.nil | apply Cut.cons | apply Cut.skip)); first | done | fail)) ?_)) | (refine ek_un ?_; first | (refine EK_ev (Ev_notD rfl) ?_) | (refine EK_ev (Ev_not rfl) ?_) | (refine EK_ev (Ev_neg rfl) ?_)) | (refine ek_conv ?_; first | (refine EK_ev (Ev_convI64 rfl (by omega)) ?_) | (refine EK_ev (Ev_convI rfl) ?_) | (refine EK_ev (Ev_convS rfl) ?_)) | (refine ek_extract ?_; first | (refine EK_ev (Ev_extract rfl rfl) ?_)) | (refine ek_indexAddr ?_; first | (refine EK_ev (Ev_indexSlice rfl rfl (by omega)) ?_) | (refine EK_ev (Ev_indexArr rfl rfl (by omega)) ?_)) | (refine ek_field ?_; first | (refine EK_ev (Ev_fieldVal rfl rfl) ?_)) | (refine ek_mkIface ?_; first | (refine EK_ev (Ev_makeIface rfl rfl) ?_)) | (refine ek_len ?_; first | (refine EK_ev (Ev_len_str rfl) ?_) | (refine EK_ev (Ev_len_slice rfl) ?_) | (refine EK_ev (Ev_len_arr rfl) ?_) | (refine EK_ev (Ev_len_map rfl (by (repeat' (first | exact Sel.here | apply Sel.there)); first | done | fail)) ?_)) | (refine ek_min ?_; first | (refine EK_ev (Ev_min rfl rfl) ?_)) | (refine ek_max ?_; first | (refine EK_ev (Ev_max rfl rfl) ?_)) | (refine ek_add ?_; first | (refine EK_ev (Ev_addI rfl rfl (by omega)) ?_) | (refine EK_ev (Ev_addS rfl rfl (by simp <;> omega)) ?_) | (refine EK_ev (Ev_add rfl rfl) ?_)) | (refine ek_sub ?_; first | (refine EK_ev (Ev_subI rfl rfl (by omega)) ?_) | (refine EK_ev (Ev_sub rfl rfl) ?_)) | (refine ek_mul ?_; first | (refine EK_ev (Ev_mulI rfl rfl (by omega)) ?_) | (refine EK_ev (Ev_mul rfl rfl) ?_)) | (refine ek_quo ?_; first | (refine EK_ev (Ev_quoI rfl rfl (by omega)) ?_) | (refine EK_ev (Ev_quo rfl rfl (by omega)) ?_)) | (refine ek_rem ?_; first | (refine EK_ev (Ev_remI rfl rfl (by omega)) ?_) | (refine EK_ev (Ev_rem rfl rfl (by omega)) ?_)) | (refine ek_shl ?_; first | (refine EK_ev (Ev_shl rfl rfl (by omega)) ?_)) | (refine ek_shr ?_; first | (refine EK_ev (Ev_shr rfl rfl (by omega)) ?_)) | (refine ek_eql ?_; first | (refine EK_ev (Ev_eqlI rfl rfl) ?_) | (refine EK_ev (Ev_eqlS rfl rfl) ?_) | (refine EK_ev (Ev_eqlNil rfl rfl) ?_) | (refine EK_ev (Ev_eqlB rfl rfl) ?_) | (refine EK_ev (Ev_eqlO rfl rfl rfl (fun _ => rfl)) ?_)) | (refine ek_neq ?_; first | (refine EK_ev (Ev_neqI rfl rfl) ?_) | (refine EK_ev (Ev_neqS rfl rfl) ?_) | (refine EK_ev (Ev_neqNil rfl rfl) ?_) | (refine EK_ev (Ev_neqB rfl rfl) ?_) | (refine EK_ev (Ev_neqO rfl rfl rfl (fun _ => rfl)) ?_)) | (refine ek_lss ?_; first | (refine EK_ev (Ev_lssI rfl rfl) ?_) | (refine EK_ev (Ev_lssS rfl rfl) ?_)) | (refine ek_leq ?_; first | (refine EK_ev (Ev_leqI rfl rfl) ?_) | (refine EK_ev (Ev_leqS rfl rfl) ?_)) | (refine ek_gtr ?_; first | (refine EK_ev (Ev_gtrI rfl rfl) ?_) | (refine EK_ev (Ev_gtrS rfl rfl) ?_)) | (refine ek_geq ?_; first | (refine EK_ev (Ev_geqI rfl rfl) ?_) | (refine EK_ev (Ev_geqS rfl rfl) ?_)))
    | (refine is_ex ?_; first | (refine KJ_seq_normal ?_) | (refine KJ_seq_ret ?_) | (refine KJ_seq_exit ?_) | (refine KJ_thn_normal ?_) | (refine KJ_thn_ret ?_) | (refine KJ_thn_exit ?_) | (refine KJ_blk_normal ?_) | (refine KJ_blk_ret ?_) | (refine KJ_blk_exit ?_) | (refine KJ_blk_exit' rfl ?_))
    | (refine is_code ?_; first | (refine KJ_seq ?_) | (refine KJ_region ?_) | (refine KJ_cond_dec rfl (fun _ => ?_) (fun _ => ?_) <;> first | (exfalso; omega) | skip) | (refine KJ_cond_t rfl ?_) | (refine KJ_cond_f rfl ?_) | (refine KJ_skip ?_) | (refine KJ_ret ?_) | (refine KJ_exit ?_) | (refine KJ_block ?_)))
  refine KJ_loop (fun i : {k : Nat // k ≤ N} => [(0, .int .i64 (N : Nat)), (5, .pointer (some ⟨g5, 0, none⟩)), (7, .pointer (some ⟨p, 0, none⟩)), (8, strV (D1.img.take (256 * i.1))), (9, .int .i64 (i.1 : Nat))])
    (fun i => [DiskP p D1, cellsP g5 [.slice ka kept.length kc, .int .i64 torn, .int .i64 bytes] 25] ++ R) (fun i => N - i.1) ⟨0, by omega⟩ (by (repeat' (first | exact Subs.nil | refine Subs.cons rfl ?_)); first | done | fail) (Ent.of (by (repeat' (first | exact Pick.nil | apply Pick.cons | exact Sel.here | apply Sel.there)); first | done | fail) (by (repeat' (first | exact DropTo.refl | apply DropTo.there)); first | done | fail)) (fun ⟨k, hk⟩ => ?_)
  dsimp only
  by_cases hlt : k < N
  · have hr := read_clean hc1 hu1 k (by omega)
    have cr : ∀ p, Ct Tryd.prog W 26 [.pointer (some ⟨p, 0, none⟩), .int .i64 (k : Nat)] [DiskP p D1] (fun _ : Unit => .tuple #[strV (cut D1.img (k * 256) 256), errV E 0]) (fun _ => [DiskP p D1]) := fun p => (read_ct hE.on (k : Nat)).val fun _ => by rw [hr.1, hr.2]
    have htc := take_cut D1.img k
    have hbd : (D1.img.take (256 * k)).length + (cut D1.img (k * 256) 256).length ≤ 9223372036854775807 := by
      rw [List.length_take, cut_length _ _ _ (by omega)]; omega
    have hs' : ∀ v, strV (D1.img.take (256 * k) ++ cut D1.img (k * 256) 256) = v → strV (D1.img.take (256 * (k + 1))) = v := fun v h => by rw [← htc]; exact h
    repeat' (first 
    | (refine is_list ?_; first | (refine KJ_plain ?_) | (refine KJ_nil ?_) | (refine KJ_guard_dec_t rfl rfl rfl (fun _ => ?_) (fun _ => ?_) <;> first | (exfalso; omega) | skip) | (refine KJ_guard_dec_f rfl rfl rfl (fun _ => ?_) (fun _ => ?_) <;> first | (exfalso; omega) | skip) | (refine KJ_guard_yes rfl rfl ?_) | (refine KJ_guard_no rfl rfl rfl rfl ?_))
    | (refine is_oper ?_; first | (refine is_store ?_; first | (refine KJ_store rfl rfl (by (repeat' (first | exact Sel.here | apply Sel.there)); first | done | fail) (by first | exact CellsOf.agg | exact CellsOf.one rfl) (by rfl) (by (repeat' (first | exact Ones.nil | exact Ones_bvs _ | refine Ones.cons rfl ?_)); first | done | fail) (by (repeat' (first | exact Laid.nil | apply Laid.cons | apply Laid.skip)); first | done | fail) (by (repeat' (first | exact Rep.here | apply Rep.there)); first | done | fail) ?_)) | (refine is_alloc ?_; first | (refine KJ_alloc rfl (fun _ => ?_))) | (refine is_box ?_; first | (refine KJ_box rfl (by first | exact CellsOf.agg | exact CellsOf.one rfl) rfl (fun _ => ?_))) | (refine is_call ?_; first | (refine KJ_call (by (repeat' (first | exact Evs.nil | refine Evs.cons rfl ?_)); first | done | fail) (cr _) (by (repeat' (first | exact Pick.nil | apply Pick.cons | exact Sel.here | apply Sel.there)); first | done | fail) rfl (fun _ => ?_))) | (refine KJ_ek rfl ?_) | (refine KJ_ek0 ?_))
    | (refine is_ek ?_; first | (refine ek_move ?_; first | (refine EK_ev (Ev_move rfl) ?_)) | (refine ek_assign ?_; first | (refine EK_ev (Ev_assign rfl) ?_)) | (refine ek_pick ?_; first | (refine EK_ev (Ev_pick_t rfl rfl) ?_) | (refine EK_ev (Ev_pick_f rfl rfl) ?_)) | (refine ek_nilCheck ?_; first | (refine EK_ev (Ev_nilCheck rfl) ?_)) | (refine ek_fieldAddr ?_; first | (refine EK_ev (Ev_field rfl) ?_)) | (refine ek_load ?_; first | (refine EK_ev (Ev_load rfl (by (repeat' (first | exact Sel.here | apply Sel.there)); first | done | fail) (by rfl)) ?_) | (refine EK_ev (Ev_loadOld rfl (by assumption)) ?_) | (refine EK_ev (Ev_loadAgg rfl (by (repeat' (first | exact Sel.here | apply Sel.there)); first | done | fail) (by (repeat' (first | exact Cut.nil | apply Cut.cons | apply Cut.skip)); first | done | fail)) ?_)) | (refine ek_un ?_; first | (refine EK_ev (Ev_notD rfl) ?_) | (refine EK_ev (Ev_not rfl) ?_) | (refine EK_ev (Ev_neg rfl) ?_)) | (refine ek_conv ?_; first | (refine EK_ev (Ev_convI64 rfl (by omega)) ?_) | (refine EK_ev (Ev_convI rfl) ?_) | (refine EK_ev (Ev_convS rfl) ?_)) | (refine ek_extract ?_; first | (refine EK_ev (Ev_extract rfl rfl) ?_)) | (refine ek_indexAddr ?_; first | (refine EK_ev (Ev_indexSlice rfl rfl (by omega)) ?_) | (refine EK_ev (Ev_indexArr rfl rfl (by omega)) ?_)) | (refine ek_field ?_; first | (refine EK_ev (Ev_fieldVal rfl rfl) ?_)) | (refine ek_mkIface ?_; first | (refine EK_ev (Ev_makeIface rfl rfl) ?_)) | (refine ek_len ?_; first | (refine EK_ev (Ev_len_str rfl) ?_) | (refine EK_ev (Ev_len_slice rfl) ?_) | (refine EK_ev (Ev_len_arr rfl) ?_) | (refine EK_ev (Ev_len_map rfl (by (repeat' (first | exact Sel.here | apply Sel.there)); first | done | fail)) ?_)) | (refine ek_min ?_; first | (refine EK_ev (Ev_min rfl rfl) ?_)) | (refine ek_max ?_; first | (refine EK_ev (Ev_max rfl rfl) ?_)) | (refine ek_add ?_; first | (refine EK_ev (Ev_addS rfl rfl hbd) ?_) | (refine EK_ev (Ev_addI rfl rfl (by omega)) ?_) | (refine EK_ev (Ev_addS rfl rfl (by simp <;> omega)) ?_) | (refine EK_ev (Ev_add rfl rfl) ?_)) | (refine ek_sub ?_; first | (refine EK_ev (Ev_subI rfl rfl (by omega)) ?_) | (refine EK_ev (Ev_sub rfl rfl) ?_)) | (refine ek_mul ?_; first | (refine EK_ev (Ev_mulI rfl rfl (by omega)) ?_) | (refine EK_ev (Ev_mul rfl rfl) ?_)) | (refine ek_quo ?_; first | (refine EK_ev (Ev_quoI rfl rfl (by omega)) ?_) | (refine EK_ev (Ev_quo rfl rfl (by omega)) ?_)) | (refine ek_rem ?_; first | (refine EK_ev (Ev_remI rfl rfl (by omega)) ?_) | (refine EK_ev (Ev_rem rfl rfl (by omega)) ?_)) | (refine ek_shl ?_; first | (refine EK_ev (Ev_shl rfl rfl (by omega)) ?_)) | (refine ek_shr ?_; first | (refine EK_ev (Ev_shr rfl rfl (by omega)) ?_)) | (refine ek_eql ?_; first | (refine EK_ev (Ev_eqlI rfl rfl) ?_) | (refine EK_ev (Ev_eqlS rfl rfl) ?_) | (refine EK_ev (Ev_eqlNil rfl rfl) ?_) | (refine EK_ev (Ev_eqlB rfl rfl) ?_) | (refine EK_ev (Ev_eqlO rfl rfl rfl (fun _ => rfl)) ?_)) | (refine ek_neq ?_; first | (refine EK_ev (Ev_neqI rfl rfl) ?_) | (refine EK_ev (Ev_neqS rfl rfl) ?_) | (refine EK_ev (Ev_neqNil rfl rfl) ?_) | (refine EK_ev (Ev_neqB rfl rfl) ?_) | (refine EK_ev (Ev_neqO rfl rfl rfl (fun _ => rfl)) ?_)) | (refine ek_lss ?_; first | (refine EK_ev (Ev_lssI rfl rfl) ?_) | (refine EK_ev (Ev_lssS rfl rfl) ?_)) | (refine ek_leq ?_; first | (refine EK_ev (Ev_leqI rfl rfl) ?_) | (refine EK_ev (Ev_leqS rfl rfl) ?_)) | (refine ek_gtr ?_; first | (refine EK_ev (Ev_gtrI rfl rfl) ?_) | (refine EK_ev (Ev_gtrS rfl rfl) ?_)) | (refine ek_geq ?_; first | (refine EK_ev (Ev_geqI rfl rfl) ?_) | (refine EK_ev (Ev_geqS rfl rfl) ?_)))
    | (refine is_ex ?_; first | (refine KJ_seq_normal ?_) | (refine KJ_seq_ret ?_) | (refine KJ_seq_exit ?_) | (refine KJ_thn_normal ?_) | (refine KJ_thn_ret ?_) | (refine KJ_thn_exit ?_) | (refine KJ_blk_normal ?_) | (refine KJ_blk_ret ?_) | (refine KJ_blk_exit ?_) | (refine KJ_blk_exit' rfl ?_))
    | (refine is_code ?_; first | (refine KJ_seq ?_) | (refine KJ_region ?_) | (refine KJ_cond_dec rfl (fun _ => ?_) (fun _ => ?_) <;> first | (exfalso; omega) | skip) | (refine KJ_cond_t rfl ?_) | (refine KJ_cond_f rfl ?_) | (refine KJ_skip ?_) | (refine KJ_ret ?_) | (refine KJ_exit ?_) | (refine KJ_block ?_)))
    rw [htc]
    refine KJ_again ⟨k + 1, by omega⟩ (by show N - (k + 1) < N - k; omega) (by (repeat' (first | exact Subs.nil | refine Subs.cons rfl ?_)); first | done | fail) (Ent.of (by (repeat' (first | exact Pick.nil | apply Pick.cons | exact Sel.here | apply Sel.there)); first | done | fail) (by (repeat' (first | exact DropTo.refl | apply DropTo.there)); first | done | fail))
  · have hkN : k = N := by omega
    subst hkN
    rw [List.take_of_length_le (by omega)]
    repeat' (first 
    | (refine is_list ?_; first | (refine KJ_plain ?_) | (refine KJ_nil ?_) | (refine KJ_guard_dec_t rfl rfl rfl (fun _ => ?_) (fun _ => ?_) <;> first | (exfalso; omega) | skip) | (refine KJ_guard_dec_f rfl rfl rfl (fun _ => ?_) (fun _ => ?_) <;> first | (exfalso; omega) | skip) | (refine KJ_guard_yes rfl rfl ?_) | (refine KJ_guard_no rfl rfl rfl rfl ?_))
    | (refine is_oper ?_; first | (refine is_store ?_; first | (refine KJ_store rfl rfl (by (repeat' (first | exact Sel.here | apply Sel.there)); first | done | fail) (by first | exact CellsOf.agg | exact CellsOf.one rfl) (by rfl) (by (repeat' (first | exact Ones.nil | exact Ones_bvs _ | refine Ones.cons rfl ?_)); first | done | fail) (by (repeat' (first | exact Laid.nil | apply Laid.cons | apply Laid.skip)); first | done | fail) (by (repeat' (first | exact Rep.here | apply Rep.there)); first | done | fail) ?_)) | (refine is_alloc ?_; first | (refine KJ_alloc rfl (fun _ => ?_))) | (refine is_box ?_; first | (refine KJ_box rfl (by first | exact CellsOf.agg | exact CellsOf.one rfl) rfl (fun _ => ?_))) | (refine is_call ?_; first | (refine KJ_call (by (repeat' (first | exact Evs.nil | refine Evs.cons rfl ?_)); first | done | fail) (spare_ct _ kept torn bytes hk0 hkl) (by (repeat' (first | exact Pick.nil | apply Pick.cons | exact Sel.here | apply Sel.there)); first | done | fail) rfl (fun x => ?_)) | (refine KJ_call (by (repeat' (first | exact Evs.nil | refine Evs.cons rfl ?_)); first | done | fail) (cc _ _ _) (by (repeat' (first | exact Pick.nil | apply Pick.cons | exact Sel.here | apply Sel.there)); first | done | fail) rfl (fun _ => ?_)) | (refine KJ_call (by (repeat' (first | exact Evs.nil | refine Evs.cons rfl ?_)); first | done | fail) (co2 _) (by (repeat' (first | exact Pick.nil | apply Pick.cons | exact Sel.here | apply Sel.there)); first | done | fail) rfl (fun _ => ?_)) | (refine KJ_call (by (repeat' (first | exact Evs.nil | refine Evs.cons rfl ?_)); first | done | fail) (ci2 _) (by (repeat' (first | exact Pick.nil | apply Pick.cons | exact Sel.here | apply Sel.there)); first | done | fail) rfl (fun _ => ?_)) | (refine KJ_call (by (repeat' (first | exact Evs.nil | refine Evs.cons rfl ?_)); first | done | fail) (ci _) (by (repeat' (first | exact Pick.nil | apply Pick.cons | exact Sel.here | apply Sel.there)); first | done | fail) rfl (fun _ => ?_))) | (refine KJ_ek rfl ?_) | (refine KJ_ek0 ?_))
    | (refine is_ek ?_; first | (refine ek_move ?_; first | (refine EK_ev (Ev_move rfl) ?_)) | (refine ek_assign ?_; first | (refine EK_ev (Ev_assign rfl) ?_)) | (refine ek_pick ?_; first | (refine EK_ev (Ev_pick_t rfl rfl) ?_) | (refine EK_ev (Ev_pick_f rfl rfl) ?_)) | (refine ek_nilCheck ?_; first | (refine EK_ev (Ev_nilCheck rfl) ?_)) | (refine ek_fieldAddr ?_; first | (refine EK_ev (Ev_field rfl) ?_)) | (refine ek_load ?_; first | (refine EK_ev (Ev_load rfl (by (repeat' (first | exact Sel.here | apply Sel.there)); first | done | fail) (by rfl)) ?_) | (refine EK_ev (Ev_loadOld rfl (by assumption)) ?_) | (refine EK_ev (Ev_loadAgg rfl (by (repeat' (first | exact Sel.here | apply Sel.there)); first | done | fail) (by (repeat' (first | exact Cut.nil | apply Cut.cons | apply Cut.skip)); first | done | fail)) ?_)) | (refine ek_un ?_; first | (refine EK_ev (Ev_notD rfl) ?_) | (refine EK_ev (Ev_not rfl) ?_) | (refine EK_ev (Ev_neg rfl) ?_)) | (refine ek_conv ?_; first | (refine EK_ev (Ev_convI64 rfl (by omega)) ?_) | (refine EK_ev (Ev_convI rfl) ?_) | (refine EK_ev (Ev_convS rfl) ?_)) | (refine ek_extract ?_; first | (refine EK_ev (Ev_extract rfl rfl) ?_)) | (refine ek_indexAddr ?_; first | (refine EK_ev (Ev_indexSlice rfl rfl (by omega)) ?_) | (refine EK_ev (Ev_indexArr rfl rfl (by omega)) ?_)) | (refine ek_field ?_; first | (refine EK_ev (Ev_fieldVal rfl rfl) ?_)) | (refine ek_mkIface ?_; first | (refine EK_ev (Ev_makeIface rfl rfl) ?_)) | (refine ek_len ?_; first | (refine EK_ev (Ev_len_str rfl) ?_) | (refine EK_ev (Ev_len_slice rfl) ?_) | (refine EK_ev (Ev_len_arr rfl) ?_) | (refine EK_ev (Ev_len_map rfl (by (repeat' (first | exact Sel.here | apply Sel.there)); first | done | fail)) ?_)) | (refine ek_min ?_; first | (refine EK_ev (Ev_min rfl rfl) ?_)) | (refine ek_max ?_; first | (refine EK_ev (Ev_max rfl rfl) ?_)) | (refine ek_add ?_; first | (refine EK_ev (Ev_addI rfl rfl (by omega)) ?_) | (refine EK_ev (Ev_addS rfl rfl (by simp <;> omega)) ?_) | (refine EK_ev (Ev_add rfl rfl) ?_)) | (refine ek_sub ?_; first | (refine EK_ev (Ev_subI rfl rfl (by omega)) ?_) | (refine EK_ev (Ev_sub rfl rfl) ?_)) | (refine ek_mul ?_; first | (refine EK_ev (Ev_mulI rfl rfl (by omega)) ?_) | (refine EK_ev (Ev_mul rfl rfl) ?_)) | (refine ek_quo ?_; first | (refine EK_ev (Ev_quoI rfl rfl (by omega)) ?_) | (refine EK_ev (Ev_quo rfl rfl (by omega)) ?_)) | (refine ek_rem ?_; first | (refine EK_ev (Ev_remI rfl rfl (by omega)) ?_) | (refine EK_ev (Ev_rem rfl rfl (by omega)) ?_)) | (refine ek_shl ?_; first | (refine EK_ev (Ev_shl rfl rfl (by omega)) ?_)) | (refine ek_shr ?_; first | (refine EK_ev (Ev_shr rfl rfl (by omega)) ?_)) | (refine ek_eql ?_; first | (refine EK_ev (Ev_eqlS_t rfl rfl rfl) ?_) | (refine EK_ev (Ev_eqlI rfl rfl) ?_) | (refine EK_ev (Ev_eqlS rfl rfl) ?_) | (refine EK_ev (Ev_eqlNil rfl rfl) ?_) | (refine EK_ev (Ev_eqlB rfl rfl) ?_) | (refine EK_ev (Ev_eqlO rfl rfl rfl (fun _ => rfl)) ?_)) | (refine ek_neq ?_; first | (refine EK_ev (Ev_neqS_f rfl rfl rfl) ?_) | (refine EK_ev (Ev_neqI rfl rfl) ?_) | (refine EK_ev (Ev_neqS rfl rfl) ?_) | (refine EK_ev (Ev_neqNil rfl rfl) ?_) | (refine EK_ev (Ev_neqB rfl rfl) ?_) | (refine EK_ev (Ev_neqO rfl rfl rfl (fun _ => rfl)) ?_)) | (refine ek_lss ?_; first | (refine EK_ev (Ev_lssI rfl rfl) ?_) | (refine EK_ev (Ev_lssS rfl rfl) ?_)) | (refine ek_leq ?_; first | (refine EK_ev (Ev_leqI rfl rfl) ?_) | (refine EK_ev (Ev_leqS rfl rfl) ?_)) | (refine ek_gtr ?_; first | (refine EK_ev (Ev_gtrI rfl rfl) ?_) | (refine EK_ev (Ev_gtrS rfl rfl) ?_)) | (refine ek_geq ?_; first | (refine EK_ev (Ev_geqI rfl rfl) ?_) | (refine EK_ev (Ev_geqS rfl rfl) ?_)))
    | (refine is_ex ?_; first | (refine KJ_seq_normal ?_) | (refine KJ_seq_ret ?_) | (refine KJ_seq_exit ?_) | (refine KJ_thn_normal ?_) | (refine KJ_thn_ret ?_) | (refine KJ_thn_exit ?_) | (refine KJ_blk_normal ?_) | (refine KJ_blk_ret ?_) | (refine KJ_blk_exit ?_) | (refine KJ_blk_exit' rfl ?_))
    | (refine is_code ?_; first | (refine KJ_seq ?_) | (refine KJ_region ?_) | (refine KJ_cond_dec rfl (fun _ => ?_) (fun _ => ?_) <;> first | (exfalso; omega) | skip) | (refine KJ_cond_t rfl ?_) | (refine KJ_cond_f rfl ?_) | (refine KJ_skip ?_) | (refine KJ_ret ?_) | (refine KJ_exit ?_) | (refine KJ_block ?_)))
    all_goals exact KJ_done (by first | exact Or.inl rfl | exact Or.inr rfl) rfl (by (repeat' (first | exact Rvs.nil | (apply Rvs.tmp; exact rfl))); first | done | fail) () (by rfl) (Ent.of (by (repeat' (first | exact Pick.nil | apply Pick.cons | exact Sel.here | apply Sel.there)); first | done | fail) (by (repeat' (first | exact DropTo.refl | apply DropTo.there)); first | done | fail))
end Go.Proofs.YteklldbfdmaafaaDoor
