/-
  JRf2, JRf3, JRf4, Opens, Apart, Open8.
-/
import Derived.Test.YteklldbfdmaafaaDoorLD
/-
  The document's log: its place, its sectors' payloads, a record's pieces; where the program's log may not lie.
-/
namespace Go.Proofs.YteklldbfdmaafaaDoor
open Go Go.RowKit
theorem at_seq_block {P : Program} {W : World} {n : Nat} {E : Env} {H : List SP} {q : QQ} {id : Nat} {c c2 : Code} (h : KJ W n (.code P (Code.seq (Code.block id c) c2) q) E H) : KJ W n (.code P (Code.seq (Code.block id c) c2) q) E H := h
theorem KJ.asv {W : World} {n : Nat} {k : KK} {E : Env} {H : List SP} (t : Nat) {v v' : Value} (q : Env.at E t = some v) (e : v = v') (h : KJ W n k ((t, v') :: E) H) : KJ W n k E H := by subst e; exact KJ.also t q h
theorem log_cases {D : Dsk} {at_ n ver : Int} (h : ¬ logOk D at_ n ver) : at_ < 0 ∨ (0 ≤ at_ ∧ n < 0) ∨ (0 ≤ at_ ∧ 0 ≤ n ∧ (D.n : Int) < at_) ∨ (0 ≤ at_ ∧ 0 ≤ n ∧ at_ ≤ D.n ∧ (D.n : Int) - at_ < n) ∨ (0 ≤ at_ ∧ 0 ≤ n ∧ at_ ≤ D.n ∧ n ≤ (D.n : Int) - at_ ∧ 65536 < n) ∨
    (0 ≤ at_ ∧ 0 ≤ n ∧ at_ ≤ D.n ∧ n ≤ (D.n : Int) - at_ ∧ n ≤ 65536 ∧ ver < 1) ∨ (0 ≤ at_ ∧ 0 ≤ n ∧ at_ ≤ D.n ∧ n ≤ (D.n : Int) - at_ ∧ n ≤ 65536 ∧ 1 ≤ ver ∧ 1099511627776 < ver) := by
  unfold logOk at h; omega
section
variable {W : World} {E : Nat → Addr} {p g : Nat} {D : Dsk}
theorem check_bad0 (_ : D.n ≤ 65536) (e6 : W.cell? ⟨3, 0, none⟩ = some (errV E 6)) (at_ n ver : Int) (h : at_ < 0) : Ct Tryd.prog W 98 [.agg #[.pointer (some ⟨p, 0, none⟩), .int .i64 at_, .int .i64 n, .int .i64 ver]] [DiskP p D] (fun _ : Unit => errV E 6) (fun _ => [DiskP p D]) := by
  have q0 : decide (at_ < 0) = true := decide_eq_true (by omega)
  refine Ct.enter Tryd.func98 rfl Tryd.ntmps98 (by simp) (fun R => ?_)
  repeat' (first 
    | refine KJ_stp (by first | constructor | fail) ?_
    | (refine is_list ?_; first | (refine KJ_guard_dec_t rfl rfl rfl (fun _ => ?_) (fun _ => ?_) <;> first | (exfalso; omega) | skip) | (refine KJ_guard_dec_f rfl rfl rfl (fun _ => ?_) (fun _ => ?_) <;> first | (exfalso; omega) | skip) | (refine KJ_guard_yes rfl rfl ?_) | (refine KJ_guard_no rfl rfl rfl rfl ?_))
    | (refine is_oper ?_; first | (refine is_box ?_; first | (refine KJ_box rfl xF rfl (fun g1 => ?_)) | (refine KJ_box rfl xF rfl (fun _ => ?_))) | (refine KJ_ek rfl ?_) | (refine KJ_ek0 ?_))
    | (refine is_ek ?_; first | (refine xmv ?_) | (refine xas ?_) | (refine xpt ?_) | (refine xpf ?_) | (refine xfa ?_) | (refine ek_load ?_; first | (refine EK_ev (Ev_loadAgg rfl xS xC) ?_) | (refine EK_ev (Ev_load rfl xS (by rfl)) ?_) | (refine EK_ev (Ev_loadOld rfl e6) ?_) | (refine EK_ev (Ev_loadOld rfl (by assumption)) ?_)) | (refine ek_sub ?_; first | (refine EK_ev (Ev_subI rfl rfl (by omega)) ?_) | (refine EK_ev (Ev_sub rfl rfl) ?_)) | (refine ek_lss ?_; first | (refine EK_ev (Ev_lssI_q rfl rfl q0) ?_) | (refine EK_ev (Ev_lssI rfl rfl) ?_) | (refine EK_ev (Ev_lssS rfl rfl) ?_)) | (refine ek_gtr ?_; first | (refine EK_ev (Ev_gtrI rfl rfl) ?_) | (refine EK_ev (Ev_gtrS rfl rfl) ?_)))
    | (refine is_ex ?_; first | (refine KJ_blk_exit' rfl ?_))
    | (refine is_code ?_; first | (refine KJ_cond_dec rfl (fun _ => ?_) (fun _ => ?_) <;> first | (exfalso; omega) | skip) | (refine KJ_cond_t rfl ?_) | (refine KJ_cond_f rfl ?_) | (refine KJ_draws (id := 1) (.op 0 (.op 1 (.op 2 (.op 3 (.op 4 (.op 5 (.op 6 (.op 7 (.op 8 (.op 9 (.op 10 (.op 11 (.op 12 (.op 13 (.op 14 (.op 15 (.op 16 (.op 17 (.op 18 (.op 19 (.op 20 (.op 21 (.op 22 (.op 23 (.op 24 (.op 25 (.op 26 (.op 27 (.op 28 (.op 29 (.op 30 (.op 31 (.op 32 (.op 33 (.op 34 (.op 35 (.op 36 (.op 37 (.op 38 (.op 39 (.op 40 (.op 41 .nil)))))))))))))))))))))))))))))))))))))))))) (by kernel_rfl) (by kernel_rfl) ?_))
    | (refine is_fw ?_; first | (refine FW_open rfl ?_) | (refine FW_nil ?_) | (refine FW_ef rfl ?_) | (refine FW_efg rfl rfl rfl ?_) | (refine FW_alt ?_ ?_))
    | (refine is_fo ?_; first | (refine FO_dec_t rfl rfl (fun _ => ?_) (fun _ => ?_) <;> first | (exfalso; omega) | skip) | (refine FO_dec_f rfl rfl (fun _ => ?_) (fun _ => ?_) <;> first | (exfalso; omega) | skip) | (refine FO_no rfl rfl rfl rfl ?_) | (refine FO_ekg rfl rfl rfl ?_) | (refine FO_ek rfl ?_))
    | (refine is_ro ?_; first | (refine RO_no rfl rfl rfl rfl ?_) | (refine RO_ekg rfl rfl ?_) | (refine RO_ek ?_))
    | (refine is_raw ?_; first | (refine KJ_flow ?_ ?_))
    | (refine AtR_mk rfl ?_)
    | exact Rech.nil
    | (refine Rech_open rfl ?_))
  all_goals (exact xdn ())
theorem check_bad1 (_ : D.n ≤ 65536) (e6 : W.cell? ⟨3, 0, none⟩ = some (errV E 6)) (at_ n ver : Int) (h : 0 ≤ at_ ∧ n < 0) : Ct Tryd.prog W 98 [.agg #[.pointer (some ⟨p, 0, none⟩), .int .i64 at_, .int .i64 n, .int .i64 ver]] [DiskP p D] (fun _ : Unit => errV E 6) (fun _ => [DiskP p D]) := by
  have q0 : decide (at_ < 0) = false := decide_eq_false (by omega)
  have q1 : decide (n < 0) = true := decide_eq_true (by omega)
  refine Ct.enter Tryd.func98 rfl Tryd.ntmps98 (by simp) (fun R => ?_)
  repeat' (first 
    | refine KJ_stp (by first | constructor | fail) ?_
    | (refine is_list ?_; first | (refine KJ_guard_dec_t rfl rfl rfl (fun _ => ?_) (fun _ => ?_) <;> first | (exfalso; omega) | skip) | (refine KJ_guard_dec_f rfl rfl rfl (fun _ => ?_) (fun _ => ?_) <;> first | (exfalso; omega) | skip) | (refine KJ_guard_yes rfl rfl ?_) | (refine KJ_guard_no rfl rfl rfl rfl ?_))
    | (refine is_oper ?_; first | (refine is_box ?_; first | (refine KJ_box rfl xF rfl (fun g1 => ?_)) | (refine KJ_box rfl xF rfl (fun _ => ?_))) | (refine KJ_ek rfl ?_) | (refine KJ_ek0 ?_))
    | (refine is_ek ?_; first | (refine xmv ?_) | (refine xas ?_) | (refine xpt ?_) | (refine xpf ?_) | (refine xfa ?_) | (refine ek_load ?_; first | (refine EK_ev (Ev_loadAgg rfl xS xC) ?_) | (refine EK_ev (Ev_load rfl xS (by rfl)) ?_) | (refine EK_ev (Ev_loadOld rfl e6) ?_) | (refine EK_ev (Ev_loadOld rfl (by assumption)) ?_)) | (refine ek_sub ?_; first | (refine EK_ev (Ev_subI rfl rfl (by omega)) ?_) | (refine EK_ev (Ev_sub rfl rfl) ?_)) | (refine ek_lss ?_; first | (refine EK_ev (Ev_lssI_q rfl rfl q1) ?_) | (refine EK_ev (Ev_lssI_q rfl rfl q0) ?_) | (refine EK_ev (Ev_lssI rfl rfl) ?_) | (refine EK_ev (Ev_lssS rfl rfl) ?_)) | (refine ek_gtr ?_; first | (refine EK_ev (Ev_gtrI rfl rfl) ?_) | (refine EK_ev (Ev_gtrS rfl rfl) ?_)))
    | (refine is_ex ?_; first | (refine KJ_blk_exit' rfl ?_))
    | (refine is_code ?_; first | (refine KJ_cond_dec rfl (fun _ => ?_) (fun _ => ?_) <;> first | (exfalso; omega) | skip) | (refine KJ_cond_t rfl ?_) | (refine KJ_cond_f rfl ?_) | (refine KJ_draws (id := 1) (.op 0 (.op 1 (.op 2 (.op 3 (.op 4 (.op 5 (.op 6 (.op 7 (.op 8 (.op 9 (.op 10 (.op 11 (.op 12 (.op 13 (.op 14 (.op 15 (.op 16 (.op 17 (.op 18 (.op 19 (.op 20 (.op 21 (.op 22 (.op 23 (.op 24 (.op 25 (.op 26 (.op 27 (.op 28 (.op 29 (.op 30 (.op 31 (.op 32 (.op 33 (.op 34 (.op 35 (.op 36 (.op 37 (.op 38 (.op 39 (.op 40 (.op 41 .nil)))))))))))))))))))))))))))))))))))))))))) (by kernel_rfl) (by kernel_rfl) ?_))
    | (refine is_fw ?_; first | (refine FW_open rfl ?_) | (refine FW_nil ?_) | (refine FW_ef rfl ?_) | (refine FW_efg rfl rfl rfl ?_) | (refine FW_alt ?_ ?_))
    | (refine is_fo ?_; first | (refine FO_dec_t rfl rfl (fun _ => ?_) (fun _ => ?_) <;> first | (exfalso; omega) | skip) | (refine FO_dec_f rfl rfl (fun _ => ?_) (fun _ => ?_) <;> first | (exfalso; omega) | skip) | (refine FO_no rfl rfl rfl rfl ?_) | (refine FO_ekg rfl rfl rfl ?_) | (refine FO_ek rfl ?_))
    | (refine is_ro ?_; first | (refine RO_no rfl rfl rfl rfl ?_) | (refine RO_ekg rfl rfl ?_) | (refine RO_ek ?_))
    | (refine is_raw ?_; first | (refine KJ_flow ?_ ?_))
    | (refine AtR_mk rfl ?_)
    | exact Rech.nil
    | (refine Rech_open rfl ?_))
  all_goals (exact xdn ())
theorem check_bad2 (_ : D.n ≤ 65536) (e6 : W.cell? ⟨3, 0, none⟩ = some (errV E 6)) (at_ n ver : Int) (h : 0 ≤ at_ ∧ 0 ≤ n ∧ (D.n : Int) < at_) : Ct Tryd.prog W 98 [.agg #[.pointer (some ⟨p, 0, none⟩), .int .i64 at_, .int .i64 n, .int .i64 ver]] [DiskP p D] (fun _ : Unit => errV E 6) (fun _ => [DiskP p D]) := by
  have c1 : Ct Tryd.prog W 40 [.pointer (some ⟨p, 0, none⟩)] [DiskP p D] (fun _ : Unit => .int .i64 D.n) (fun _ => [DiskP p D]) := size_ct
  have q0 : decide (at_ < 0) = false := decide_eq_false (by omega)
  have q1 : decide (n < 0) = false := decide_eq_false (by omega)
  have q2 : decide ((D.n : Int) < at_) = true := decide_eq_true (by omega)
  refine Ct.enter Tryd.func98 rfl Tryd.ntmps98 (by simp) (fun R => ?_)
  repeat' (first 
    | refine KJ_stp (by first | constructor | fail) ?_
    | (refine is_list ?_; first | (refine KJ_guard_dec_t rfl rfl rfl (fun _ => ?_) (fun _ => ?_) <;> first | (exfalso; omega) | skip) | (refine KJ_guard_dec_f rfl rfl rfl (fun _ => ?_) (fun _ => ?_) <;> first | (exfalso; omega) | skip) | (refine KJ_guard_yes rfl rfl ?_) | (refine KJ_guard_no rfl rfl rfl rfl ?_))
    | (refine is_oper ?_; first | (refine is_box ?_; first | (refine KJ_box rfl xF rfl (fun g1 => ?_)) | (refine KJ_box rfl xF rfl (fun _ => ?_))) | (refine KJ_ek rfl ?_) | (refine KJ_ek0 ?_))
    | (refine is_ek ?_; first | (refine xmv ?_) | (refine xas ?_) | (refine xpt ?_) | (refine xpf ?_) | (refine xfa ?_) | (refine ek_load ?_; first | (refine EK_ev (Ev_loadAgg rfl xS xC) ?_) | (refine EK_ev (Ev_load rfl xS (by rfl)) ?_) | (refine EK_ev (Ev_loadOld rfl e6) ?_) | (refine EK_ev (Ev_loadOld rfl (by assumption)) ?_)) | (refine ek_sub ?_; first | (refine EK_ev (Ev_subI rfl rfl (by omega)) ?_) | (refine EK_ev (Ev_sub rfl rfl) ?_)) | (refine ek_lss ?_; first | (refine EK_ev (Ev_lssI_q rfl rfl q1) ?_) | (refine EK_ev (Ev_lssI_q rfl rfl q0) ?_) | (refine EK_ev (Ev_lssI rfl rfl) ?_) | (refine EK_ev (Ev_lssS rfl rfl) ?_)) | (refine ek_gtr ?_; first | (refine EK_ev (Ev_gtrI_q rfl rfl q2) ?_) | (refine EK_ev (Ev_gtrI rfl rfl) ?_) | (refine EK_ev (Ev_gtrS rfl rfl) ?_)))
    | (refine is_ex ?_; first | (refine KJ_blk_exit' rfl ?_))
    | (refine is_code ?_; first | (refine KJ_cond_dec rfl (fun _ => ?_) (fun _ => ?_) <;> first | (exfalso; omega) | skip) | (refine KJ_cond_t rfl ?_) | (refine KJ_cond_f rfl ?_) | (refine KJ_draws (id := 1) (.op 0 (.op 1 (.op 2 (.op 3 (.op 4 (.op 5 (.op 6 (.op 7 (.op 8 (.op 9 (.op 10 (.op 11 (.op 12 (.op 13 (.op 14 (.op 15 (.op 16 (.op 17 (.op 18 (.op 19 (.op 20 (.op 21 (.op 22 (.op 23 (.op 24 (.op 25 (.op 26 (.op 27 (.op 28 (.op 29 (.op 30 (.op 31 (.op 32 (.op 33 (.op 34 (.op 35 (.op 36 (.op 37 (.op 38 (.op 39 (.op 40 (.op 41 .nil)))))))))))))))))))))))))))))))))))))))))) (by kernel_rfl) (by kernel_rfl) ?_))
    | (refine is_fw ?_; first | (refine FW_open rfl ?_) | (refine FW_nil ?_) | (refine FW_ef rfl ?_) | (refine FW_efg rfl rfl rfl ?_) | (refine FW_alt ?_ ?_))
    | (refine is_fo ?_; first | (refine FO_call (X := Unit) xE c1 xP rfl ?_) | (refine FO_callg (X := Unit) rfl rfl xE c1 xP rfl ?_) | (refine FO_dec_t rfl rfl (fun _ => ?_) (fun _ => ?_) <;> first | (exfalso; omega) | skip) | (refine FO_dec_f rfl rfl (fun _ => ?_) (fun _ => ?_) <;> first | (exfalso; omega) | skip) | (refine FO_no rfl rfl rfl rfl ?_) | (refine FO_ekg rfl rfl rfl ?_) | (refine FO_ek rfl ?_))
    | (refine is_ro ?_; first | (refine FO_call (X := Unit) xE c1 xP rfl ?_) | (refine FO_callg (X := Unit) rfl rfl xE c1 xP rfl ?_) | (refine RO_no rfl rfl rfl rfl ?_) | (refine RO_ekg rfl rfl ?_) | (refine RO_ek ?_))
    | (refine is_raw ?_; first | (refine KJ_flow ?_ ?_))
    | (refine AtR_mk rfl ?_)
    | exact Rech.nil
    | (refine Rech_open rfl ?_))
  all_goals (exact xdn ())
theorem check_bad3 (hn : D.n ≤ 65536) (e6 : W.cell? ⟨3, 0, none⟩ = some (errV E 6)) (at_ n ver : Int) (h : 0 ≤ at_ ∧ 0 ≤ n ∧ at_ ≤ D.n ∧ (D.n : Int) - at_ < n) : Ct Tryd.prog W 98 [.agg #[.pointer (some ⟨p, 0, none⟩), .int .i64 at_, .int .i64 n, .int .i64 ver]] [DiskP p D] (fun _ : Unit => errV E 6) (fun _ => [DiskP p D]) := by
  have c1 : Ct Tryd.prog W 40 [.pointer (some ⟨p, 0, none⟩)] [DiskP p D] (fun _ : Unit => .int .i64 D.n) (fun _ => [DiskP p D]) := size_ct
  have q0 : decide (at_ < 0) = false := decide_eq_false (by omega)
  have q1 : decide (n < 0) = false := decide_eq_false (by omega)
  have q2 : decide ((D.n : Int) < at_) = false := decide_eq_false (by omega)
  have q3 : decide ((D.n : Int) - at_ < n) = true := decide_eq_true (by omega)
  refine Ct.enter Tryd.func98 rfl Tryd.ntmps98 (by simp) (fun R => ?_)
  repeat' (first 
    | refine KJ_stp (by first | constructor | fail) ?_
    | (refine is_list ?_; first | (refine KJ_guard_dec_t rfl rfl rfl (fun _ => ?_) (fun _ => ?_) <;> first | (exfalso; omega) | skip) | (refine KJ_guard_dec_f rfl rfl rfl (fun _ => ?_) (fun _ => ?_) <;> first | (exfalso; omega) | skip) | (refine KJ_guard_yes rfl rfl ?_) | (refine KJ_guard_no rfl rfl rfl rfl ?_))
    | (refine is_oper ?_; first | (refine is_box ?_; first | (refine KJ_box rfl xF rfl (fun g1 => ?_)) | (refine KJ_box rfl xF rfl (fun _ => ?_))) | (refine KJ_ek rfl ?_) | (refine KJ_ek0 ?_))
    | (refine is_ek ?_; first | (refine xmv ?_) | (refine xas ?_) | (refine xpt ?_) | (refine xpf ?_) | (refine xfa ?_) | (refine ek_load ?_; first | (refine EK_ev (Ev_loadAgg rfl xS xC) ?_) | (refine EK_ev (Ev_load rfl xS (by rfl)) ?_) | (refine EK_ev (Ev_loadOld rfl e6) ?_) | (refine EK_ev (Ev_loadOld rfl (by assumption)) ?_)) | (refine ek_sub ?_; first | (refine EK_ev (Ev_subI rfl rfl (by omega)) ?_) | (refine EK_ev (Ev_sub rfl rfl) ?_)) | (refine ek_lss ?_; first | (refine EK_ev (Ev_lssI_q rfl rfl q1) ?_) | (refine EK_ev (Ev_lssI_q rfl rfl q0) ?_) | (refine EK_ev (Ev_lssI rfl rfl) ?_) | (refine EK_ev (Ev_lssS rfl rfl) ?_)) | (refine ek_gtr ?_; first | (refine EK_ev (Ev_gtrI_q rfl rfl q3) ?_) | (refine EK_ev (Ev_gtrI_q rfl rfl q2) ?_) | (refine EK_ev (Ev_gtrI rfl rfl) ?_) | (refine EK_ev (Ev_gtrS rfl rfl) ?_)))
    | (refine is_ex ?_; first | (refine KJ_blk_exit' rfl ?_))
    | (refine is_code ?_; first | (refine KJ_cond_dec rfl (fun _ => ?_) (fun _ => ?_) <;> first | (exfalso; omega) | skip) | (refine KJ_cond_t rfl ?_) | (refine KJ_cond_f rfl ?_) | (refine KJ_draws (id := 1) (.op 0 (.op 1 (.op 2 (.op 3 (.op 4 (.op 5 (.op 6 (.op 7 (.op 8 (.op 9 (.op 10 (.op 11 (.op 12 (.op 13 (.op 14 (.op 15 (.op 16 (.op 17 (.op 18 (.op 19 (.op 20 (.op 21 (.op 22 (.op 23 (.op 24 (.op 25 (.op 26 (.op 27 (.op 28 (.op 29 (.op 30 (.op 31 (.op 32 (.op 33 (.op 34 (.op 35 (.op 36 (.op 37 (.op 38 (.op 39 (.op 40 (.op 41 .nil)))))))))))))))))))))))))))))))))))))))))) (by kernel_rfl) (by kernel_rfl) ?_))
    | (refine is_fw ?_; first | (refine FW_open rfl ?_) | (refine FW_nil ?_) | (refine FW_ef rfl ?_) | (refine FW_efg rfl rfl rfl ?_) | (refine FW_alt ?_ ?_))
    | (refine is_fo ?_; first | (refine FO_call (X := Unit) xE c1 xP rfl ?_) | (refine FO_callg (X := Unit) rfl rfl xE c1 xP rfl ?_) | (refine FO_dec_t rfl rfl (fun _ => ?_) (fun _ => ?_) <;> first | (exfalso; omega) | skip) | (refine FO_dec_f rfl rfl (fun _ => ?_) (fun _ => ?_) <;> first | (exfalso; omega) | skip) | (refine FO_no rfl rfl rfl rfl ?_) | (refine FO_ekg rfl rfl rfl ?_) | (refine FO_ek rfl ?_))
    | (refine is_ro ?_; first | (refine FO_call (X := Unit) xE c1 xP rfl ?_) | (refine FO_callg (X := Unit) rfl rfl xE c1 xP rfl ?_) | (refine RO_no rfl rfl rfl rfl ?_) | (refine RO_ekg rfl rfl ?_) | (refine RO_ek ?_))
    | (refine is_raw ?_; first | (refine KJ_flow ?_ ?_))
    | (refine AtR_mk rfl ?_)
    | exact Rech.nil
    | (refine Rech_open rfl ?_))
  all_goals (exact xdn ())
theorem check_bad4 (hn : D.n ≤ 65536) (e6 : W.cell? ⟨3, 0, none⟩ = some (errV E 6)) (at_ n ver : Int) (h : 0 ≤ at_ ∧ 0 ≤ n ∧ at_ ≤ D.n ∧ n ≤ (D.n : Int) - at_ ∧ 65536 < n) : Ct Tryd.prog W 98 [.agg #[.pointer (some ⟨p, 0, none⟩), .int .i64 at_, .int .i64 n, .int .i64 ver]] [DiskP p D] (fun _ : Unit => errV E 6) (fun _ => [DiskP p D]) := by
  have c1 : Ct Tryd.prog W 40 [.pointer (some ⟨p, 0, none⟩)] [DiskP p D] (fun _ : Unit => .int .i64 D.n) (fun _ => [DiskP p D]) := size_ct
  have q0 : decide (at_ < 0) = false := decide_eq_false (by omega)
  have q1 : decide (n < 0) = false := decide_eq_false (by omega)
  have q2 : decide ((D.n : Int) < at_) = false := decide_eq_false (by omega)
  have q3 : decide ((D.n : Int) - at_ < n) = false := decide_eq_false (by omega)
  have q4 : decide (65536 < n) = true := decide_eq_true (by omega)
  refine Ct.enter Tryd.func98 rfl Tryd.ntmps98 (by simp) (fun R => ?_)
  repeat' (first 
    | refine KJ_stp (by first | constructor | fail) ?_
    | (refine is_list ?_; first | (refine KJ_guard_dec_t rfl rfl rfl (fun _ => ?_) (fun _ => ?_) <;> first | (exfalso; omega) | skip) | (refine KJ_guard_dec_f rfl rfl rfl (fun _ => ?_) (fun _ => ?_) <;> first | (exfalso; omega) | skip) | (refine KJ_guard_yes rfl rfl ?_) | (refine KJ_guard_no rfl rfl rfl rfl ?_))
    | (refine is_oper ?_; first | (refine is_box ?_; first | (refine KJ_box rfl xF rfl (fun g1 => ?_)) | (refine KJ_box rfl xF rfl (fun _ => ?_))) | (refine KJ_ek rfl ?_) | (refine KJ_ek0 ?_))
    | (refine is_ek ?_; first | (refine xmv ?_) | (refine xas ?_) | (refine xpt ?_) | (refine xpf ?_) | (refine xfa ?_) | (refine ek_load ?_; first | (refine EK_ev (Ev_loadAgg rfl xS xC) ?_) | (refine EK_ev (Ev_load rfl xS (by rfl)) ?_) | (refine EK_ev (Ev_loadOld rfl e6) ?_) | (refine EK_ev (Ev_loadOld rfl (by assumption)) ?_)) | (refine ek_sub ?_; first | (refine EK_ev (Ev_subI rfl rfl (by omega)) ?_) | (refine EK_ev (Ev_sub rfl rfl) ?_)) | (refine ek_lss ?_; first | (refine EK_ev (Ev_lssI_q rfl rfl q1) ?_) | (refine EK_ev (Ev_lssI_q rfl rfl q0) ?_) | (refine EK_ev (Ev_lssI rfl rfl) ?_) | (refine EK_ev (Ev_lssS rfl rfl) ?_)) | (refine ek_gtr ?_; first | (refine EK_ev (Ev_gtrI_q rfl rfl q4) ?_) | (refine EK_ev (Ev_gtrI_q rfl rfl q3) ?_) | (refine EK_ev (Ev_gtrI_q rfl rfl q2) ?_) | (refine EK_ev (Ev_gtrI rfl rfl) ?_) | (refine EK_ev (Ev_gtrS rfl rfl) ?_)))
    | (refine is_ex ?_; first | (refine KJ_blk_exit' rfl ?_))
    | (refine is_code ?_; first | (refine KJ_cond_dec rfl (fun _ => ?_) (fun _ => ?_) <;> first | (exfalso; omega) | skip) | (refine KJ_cond_t rfl ?_) | (refine KJ_cond_f rfl ?_) | (refine KJ_draws (id := 1) (.op 0 (.op 1 (.op 2 (.op 3 (.op 4 (.op 5 (.op 6 (.op 7 (.op 8 (.op 9 (.op 10 (.op 11 (.op 12 (.op 13 (.op 14 (.op 15 (.op 16 (.op 17 (.op 18 (.op 19 (.op 20 (.op 21 (.op 22 (.op 23 (.op 24 (.op 25 (.op 26 (.op 27 (.op 28 (.op 29 (.op 30 (.op 31 (.op 32 (.op 33 (.op 34 (.op 35 (.op 36 (.op 37 (.op 38 (.op 39 (.op 40 (.op 41 .nil)))))))))))))))))))))))))))))))))))))))))) (by kernel_rfl) (by kernel_rfl) ?_))
    | (refine is_fw ?_; first | (refine FW_open rfl ?_) | (refine FW_nil ?_) | (refine FW_ef rfl ?_) | (refine FW_efg rfl rfl rfl ?_) | (refine FW_alt ?_ ?_))
    | (refine is_fo ?_; first | (refine FO_call (X := Unit) xE c1 xP rfl ?_) | (refine FO_callg (X := Unit) rfl rfl xE c1 xP rfl ?_) | (refine FO_dec_t rfl rfl (fun _ => ?_) (fun _ => ?_) <;> first | (exfalso; omega) | skip) | (refine FO_dec_f rfl rfl (fun _ => ?_) (fun _ => ?_) <;> first | (exfalso; omega) | skip) | (refine FO_no rfl rfl rfl rfl ?_) | (refine FO_ekg rfl rfl rfl ?_) | (refine FO_ek rfl ?_))
    | (refine is_ro ?_; first | (refine FO_call (X := Unit) xE c1 xP rfl ?_) | (refine FO_callg (X := Unit) rfl rfl xE c1 xP rfl ?_) | (refine RO_no rfl rfl rfl rfl ?_) | (refine RO_ekg rfl rfl ?_) | (refine RO_ek ?_))
    | (refine is_raw ?_; first | (refine KJ_flow ?_ ?_))
    | (refine AtR_mk rfl ?_)
    | exact Rech.nil
    | (refine Rech_open rfl ?_))
  all_goals (exact xdn ())
theorem check_bad5 (hn : D.n ≤ 65536) (e6 : W.cell? ⟨3, 0, none⟩ = some (errV E 6)) (at_ n ver : Int) (h : 0 ≤ at_ ∧ 0 ≤ n ∧ at_ ≤ D.n ∧ n ≤ (D.n : Int) - at_ ∧ n ≤ 65536 ∧ ver < 1) : Ct Tryd.prog W 98 [.agg #[.pointer (some ⟨p, 0, none⟩), .int .i64 at_, .int .i64 n, .int .i64 ver]] [DiskP p D] (fun _ : Unit => errV E 6) (fun _ => [DiskP p D]) := by
  have c1 : Ct Tryd.prog W 40 [.pointer (some ⟨p, 0, none⟩)] [DiskP p D] (fun _ : Unit => .int .i64 D.n) (fun _ => [DiskP p D]) := size_ct
  have q0 : decide (at_ < 0) = false := decide_eq_false (by omega)
  have q1 : decide (n < 0) = false := decide_eq_false (by omega)
  have q2 : decide ((D.n : Int) < at_) = false := decide_eq_false (by omega)
  have q3 : decide ((D.n : Int) - at_ < n) = false := decide_eq_false (by omega)
  have q4 : decide (65536 < n) = false := decide_eq_false (by omega)
  have q5 : decide (ver < 1) = true := decide_eq_true (by omega)
  refine Ct.enter Tryd.func98 rfl Tryd.ntmps98 (by simp) (fun R => ?_)
  repeat' (first 
    | refine KJ_stp (by first | constructor | fail) ?_
    | (refine is_list ?_; first | (refine KJ_guard_dec_t rfl rfl rfl (fun _ => ?_) (fun _ => ?_) <;> first | (exfalso; omega) | skip) | (refine KJ_guard_dec_f rfl rfl rfl (fun _ => ?_) (fun _ => ?_) <;> first | (exfalso; omega) | skip) | (refine KJ_guard_yes rfl rfl ?_) | (refine KJ_guard_no rfl rfl rfl rfl ?_))
    | (refine is_oper ?_; first | (refine is_box ?_; first | (refine KJ_box rfl xF rfl (fun g1 => ?_)) | (refine KJ_box rfl xF rfl (fun _ => ?_))) | (refine KJ_ek rfl ?_) | (refine KJ_ek0 ?_))
    | (refine is_ek ?_; first | (refine xmv ?_) | (refine xas ?_) | (refine xpt ?_) | (refine xpf ?_) | (refine xfa ?_) | (refine ek_load ?_; first | (refine EK_ev (Ev_loadAgg rfl xS xC) ?_) | (refine EK_ev (Ev_load rfl xS (by rfl)) ?_) | (refine EK_ev (Ev_loadOld rfl e6) ?_) | (refine EK_ev (Ev_loadOld rfl (by assumption)) ?_)) | (refine ek_sub ?_; first | (refine EK_ev (Ev_subI rfl rfl (by omega)) ?_) | (refine EK_ev (Ev_sub rfl rfl) ?_)) | (refine ek_lss ?_; first | (refine EK_ev (Ev_lssI_q rfl rfl q5) ?_) | (refine EK_ev (Ev_lssI_q rfl rfl q1) ?_) | (refine EK_ev (Ev_lssI_q rfl rfl q0) ?_) | (refine EK_ev (Ev_lssI rfl rfl) ?_) | (refine EK_ev (Ev_lssS rfl rfl) ?_)) | (refine ek_gtr ?_; first | (refine EK_ev (Ev_gtrI_q rfl rfl q4) ?_) | (refine EK_ev (Ev_gtrI_q rfl rfl q3) ?_) | (refine EK_ev (Ev_gtrI_q rfl rfl q2) ?_) | (refine EK_ev (Ev_gtrI rfl rfl) ?_) | (refine EK_ev (Ev_gtrS rfl rfl) ?_)))
    | (refine is_ex ?_; first | (refine KJ_blk_exit' rfl ?_))
    | (refine is_code ?_; first | (refine KJ_cond_dec rfl (fun _ => ?_) (fun _ => ?_) <;> first | (exfalso; omega) | skip) | (refine KJ_cond_t rfl ?_) | (refine KJ_cond_f rfl ?_) | (refine KJ_draws (id := 1) (.op 0 (.op 1 (.op 2 (.op 3 (.op 4 (.op 5 (.op 6 (.op 7 (.op 8 (.op 9 (.op 10 (.op 11 (.op 12 (.op 13 (.op 14 (.op 15 (.op 16 (.op 17 (.op 18 (.op 19 (.op 20 (.op 21 (.op 22 (.op 23 (.op 24 (.op 25 (.op 26 (.op 27 (.op 28 (.op 29 (.op 30 (.op 31 (.op 32 (.op 33 (.op 34 (.op 35 (.op 36 (.op 37 (.op 38 (.op 39 (.op 40 (.op 41 .nil)))))))))))))))))))))))))))))))))))))))))) (by kernel_rfl) (by kernel_rfl) ?_))
    | (refine is_fw ?_; first | (refine FW_open rfl ?_) | (refine FW_nil ?_) | (refine FW_ef rfl ?_) | (refine FW_efg rfl rfl rfl ?_) | (refine FW_alt ?_ ?_))
    | (refine is_fo ?_; first | (refine FO_call (X := Unit) xE c1 xP rfl ?_) | (refine FO_callg (X := Unit) rfl rfl xE c1 xP rfl ?_) | (refine FO_dec_t rfl rfl (fun _ => ?_) (fun _ => ?_) <;> first | (exfalso; omega) | skip) | (refine FO_dec_f rfl rfl (fun _ => ?_) (fun _ => ?_) <;> first | (exfalso; omega) | skip) | (refine FO_no rfl rfl rfl rfl ?_) | (refine FO_ekg rfl rfl rfl ?_) | (refine FO_ek rfl ?_))
    | (refine is_ro ?_; first | (refine FO_call (X := Unit) xE c1 xP rfl ?_) | (refine FO_callg (X := Unit) rfl rfl xE c1 xP rfl ?_) | (refine RO_no rfl rfl rfl rfl ?_) | (refine RO_ekg rfl rfl ?_) | (refine RO_ek ?_))
    | (refine is_raw ?_; first | (refine KJ_flow ?_ ?_))
    | (refine AtR_mk rfl ?_)
    | exact Rech.nil
    | (refine Rech_open rfl ?_))
  all_goals (exact xdn ())
theorem check_bad6 (hn : D.n ≤ 65536) (e6 : W.cell? ⟨3, 0, none⟩ = some (errV E 6)) (at_ n ver : Int) (h : 0 ≤ at_ ∧ 0 ≤ n ∧ at_ ≤ D.n ∧ n ≤ (D.n : Int) - at_ ∧ n ≤ 65536 ∧ 1 ≤ ver ∧ 1099511627776 < ver) : Ct Tryd.prog W 98 [.agg #[.pointer (some ⟨p, 0, none⟩), .int .i64 at_, .int .i64 n, .int .i64 ver]] [DiskP p D] (fun _ : Unit => errV E 6) (fun _ => [DiskP p D]) := by
  have c1 : Ct Tryd.prog W 40 [.pointer (some ⟨p, 0, none⟩)] [DiskP p D] (fun _ : Unit => .int .i64 D.n) (fun _ => [DiskP p D]) := size_ct
  have q0 : decide (at_ < 0) = false := decide_eq_false (by omega)
  have q1 : decide (n < 0) = false := decide_eq_false (by omega)
  have q2 : decide ((D.n : Int) < at_) = false := decide_eq_false (by omega)
  have q3 : decide ((D.n : Int) - at_ < n) = false := decide_eq_false (by omega)
  have q4 : decide (65536 < n) = false := decide_eq_false (by omega)
  have q5 : decide (ver < 1) = false := decide_eq_false (by omega)
  have q6 : decide (1099511627776 < ver) = true := decide_eq_true (by omega)
  refine Ct.enter Tryd.func98 rfl Tryd.ntmps98 (by simp) (fun R => ?_)
  repeat' (first 
    | refine KJ_stp (by first | constructor | fail) ?_
    | (refine is_list ?_; first | (refine KJ_guard_dec_t rfl rfl rfl (fun _ => ?_) (fun _ => ?_) <;> first | (exfalso; omega) | skip) | (refine KJ_guard_dec_f rfl rfl rfl (fun _ => ?_) (fun _ => ?_) <;> first | (exfalso; omega) | skip) | (refine KJ_guard_yes rfl rfl ?_) | (refine KJ_guard_no rfl rfl rfl rfl ?_))
    | (refine is_oper ?_; first | (refine is_box ?_; first | (refine KJ_box rfl xF rfl (fun g1 => ?_)) | (refine KJ_box rfl xF rfl (fun _ => ?_))) | (refine KJ_ek rfl ?_) | (refine KJ_ek0 ?_))
    | (refine is_ek ?_; first | (refine xmv ?_) | (refine xas ?_) | (refine xpt ?_) | (refine xpf ?_) | (refine xfa ?_) | (refine ek_load ?_; first | (refine EK_ev (Ev_loadAgg rfl xS xC) ?_) | (refine EK_ev (Ev_load rfl xS (by rfl)) ?_) | (refine EK_ev (Ev_loadOld rfl e6) ?_) | (refine EK_ev (Ev_loadOld rfl (by assumption)) ?_)) | (refine ek_sub ?_; first | (refine EK_ev (Ev_subI rfl rfl (by omega)) ?_) | (refine EK_ev (Ev_sub rfl rfl) ?_)) | (refine ek_lss ?_; first | (refine EK_ev (Ev_lssI_q rfl rfl q5) ?_) | (refine EK_ev (Ev_lssI_q rfl rfl q1) ?_) | (refine EK_ev (Ev_lssI_q rfl rfl q0) ?_) | (refine EK_ev (Ev_lssI rfl rfl) ?_) | (refine EK_ev (Ev_lssS rfl rfl) ?_)) | (refine ek_gtr ?_; first | (refine EK_ev (Ev_gtrI_q rfl rfl q6) ?_) | (refine EK_ev (Ev_gtrI_q rfl rfl q4) ?_) | (refine EK_ev (Ev_gtrI_q rfl rfl q3) ?_) | (refine EK_ev (Ev_gtrI_q rfl rfl q2) ?_) | (refine EK_ev (Ev_gtrI rfl rfl) ?_) | (refine EK_ev (Ev_gtrS rfl rfl) ?_)))
    | (refine is_ex ?_; first | (refine KJ_blk_exit' rfl ?_))
    | (refine is_code ?_; first | (refine KJ_cond_dec rfl (fun _ => ?_) (fun _ => ?_) <;> first | (exfalso; omega) | skip) | (refine KJ_cond_t rfl ?_) | (refine KJ_cond_f rfl ?_) | (refine KJ_draws (id := 1) (.op 0 (.op 1 (.op 2 (.op 3 (.op 4 (.op 5 (.op 6 (.op 7 (.op 8 (.op 9 (.op 10 (.op 11 (.op 12 (.op 13 (.op 14 (.op 15 (.op 16 (.op 17 (.op 18 (.op 19 (.op 20 (.op 21 (.op 22 (.op 23 (.op 24 (.op 25 (.op 26 (.op 27 (.op 28 (.op 29 (.op 30 (.op 31 (.op 32 (.op 33 (.op 34 (.op 35 (.op 36 (.op 37 (.op 38 (.op 39 (.op 40 (.op 41 .nil)))))))))))))))))))))))))))))))))))))))))) (by kernel_rfl) (by kernel_rfl) ?_))
    | (refine is_fw ?_; first | (refine FW_open rfl ?_) | (refine FW_nil ?_) | (refine FW_ef rfl ?_) | (refine FW_efg rfl rfl rfl ?_) | (refine FW_alt ?_ ?_))
    | (refine is_fo ?_; first | (refine FO_call (X := Unit) xE c1 xP rfl ?_) | (refine FO_callg (X := Unit) rfl rfl xE c1 xP rfl ?_) | (refine FO_dec_t rfl rfl (fun _ => ?_) (fun _ => ?_) <;> first | (exfalso; omega) | skip) | (refine FO_dec_f rfl rfl (fun _ => ?_) (fun _ => ?_) <;> first | (exfalso; omega) | skip) | (refine FO_no rfl rfl rfl rfl ?_) | (refine FO_ekg rfl rfl rfl ?_) | (refine FO_ek rfl ?_))
    | (refine is_ro ?_; first | (refine FO_call (X := Unit) xE c1 xP rfl ?_) | (refine FO_callg (X := Unit) rfl rfl xE c1 xP rfl ?_) | (refine RO_no rfl rfl rfl rfl ?_) | (refine RO_ekg rfl rfl ?_) | (refine RO_ek ?_))
    | (refine is_raw ?_; first | (refine KJ_flow ?_ ?_))
    | (refine AtR_mk rfl ?_)
    | exact Rech.nil
    | (refine Rech_open rfl ?_))
  all_goals (exact xdn ())
theorem check_bad (hn : D.n ≤ 65536) (e6 : W.cell? ⟨3, 0, none⟩ = some (errV E 6)) (at_ n ver : Int) (h : ¬ logOk D at_ n ver) : Ct Tryd.prog W 98 [.agg #[.pointer (some ⟨p, 0, none⟩), .int .i64 at_, .int .i64 n, .int .i64 ver]] [DiskP p D] (fun _ : Unit => errV E 6) (fun _ => [DiskP p D]) := by
  rcases log_cases h with h | h | h | h | h | h | h
  · exact check_bad0 hn e6 at_ n ver h
  · exact check_bad1 hn e6 at_ n ver h
  · exact check_bad2 hn e6 at_ n ver h
  · exact check_bad3 hn e6 at_ n ver h
  · exact check_bad4 hn e6 at_ n ver h
  · exact check_bad5 hn e6 at_ n ver h
  · exact check_bad6 hn e6 at_ n ver h
theorem check_down (hn : D.n ≤ 65536) (e12 : W.cell? ⟨2, 0, none⟩ = some (errV E 12)) (ho : D.off = true) (at_ n ver : Int) (h : logOk D at_ n ver) : Ct Tryd.prog W 98 [.agg #[.pointer (some ⟨p, 0, none⟩), .int .i64 at_, .int .i64 n, .int .i64 ver]] [DiskP p D] (fun _ : Unit => errV E 12) (fun _ => [DiskP p D]) := by
  obtain ⟨h1, h2, h3, h4, h5, h6, h7⟩ := h
  have c1 : Ct Tryd.prog W 40 [.pointer (some ⟨p, 0, none⟩)] [DiskP p D] (fun _ : Unit => .int .i64 D.n) (fun _ => [DiskP p D]) := size_ct
  have c2 : Ct Tryd.prog W 30 [.pointer (some ⟨p, 0, none⟩)] [DiskP p D] (fun _ : Unit => .bool true) (fun _ => [DiskP p D]) := by rw [← ho]; exact off_ct
  have q0 : decide (at_ < 0) = false := decide_eq_false (by omega)
  have q1 : decide (n < 0) = false := decide_eq_false (by omega)
  have q2 : decide ((D.n : Int) < at_) = false := decide_eq_false (by omega)
  have q3 : decide ((D.n : Int) - at_ < n) = false := decide_eq_false (by omega)
  have q4 : decide (65536 < n) = false := decide_eq_false (by omega)
  have q5 : decide (ver < 1) = false := decide_eq_false (by omega)
  have q6 : decide (1099511627776 < ver) = false := decide_eq_false (by omega)
  refine Ct.enter Tryd.func98 rfl Tryd.ntmps98 (by simp) (fun R => ?_)
  repeat' (first 
    | refine KJ_stp (by first | constructor | fail) ?_
    | (refine is_list ?_; first | (refine KJ_guard_dec_t rfl rfl rfl (fun _ => ?_) (fun _ => ?_) <;> first | (exfalso; omega) | skip) | (refine KJ_guard_dec_f rfl rfl rfl (fun _ => ?_) (fun _ => ?_) <;> first | (exfalso; omega) | skip) | (refine KJ_guard_yes rfl rfl ?_) | (refine KJ_guard_no rfl rfl rfl rfl ?_))
    | (refine is_oper ?_; first | (refine is_box ?_; first | (refine KJ_box rfl xF rfl (fun g1 => ?_)) | (refine KJ_box rfl xF rfl (fun _ => ?_))) | (refine is_call ?_; first | (refine KJ_call xE c2 xP rfl (fun _ => ?_)) | (refine KJ_call xE c1 xP rfl (fun _ => ?_))) | (refine KJ_ek rfl ?_) | (refine KJ_ek0 ?_))
    | (refine is_ek ?_; first | (refine xmv ?_) | (refine xas ?_) | (refine xpt ?_) | (refine xpf ?_) | (refine xfa ?_) | (refine ek_load ?_; first | (refine EK_ev (Ev_loadAgg rfl xS xC) ?_) | (refine EK_ev (Ev_load rfl xS (by rfl)) ?_) | (refine EK_ev (Ev_loadOld rfl e12) ?_) | (refine EK_ev (Ev_loadOld rfl (by assumption)) ?_)) | (refine ek_sub ?_; first | (refine EK_ev (Ev_subI rfl rfl (by omega)) ?_) | (refine EK_ev (Ev_sub rfl rfl) ?_)) | (refine ek_lss ?_; first | (refine EK_ev (Ev_lssI_q rfl rfl q5) ?_) | (refine EK_ev (Ev_lssI_q rfl rfl q1) ?_) | (refine EK_ev (Ev_lssI_q rfl rfl q0) ?_) | (refine EK_ev (Ev_lssI rfl rfl) ?_) | (refine EK_ev (Ev_lssS rfl rfl) ?_)) | (refine ek_gtr ?_; first | (refine EK_ev (Ev_gtrI_q rfl rfl q6) ?_) | (refine EK_ev (Ev_gtrI_q rfl rfl q4) ?_) | (refine EK_ev (Ev_gtrI_q rfl rfl q3) ?_) | (refine EK_ev (Ev_gtrI_q rfl rfl q2) ?_) | (refine EK_ev (Ev_gtrI rfl rfl) ?_) | (refine EK_ev (Ev_gtrS rfl rfl) ?_)))
    | (refine is_ex ?_; first | (refine KJ_blk_exit' rfl ?_))
    | (refine is_code ?_; first | (refine KJ_cond_dec rfl (fun _ => ?_) (fun _ => ?_) <;> first | (exfalso; omega) | skip) | (refine KJ_cond_t rfl ?_) | (refine KJ_cond_f rfl ?_) | (refine KJ_draws (id := 1) (.op 0 (.op 1 (.op 2 (.op 3 (.op 4 (.op 5 (.op 6 (.op 7 (.op 8 (.op 9 (.op 10 (.op 11 (.op 12 (.ef 13 [10, 9] (.op 14 (.op 15 (.op 16 (.op 17 (.op 18 (.op 19 (.op 20 (.op 22 (.op 23 (.ef 21 [23, 22, 18, 17] (.op 24 (.op 25 (.op 26 (.op 27 (.op 28 (.op 29 (.op 30 (.op 31 (.op 32 (.op 33 (.op 34 (.op 35 (.op 36 (.op 37 (.op 38 (.op 39 (.op 40 (.op 41 .nil)))))))))))))))))))))))))))))))))))))))))) (by kernel_rfl) (by kernel_rfl) ?_))
    | (refine is_fw ?_; first | (refine FW_open rfl ?_) | (refine FW_nil ?_) | (refine FW_ef rfl ?_) | (refine FW_efg rfl rfl rfl ?_) | (refine FW_alt ?_ ?_))
    | (refine is_fo ?_; first | (refine FO_dec_t rfl rfl (fun _ => ?_) (fun _ => ?_) <;> first | (exfalso; omega) | skip) | (refine FO_dec_f rfl rfl (fun _ => ?_) (fun _ => ?_) <;> first | (exfalso; omega) | skip) | (refine FO_no rfl rfl rfl rfl ?_) | (refine FO_ekg rfl rfl rfl ?_) | (refine FO_ek rfl ?_))
    | (refine is_ro ?_; first | (refine RO_no rfl rfl rfl rfl ?_) | (refine RO_ekg rfl rfl ?_) | (refine RO_ek ?_))
    | (refine is_raw ?_; first | (refine KJ_flow ?_ ?_))
    | (refine AtR_mk rfl ?_)
    | exact Rech.nil
    | (refine Rech_open rfl ?_))
  all_goals (exact xdn ())
theorem replay_no (e : Nat) (he : e ≠ 0) (at_ n ver : Int) (c1 : Ct Tryd.prog W 98 [.agg #[.pointer (some ⟨p, 0, none⟩), .int .i64 at_, .int .i64 n, .int .i64 ver]] [DiskP p D] (fun _ : Unit => errV E e) (fun _ => [DiskP p D])) : Ct Tryd.prog W 70 [.pointer (some ⟨p, 0, none⟩), .int .i64 at_, .int .i64 n, .int .i64 ver] [DiskP p D] (fun _ : Unit => .tuple #[.slice none 0 0, errV E e]) (fun _ => [DiskP p D]) := by
  obtain ⟨ea, hea⟩ := errV_ne (E := E) he
  rw [hea] at c1 ⊢
  refine Ct.enter Tryd.func70 rfl Tryd.ntmps70 (by simp) (fun R => ?_)
  repeat' (first 
    | refine KJ_stp (by first | constructor | fail) ?_
    | (refine is_oper ?_; first | (refine is_store ?_; first | (refine KJ_store rfl rfl xS xF (by rfl) xO xL xR ?_)) | (refine is_alloc ?_; first | (refine KJ_alloc rfl (fun _ => ?_))) | (refine is_call ?_; first | (refine KJ_call xE c1 xP rfl (fun _ => ?_))) | (refine KJ_ek rfl ?_) | (refine KJ_ek0 ?_))
    | (refine is_ek ?_; first | (refine xmv ?_) | (refine xas ?_) | (refine ek_load ?_; first | (refine EK_ev (Ev_loadAgg rfl xS xC) ?_) | (refine EK_ev (Ev_load rfl xS (by rfl)) ?_) | (refine EK_ev (Ev_loadOld rfl (by assumption)) ?_)) | (refine ek_un ?_; first | (refine EK_ev (Ev_notD rfl) ?_) | (refine EK_ev (Ev_not rfl) ?_) | (refine EK_ev (Ev_neg rfl) ?_)) | (refine xex ?_) | (refine ek_build ?_; first | (refine EK_ev (Ev_build xV xW) ?_)) | (refine ek_add ?_; first | (refine EK_ev (Ev_addI rfl rfl (by omega)) ?_) | (refine EK_ev (Ev_addS rfl rfl (by simp <;> omega)) ?_) | (refine EK_ev (Ev_add rfl rfl) ?_)) | (refine ek_neq ?_; first | (refine EK_ev (Ev_neqI rfl rfl) ?_) | (refine EK_ev (Ev_neqS rfl rfl) ?_) | (refine EK_ev (Ev_neqNil rfl rfl) ?_) | (refine EK_ev (Ev_neqB rfl rfl) ?_) | (refine EK_ev (Ev_neqO rfl rfl rfl (fun _ => rfl)) ?_)))
    | (refine is_ex ?_; first | (refine KJ_blk_exit' rfl ?_))
    | (refine is_code ?_; first | (refine KJ_cond_dec rfl (fun _ => ?_) (fun _ => ?_) <;> first | (exfalso; omega) | skip) | (refine KJ_cond_t rfl ?_) | (refine KJ_cond_f rfl ?_)))
  all_goals (exact xdn ())
theorem may_yes (at_ n ver : Int) (hn : D.n ≤ 65536) (h : logOk D at_ n ver) : Ct Tryd.prog W 124 [.pointer (some ⟨p, 0, none⟩), .int .i64 at_, .int .i64 n, .int .i64 ver] [RefP p D] (fun _ : Unit => .bool true) (fun _ => [RefP p D]) := by
  obtain ⟨h1, h2, h3, h4, h5, h6, h7⟩ := h
  have q0 : decide (0 ≤ at_) = true := decide_eq_true (by omega)
  have q1 : decide (0 ≤ n) = true := decide_eq_true (by omega)
  have q2 : decide (at_ ≤ (D.n : Int)) = true := decide_eq_true (by omega)
  have q3 : decide (n ≤ (D.n : Int) - at_) = true := decide_eq_true (by omega)
  have q4 : decide (n ≤ 65536) = true := decide_eq_true (by omega)
  have q5 : decide (1 ≤ ver) = true := decide_eq_true (by omega)
  have q6 : decide (ver ≤ 1099511627776) = true := decide_eq_true (by omega)
  refine Ct_ref fun sv wv => ?_
  rw [RefF_eq]
  refine Ct.enter Tryd.func124 rfl Tryd.ntmps124 (by simp) (fun R => ?_)
  refine KJ.row_slice xS (fun sa sc e => ?_)
  subst e
  repeat' (first 
    | refine KJ_stp (by first | constructor | fail) ?_
    | (refine is_list ?_; first | (refine KJ_guard_dec_t rfl rfl rfl (fun _ => ?_) (fun _ => ?_) <;> first | (exfalso; omega) | skip) | (refine KJ_guard_dec_f rfl rfl rfl (fun _ => ?_) (fun _ => ?_) <;> first | (exfalso; omega) | skip) | (refine KJ_guard_yes rfl rfl ?_) | (refine KJ_guard_no rfl rfl rfl rfl ?_))
    | (refine is_oper ?_; first | (refine KJ_ek rfl ?_) | (refine KJ_ek0 ?_))
    | (refine is_ek ?_; first | (refine xmv ?_) | (refine xas ?_) | (refine xpt ?_) | (refine xpf ?_) | (refine xnc ?_) | (refine xfa ?_) | (refine ek_load ?_; first | (refine EK_ev (Ev_loadAgg rfl xS xC) ?_) | (refine EK_ev (Ev_load rfl xS (by rfl)) ?_) | (refine EK_ev (Ev_loadOld rfl (by assumption)) ?_)) | (refine ek_len ?_; first | (refine EK_ev (Ev_len_str rfl) ?_) | (refine EK_ev (Ev_len_slice rfl) ?_) | (refine EK_ev (Ev_len_arr rfl) ?_) | (refine EK_ev (Ev_len_map rfl xS) ?_)) | (refine ek_sub ?_; first | (refine EK_ev (Ev_subI rfl rfl (by omega)) ?_) | (refine EK_ev (Ev_sub rfl rfl) ?_)) | (refine ek_leq ?_; first | (refine EK_ev (Ev_leqI_q rfl rfl q6) ?_) | (refine EK_ev (Ev_leqI_q rfl rfl q4) ?_) | (refine EK_ev (Ev_leqI_q rfl rfl q3) ?_) | (refine EK_ev (Ev_leqI_q rfl rfl q2) ?_) | (refine EK_ev (Ev_leqI rfl rfl) ?_) | (refine EK_ev (Ev_leqS rfl rfl) ?_)) | (refine ek_geq ?_; first | (refine EK_ev (Ev_geqI_q rfl rfl q5) ?_) | (refine EK_ev (Ev_geqI_q rfl rfl q1) ?_) | (refine EK_ev (Ev_geqI_q rfl rfl q0) ?_) | (refine EK_ev (Ev_geqI rfl rfl) ?_) | (refine EK_ev (Ev_geqS rfl rfl) ?_)))
    | (refine is_ex ?_; first | (refine KJ_blk_exit' rfl ?_))
    | (refine is_code ?_; first | (refine KJ_cond_dec rfl (fun _ => ?_) (fun _ => ?_) <;> first | (exfalso; omega) | skip) | (refine KJ_cond_t rfl ?_) | (refine KJ_cond_f rfl ?_)))
  (refine is_ex ?_; exact KJ_doneR (by first | exact Or.inl rfl | exact Or.inr rfl) rfl (by (repeat' (first | exact Rvs.nil | (apply Rvs.tmp; exact rfl))); first | done | fail) (by rfl) _ _ (by rw [RefF_eq]; exact (xN)))
theorem may_no0 (at_ n ver : Int) (_ : D.n ≤ 65536) (h : at_ < 0) : Ct Tryd.prog W 124 [.pointer (some ⟨p, 0, none⟩), .int .i64 at_, .int .i64 n, .int .i64 ver] [RefP p D] (fun _ : Unit => .bool false) (fun _ => [RefP p D]) := by
  have q0 : decide (0 ≤ at_) = false := decide_eq_false (by omega)
  refine Ct_ref fun sv wv => ?_
  rw [RefF_eq]
  refine Ct.enter Tryd.func124 rfl Tryd.ntmps124 (by simp) (fun R => ?_)
  refine KJ.row_slice xS (fun sa sc e => ?_)
  subst e
  repeat' (first 
    | refine KJ_stp (by first | constructor | fail) ?_
    | (refine is_list ?_; first | (refine KJ_guard_dec_t rfl rfl rfl (fun _ => ?_) (fun _ => ?_) <;> first | (exfalso; omega) | skip) | (refine KJ_guard_dec_f rfl rfl rfl (fun _ => ?_) (fun _ => ?_) <;> first | (exfalso; omega) | skip) | (refine KJ_guard_yes rfl rfl ?_) | (refine KJ_guard_no rfl rfl rfl rfl ?_))
    | (refine is_oper ?_; first | (refine KJ_ek rfl ?_) | (refine KJ_ek0 ?_))
    | (refine is_ek ?_; first | (refine xmv ?_) | (refine xas ?_) | (refine xpt ?_) | (refine xpf ?_) | (refine xnc ?_) | (refine xfa ?_) | (refine ek_load ?_; first | (refine EK_ev (Ev_loadAgg rfl xS xC) ?_) | (refine EK_ev (Ev_load rfl xS (by rfl)) ?_) | (refine EK_ev (Ev_loadOld rfl (by assumption)) ?_)) | (refine ek_len ?_; first | (refine EK_ev (Ev_len_str rfl) ?_) | (refine EK_ev (Ev_len_slice rfl) ?_) | (refine EK_ev (Ev_len_arr rfl) ?_) | (refine EK_ev (Ev_len_map rfl xS) ?_)) | (refine ek_sub ?_; first | (refine EK_ev (Ev_subI rfl rfl (by omega)) ?_) | (refine EK_ev (Ev_sub rfl rfl) ?_)) | (refine ek_leq ?_; first | (refine EK_ev (Ev_leqI rfl rfl) ?_) | (refine EK_ev (Ev_leqS rfl rfl) ?_)) | (refine ek_geq ?_; first | (refine EK_ev (Ev_geqI_q rfl rfl q0) ?_) | (refine EK_ev (Ev_geqI rfl rfl) ?_) | (refine EK_ev (Ev_geqS rfl rfl) ?_)))
    | (refine is_ex ?_; first | (refine KJ_blk_exit' rfl ?_))
    | (refine is_code ?_; first | (refine KJ_cond_dec rfl (fun _ => ?_) (fun _ => ?_) <;> first | (exfalso; omega) | skip) | (refine KJ_cond_t rfl ?_) | (refine KJ_cond_f rfl ?_)))
  (refine is_ex ?_; exact KJ_doneR (by first | exact Or.inl rfl | exact Or.inr rfl) rfl (by (repeat' (first | exact Rvs.nil | (apply Rvs.tmp; exact rfl))); first | done | fail) (by rfl) _ _ (by rw [RefF_eq]; exact (xN)))
theorem may_no1 (at_ n ver : Int) (_ : D.n ≤ 65536) (h : 0 ≤ at_ ∧ n < 0) : Ct Tryd.prog W 124 [.pointer (some ⟨p, 0, none⟩), .int .i64 at_, .int .i64 n, .int .i64 ver] [RefP p D] (fun _ : Unit => .bool false) (fun _ => [RefP p D]) := by
  have q0 : decide (0 ≤ at_) = true := decide_eq_true (by omega)
  have q1 : decide (0 ≤ n) = false := decide_eq_false (by omega)
  refine Ct_ref fun sv wv => ?_
  rw [RefF_eq]
  refine Ct.enter Tryd.func124 rfl Tryd.ntmps124 (by simp) (fun R => ?_)
  refine KJ.row_slice xS (fun sa sc e => ?_)
  subst e
  repeat' (first 
    | refine KJ_stp (by first | constructor | fail) ?_
    | (refine is_list ?_; first | (refine KJ_guard_dec_t rfl rfl rfl (fun _ => ?_) (fun _ => ?_) <;> first | (exfalso; omega) | skip) | (refine KJ_guard_dec_f rfl rfl rfl (fun _ => ?_) (fun _ => ?_) <;> first | (exfalso; omega) | skip) | (refine KJ_guard_yes rfl rfl ?_) | (refine KJ_guard_no rfl rfl rfl rfl ?_))
    | (refine is_oper ?_; first | (refine KJ_ek rfl ?_) | (refine KJ_ek0 ?_))
    | (refine is_ek ?_; first | (refine xmv ?_) | (refine xas ?_) | (refine xpt ?_) | (refine xpf ?_) | (refine xnc ?_) | (refine xfa ?_) | (refine ek_load ?_; first | (refine EK_ev (Ev_loadAgg rfl xS xC) ?_) | (refine EK_ev (Ev_load rfl xS (by rfl)) ?_) | (refine EK_ev (Ev_loadOld rfl (by assumption)) ?_)) | (refine ek_len ?_; first | (refine EK_ev (Ev_len_str rfl) ?_) | (refine EK_ev (Ev_len_slice rfl) ?_) | (refine EK_ev (Ev_len_arr rfl) ?_) | (refine EK_ev (Ev_len_map rfl xS) ?_)) | (refine ek_sub ?_; first | (refine EK_ev (Ev_subI rfl rfl (by omega)) ?_) | (refine EK_ev (Ev_sub rfl rfl) ?_)) | (refine ek_leq ?_; first | (refine EK_ev (Ev_leqI rfl rfl) ?_) | (refine EK_ev (Ev_leqS rfl rfl) ?_)) | (refine ek_geq ?_; first | (refine EK_ev (Ev_geqI_q rfl rfl q1) ?_) | (refine EK_ev (Ev_geqI_q rfl rfl q0) ?_) | (refine EK_ev (Ev_geqI rfl rfl) ?_) | (refine EK_ev (Ev_geqS rfl rfl) ?_)))
    | (refine is_ex ?_; first | (refine KJ_blk_exit' rfl ?_))
    | (refine is_code ?_; first | (refine KJ_cond_dec rfl (fun _ => ?_) (fun _ => ?_) <;> first | (exfalso; omega) | skip) | (refine KJ_cond_t rfl ?_) | (refine KJ_cond_f rfl ?_)))
  (refine is_ex ?_; exact KJ_doneR (by first | exact Or.inl rfl | exact Or.inr rfl) rfl (by (repeat' (first | exact Rvs.nil | (apply Rvs.tmp; exact rfl))); first | done | fail) (by rfl) _ _ (by rw [RefF_eq]; exact (xN)))
theorem may_no2 (at_ n ver : Int) (_ : D.n ≤ 65536) (h : 0 ≤ at_ ∧ 0 ≤ n ∧ (D.n : Int) < at_) : Ct Tryd.prog W 124 [.pointer (some ⟨p, 0, none⟩), .int .i64 at_, .int .i64 n, .int .i64 ver] [RefP p D] (fun _ : Unit => .bool false) (fun _ => [RefP p D]) := by
  have q0 : decide (0 ≤ at_) = true := decide_eq_true (by omega)
  have q1 : decide (0 ≤ n) = true := decide_eq_true (by omega)
  have q2 : decide (at_ ≤ (D.n : Int)) = false := decide_eq_false (by omega)
  refine Ct_ref fun sv wv => ?_
  rw [RefF_eq]
  refine Ct.enter Tryd.func124 rfl Tryd.ntmps124 (by simp) (fun R => ?_)
  refine KJ.row_slice xS (fun sa sc e => ?_)
  subst e
  repeat' (first 
    | refine KJ_stp (by first | constructor | fail) ?_
    | (refine is_list ?_; first | (refine KJ_guard_dec_t rfl rfl rfl (fun _ => ?_) (fun _ => ?_) <;> first | (exfalso; omega) | skip) | (refine KJ_guard_dec_f rfl rfl rfl (fun _ => ?_) (fun _ => ?_) <;> first | (exfalso; omega) | skip) | (refine KJ_guard_yes rfl rfl ?_) | (refine KJ_guard_no rfl rfl rfl rfl ?_))
    | (refine is_oper ?_; first | (refine KJ_ek rfl ?_) | (refine KJ_ek0 ?_))
    | (refine is_ek ?_; first | (refine xmv ?_) | (refine xas ?_) | (refine xpt ?_) | (refine xpf ?_) | (refine xnc ?_) | (refine xfa ?_) | (refine ek_load ?_; first | (refine EK_ev (Ev_loadAgg rfl xS xC) ?_) | (refine EK_ev (Ev_load rfl xS (by rfl)) ?_) | (refine EK_ev (Ev_loadOld rfl (by assumption)) ?_)) | (refine ek_len ?_; first | (refine EK_ev (Ev_len_str rfl) ?_) | (refine EK_ev (Ev_len_slice rfl) ?_) | (refine EK_ev (Ev_len_arr rfl) ?_) | (refine EK_ev (Ev_len_map rfl xS) ?_)) | (refine ek_sub ?_; first | (refine EK_ev (Ev_subI rfl rfl (by omega)) ?_) | (refine EK_ev (Ev_sub rfl rfl) ?_)) | (refine ek_leq ?_; first | (refine EK_ev (Ev_leqI_q rfl rfl q2) ?_) | (refine EK_ev (Ev_leqI rfl rfl) ?_) | (refine EK_ev (Ev_leqS rfl rfl) ?_)) | (refine ek_geq ?_; first | (refine EK_ev (Ev_geqI_q rfl rfl q1) ?_) | (refine EK_ev (Ev_geqI_q rfl rfl q0) ?_) | (refine EK_ev (Ev_geqI rfl rfl) ?_) | (refine EK_ev (Ev_geqS rfl rfl) ?_)))
    | (refine is_ex ?_; first | (refine KJ_blk_exit' rfl ?_))
    | (refine is_code ?_; first | (refine KJ_cond_dec rfl (fun _ => ?_) (fun _ => ?_) <;> first | (exfalso; omega) | skip) | (refine KJ_cond_t rfl ?_) | (refine KJ_cond_f rfl ?_)))
  (refine is_ex ?_; exact KJ_doneR (by first | exact Or.inl rfl | exact Or.inr rfl) rfl (by (repeat' (first | exact Rvs.nil | (apply Rvs.tmp; exact rfl))); first | done | fail) (by rfl) _ _ (by rw [RefF_eq]; exact (xN)))
theorem may_no3 (at_ n ver : Int) (hn : D.n ≤ 65536) (h : 0 ≤ at_ ∧ 0 ≤ n ∧ at_ ≤ D.n ∧ (D.n : Int) - at_ < n) : Ct Tryd.prog W 124 [.pointer (some ⟨p, 0, none⟩), .int .i64 at_, .int .i64 n, .int .i64 ver] [RefP p D] (fun _ : Unit => .bool false) (fun _ => [RefP p D]) := by
  have q0 : decide (0 ≤ at_) = true := decide_eq_true (by omega)
  have q1 : decide (0 ≤ n) = true := decide_eq_true (by omega)
  have q2 : decide (at_ ≤ (D.n : Int)) = true := decide_eq_true (by omega)
  have q3 : decide (n ≤ (D.n : Int) - at_) = false := decide_eq_false (by omega)
  refine Ct_ref fun sv wv => ?_
  rw [RefF_eq]
  refine Ct.enter Tryd.func124 rfl Tryd.ntmps124 (by simp) (fun R => ?_)
  refine KJ.row_slice xS (fun sa sc e => ?_)
  subst e
  repeat' (first 
    | refine KJ_stp (by first | constructor | fail) ?_
    | (refine is_list ?_; first | (refine KJ_guard_dec_t rfl rfl rfl (fun _ => ?_) (fun _ => ?_) <;> first | (exfalso; omega) | skip) | (refine KJ_guard_dec_f rfl rfl rfl (fun _ => ?_) (fun _ => ?_) <;> first | (exfalso; omega) | skip) | (refine KJ_guard_yes rfl rfl ?_) | (refine KJ_guard_no rfl rfl rfl rfl ?_))
    | (refine is_oper ?_; first | (refine KJ_ek rfl ?_) | (refine KJ_ek0 ?_))
    | (refine is_ek ?_; first | (refine xmv ?_) | (refine xas ?_) | (refine xpt ?_) | (refine xpf ?_) | (refine xnc ?_) | (refine xfa ?_) | (refine ek_load ?_; first | (refine EK_ev (Ev_loadAgg rfl xS xC) ?_) | (refine EK_ev (Ev_load rfl xS (by rfl)) ?_) | (refine EK_ev (Ev_loadOld rfl (by assumption)) ?_)) | (refine ek_len ?_; first | (refine EK_ev (Ev_len_str rfl) ?_) | (refine EK_ev (Ev_len_slice rfl) ?_) | (refine EK_ev (Ev_len_arr rfl) ?_) | (refine EK_ev (Ev_len_map rfl xS) ?_)) | (refine ek_sub ?_; first | (refine EK_ev (Ev_subI rfl rfl (by omega)) ?_) | (refine EK_ev (Ev_sub rfl rfl) ?_)) | (refine ek_leq ?_; first | (refine EK_ev (Ev_leqI_q rfl rfl q3) ?_) | (refine EK_ev (Ev_leqI_q rfl rfl q2) ?_) | (refine EK_ev (Ev_leqI rfl rfl) ?_) | (refine EK_ev (Ev_leqS rfl rfl) ?_)) | (refine ek_geq ?_; first | (refine EK_ev (Ev_geqI_q rfl rfl q1) ?_) | (refine EK_ev (Ev_geqI_q rfl rfl q0) ?_) | (refine EK_ev (Ev_geqI rfl rfl) ?_) | (refine EK_ev (Ev_geqS rfl rfl) ?_)))
    | (refine is_ex ?_; first | (refine KJ_blk_exit' rfl ?_))
    | (refine is_code ?_; first | (refine KJ_cond_dec rfl (fun _ => ?_) (fun _ => ?_) <;> first | (exfalso; omega) | skip) | (refine KJ_cond_t rfl ?_) | (refine KJ_cond_f rfl ?_)))
  (refine is_ex ?_; exact KJ_doneR (by first | exact Or.inl rfl | exact Or.inr rfl) rfl (by (repeat' (first | exact Rvs.nil | (apply Rvs.tmp; exact rfl))); first | done | fail) (by rfl) _ _ (by rw [RefF_eq]; exact (xN)))
theorem may_no4 (at_ n ver : Int) (hn : D.n ≤ 65536) (h : 0 ≤ at_ ∧ 0 ≤ n ∧ at_ ≤ D.n ∧ n ≤ (D.n : Int) - at_ ∧ 65536 < n) : Ct Tryd.prog W 124 [.pointer (some ⟨p, 0, none⟩), .int .i64 at_, .int .i64 n, .int .i64 ver] [RefP p D] (fun _ : Unit => .bool false) (fun _ => [RefP p D]) := by
  have q0 : decide (0 ≤ at_) = true := decide_eq_true (by omega)
  have q1 : decide (0 ≤ n) = true := decide_eq_true (by omega)
  have q2 : decide (at_ ≤ (D.n : Int)) = true := decide_eq_true (by omega)
  have q3 : decide (n ≤ (D.n : Int) - at_) = true := decide_eq_true (by omega)
  have q4 : decide (n ≤ 65536) = false := decide_eq_false (by omega)
  refine Ct_ref fun sv wv => ?_
  rw [RefF_eq]
  refine Ct.enter Tryd.func124 rfl Tryd.ntmps124 (by simp) (fun R => ?_)
  refine KJ.row_slice xS (fun sa sc e => ?_)
  subst e
  repeat' (first 
    | refine KJ_stp (by first | constructor | fail) ?_
    | (refine is_list ?_; first | (refine KJ_guard_dec_t rfl rfl rfl (fun _ => ?_) (fun _ => ?_) <;> first | (exfalso; omega) | skip) | (refine KJ_guard_dec_f rfl rfl rfl (fun _ => ?_) (fun _ => ?_) <;> first | (exfalso; omega) | skip) | (refine KJ_guard_yes rfl rfl ?_) | (refine KJ_guard_no rfl rfl rfl rfl ?_))
    | (refine is_oper ?_; first | (refine KJ_ek rfl ?_) | (refine KJ_ek0 ?_))
    | (refine is_ek ?_; first | (refine xmv ?_) | (refine xas ?_) | (refine xpt ?_) | (refine xpf ?_) | (refine xnc ?_) | (refine xfa ?_) | (refine ek_load ?_; first | (refine EK_ev (Ev_loadAgg rfl xS xC) ?_) | (refine EK_ev (Ev_load rfl xS (by rfl)) ?_) | (refine EK_ev (Ev_loadOld rfl (by assumption)) ?_)) | (refine ek_len ?_; first | (refine EK_ev (Ev_len_str rfl) ?_) | (refine EK_ev (Ev_len_slice rfl) ?_) | (refine EK_ev (Ev_len_arr rfl) ?_) | (refine EK_ev (Ev_len_map rfl xS) ?_)) | (refine ek_sub ?_; first | (refine EK_ev (Ev_subI rfl rfl (by omega)) ?_) | (refine EK_ev (Ev_sub rfl rfl) ?_)) | (refine ek_leq ?_; first | (refine EK_ev (Ev_leqI_q rfl rfl q4) ?_) | (refine EK_ev (Ev_leqI_q rfl rfl q3) ?_) | (refine EK_ev (Ev_leqI_q rfl rfl q2) ?_) | (refine EK_ev (Ev_leqI rfl rfl) ?_) | (refine EK_ev (Ev_leqS rfl rfl) ?_)) | (refine ek_geq ?_; first | (refine EK_ev (Ev_geqI_q rfl rfl q1) ?_) | (refine EK_ev (Ev_geqI_q rfl rfl q0) ?_) | (refine EK_ev (Ev_geqI rfl rfl) ?_) | (refine EK_ev (Ev_geqS rfl rfl) ?_)))
    | (refine is_ex ?_; first | (refine KJ_blk_exit' rfl ?_))
    | (refine is_code ?_; first | (refine KJ_cond_dec rfl (fun _ => ?_) (fun _ => ?_) <;> first | (exfalso; omega) | skip) | (refine KJ_cond_t rfl ?_) | (refine KJ_cond_f rfl ?_)))
  (refine is_ex ?_; exact KJ_doneR (by first | exact Or.inl rfl | exact Or.inr rfl) rfl (by (repeat' (first | exact Rvs.nil | (apply Rvs.tmp; exact rfl))); first | done | fail) (by rfl) _ _ (by rw [RefF_eq]; exact (xN)))
theorem may_no5 (at_ n ver : Int) (hn : D.n ≤ 65536) (h : 0 ≤ at_ ∧ 0 ≤ n ∧ at_ ≤ D.n ∧ n ≤ (D.n : Int) - at_ ∧ n ≤ 65536 ∧ ver < 1) : Ct Tryd.prog W 124 [.pointer (some ⟨p, 0, none⟩), .int .i64 at_, .int .i64 n, .int .i64 ver] [RefP p D] (fun _ : Unit => .bool false) (fun _ => [RefP p D]) := by
  have q0 : decide (0 ≤ at_) = true := decide_eq_true (by omega)
  have q1 : decide (0 ≤ n) = true := decide_eq_true (by omega)
  have q2 : decide (at_ ≤ (D.n : Int)) = true := decide_eq_true (by omega)
  have q3 : decide (n ≤ (D.n : Int) - at_) = true := decide_eq_true (by omega)
  have q4 : decide (n ≤ 65536) = true := decide_eq_true (by omega)
  have q5 : decide (1 ≤ ver) = false := decide_eq_false (by omega)
  refine Ct_ref fun sv wv => ?_
  rw [RefF_eq]
  refine Ct.enter Tryd.func124 rfl Tryd.ntmps124 (by simp) (fun R => ?_)
  refine KJ.row_slice xS (fun sa sc e => ?_)
  subst e
  repeat' (first 
    | refine KJ_stp (by first | constructor | fail) ?_
    | (refine is_list ?_; first | (refine KJ_guard_dec_t rfl rfl rfl (fun _ => ?_) (fun _ => ?_) <;> first | (exfalso; omega) | skip) | (refine KJ_guard_dec_f rfl rfl rfl (fun _ => ?_) (fun _ => ?_) <;> first | (exfalso; omega) | skip) | (refine KJ_guard_yes rfl rfl ?_) | (refine KJ_guard_no rfl rfl rfl rfl ?_))
    | (refine is_oper ?_; first | (refine KJ_ek rfl ?_) | (refine KJ_ek0 ?_))
    | (refine is_ek ?_; first | (refine xmv ?_) | (refine xas ?_) | (refine xpt ?_) | (refine xpf ?_) | (refine xnc ?_) | (refine xfa ?_) | (refine ek_load ?_; first | (refine EK_ev (Ev_loadAgg rfl xS xC) ?_) | (refine EK_ev (Ev_load rfl xS (by rfl)) ?_) | (refine EK_ev (Ev_loadOld rfl (by assumption)) ?_)) | (refine ek_len ?_; first | (refine EK_ev (Ev_len_str rfl) ?_) | (refine EK_ev (Ev_len_slice rfl) ?_) | (refine EK_ev (Ev_len_arr rfl) ?_) | (refine EK_ev (Ev_len_map rfl xS) ?_)) | (refine ek_sub ?_; first | (refine EK_ev (Ev_subI rfl rfl (by omega)) ?_) | (refine EK_ev (Ev_sub rfl rfl) ?_)) | (refine ek_leq ?_; first | (refine EK_ev (Ev_leqI_q rfl rfl q4) ?_) | (refine EK_ev (Ev_leqI_q rfl rfl q3) ?_) | (refine EK_ev (Ev_leqI_q rfl rfl q2) ?_) | (refine EK_ev (Ev_leqI rfl rfl) ?_) | (refine EK_ev (Ev_leqS rfl rfl) ?_)) | (refine ek_geq ?_; first | (refine EK_ev (Ev_geqI_q rfl rfl q5) ?_) | (refine EK_ev (Ev_geqI_q rfl rfl q1) ?_) | (refine EK_ev (Ev_geqI_q rfl rfl q0) ?_) | (refine EK_ev (Ev_geqI rfl rfl) ?_) | (refine EK_ev (Ev_geqS rfl rfl) ?_)))
    | (refine is_ex ?_; first | (refine KJ_blk_exit' rfl ?_))
    | (refine is_code ?_; first | (refine KJ_cond_dec rfl (fun _ => ?_) (fun _ => ?_) <;> first | (exfalso; omega) | skip) | (refine KJ_cond_t rfl ?_) | (refine KJ_cond_f rfl ?_)))
  (refine is_ex ?_; exact KJ_doneR (by first | exact Or.inl rfl | exact Or.inr rfl) rfl (by (repeat' (first | exact Rvs.nil | (apply Rvs.tmp; exact rfl))); first | done | fail) (by rfl) _ _ (by rw [RefF_eq]; exact (xN)))
theorem may_no6 (at_ n ver : Int) (hn : D.n ≤ 65536) (h : 0 ≤ at_ ∧ 0 ≤ n ∧ at_ ≤ D.n ∧ n ≤ (D.n : Int) - at_ ∧ n ≤ 65536 ∧ 1 ≤ ver ∧ 1099511627776 < ver) : Ct Tryd.prog W 124 [.pointer (some ⟨p, 0, none⟩), .int .i64 at_, .int .i64 n, .int .i64 ver] [RefP p D] (fun _ : Unit => .bool false) (fun _ => [RefP p D]) := by
  have q0 : decide (0 ≤ at_) = true := decide_eq_true (by omega)
  have q1 : decide (0 ≤ n) = true := decide_eq_true (by omega)
  have q2 : decide (at_ ≤ (D.n : Int)) = true := decide_eq_true (by omega)
  have q3 : decide (n ≤ (D.n : Int) - at_) = true := decide_eq_true (by omega)
  have q4 : decide (n ≤ 65536) = true := decide_eq_true (by omega)
  have q5 : decide (1 ≤ ver) = true := decide_eq_true (by omega)
  have q6 : decide (ver ≤ 1099511627776) = false := decide_eq_false (by omega)
  refine Ct_ref fun sv wv => ?_
  rw [RefF_eq]
  refine Ct.enter Tryd.func124 rfl Tryd.ntmps124 (by simp) (fun R => ?_)
  refine KJ.row_slice xS (fun sa sc e => ?_)
  subst e
  repeat' (first 
    | refine KJ_stp (by first | constructor | fail) ?_
    | (refine is_list ?_; first | (refine KJ_guard_dec_t rfl rfl rfl (fun _ => ?_) (fun _ => ?_) <;> first | (exfalso; omega) | skip) | (refine KJ_guard_dec_f rfl rfl rfl (fun _ => ?_) (fun _ => ?_) <;> first | (exfalso; omega) | skip) | (refine KJ_guard_yes rfl rfl ?_) | (refine KJ_guard_no rfl rfl rfl rfl ?_))
    | (refine is_oper ?_; first | (refine KJ_ek rfl ?_) | (refine KJ_ek0 ?_))
    | (refine is_ek ?_; first | (refine xmv ?_) | (refine xas ?_) | (refine xpt ?_) | (refine xpf ?_) | (refine xnc ?_) | (refine xfa ?_) | (refine ek_load ?_; first | (refine EK_ev (Ev_loadAgg rfl xS xC) ?_) | (refine EK_ev (Ev_load rfl xS (by rfl)) ?_) | (refine EK_ev (Ev_loadOld rfl (by assumption)) ?_)) | (refine ek_len ?_; first | (refine EK_ev (Ev_len_str rfl) ?_) | (refine EK_ev (Ev_len_slice rfl) ?_) | (refine EK_ev (Ev_len_arr rfl) ?_) | (refine EK_ev (Ev_len_map rfl xS) ?_)) | (refine ek_sub ?_; first | (refine EK_ev (Ev_subI rfl rfl (by omega)) ?_) | (refine EK_ev (Ev_sub rfl rfl) ?_)) | (refine ek_leq ?_; first | (refine EK_ev (Ev_leqI_q rfl rfl q6) ?_) | (refine EK_ev (Ev_leqI_q rfl rfl q4) ?_) | (refine EK_ev (Ev_leqI_q rfl rfl q3) ?_) | (refine EK_ev (Ev_leqI_q rfl rfl q2) ?_) | (refine EK_ev (Ev_leqI rfl rfl) ?_) | (refine EK_ev (Ev_leqS rfl rfl) ?_)) | (refine ek_geq ?_; first | (refine EK_ev (Ev_geqI_q rfl rfl q5) ?_) | (refine EK_ev (Ev_geqI_q rfl rfl q1) ?_) | (refine EK_ev (Ev_geqI_q rfl rfl q0) ?_) | (refine EK_ev (Ev_geqI rfl rfl) ?_) | (refine EK_ev (Ev_geqS rfl rfl) ?_)))
    | (refine is_ex ?_; first | (refine KJ_blk_exit' rfl ?_))
    | (refine is_code ?_; first | (refine KJ_cond_dec rfl (fun _ => ?_) (fun _ => ?_) <;> first | (exfalso; omega) | skip) | (refine KJ_cond_t rfl ?_) | (refine KJ_cond_f rfl ?_)))
  (refine is_ex ?_; exact KJ_doneR (by first | exact Or.inl rfl | exact Or.inr rfl) rfl (by (repeat' (first | exact Rvs.nil | (apply Rvs.tmp; exact rfl))); first | done | fail) (by rfl) _ _ (by rw [RefF_eq]; exact (xN)))
theorem may_no (at_ n ver : Int) (hn : D.n ≤ 65536) (h : ¬ logOk D at_ n ver) : Ct Tryd.prog W 124 [.pointer (some ⟨p, 0, none⟩), .int .i64 at_, .int .i64 n, .int .i64 ver] [RefP p D] (fun _ : Unit => .bool false) (fun _ => [RefP p D]) := by
  rcases log_cases h with h | h | h | h | h | h | h
  · exact may_no0 at_ n ver hn h
  · exact may_no1 at_ n ver hn h
  · exact may_no2 at_ n ver hn h
  · exact may_no3 at_ n ver hn h
  · exact may_no4 at_ n ver hn h
  · exact may_no5 at_ n ver hn h
  · exact may_no6 at_ n ver hn h
set_option maxRecDepth 100000 in
theorem rlog_ct (v i : Nat) (hv : 1 ≤ v ∧ v ≤ 1099511627776) (hi : i < 65536) : Ct Tryd.prog W 128 [.int .i64 (v : Nat), .int .i64 (i : Nat)] [] (fun _ : Unit => .tuple #[.int .u64 (stampN v i : Nat), .int .i64 0]) (fun _ => []) := by
  have q1 : decide ((v : Int) < 1) = false := decide_eq_false (by omega)
  have q2 : decide ((1099511627776 : Int) < (v : Int)) = false := decide_eq_false (by omega)
  have q3 : decide ((i : Int) < 0) = false := decide_eq_false (by omega)
  have q4 : decide ((65536 : Int) ≤ (i : Int)) = false := decide_eq_false (by omega)
  have c1 : IntKind.u64.wrap (v : Int) = (v : Int) := u64_of_lt v (by omega)
  have c2 : IntKind.u64.wrap (i : Int) = (i : Int) := u64_of_lt i (by omega)
  have c3 : IntKind.u64.wrap ((v : Int) * 1048576) = ((v * 1048576 : Nat) : Int) := by
    rw [show (v : Int) * 1048576 = ((v * 1048576 : Nat) : Int) by omega]
    exact u64_of_lt _ (by omega)
  have c4 : IntKind.u64.wrap (((v * 1048576 : Nat) : Int) + (i : Int)) = ((v * 1048576 + i : Nat) : Int) := u64_of_lt (v * 1048576 + i) (by omega)
  have c5 : IntKind.u64.wrap (((v * 1048576 + i : Nat) : Int) + 1) = ((stampN v i : Nat) : Int) := u64_of_lt (v * 1048576 + i + 1) (by omega)
  obtain ⟨a2, ha2⟩ : ∃ a2, a2 = v * 1048576 + i := ⟨_, rfl⟩
  obtain ⟨a1, ha1⟩ : ∃ a1, a1 = v * 1048576 := ⟨_, rfl⟩
  obtain ⟨a3, ha3⟩ : ∃ a3, a3 = stampN v i := ⟨_, rfl⟩
  rw [← ha2] at c4 c5
  rw [← ha1] at c3 c4
  rw [← ha3] at c5 ⊢
  clear ha1 ha2 ha3
  refine Ct.enter Tryd.func128 rfl Tryd.ntmps128 (by simp) (fun R => ?_)
  repeat' (first 
    | refine KJ_stp (by first | constructor | fail) ?_
    | (refine is_list ?_; first | (refine KJ_guard_dec_t rfl rfl rfl (fun _ => ?_) (fun _ => ?_) <;> first | (exfalso; omega) | skip) | (refine KJ_guard_dec_f rfl rfl rfl (fun _ => ?_) (fun _ => ?_) <;> first | (exfalso; omega) | skip) | (refine KJ_guard_yes rfl rfl ?_) | (refine KJ_guard_no rfl rfl rfl rfl ?_))
    | (refine is_oper ?_; first | (refine KJ_ek rfl ?_) | (refine KJ_ek0 ?_))
    | (refine is_ek ?_; first | (refine xmv ?_) | (refine xas ?_) | (refine xpt ?_) | (refine xpf ?_) | (refine ek_conv ?_; first | (refine EK_ev (Ev_convI_v rfl c2) ?_) | (refine EK_ev (Ev_convI_v rfl c1) ?_) | (refine EK_ev (Ev_convI64 rfl (by omega)) ?_) | (refine EK_ev (Ev_convI rfl) ?_) | (refine EK_ev (Ev_convS rfl) ?_)) | (refine ek_add ?_; first | (refine EK_ev (Ev_add_w rfl rfl c5) ?_) | (refine EK_ev (Ev_add_w rfl rfl c4) ?_) | (refine EK_ev (Ev_addI rfl rfl (by omega)) ?_) | (refine EK_ev (Ev_addS rfl rfl (by simp <;> omega)) ?_) | (refine EK_ev (Ev_add rfl rfl) ?_)) | (refine ek_mul ?_; first | (refine EK_ev (Ev_mul_v rfl rfl c3) ?_) | (refine EK_ev (Ev_mulI rfl rfl (by omega)) ?_) | (refine EK_ev (Ev_mul rfl rfl) ?_)) | (refine ek_lss ?_; first | (refine EK_ev (Ev_lssI_q rfl rfl q3) ?_) | (refine EK_ev (Ev_lssI_q rfl rfl q1) ?_) | (refine EK_ev (Ev_lssI rfl rfl) ?_) | (refine EK_ev (Ev_lssS rfl rfl) ?_)) | (refine ek_gtr ?_; first | (refine EK_ev (Ev_gtrI_q rfl rfl q2) ?_) | (refine EK_ev (Ev_gtrI rfl rfl) ?_) | (refine EK_ev (Ev_gtrS rfl rfl) ?_)) | (refine ek_geq ?_; first | (refine EK_ev (Ev_geqI_q rfl rfl q4) ?_) | (refine EK_ev (Ev_geqI rfl rfl) ?_) | (refine EK_ev (Ev_geqS rfl rfl) ?_)))
    | (refine is_ex ?_; first | (refine KJ_blk_exit' rfl ?_))
    | (refine is_code ?_; first | (refine KJ_cond_dec rfl (fun _ => ?_) (fun _ => ?_) <;> first | (exfalso; omega) | skip) | (refine KJ_cond_t rfl ?_) | (refine KJ_cond_f rfl ?_)))
  all_goals (exact xdn ())
/-- the payload of the document's sector i -/
theorem ropenJ_ct (hok : D.ok) (hul : D.und.length < 1073741824) (at_ n : Int) (ver i : Nat) (hn : D.n ≤ 65536) (ho : D.off = false) (h : logOk D at_ n (ver : Nat)) (hi : (i : Int) < n) : Ct Tryd.prog W 133 [.pointer (some ⟨p, 0, none⟩), .int .i64 at_, .int .i64 (i : Nat), .int .i64 (ver : Nat)] [RefP p D] (fun _ : Unit => .tuple #[strV ((payO D at_ n ver i).getD []), .bool (payO D at_ n ver i).isSome]) (fun _ => [RefP p D]) := by
  obtain ⟨h1, h2, h3, h4, h5, h6, h7⟩ := h
  have c1 := rread_ct (W := W) (p := p) hok (at_ + (i : Nat)) hul
  have c2 := rlog_ct (W := W) ver i (by omega) (by omega)
  have c3 := ropen_ct (W := W) (stampN ver i) (stamp_lt (by omega) (by omega)) (D.readS (at_ + (i : Nat)))
  have hE : D.readE (at_ + (i : Nat)) = 0 := by
    unfold Dsk.readE Dsk.has
    rw [ho, decide_eq_true (show (0 : Int) ≤ at_ + (i : Nat) ∧ at_ + (i : Nat) < D.n by omega)]; rfl
  have hp : payO D at_ n ver i = openS (stampN ver i : Nat) (D.readS (at_ + (i : Nat))) := by unfold payO; rw [if_neg (by omega), hE]; rfl
  rw [hE] at c1
  rw [hp]
  obtain ⟨o, hoo⟩ : ∃ o, o = openS (stampN ver i : Nat) (D.readS (at_ + (i : Nat))) := ⟨_, rfl⟩
  rw [← hoo] at c3 ⊢
  obtain ⟨a, ha⟩ : ∃ a, at_ + ((i : Nat) : Int) = a := ⟨_, rfl⟩
  rw [ha] at c1 c3
  refine Ct.enter Tryd.func133 rfl Tryd.ntmps133 (by simp) (fun R => ?_)
  repeat' (first 
    | refine KJ_stp (by first | constructor | fail) ?_
    | (refine is_oper ?_; first | (refine is_call ?_; first | (refine KJ_call xE c3 xP rfl (fun _ => ?_)) | (refine KJ_call xE c2 xP rfl (fun _ => ?_)) | (refine KJ_call xE c1 xP rfl (fun _ => ?_))) | (refine KJ_ek rfl ?_) | (refine KJ_ek0 ?_))
    | (refine is_ek ?_; first | (refine xmv ?_) | (refine xas ?_) | (refine xex ?_) | (refine ek_add ?_; first | (refine EK_ev (Ev_addI_v rfl rfl ha (by omega)) ?_) | (refine EK_ev (Ev_addI rfl rfl (by omega)) ?_) | (refine EK_ev (Ev_addS rfl rfl (by simp <;> omega)) ?_) | (refine EK_ev (Ev_add rfl rfl) ?_)) | (refine ek_neq ?_; first | (refine EK_ev (Ev_neqI_f rfl rfl rfl) ?_) | (refine EK_ev (Ev_neqI rfl rfl) ?_) | (refine EK_ev (Ev_neqS rfl rfl) ?_) | (refine EK_ev (Ev_neqNil rfl rfl) ?_) | (refine EK_ev (Ev_neqB rfl rfl) ?_) | (refine EK_ev (Ev_neqO rfl rfl rfl (fun _ => rfl)) ?_)))
    | (refine is_ex ?_; first | (refine KJ_blk_exit' rfl ?_))
    | (refine is_code ?_; first | (refine KJ_cond_dec rfl (fun _ => ?_) (fun _ => ?_) <;> first | (exfalso; omega) | skip) | (refine KJ_cond_t rfl ?_) | (refine KJ_cond_f rfl ?_)))
  all_goals (exact xdn ())
set_option maxHeartbeats 1000000 in
set_option maxRecDepth 100000 in
theorem rpieces_ct (r : List UInt8) (hl : r.length ≤ 16777216) : Ct Tryd.prog W 127 [strV r] [] (fun x : Nat × Nat => .slice (some ⟨x.1, 0, none⟩) (pcsJ r).length x.2) (fun x => [rowP (.slice (some ⟨x.1, 0, none⟩) (pcsJ r).length x.2) 9 1 (pcsJ r).length ((pcsJ r).map strV)]) := by
  obtain ⟨res, hres⟩ : ∃ res, res = pcsJ r := ⟨_, rfl⟩
  rw [← hres]
  have b0 := byte_val0 r.length
  have b1 := byte_val r.length 256
  have b2 := byte_val r.length 65536
  have b3 := byte_val r.length 16777216
  have s1 : ((r.length : Nat) : Int).fdiv (2 ^ (min (8 : Int).toNat IntKind.i64.bits)) = ((r.length / 256 : Nat) : Int) := shr_val r.length 8 (by omega)
  have s2 : ((r.length : Nat) : Int).fdiv (2 ^ (min (16 : Int).toNat IntKind.i64.bits)) = ((r.length / 65536 : Nat) : Int) := shr_val r.length 16 (by omega)
  have s3 : ((r.length : Nat) : Int).fdiv (2 ^ (min (24 : Int).toNat IntKind.i64.bits)) = ((r.length / 16777216 : Nat) : Int) := shr_val r.length 24 (by omega)
  obtain ⟨c0, hc0⟩ : ∃ c, c = UInt8.ofNat (r.length % 256) := ⟨_, rfl⟩
  obtain ⟨c1, hc1⟩ : ∃ c, c = UInt8.ofNat (r.length / 256 % 256) := ⟨_, rfl⟩
  obtain ⟨c2, hc2⟩ : ∃ c, c = UInt8.ofNat (r.length / 65536 % 256) := ⟨_, rfl⟩
  obtain ⟨c3, hc3⟩ : ∃ c, c = UInt8.ofNat (r.length / 16777216 % 256) := ⟨_, rfl⟩
  have hhead : headJ r.length = [1, c0, c1, c2, c3] := by rw [hc0, hc1, hc2, hc3]; rfl
  rw [← hc0] at b0
  rw [← hc1] at b1
  rw [← hc2] at b2
  rw [← hc3] at b3
  obtain ⟨n1, hn1⟩ : ∃ m, m = r.length / 256 := ⟨_, rfl⟩
  obtain ⟨n2, hn2⟩ : ∃ m, m = r.length / 65536 := ⟨_, rfl⟩
  obtain ⟨n3, hn3⟩ : ∃ m, m = r.length / 16777216 := ⟨_, rfl⟩
  rw [← hn1] at s1 b1
  rw [← hn2] at s2 b2
  rw [← hn3] at s3 b3
  obtain ⟨ct, hct⟩ : ∃ m, m = min r.length 229 := ⟨_, rfl⟩
  obtain ⟨r1, hr1⟩ : ∃ x, x = r.take ct := ⟨_, rfl⟩
  have hr1l : r1.length ≤ 229 := by rw [hr1, List.length_take]; omega
  have ht : r.take 229 = r1 := by rw [hr1, hct]; exact List.take_eq_take_iff.2 (by omega)
  have hd : r.drop ct = r.drop 229 := by
    rw [hct]
    by_cases hh : r.length ≤ 229
    · rw [List.drop_of_length_le (by omega), List.drop_of_length_le (by omega)]
    · rw [show min r.length 229 = 229 by omega]
  have hall : [[1, c0, c1, c2, c3] ++ r1] ++ chunksJ r.length (r.drop ct) = res := by rw [hres, hd, ← ht, ← hhead]; rfl
  clear hc0 hc1 hc2 hc3 hn1 hn2 hn3 hhead hres hd
  have hctl : ct ≤ r.length := by omega
  refine Ct.enter Tryd.func127 rfl Tryd.ntmps127 (by simp) (fun R => ?_)
  apply KJ_rest (fun K => ∀ g2, KJ W 52 K [(0, strV r), (3, .int .i64 (r.length : Nat)), (5, .int .i64 (ct : Nat)), (6, .slice (some ⟨g2, 0, none⟩) 1 1)] ([rowP (.slice (some ⟨g2, 0, none⟩) 1 1) 9 1 1 [strV ([1, c0, c1, c2, c3] ++ r1)]] ++ R))
  · intro rest
    by_cases hk : 229 ≤ r.length
    · have qk : decide (((r.length : Nat) : Int) < 229) = false := decide_eq_false (by omega)
      have h5 : Value.int .i64 229 = .int .i64 ((ct : Nat) : Int) := by rw [show ct = 229 by omega]; rfl
      have ht' : r.take ((229 : Int)).toNat = r1 := ht
      repeat' (first 
    | (refine at_seq_block (id := 0) ?_; refine KJ.asv 5 rfl h5 ?_; refine KJ.toRow (e := 9) (m := 1) (size := 1) xS (by rfl) (by unfold maxLen; omega) ?_; exact KJ.weak (rest _) xB (xN))
    | refine KJ_stp (by first | constructor | fail) ?_
    | (refine is_oper ?_; first | (refine is_bslice ?_; first | (refine KJ_bslice1 rfl xF (by rfl) (by omega) rfl (fun g2 => ?_)) | (refine KJ_bytes5 (v0 := 1) (v1 := c0) (v2 := c1) (v3 := c2) (v4 := c3) rfl rfl rfl rfl rfl rfl (fun g1 => ?_))) | (refine KJ_ek rfl ?_) | (refine KJ_ek0 ?_))
    | (refine is_ek ?_; first | (refine xmv ?_) | (refine xas ?_) | (refine ek_conv ?_; first | (refine EK_ev (Ev_bytesAll (l := [1, c0, c1, c2, c3]) rfl xS rfl) ?_) | (refine EK_ev (Ev_convI_v rfl b3) ?_) | (refine EK_ev (Ev_convI_v rfl b2) ?_) | (refine EK_ev (Ev_convI_v rfl b1) ?_) | (refine EK_ev (Ev_convI_v rfl b0) ?_) | (refine EK_ev (Ev_convI64 rfl (by omega)) ?_) | (refine EK_ev (Ev_convI rfl) ?_) | (refine EK_ev (Ev_convS rfl) ?_)) | (refine ek_slice ?_; first | (refine EK_ev (Ev_sliceStrTo_v rfl rfl (by omega) ht') ?_)) | (refine ek_len ?_; first | (refine EK_ev (Ev_len_str rfl) ?_) | (refine EK_ev (Ev_len_slice rfl) ?_) | (refine EK_ev (Ev_len_arr rfl) ?_) | (refine EK_ev (Ev_len_map rfl xS) ?_)) | (refine ek_add ?_; first | (refine EK_ev (Ev_addS rfl rfl (by first | omega | (simp only [List.length_append, List.length_cons]; omega) | (simp only [List.length_cons, List.length_nil]; omega) | (simp only [List.length_append]; omega))) ?_) | (refine EK_ev (Ev_addI rfl rfl (by omega)) ?_) | (refine EK_ev (Ev_addS rfl rfl (by simp <;> omega)) ?_) | (refine EK_ev (Ev_add rfl rfl) ?_)) | (refine ek_shr ?_; first | (refine EK_ev (Ev_shr_w rfl rfl (by omega) s3) ?_) | (refine EK_ev (Ev_shr_w rfl rfl (by omega) s2) ?_) | (refine EK_ev (Ev_shr_w rfl rfl (by omega) s1) ?_) | (refine EK_ev (Ev_shr rfl rfl (by omega)) ?_)) | (refine ek_lss ?_; first | (refine EK_ev (Ev_lssI rfl rfl) ?_) | (refine EK_ev (Ev_lssS rfl rfl) ?_)) | (refine ek_gtr ?_; first | (refine EK_ev (Ev_gtrI_q rfl rfl qk) ?_) | (refine EK_ev (Ev_gtrI rfl rfl) ?_) | (refine EK_ev (Ev_gtrS rfl rfl) ?_)))
    | (refine is_ex ?_; first | (refine KJ_blk_exit' rfl ?_))
    | (refine is_code ?_; first | (refine KJ_cond_dec rfl (fun _ => ?_) (fun _ => ?_) <;> first | (exfalso; omega) | skip) | (refine KJ_cond_t rfl ?_) | (refine KJ_cond_f rfl ?_)))
    · have qk : decide (((r.length : Nat) : Int) < 229) = true := decide_eq_true (by omega)
      have h5 : Value.int .i64 (r.length : Nat) = .int .i64 ((ct : Nat) : Int) := by rw [show ct = r.length by omega]
      have ht' : r.take ((r.length : Nat) : Int).toNat = r1 := by rw [hr1, Int.toNat_natCast]; exact List.take_eq_take_iff.2 (by omega)
      repeat' (first 
    | (refine at_seq_block (id := 0) ?_; refine KJ.asv 5 rfl h5 ?_; refine KJ.toRow (e := 9) (m := 1) (size := 1) xS (by rfl) (by unfold maxLen; omega) ?_; exact KJ.weak (rest _) xB (xN))
    | refine KJ_stp (by first | constructor | fail) ?_
    | (refine is_oper ?_; first | (refine is_bslice ?_; first | (refine KJ_bslice1 rfl xF (by rfl) (by omega) rfl (fun g2 => ?_)) | (refine KJ_bytes5 (v0 := 1) (v1 := c0) (v2 := c1) (v3 := c2) (v4 := c3) rfl rfl rfl rfl rfl rfl (fun g1 => ?_))) | (refine KJ_ek rfl ?_) | (refine KJ_ek0 ?_))
    | (refine is_ek ?_; first | (refine xmv ?_) | (refine xas ?_) | (refine ek_conv ?_; first | (refine EK_ev (Ev_bytesAll (l := [1, c0, c1, c2, c3]) rfl xS rfl) ?_) | (refine EK_ev (Ev_convI_v rfl b3) ?_) | (refine EK_ev (Ev_convI_v rfl b2) ?_) | (refine EK_ev (Ev_convI_v rfl b1) ?_) | (refine EK_ev (Ev_convI_v rfl b0) ?_) | (refine EK_ev (Ev_convI64 rfl (by omega)) ?_) | (refine EK_ev (Ev_convI rfl) ?_) | (refine EK_ev (Ev_convS rfl) ?_)) | (refine ek_slice ?_; first | (refine EK_ev (Ev_sliceStrTo_v rfl rfl (by omega) ht') ?_)) | (refine ek_len ?_; first | (refine EK_ev (Ev_len_str rfl) ?_) | (refine EK_ev (Ev_len_slice rfl) ?_) | (refine EK_ev (Ev_len_arr rfl) ?_) | (refine EK_ev (Ev_len_map rfl xS) ?_)) | (refine ek_add ?_; first | (refine EK_ev (Ev_addS rfl rfl (by first | omega | (simp only [List.length_append, List.length_cons]; omega) | (simp only [List.length_cons, List.length_nil]; omega) | (simp only [List.length_append]; omega))) ?_) | (refine EK_ev (Ev_addI rfl rfl (by omega)) ?_) | (refine EK_ev (Ev_addS rfl rfl (by simp <;> omega)) ?_) | (refine EK_ev (Ev_add rfl rfl) ?_)) | (refine ek_shr ?_; first | (refine EK_ev (Ev_shr_w rfl rfl (by omega) s3) ?_) | (refine EK_ev (Ev_shr_w rfl rfl (by omega) s2) ?_) | (refine EK_ev (Ev_shr_w rfl rfl (by omega) s1) ?_) | (refine EK_ev (Ev_shr rfl rfl (by omega)) ?_)) | (refine ek_lss ?_; first | (refine EK_ev (Ev_lssI rfl rfl) ?_) | (refine EK_ev (Ev_lssS rfl rfl) ?_)) | (refine ek_gtr ?_; first | (refine EK_ev (Ev_gtrI_q rfl rfl qk) ?_) | (refine EK_ev (Ev_gtrI rfl rfl) ?_) | (refine EK_ev (Ev_gtrS rfl rfl) ?_)))
    | (refine is_ex ?_; first | (refine KJ_blk_exit' rfl ?_))
    | (refine is_code ?_; first | (refine KJ_cond_dec rfl (fun _ => ?_) (fun _ => ?_) <;> first | (exfalso; omega) | skip) | (refine KJ_cond_t rfl ?_) | (refine KJ_cond_f rfl ?_)))
  intro g2
  refine KJ_stp (by first | constructor | fail) ?_
  refine KJ_stp (by first | constructor | fail) ?_
  refine KJ_loop (fun i : {s : Nat × Nat × List (List UInt8) × Nat × Nat // s.2.2.1 ++ chunksJ s.1 (r.drop s.2.1) = res ∧ s.2.1 ≤ r.length ∧ r.length - s.2.1 ≤ 233 * s.1 ∧ s.2.2.1.length + s.1 ≤ 16777217} => [(0, strV r), (3, .int .i64 (r.length : Nat)), (5, .int .i64 (i.1.2.1 : Nat)), (6, .slice (some ⟨i.1.2.2.2.1, 0, none⟩) i.1.2.2.1.length i.1.2.2.2.2)])
    (fun i => [rowP (.slice (some ⟨i.1.2.2.2.1, 0, none⟩) i.1.2.2.1.length i.1.2.2.2.2) 9 1 i.1.2.2.1.length (i.1.2.2.1.map strV)] ++ R) (fun i => i.1.1) ⟨(r.length, ct, [[1, c0, c1, c2, c3] ++ r1], g2, 1), hall, hctl, by dsimp only; omega, by dsimp only [List.length]; omega⟩ xB (xN) (fun ⟨(f, k, acc, ga, ca), hr, hkn, hf, hal⟩ => ?_)
  dsimp only at hr hkn hf hal ⊢
  by_cases hlt : k < r.length
  rotate_left
  · have ql : decide (((k : Nat) : Int) < (r.length : Nat)) = false := decide_eq_false (by omega)
    rw [List.drop_of_length_le (by omega), chunksJ_nil, List.append_nil] at hr
    subst hr
    repeat' (first 
    | refine KJ_stp (by first | constructor | fail) ?_
    | (refine is_oper ?_; first | (refine KJ_ek rfl ?_) | (refine KJ_ek0 ?_))
    | (refine is_ek ?_; first | (refine xmv ?_) | (refine xas ?_) | (refine ek_conv ?_; first | (refine EK_ev (Ev_convI64 rfl (by omega)) ?_) | (refine EK_ev (Ev_convI rfl) ?_) | (refine EK_ev (Ev_convS rfl) ?_)) | (refine ek_len ?_; first | (refine EK_ev (Ev_len_str rfl) ?_) | (refine EK_ev (Ev_len_slice rfl) ?_) | (refine EK_ev (Ev_len_arr rfl) ?_) | (refine EK_ev (Ev_len_map rfl xS) ?_)) | (refine ek_add ?_; first | (refine EK_ev (Ev_addI rfl rfl (by omega)) ?_) | (refine EK_ev (Ev_addS rfl rfl (by simp <;> omega)) ?_) | (refine EK_ev (Ev_add rfl rfl) ?_)) | (refine ek_shr ?_; first | (refine EK_ev (Ev_shr rfl rfl (by omega)) ?_)) | (refine ek_lss ?_; first | (refine EK_ev (Ev_lssI_q rfl rfl ql) ?_) | (refine EK_ev (Ev_lssI rfl rfl) ?_) | (refine EK_ev (Ev_lssS rfl rfl) ?_)) | (refine ek_gtr ?_; first | (refine EK_ev (Ev_gtrI rfl rfl) ?_) | (refine EK_ev (Ev_gtrS rfl rfl) ?_)))
    | (refine is_ex ?_; first | (refine KJ_blk_exit' rfl ?_))
    | (refine is_code ?_; first | (refine KJ_cond_dec rfl (fun _ => ?_) (fun _ => ?_) <;> first | (exfalso; omega) | skip) | (refine KJ_cond_t rfl ?_) | (refine KJ_cond_f rfl ?_)))
    all_goals (exact xdn (ga, ca))
  have ql : decide (((k : Nat) : Int) < (r.length : Nat)) = true := decide_eq_true (by omega)
  obtain ⟨f', rfl⟩ : ∃ f', f = f' + 1 := ⟨f - 1, by omega⟩
  have hne : r.drop k ≠ [] := fun e => by
    have := congrArg List.length e
    rw [List.length_drop, List.length_nil] at this
    omega
  rw [chunksJ_cons _ _ hne, List.drop_drop] at hr
  obtain ⟨m, hm⟩ : ∃ m, m = min (k + 233) r.length := ⟨_, rfl⟩
  obtain ⟨q1, hq1⟩ : ∃ x, x = (r.drop k).take 233 := ⟨_, rfl⟩
  have hq1l : q1.length ≤ 233 := by rw [hq1, List.length_take]; omega
  have hsl : (r.take m).drop k = q1 := by
    rw [hq1, List.take_drop, hm]
    congr 1
    exact List.take_eq_take_iff.2 (by omega)
  have hdm : r.drop (k + 233) = r.drop m := by
    by_cases hh : k + 233 ≤ r.length
    · rw [show m = k + 233 by omega]
    · rw [List.drop_of_length_le (by omega), List.drop_of_length_le (by omega)]
  rw [← hq1, hdm] at hr
  clear hq1 hdm
  have em : acc.map strV ++ [strV (0 :: q1)] = (acc ++ [0 :: q1]).map strV := by simp
  have hsl' : (r.take ((m : Nat) : Int).toNat).drop ((k : Nat) : Int).toNat = q1 := by rw [Int.toNat_natCast, Int.toNat_natCast]; exact hsl
  have hz : ∀ x : List UInt8, ([0] : List UInt8) ++ x = 0 :: x := fun _ => rfl
  by_cases hg : k + 233 ≤ r.length
  · have qg : decide (((r.length : Nat) : Int) < ((k + 233 : Nat) : Int)) = false := decide_eq_false (by omega)
    obtain rfl : m = k + 233 := by omega
    repeat' (first 
    | refine KJ_stp (by first | constructor | fail) ?_
    | (refine is_oper ?_; first | (refine is_append ?_; first | (refine KJ_append (a2 := 0) rfl rfl (by rfl) (by omega) xS (Src.cells (i := 1) xS xC) (by rfl) (by omega) xO (by omega) (by omega) rfl rfl (fun g5 c5 => ?_))) | (refine is_bslice ?_; first | (refine KJ_bslice1 rfl xF (by rfl) (by omega) rfl (fun g3 => ?_))) | (refine KJ_ek rfl ?_) | (refine KJ_ek0 ?_))
    | (refine is_ek ?_; first | (refine xmv ?_) | (refine xas ?_) | (refine ek_conv ?_; first | (refine EK_ev (Ev_convI64 rfl (by omega)) ?_) | (refine EK_ev (Ev_convI rfl) ?_) | (refine EK_ev (Ev_convS rfl) ?_)) | (refine ek_slice ?_; first | (refine EK_ev (Ev_sliceStr_v7 rfl rfl rfl (by omega) hsl') ?_)) | (refine ek_len ?_; first | (refine EK_ev (Ev_len_str rfl) ?_) | (refine EK_ev (Ev_len_slice rfl) ?_) | (refine EK_ev (Ev_len_arr rfl) ?_) | (refine EK_ev (Ev_len_map rfl xS) ?_)) | (refine ek_add ?_; first | (refine EK_ev (Ev_addS rfl rfl (by first | omega | (simp only [List.length_append, List.length_cons]; omega) | (simp only [List.length_cons, List.length_nil]; omega) | (simp only [List.length_append]; omega))) ?_) | (refine EK_ev (Ev_addI_v (r := ((k + 233 : Nat) : Int)) rfl rfl (by omega) (by omega)) ?_) | (refine EK_ev (Ev_addI rfl rfl (by omega)) ?_) | (refine EK_ev (Ev_addS rfl rfl (by simp <;> omega)) ?_) | (refine EK_ev (Ev_add rfl rfl) ?_)) | (refine ek_shr ?_; first | (refine EK_ev (Ev_shr rfl rfl (by omega)) ?_)) | (refine ek_lss ?_; first | (refine EK_ev (Ev_lssI_q rfl rfl ql) ?_) | (refine EK_ev (Ev_lssI rfl rfl) ?_) | (refine EK_ev (Ev_lssS rfl rfl) ?_)) | (refine ek_gtr ?_; first | (refine EK_ev (Ev_gtrI_q rfl rfl qg) ?_) | (refine EK_ev (Ev_gtrI rfl rfl) ?_) | (refine EK_ev (Ev_gtrS rfl rfl) ?_)))
    | (refine is_ex ?_; first | (refine KJ_blk_exit' rfl ?_))
    | (refine is_code ?_; first | (refine KJ_cond_dec rfl (fun _ => ?_) (fun _ => ?_) <;> first | (exfalso; omega) | skip) | (refine KJ_cond_t rfl ?_) | (refine KJ_cond_f rfl ?_)))
    refine KJ_again ⟨(f', k + 233, acc ++ [0 :: q1], g5, c5), by dsimp only; rw [List.append_assoc]; exact hr, by dsimp only; omega, by dsimp only; omega, by dsimp only; rw [List.length_append]; show acc.length + 1 + f' ≤ _; omega⟩ (by show f' < f' + 1; omega) ?_ ?_
    · dsimp only
      rw [List.length_append]
      exact xB
    · dsimp only
      rw [← em, List.length_append]
      exact (xN)
  · have qg : decide (((r.length : Nat) : Int) < ((k + 233 : Nat) : Int)) = true := decide_eq_true (by omega)
    obtain rfl : m = r.length := by omega
    repeat' (first 
    | refine KJ_stp (by first | constructor | fail) ?_
    | (refine is_oper ?_; first | (refine is_append ?_; first | (refine KJ_append (a2 := 0) rfl rfl (by rfl) (by omega) xS (Src.cells (i := 1) xS xC) (by rfl) (by omega) xO (by omega) (by omega) rfl rfl (fun g5 c5 => ?_))) | (refine is_bslice ?_; first | (refine KJ_bslice1 rfl xF (by rfl) (by omega) rfl (fun g3 => ?_))) | (refine KJ_ek rfl ?_) | (refine KJ_ek0 ?_))
    | (refine is_ek ?_; first | (refine xmv ?_) | (refine xas ?_) | (refine ek_conv ?_; first | (refine EK_ev (Ev_convI64 rfl (by omega)) ?_) | (refine EK_ev (Ev_convI rfl) ?_) | (refine EK_ev (Ev_convS rfl) ?_)) | (refine ek_slice ?_; first | (refine EK_ev (Ev_sliceStr_v7 rfl rfl rfl (by omega) hsl') ?_)) | (refine ek_len ?_; first | (refine EK_ev (Ev_len_str rfl) ?_) | (refine EK_ev (Ev_len_slice rfl) ?_) | (refine EK_ev (Ev_len_arr rfl) ?_) | (refine EK_ev (Ev_len_map rfl xS) ?_)) | (refine ek_add ?_; first | (refine EK_ev (Ev_addS rfl rfl (by first | omega | (simp only [List.length_append, List.length_cons]; omega) | (simp only [List.length_cons, List.length_nil]; omega) | (simp only [List.length_append]; omega))) ?_) | (refine EK_ev (Ev_addI_v (r := ((k + 233 : Nat) : Int)) rfl rfl (by omega) (by omega)) ?_) | (refine EK_ev (Ev_addI rfl rfl (by omega)) ?_) | (refine EK_ev (Ev_addS rfl rfl (by simp <;> omega)) ?_) | (refine EK_ev (Ev_add rfl rfl) ?_)) | (refine ek_shr ?_; first | (refine EK_ev (Ev_shr rfl rfl (by omega)) ?_)) | (refine ek_lss ?_; first | (refine EK_ev (Ev_lssI_q rfl rfl ql) ?_) | (refine EK_ev (Ev_lssI rfl rfl) ?_) | (refine EK_ev (Ev_lssS rfl rfl) ?_)) | (refine ek_gtr ?_; first | (refine EK_ev (Ev_gtrI_q rfl rfl qg) ?_) | (refine EK_ev (Ev_gtrI rfl rfl) ?_) | (refine EK_ev (Ev_gtrS rfl rfl) ?_)))
    | (refine is_ex ?_; first | (refine KJ_blk_exit' rfl ?_))
    | (refine is_code ?_; first | (refine KJ_cond_dec rfl (fun _ => ?_) (fun _ => ?_) <;> first | (exfalso; omega) | skip) | (refine KJ_cond_t rfl ?_) | (refine KJ_cond_f rfl ?_)))
    refine KJ_again ⟨(f', r.length, acc ++ [0 :: q1], g5, c5), by dsimp only; rw [List.append_assoc]; exact hr, by dsimp only; omega, by dsimp only; omega, by dsimp only; rw [List.length_append]; show acc.length + 1 + f' ≤ _; omega⟩ (by show f' < f' + 1; omega) ?_ ?_
    · dsimp only
      rw [List.length_append]
      exact xB
    · dsimp only
      rw [← em, List.length_append]
      exact (xN)
end
end Go.Proofs.YteklldbfdmaafaaDoor
/-
  The document's log read: a record, Replay.
-/
namespace Go.Proofs.YteklldbfdmaafaaDoor
open Go Go.RowKit
def recRV (o : Option (List UInt8 × Int)) (i : Nat) : Value := match o with
  | none => .tuple #[strV [], .int .i64 0, .bool false]
  | some (s, u) => .tuple #[strV s, .int .i64 ((i : Int) + u), .bool true]
/-- a shift to the left, by a number that is known -/
structure ShF (kd : IntKind) (i s y : Int) : Prop where
  h0 : 0 ≤ s
  h : kd.wrap (i * 2 ^ (min s.toNat kd.bits)) = y
theorem Ev_shl_s {P : Program} {W : World} {n : Nat} {E : Env} {H : List SP} {t u : TypeId} {x y : Operand} {kd yk : IntKind} {i j r : Int} (hx : Env.ev E x = some (.int kd i)) (hy : Env.ev E y = some (.int yk j)) (h : ShF kd i j r) : Ev P W n E H (.binOp .shl t x y u) (.int kd r) := Ev_shl_w hx hy h.h0 h.h
theorem openS_le {st : Int} {raw q : List UInt8} (h : openS st raw = some q) : q.length ≤ 234 := by
  unfold openS at h
  split at h
  · cases h
  split at h
  · cases h
  rename_i hl
  split at h
  · cases h
  rename_i h2
  split at h
  · cases h
    rw [openP_length raw (by omega) (by omega)]; omega
  · cases h
theorem payO_le {D : Dsk} {at_ n : Int} {ver i : Nat} {q : List UInt8} (h : payO D at_ n ver i = some q) : q.length ≤ 234 := by
  unfold payO at h
  split at h
  · cases h
  split at h
  · cases h
  exact openS_le h
section
variable {W : World} {E : Nat → Addr} {p g : Nat} {D : Dsk}
set_option maxHeartbeats 4000000 in
set_option maxRecDepth 100000 in
theorem rrecord_ct (hok : D.ok) (hul : D.und.length < 1073741824) (at_ n : Int) (ver i : Nat) (hn : D.n ≤ 65536) (ho : D.off = false) (h : logOk D at_ n (ver : Nat)) (hi : (i : Int) < n) : Ct Tryd.prog W 125 [.pointer (some ⟨p, 0, none⟩), .int .i64 at_, .int .i64 n, .int .i64 (ver : Nat), .int .i64 (i : Nat)] [RefP p D] (fun _ : Unit => recRV (recO D at_ n ver i) i) (fun _ => [RefP p D]) := by
  have co := fun k (hk : ((i + k : Nat) : Int) < n) => ropenJ_ct (W := W) (p := p) hok hul at_ n ver (i + k) hn ho h hk
  have hple : ∀ k q, payO D at_ n ver (i + k) = some q → q.length ≤ 234 := fun k q h => payO_le h
  obtain ⟨h1, h2, h3, h4, h5, h6, h7⟩ := h
  obtain ⟨res, hres⟩ : ∃ res, recRV (recO D at_ n ver i) i = res := ⟨_, rfl⟩
  rw [hres]
  have hno : recO D at_ n ver i = none → res = .tuple #[strV [], .int .i64 0, .bool false] := fun e => by rw [← hres, e]; rfl
  refine Ct.enter Tryd.func125 rfl Tryd.ntmps125 (by simp) (fun R => ?_)
  have c1 := co 0 (by simpa using hi)
  rw [Nat.add_zero] at c1
  cases hq : payO D at_ n ver i with
  | none =>
    rw [hq] at c1
    have c1' : Ct Tryd.prog W 133 [.pointer (some ⟨p, 0, none⟩), .int .i64 at_, .int .i64 (i : Nat), .int .i64 (ver : Nat)] [RefP p D] (fun _ : Unit => .tuple #[strV [], .bool false]) (fun _ => [RefP p D]) := c1
    rw [hno (recO_none hq)]
    repeat' (first 
    | refine KJ_stp (by first | constructor | fail) ?_
    | (refine is_list ?_; first | (refine KJ_guard_dec_t rfl rfl rfl (fun _ => ?_) (fun _ => ?_) <;> first | (exfalso; omega) | skip) | (refine KJ_guard_dec_f rfl rfl rfl (fun _ => ?_) (fun _ => ?_) <;> first | (exfalso; omega) | skip) | (refine KJ_guard_yes rfl rfl ?_) | (refine KJ_guard_no rfl rfl rfl rfl ?_))
    | (refine is_oper ?_; first | (refine is_call ?_; first | (refine KJ_call xE c1' xP rfl (fun _ => ?_))) | (refine KJ_ek rfl ?_) | (refine KJ_ek0 ?_))
    | (refine is_ek ?_; first | (refine xmv ?_) | (refine xas ?_) | (refine xpt ?_) | (refine xpf ?_) | (refine ek_load ?_; first | (refine EK_ev (Ev_loadAgg rfl xS xC) ?_) | (refine EK_ev (Ev_load rfl xS (by rfl)) ?_) | (refine EK_ev (Ev_loadOld rfl (by assumption)) ?_)) | (refine ek_un ?_; first | (refine EK_ev (Ev_notD rfl) ?_) | (refine EK_ev (Ev_not rfl) ?_) | (refine EK_ev (Ev_neg rfl) ?_)) | (refine ek_conv ?_; first | (refine EK_ev (Ev_convI64 rfl (by omega)) ?_) | (refine EK_ev (Ev_convI rfl) ?_) | (refine EK_ev (Ev_convS rfl) ?_)) | (refine xex ?_) | (refine ek_indexAddr ?_; first | (refine EK_ev (Ev_indexSlice rfl rfl (by omega)) ?_) | (refine EK_ev (Ev_indexArr rfl rfl (by omega)) ?_)) | (refine ek_len ?_; first | (refine EK_ev (Ev_len_str rfl) ?_) | (refine EK_ev (Ev_len_slice rfl) ?_) | (refine EK_ev (Ev_len_arr rfl) ?_) | (refine EK_ev (Ev_len_map rfl xS) ?_)) | (refine ek_add ?_; first | (refine EK_ev (Ev_addI rfl rfl (by omega)) ?_) | (refine EK_ev (Ev_addS rfl rfl (by simp <;> omega)) ?_) | (refine EK_ev (Ev_add rfl rfl) ?_)) | (refine ek_sub ?_; first | (refine EK_ev (Ev_subI rfl rfl (by omega)) ?_) | (refine EK_ev (Ev_sub rfl rfl) ?_)) | (refine ek_shl ?_; first | (refine EK_ev (Ev_shl rfl rfl (by omega)) ?_)) | (refine ek_neq ?_; first | (refine EK_ev (Ev_neqI rfl rfl) ?_) | (refine EK_ev (Ev_neqS rfl rfl) ?_) | (refine EK_ev (Ev_neqNil rfl rfl) ?_) | (refine EK_ev (Ev_neqB rfl rfl) ?_) | (refine EK_ev (Ev_neqO rfl rfl rfl (fun _ => rfl)) ?_)) | (refine ek_lss ?_; first | (refine EK_ev (Ev_lssI rfl rfl) ?_) | (refine EK_ev (Ev_lssS rfl rfl) ?_)) | (refine ek_gtr ?_; first | (refine EK_ev (Ev_gtrI rfl rfl) ?_) | (refine EK_ev (Ev_gtrS rfl rfl) ?_)))
    | (refine is_ex ?_; first | (refine KJ_blk_exit' rfl ?_))
    | (refine is_code ?_; first | (refine KJ_cond_dec rfl (fun _ => ?_) (fun _ => ?_) <;> first | (exfalso; omega) | skip) | (refine KJ_cond_t rfl ?_) | (refine KJ_cond_f rfl ?_) | (refine KJ_draws (id := 4) (.op 0 (.op 1 (.op 2 (.op 3 (.op 4 (.op 5 (.op 6 (.op 7 (.op 8 (.op 9 (.op 10 (.op 11 (.op 12 (.op 13 (.op 14 (.op 15 (.op 16 (.op 17 (.op 18 .nil))))))))))))))))))) (by kernel_rfl) (by kernel_rfl) ?_))
    | (refine is_fw ?_; first | (refine FW_open rfl ?_) | (refine FW_nil ?_) | (refine FW_ef rfl ?_) | (refine FW_efg rfl rfl rfl ?_) | (refine FW_alt ?_ ?_))
    | (refine is_fo ?_; first | (refine FO_dec_t rfl rfl (fun _ => ?_) (fun _ => ?_) <;> first | (exfalso; omega) | skip) | (refine FO_dec_f rfl rfl (fun _ => ?_) (fun _ => ?_) <;> first | (exfalso; omega) | skip) | (refine FO_no rfl rfl rfl rfl ?_) | (refine FO_ekg rfl rfl rfl ?_) | (refine FO_ek rfl ?_))
    | (refine is_ro ?_; first | (refine RO_no rfl rfl rfl rfl ?_) | (refine RO_ekg rfl rfl ?_) | (refine RO_ek ?_))
    | (refine is_raw ?_; first | (refine KJ_flow ?_ ?_))
    | (refine AtR_mk rfl ?_)
    | exact Rech.nil
    | (refine Rech_open rfl ?_))
    all_goals (exact xdn ())
  | some q =>
  rw [hq] at c1
  have c1' : Ct Tryd.prog W 133 [.pointer (some ⟨p, 0, none⟩), .int .i64 at_, .int .i64 (i : Nat), .int .i64 (ver : Nat)] [RefP p D] (fun _ : Unit => .tuple #[strV q, .bool true]) (fun _ => [RefP p D]) := c1
  have hql := hple 0 q hq
  by_cases l5 : q.length < 5
  · have q5 : decide ((q.length : Int) < 5) = true := decide_eq_true (by omega)
    rw [hno (recO_short hq l5)]
    repeat' (first 
    | refine KJ_stp (by first | constructor | fail) ?_
    | (refine is_list ?_; first | (refine KJ_guard_dec_t rfl rfl rfl (fun _ => ?_) (fun _ => ?_) <;> first | (exfalso; omega) | skip) | (refine KJ_guard_dec_f rfl rfl rfl (fun _ => ?_) (fun _ => ?_) <;> first | (exfalso; omega) | skip) | (refine KJ_guard_yes rfl rfl ?_) | (refine KJ_guard_no rfl rfl rfl rfl ?_))
    | (refine is_oper ?_; first | (refine is_call ?_; first | (refine KJ_call xE c1' xP rfl (fun _ => ?_))) | (refine KJ_ek rfl ?_) | (refine KJ_ek0 ?_))
    | (refine is_ek ?_; first | (refine xmv ?_) | (refine xas ?_) | (refine xpt ?_) | (refine xpf ?_) | (refine ek_load ?_; first | (refine EK_ev (Ev_loadAgg rfl xS xC) ?_) | (refine EK_ev (Ev_load rfl xS (by rfl)) ?_) | (refine EK_ev (Ev_loadOld rfl (by assumption)) ?_)) | (refine ek_un ?_; first | (refine EK_ev (Ev_notD rfl) ?_) | (refine EK_ev (Ev_not rfl) ?_) | (refine EK_ev (Ev_neg rfl) ?_)) | (refine ek_conv ?_; first | (refine EK_ev (Ev_convI64 rfl (by omega)) ?_) | (refine EK_ev (Ev_convI rfl) ?_) | (refine EK_ev (Ev_convS rfl) ?_)) | (refine xex ?_) | (refine ek_indexAddr ?_; first | (refine EK_ev (Ev_indexSlice rfl rfl (by omega)) ?_) | (refine EK_ev (Ev_indexArr rfl rfl (by omega)) ?_)) | (refine ek_len ?_; first | (refine EK_ev (Ev_len_str rfl) ?_) | (refine EK_ev (Ev_len_slice rfl) ?_) | (refine EK_ev (Ev_len_arr rfl) ?_) | (refine EK_ev (Ev_len_map rfl xS) ?_)) | (refine ek_add ?_; first | (refine EK_ev (Ev_addI rfl rfl (by omega)) ?_) | (refine EK_ev (Ev_addS rfl rfl (by simp <;> omega)) ?_) | (refine EK_ev (Ev_add rfl rfl) ?_)) | (refine ek_sub ?_; first | (refine EK_ev (Ev_subI rfl rfl (by omega)) ?_) | (refine EK_ev (Ev_sub rfl rfl) ?_)) | (refine ek_shl ?_; first | (refine EK_ev (Ev_shl rfl rfl (by omega)) ?_)) | (refine ek_neq ?_; first | (refine EK_ev (Ev_neqI rfl rfl) ?_) | (refine EK_ev (Ev_neqS rfl rfl) ?_) | (refine EK_ev (Ev_neqNil rfl rfl) ?_) | (refine EK_ev (Ev_neqB rfl rfl) ?_) | (refine EK_ev (Ev_neqO rfl rfl rfl (fun _ => rfl)) ?_)) | (refine ek_lss ?_; first | (refine EK_ev (Ev_lssI_q rfl rfl q5) ?_) | (refine EK_ev (Ev_lssI rfl rfl) ?_) | (refine EK_ev (Ev_lssS rfl rfl) ?_)) | (refine ek_gtr ?_; first | (refine EK_ev (Ev_gtrI rfl rfl) ?_) | (refine EK_ev (Ev_gtrS rfl rfl) ?_)))
    | (refine is_ex ?_; first | (refine KJ_blk_exit' rfl ?_))
    | (refine is_code ?_; first | (refine KJ_cond_dec rfl (fun _ => ?_) (fun _ => ?_) <;> first | (exfalso; omega) | skip) | (refine KJ_cond_t rfl ?_) | (refine KJ_cond_f rfl ?_) | (refine KJ_draws (id := 4) (.op 0 (.op 1 (.op 2 (.op 3 (.op 4 (.op 5 (.op 6 (.op 7 (.op 8 (.op 9 (.op 10 (.op 11 (.op 12 (.op 13 (.op 14 (.op 15 (.op 16 (.op 17 (.op 18 .nil))))))))))))))))))) (by kernel_rfl) (by kernel_rfl) ?_))
    | (refine is_fw ?_; first | (refine FW_open rfl ?_) | (refine FW_nil ?_) | (refine FW_ef rfl ?_) | (refine FW_efg rfl rfl rfl ?_) | (refine FW_alt ?_ ?_))
    | (refine is_fo ?_; first | (refine FO_dec_t rfl rfl (fun _ => ?_) (fun _ => ?_) <;> first | (exfalso; omega) | skip) | (refine FO_dec_f rfl rfl (fun _ => ?_) (fun _ => ?_) <;> first | (exfalso; omega) | skip) | (refine FO_no rfl rfl rfl rfl ?_) | (refine FO_ekg rfl rfl rfl ?_) | (refine FO_ek rfl ?_))
    | (refine is_ro ?_; first | (refine RO_no rfl rfl rfl rfl ?_) | (refine RO_ekg rfl rfl ?_) | (refine RO_ek ?_))
    | (refine is_raw ?_; first | (refine KJ_flow ?_ ?_))
    | (refine AtR_mk rfl ?_)
    | exact Rech.nil
    | (refine Rech_open rfl ?_))
    all_goals (exact xdn ())
  have q5 : decide ((q.length : Int) < 5) = false := decide_eq_false (by omega)
  obtain ⟨c0, hc0⟩ : ∃ c, q[(0 : Int).toNat]? = some c := ⟨_, List.getElem?_eq_getElem (by show 0 < q.length; omega)⟩
  obtain ⟨b1, hb1⟩ : ∃ c, q[(1 : Int).toNat]? = some c := ⟨_, List.getElem?_eq_getElem (by show 1 < q.length; omega)⟩
  obtain ⟨b2, hb2⟩ : ∃ c, q[(2 : Int).toNat]? = some c := ⟨_, List.getElem?_eq_getElem (by show 2 < q.length; omega)⟩
  obtain ⟨b3, hb3⟩ : ∃ c, q[(3 : Int).toNat]? = some c := ⟨_, List.getElem?_eq_getElem (by show 3 < q.length; omega)⟩
  obtain ⟨b4, hb4⟩ : ∃ c, q[(4 : Int).toNat]? = some c := ⟨_, List.getElem?_eq_getElem (by show 4 < q.length; omega)⟩
  have hgd : q.getD 0 0 = c0 := by rw [List.getD]; rw [show q[0]? = some c0 from hc0]; rfl
  by_cases hh : c0 = 1
  rotate_left
  · have h6' : ((c0.toNat : Nat) : Int) ≠ 1 := by
      intro e
      apply hh
      apply UInt8.toNat_inj.1
      show c0.toNat = 1
      omega
    rw [hno (recO_head hq (by rw [hgd]; exact hh))]
    repeat' (first 
    | refine KJ_stp (by first | constructor | fail) ?_
    | (refine is_list ?_; first | (refine KJ_guard_dec_t rfl rfl rfl (fun _ => ?_) (fun _ => ?_) <;> first | (exfalso; omega) | skip) | (refine KJ_guard_dec_f rfl rfl rfl (fun _ => ?_) (fun _ => ?_) <;> first | (exfalso; omega) | skip) | (refine KJ_guard_yes rfl rfl ?_) | (refine KJ_guard_no rfl rfl rfl rfl ?_))
    | (refine is_oper ?_; first | (refine is_call ?_; first | (refine KJ_call xE c1' xP rfl (fun _ => ?_))) | (refine KJ_ek rfl ?_) | (refine KJ_ek0 ?_))
    | (refine is_ek ?_; first | (refine xmv ?_) | (refine xas ?_) | (refine xpt ?_) | (refine xpf ?_) | (refine ek_load ?_; first | (refine EK_ev (Ev_loadAgg rfl xS xC) ?_) | (refine EK_ev (Ev_load rfl xS (by rfl)) ?_) | (refine EK_ev (Ev_loadOld rfl (by assumption)) ?_)) | (refine ek_un ?_; first | (refine EK_ev (Ev_notD rfl) ?_) | (refine EK_ev (Ev_not rfl) ?_) | (refine EK_ev (Ev_neg rfl) ?_)) | (refine ek_conv ?_; first | (refine EK_ev (Ev_convI64 rfl (by omega)) ?_) | (refine EK_ev (Ev_convI rfl) ?_) | (refine EK_ev (Ev_convS rfl) ?_)) | (refine xex ?_) | (refine ek_indexAddr ?_; first | (refine EK_ev (Ev_indexSlice rfl rfl (by omega)) ?_) | (refine EK_ev (Ev_indexArr rfl rfl (by omega)) ?_)) | (refine ek_index ?_; first | (refine EK_ev (Ev_indexStr rfl rfl (by omega) hc0) ?_)) | (refine ek_len ?_; first | (refine EK_ev (Ev_len_str rfl) ?_) | (refine EK_ev (Ev_len_slice rfl) ?_) | (refine EK_ev (Ev_len_arr rfl) ?_) | (refine EK_ev (Ev_len_map rfl xS) ?_)) | (refine ek_add ?_; first | (refine EK_ev (Ev_addI rfl rfl (by omega)) ?_) | (refine EK_ev (Ev_addS rfl rfl (by simp <;> omega)) ?_) | (refine EK_ev (Ev_add rfl rfl) ?_)) | (refine ek_sub ?_; first | (refine EK_ev (Ev_subI rfl rfl (by omega)) ?_) | (refine EK_ev (Ev_sub rfl rfl) ?_)) | (refine ek_shl ?_; first | (refine EK_ev (Ev_shl rfl rfl (by omega)) ?_)) | (refine ek_neq ?_; first | (refine EK_ev (Ev_neqI_t rfl rfl h6') ?_) | (refine EK_ev (Ev_neqI rfl rfl) ?_) | (refine EK_ev (Ev_neqS rfl rfl) ?_) | (refine EK_ev (Ev_neqNil rfl rfl) ?_) | (refine EK_ev (Ev_neqB rfl rfl) ?_) | (refine EK_ev (Ev_neqO rfl rfl rfl (fun _ => rfl)) ?_)) | (refine ek_lss ?_; first | (refine EK_ev (Ev_lssI_q rfl rfl q5) ?_) | (refine EK_ev (Ev_lssI rfl rfl) ?_) | (refine EK_ev (Ev_lssS rfl rfl) ?_)) | (refine ek_gtr ?_; first | (refine EK_ev (Ev_gtrI rfl rfl) ?_) | (refine EK_ev (Ev_gtrS rfl rfl) ?_)))
    | (refine is_ex ?_; first | (refine KJ_blk_exit' rfl ?_))
    | (refine is_code ?_; first | (refine KJ_cond_dec rfl (fun _ => ?_) (fun _ => ?_) <;> first | (exfalso; omega) | skip) | (refine KJ_cond_t rfl ?_) | (refine KJ_cond_f rfl ?_) | (refine KJ_draws (id := 4) (.op 0 (.op 1 (.op 2 (.op 3 (.op 4 (.op 5 (.op 6 (.op 7 (.op 8 (.op 9 (.op 10 (.op 11 (.op 12 (.op 13 (.op 14 (.op 15 (.op 16 (.op 17 (.op 18 .nil))))))))))))))))))) (by kernel_rfl) (by kernel_rfl) ?_))
    | (refine is_fw ?_; first | (refine FW_open rfl ?_) | (refine FW_nil ?_) | (refine FW_ef rfl ?_) | (refine FW_efg rfl rfl rfl ?_) | (refine FW_alt ?_ ?_))
    | (refine is_fo ?_; first | (refine FO_dec_t rfl rfl (fun _ => ?_) (fun _ => ?_) <;> first | (exfalso; omega) | skip) | (refine FO_dec_f rfl rfl (fun _ => ?_) (fun _ => ?_) <;> first | (exfalso; omega) | skip) | (refine FO_no rfl rfl rfl rfl ?_) | (refine FO_ekg rfl rfl rfl ?_) | (refine FO_ek rfl ?_))
    | (refine is_ro ?_; first | (refine RO_no rfl rfl rfl rfl ?_) | (refine RO_ekg rfl rfl ?_) | (refine RO_ek ?_))
    | (refine is_raw ?_; first | (refine KJ_flow ?_ ?_))
    | (refine AtR_mk rfl ?_)
    | exact Rech.nil
    | (refine Rech_open rfl ?_))
    all_goals (exact xdn ())
  have h6' : ((c0.toNat : Nat) : Int) = 1 := by rw [hh]; rfl
  have hZ : sizeN q = b1.toNat + b2.toNat * 256 + b3.toNat * 65536 + b4.toNat * 16777216 := by
    unfold sizeN
    rw [List.getD, List.getD, List.getD, List.getD, show q[1]? = some b1 from hb1, show q[2]? = some b2 from hb2, show q[3]? = some b3 from hb3, show q[4]? = some b4 from hb4]
    rfl
  have u1 := UInt8.toNat_lt b1
  have u2 := UInt8.toNat_lt b2
  have u3 := UInt8.toNat_lt b3
  have u4 := UInt8.toNat_lt b4
  obtain ⟨y2, hy2⟩ : ∃ y, y = b2.toNat * 256 := ⟨_, rfl⟩
  obtain ⟨y3, hy3⟩ : ∃ y, y = b3.toNat * 65536 := ⟨_, rfl⟩
  obtain ⟨y4, hy4⟩ : ∃ y, y = b4.toNat * 16777216 := ⟨_, rfl⟩
  have s2 : ShF .i64 (b2.toNat : Int) 8 ((y2 : Nat) : Int) := by
    refine ⟨by decide, ?_⟩
    rw [show (b2.toNat : Int) * 2 ^ (min (8 : Int).toNat IntKind.i64.bits) = (b2.toNat : Int) * 256 from rfl, i64_wrap _ (by omega)]; omega
  have s3 : ShF .i64 (b3.toNat : Int) 16 ((y3 : Nat) : Int) := by
    refine ⟨by decide, ?_⟩
    rw [show (b3.toNat : Int) * 2 ^ (min (16 : Int).toNat IntKind.i64.bits) = (b3.toNat : Int) * 65536 from rfl, i64_wrap _ (by omega)]; omega
  have s4 : ShF .i64 (b4.toNat : Int) 24 ((y4 : Nat) : Int) := by
    refine ⟨by decide, ?_⟩
    rw [show (b4.toNat : Int) * 2 ^ (min (24 : Int).toNat IntKind.i64.bits) = (b4.toNat : Int) * 16777216 from rfl, i64_wrap _ (by omega)]; omega
  have hg4 := fun (h : n - (i : Int) < costI (sizeN q : Nat)) => recO_cost hq h
  have hgap := fun k (hk : ((k : Nat) : Int) < costI (sizeN q : Nat)) => recO_gap (k := k) hq hk
  have hall := fun (P : List (List UInt8)) => recO_all (D := D) (at_ := at_) (n := n) (ver := ver) (i := i) (P := P) hq
  obtain ⟨Z, hZZ⟩ : ∃ Z, Z = sizeN q := ⟨_, rfl⟩
  rw [← hZZ] at hZ hg4 hgap hall
  obtain ⟨z2, hz2⟩ : ∃ z, z = b1.toNat + y2 := ⟨_, rfl⟩
  obtain ⟨z3, hz3⟩ : ∃ z, z = z2 + y3 := ⟨_, rfl⟩
  have hz4 : Z = z3 + y4 := by omega
  have hZb : Z ≤ 4294967296 := by omega
  have cc := costr_ct (W := W) (Z : Nat) (by omega)
  have hcost : costI (Z : Nat) = if ((Z : Nat) : Int) < 0 then 0 else if ((Z : Nat) : Int) ≤ 229 then 1 else 2 + (((Z : Nat) : Int) - 230) / 233 := rfl
  rw [if_neg (by omega)] at hcost
  obtain ⟨need, hneed⟩ : ∃ m, m = costI (Z : Nat) := ⟨_, rfl⟩
  rw [← hneed] at cc hg4 hgap hall hcost
  have hpl := fun (T : List UInt8) (hT : T.length = Z) => (pcsJ_length T).trans (show costI T.length = need by rw [hneed, hT])
  clear hneed hZ hZZ
  have hn1 : 1 ≤ need := by split at hcost <;> omega
  by_cases h8 : n - (i : Int) < need
  · have q8 : decide (n - (i : Int) < need) = true := decide_eq_true h8
    rw [hno (hg4 h8)]
    repeat' (first 
    | refine KJ_stp (by first | constructor | fail) ?_
    | (refine is_list ?_; first | (refine KJ_guard_dec_t rfl rfl rfl (fun _ => ?_) (fun _ => ?_) <;> first | (exfalso; omega) | skip) | (refine KJ_guard_dec_f rfl rfl rfl (fun _ => ?_) (fun _ => ?_) <;> first | (exfalso; omega) | skip) | (refine KJ_guard_yes rfl rfl ?_) | (refine KJ_guard_no rfl rfl rfl rfl ?_))
    | (refine is_oper ?_; first | (refine is_call ?_; first | (refine KJ_call xE cc xP rfl (fun _ => ?_)) | (refine KJ_call xE c1' xP rfl (fun _ => ?_))) | (refine KJ_ek rfl ?_) | (refine KJ_ek0 ?_))
    | (refine is_ek ?_; first | (refine xmv ?_) | (refine xas ?_) | (refine xpt ?_) | (refine xpf ?_) | (refine ek_load ?_; first | (refine EK_ev (Ev_loadAgg rfl xS xC) ?_) | (refine EK_ev (Ev_load rfl xS (by rfl)) ?_) | (refine EK_ev (Ev_loadOld rfl (by assumption)) ?_)) | (refine ek_un ?_; first | (refine EK_ev (Ev_notD rfl) ?_) | (refine EK_ev (Ev_not rfl) ?_) | (refine EK_ev (Ev_neg rfl) ?_)) | (refine ek_conv ?_; first | (refine EK_ev (Ev_convI64 rfl (by omega)) ?_) | (refine EK_ev (Ev_convI64 rfl (by omega)) ?_) | (refine EK_ev (Ev_convI rfl) ?_) | (refine EK_ev (Ev_convS rfl) ?_)) | (refine xex ?_) | (refine ek_indexAddr ?_; first | (refine EK_ev (Ev_indexSlice rfl rfl (by omega)) ?_) | (refine EK_ev (Ev_indexArr rfl rfl (by omega)) ?_)) | (refine ek_index ?_; first | (refine EK_ev (Ev_indexStr rfl rfl (by omega) hb4) ?_) | (refine EK_ev (Ev_indexStr rfl rfl (by omega) hb3) ?_) | (refine EK_ev (Ev_indexStr rfl rfl (by omega) hb2) ?_) | (refine EK_ev (Ev_indexStr rfl rfl (by omega) hb1) ?_) | (refine EK_ev (Ev_indexStr rfl rfl (by omega) hc0) ?_)) | (refine ek_len ?_; first | (refine EK_ev (Ev_len_str rfl) ?_) | (refine EK_ev (Ev_len_slice rfl) ?_) | (refine EK_ev (Ev_len_arr rfl) ?_) | (refine EK_ev (Ev_len_map rfl xS) ?_)) | (refine ek_add ?_; first | (refine EK_ev (Ev_addI_v (r := ((Z : Nat) : Int)) rfl rfl (by omega) (by omega)) ?_) | (refine EK_ev (Ev_addI_v (r := ((z3 : Nat) : Int)) rfl rfl (by omega) (by omega)) ?_) | (refine EK_ev (Ev_addI_v (r := ((z2 : Nat) : Int)) rfl rfl (by omega) (by omega)) ?_) | (refine EK_ev (Ev_addI rfl rfl (by omega)) ?_) | (refine EK_ev (Ev_addS rfl rfl (by simp <;> omega)) ?_) | (refine EK_ev (Ev_add rfl rfl) ?_)) | (refine ek_sub ?_; first | (refine EK_ev (Ev_subI rfl rfl (by omega)) ?_) | (refine EK_ev (Ev_sub rfl rfl) ?_)) | (refine ek_shl ?_; first | (refine EK_ev (Ev_shl_s rfl rfl s4) ?_) | (refine EK_ev (Ev_shl_s rfl rfl s3) ?_) | (refine EK_ev (Ev_shl_s rfl rfl s2) ?_) | (refine EK_ev (Ev_shl rfl rfl (by omega)) ?_)) | (refine ek_neq ?_; first | (refine EK_ev (Ev_neqI_f rfl rfl h6') ?_) | (refine EK_ev (Ev_neqI rfl rfl) ?_) | (refine EK_ev (Ev_neqS rfl rfl) ?_) | (refine EK_ev (Ev_neqNil rfl rfl) ?_) | (refine EK_ev (Ev_neqB rfl rfl) ?_) | (refine EK_ev (Ev_neqO rfl rfl rfl (fun _ => rfl)) ?_)) | (refine ek_lss ?_; first | (refine EK_ev (Ev_lssI_q rfl rfl q5) ?_) | (refine EK_ev (Ev_lssI rfl rfl) ?_) | (refine EK_ev (Ev_lssS rfl rfl) ?_)) | (refine ek_gtr ?_; first | (refine EK_ev (Ev_gtrI_q rfl rfl q8) ?_) | (refine EK_ev (Ev_gtrI rfl rfl) ?_) | (refine EK_ev (Ev_gtrS rfl rfl) ?_)))
    | (refine is_ex ?_; first | (refine KJ_blk_exit' rfl ?_))
    | (refine is_code ?_; first | (refine KJ_cond_dec rfl (fun _ => ?_) (fun _ => ?_) <;> first | (exfalso; omega) | skip) | (refine KJ_cond_t rfl ?_) | (refine KJ_cond_f rfl ?_) | (refine KJ_draws (id := 4) (.op 0 (.op 1 (.op 2 (.op 3 (.op 4 (.op 5 (.op 6 (.op 7 (.op 8 (.op 9 (.op 10 (.op 11 (.op 12 (.op 13 (.op 14 (.op 15 (.op 16 (.op 17 (.op 18 .nil))))))))))))))))))) (by kernel_rfl) (by kernel_rfl) ?_))
    | (refine is_fw ?_; first | (refine FW_open rfl ?_) | (refine FW_nil ?_) | (refine FW_ef rfl ?_) | (refine FW_efg rfl rfl rfl ?_) | (refine FW_alt ?_ ?_))
    | (refine is_fo ?_; first | (refine FO_dec_t rfl rfl (fun _ => ?_) (fun _ => ?_) <;> first | (exfalso; omega) | skip) | (refine FO_dec_f rfl rfl (fun _ => ?_) (fun _ => ?_) <;> first | (exfalso; omega) | skip) | (refine FO_no rfl rfl rfl rfl ?_) | (refine FO_ekg rfl rfl rfl ?_) | (refine FO_ek rfl ?_))
    | (refine is_ro ?_; first | (refine RO_no rfl rfl rfl rfl ?_) | (refine RO_ekg rfl rfl ?_) | (refine RO_ek ?_))
    | (refine is_raw ?_; first | (refine KJ_flow ?_ ?_))
    | (refine AtR_mk rfl ?_)
    | exact Rech.nil
    | (refine Rech_open rfl ?_))
    all_goals (exact xdn ())
  have q8 : decide (n - (i : Int) < need) = false := decide_eq_false h8
  obtain ⟨q5', hq5⟩ : ∃ x, q.drop (5 : Int).toNat = x := ⟨_, rfl⟩
  have hq5l : q5'.length = q.length - 5 := by rw [← hq5]; exact List.length_drop
  have htx1 : txt [q] = q5' := by rw [← hq5]; simp [txt]
  have hZ2 : Z ≤ 15300000 := by split at hcost <;> omega
  repeat' (first 
    | refine KJ_stp (by first | constructor | fail) ?_
    | (refine is_list ?_; first | (refine KJ_guard_dec_t rfl rfl rfl (fun _ => ?_) (fun _ => ?_) <;> first | (exfalso; omega) | skip) | (refine KJ_guard_dec_f rfl rfl rfl (fun _ => ?_) (fun _ => ?_) <;> first | (exfalso; omega) | skip) | (refine KJ_guard_yes rfl rfl ?_) | (refine KJ_guard_no rfl rfl rfl rfl ?_))
    | (refine is_oper ?_; first | (refine is_call ?_; first | (refine KJ_call xE cc xP rfl (fun _ => ?_)) | (refine KJ_call xE c1' xP rfl (fun _ => ?_))) | (refine is_econv ?_; first | (refine KJ_bufOf rfl rfl (fun g3 c3 => ?_))) | (refine KJ_ek rfl ?_) | (refine KJ_ek0 ?_))
    | (refine is_ek ?_; first | (refine xmv ?_) | (refine xas ?_) | (refine xpt ?_) | (refine xpf ?_) | (refine ek_load ?_; first | (refine EK_ev (Ev_loadAgg rfl xS xC) ?_) | (refine EK_ev (Ev_load rfl xS (by rfl)) ?_) | (refine EK_ev (Ev_loadOld rfl (by assumption)) ?_)) | (refine ek_un ?_; first | (refine EK_ev (Ev_notD rfl) ?_) | (refine EK_ev (Ev_not rfl) ?_) | (refine EK_ev (Ev_neg rfl) ?_)) | (refine ek_conv ?_; first | (refine EK_ev (Ev_convI64 rfl (by omega)) ?_) | (refine EK_ev (Ev_convI64 rfl (by omega)) ?_) | (refine EK_ev (Ev_convI rfl) ?_) | (refine EK_ev (Ev_convS rfl) ?_)) | (refine xex ?_) | (refine ek_indexAddr ?_; first | (refine EK_ev (Ev_indexSlice rfl rfl (by omega)) ?_) | (refine EK_ev (Ev_indexArr rfl rfl (by omega)) ?_)) | (refine ek_index ?_; first | (refine EK_ev (Ev_indexStr rfl rfl (by omega) hb4) ?_) | (refine EK_ev (Ev_indexStr rfl rfl (by omega) hb3) ?_) | (refine EK_ev (Ev_indexStr rfl rfl (by omega) hb2) ?_) | (refine EK_ev (Ev_indexStr rfl rfl (by omega) hb1) ?_) | (refine EK_ev (Ev_indexStr rfl rfl (by omega) hc0) ?_)) | (refine ek_slice ?_; first | (refine EK_ev (Ev_sliceStrFrom_v rfl rfl (by omega) hq5) ?_)) | (refine ek_len ?_; first | (refine EK_ev (Ev_len_str rfl) ?_) | (refine EK_ev (Ev_len_slice rfl) ?_) | (refine EK_ev (Ev_len_arr rfl) ?_) | (refine EK_ev (Ev_len_map rfl xS) ?_)) | (refine ek_add ?_; first | (refine EK_ev (Ev_addI_v (r := ((Z : Nat) : Int)) rfl rfl (by omega) (by omega)) ?_) | (refine EK_ev (Ev_addI_v (r := ((z3 : Nat) : Int)) rfl rfl (by omega) (by omega)) ?_) | (refine EK_ev (Ev_addI_v (r := ((z2 : Nat) : Int)) rfl rfl (by omega) (by omega)) ?_) | (refine EK_ev (Ev_addI rfl rfl (by omega)) ?_) | (refine EK_ev (Ev_addS rfl rfl (by simp <;> omega)) ?_) | (refine EK_ev (Ev_add rfl rfl) ?_)) | (refine ek_sub ?_; first | (refine EK_ev (Ev_subI rfl rfl (by omega)) ?_) | (refine EK_ev (Ev_sub rfl rfl) ?_)) | (refine ek_shl ?_; first | (refine EK_ev (Ev_shl_s rfl rfl s4) ?_) | (refine EK_ev (Ev_shl_s rfl rfl s3) ?_) | (refine EK_ev (Ev_shl_s rfl rfl s2) ?_) | (refine EK_ev (Ev_shl rfl rfl (by omega)) ?_)) | (refine ek_neq ?_; first | (refine EK_ev (Ev_neqI_f rfl rfl h6') ?_) | (refine EK_ev (Ev_neqI rfl rfl) ?_) | (refine EK_ev (Ev_neqS rfl rfl) ?_) | (refine EK_ev (Ev_neqNil rfl rfl) ?_) | (refine EK_ev (Ev_neqB rfl rfl) ?_) | (refine EK_ev (Ev_neqO rfl rfl rfl (fun _ => rfl)) ?_)) | (refine ek_lss ?_; first | (refine EK_ev (Ev_lssI_q rfl rfl q5) ?_) | (refine EK_ev (Ev_lssI rfl rfl) ?_) | (refine EK_ev (Ev_lssS rfl rfl) ?_)) | (refine ek_gtr ?_; first | (refine EK_ev (Ev_gtrI_q rfl rfl q8) ?_) | (refine EK_ev (Ev_gtrI rfl rfl) ?_) | (refine EK_ev (Ev_gtrS rfl rfl) ?_)))
    | (refine is_ex ?_; first | (refine KJ_blk_exit' rfl ?_))
    | (refine is_code ?_; first | (refine KJ_cond_dec rfl (fun _ => ?_) (fun _ => ?_) <;> first | (exfalso; omega) | skip) | (refine KJ_cond_t rfl ?_) | (refine KJ_cond_f rfl ?_) | (refine KJ_draws (id := 4) (.op 0 (.op 1 (.op 2 (.op 3 (.op 4 (.op 5 (.op 6 (.op 7 (.op 8 (.op 9 (.op 10 (.op 11 (.op 12 (.op 13 (.op 14 (.op 15 (.op 16 (.op 17 (.op 18 .nil))))))))))))))))))) (by kernel_rfl) (by kernel_rfl) ?_))
    | (refine is_fw ?_; first | (refine FW_open rfl ?_) | (refine FW_nil ?_) | (refine FW_ef rfl ?_) | (refine FW_efg rfl rfl rfl ?_) | (refine FW_alt ?_ ?_))
    | (refine is_fo ?_; first | (refine FO_dec_t rfl rfl (fun _ => ?_) (fun _ => ?_) <;> first | (exfalso; omega) | skip) | (refine FO_dec_f rfl rfl (fun _ => ?_) (fun _ => ?_) <;> first | (exfalso; omega) | skip) | (refine FO_no rfl rfl rfl rfl ?_) | (refine FO_ekg rfl rfl rfl ?_) | (refine FO_ek rfl ?_))
    | (refine is_ro ?_; first | (refine RO_no rfl rfl rfl rfl ?_) | (refine RO_ekg rfl rfl ?_) | (refine RO_ek ?_))
    | (refine is_raw ?_; first | (refine KJ_flow ?_ ?_))
    | (refine AtR_mk rfl ?_)
    | exact Rech.nil
    | (refine Rech_open rfl ?_))
  clear s2 s3 s4 hb1 hb2 hb3 hb4 hc0 h6' hg4 cc c1 c1' hz2 hz3 hz4 hy2 hy3 hy4 u1 u2 u3 u4 hgd q5 l5
  refine KJ_loop (fun k : {s : List (List UInt8) × List UInt8 × Nat × Nat // (∀ j p, s.1[j]? = some p → payO D at_ n ver (i + j) = some p) ∧ txt s.1 = s.2.1 ∧ 1 ≤ s.1.length ∧ (s.1.length : Int) ≤ need ∧ s.2.1.length ≤ 240 * s.1.length} => [(0, .pointer (some ⟨p, 0, none⟩)), (1, .int .i64 at_), (2, .int .i64 n), (3, .int .i64 (ver : Nat)), (4, .int .i64 (i : Nat)), (15, .int .i64 (Z : Nat)), (16, .int .i64 need), (17, .slice (some ⟨k.1.2.2.1, 0, none⟩) k.1.2.1.length k.1.2.2.2), (18, .int .i64 (k.1.1.length : Nat))])
    (fun k => [RefP p D, bufP k.1.2.2.1 k.1.2.1.length k.1.2.2.2 k.1.2.1 5] ++ R) (fun k => need.toNat - k.1.1.length) ⟨([q], q5', g3, c3), fun j p hj => by
      cases j with
      | zero => cases hj; exact hq
      | succ j => simp at hj, htx1, Nat.le_refl _, by dsimp only [List.length]; omega, by dsimp only [List.length]; omega⟩ xB (xN) (fun ⟨(P, T, g4, c4), hP, hT, hP1, hPn, hTl⟩ => ?_)
  dsimp only at hP hT hP1 hPn hTl ⊢
  have hPne : P ≠ [] := by intro e; rw [e] at hP1; simp at hP1
  by_cases hlt : (P.length : Int) < need
  · have ql : decide ((P.length : Int) < need) = true := decide_eq_true hlt
    have c6 := co P.length (by omega)
    have hgp := hgap P.length hlt
    have hp6 := hple P.length
    have hnx := fun q2 (h : payO D at_ n ver (i + P.length) = some q2) => fun j p (hj : (P ++ [q2])[j]? = some p) => show payO D at_ n ver (i + j) = some p from (by
      rw [List.getElem?_append] at hj
      split at hj
      · exact hP j p hj
      · rename_i hge
        have hl := (List.getElem?_eq_some_iff.1 hj).1
        have : j = P.length := by simp at hl; omega
        subst this
        simp at hj
        rw [← hj]; exact h)
    obtain ⟨o2, ho2⟩ : ∃ o, payO D at_ n ver (i + P.length) = o := ⟨_, rfl⟩
    rw [ho2] at c6
    cases o2 with
    | none =>
      rw [hno (hgp (fun p hp => by rw [ho2] at hp; cases hp))]
      have c6' : Ct Tryd.prog W 133 [.pointer (some ⟨p, 0, none⟩), .int .i64 at_, .int .i64 ((i + P.length : Nat) : Int), .int .i64 (ver : Nat)] [RefP p D] (fun _ : Unit => .tuple #[strV [], .bool false]) (fun _ => [RefP p D]) := c6
      repeat' (first 
    | refine KJ_stp (by first | constructor | fail) ?_
    | (refine is_list ?_; first | (refine KJ_guard_dec_t rfl rfl rfl (fun _ => ?_) (fun _ => ?_) <;> first | (exfalso; omega) | skip) | (refine KJ_guard_dec_f rfl rfl rfl (fun _ => ?_) (fun _ => ?_) <;> first | (exfalso; omega) | skip) | (refine KJ_guard_yes rfl rfl ?_) | (refine KJ_guard_no rfl rfl rfl rfl ?_))
    | (refine is_oper ?_; first | (refine is_call ?_; first | (refine KJ_call xE c6' xP rfl (fun _ => ?_))) | (refine KJ_ek rfl ?_) | (refine KJ_ek0 ?_))
    | (refine is_ek ?_; first | (refine xmv ?_) | (refine xas ?_) | (refine xpt ?_) | (refine xpf ?_) | (refine ek_load ?_; first | (refine EK_ev (Ev_loadAgg rfl xS xC) ?_) | (refine EK_ev (Ev_load rfl xS (by rfl)) ?_) | (refine EK_ev (Ev_loadOld rfl (by assumption)) ?_)) | (refine ek_un ?_; first | (refine EK_ev (Ev_notD rfl) ?_) | (refine EK_ev (Ev_not rfl) ?_) | (refine EK_ev (Ev_neg rfl) ?_)) | (refine ek_conv ?_; first | (refine EK_ev (Ev_convI64 rfl (by omega)) ?_) | (refine EK_ev (Ev_convI rfl) ?_) | (refine EK_ev (Ev_convS rfl) ?_)) | (refine xex ?_) | (refine ek_indexAddr ?_; first | (refine EK_ev (Ev_indexSlice rfl rfl (by omega)) ?_) | (refine EK_ev (Ev_indexArr rfl rfl (by omega)) ?_)) | (refine ek_len ?_; first | (refine EK_ev (Ev_len_str rfl) ?_) | (refine EK_ev (Ev_len_slice rfl) ?_) | (refine EK_ev (Ev_len_arr rfl) ?_) | (refine EK_ev (Ev_len_map rfl xS) ?_)) | (refine ek_add ?_; first | (refine EK_ev (Ev_addI_v (r := ((i + P.length : Nat) : Int)) rfl rfl (by omega) (by omega)) ?_) | (refine EK_ev (Ev_addI rfl rfl (by omega)) ?_) | (refine EK_ev (Ev_addS rfl rfl (by simp <;> omega)) ?_) | (refine EK_ev (Ev_add rfl rfl) ?_)) | (refine ek_sub ?_; first | (refine EK_ev (Ev_subI rfl rfl (by omega)) ?_) | (refine EK_ev (Ev_sub rfl rfl) ?_)) | (refine ek_shl ?_; first | (refine EK_ev (Ev_shl rfl rfl (by omega)) ?_)) | (refine ek_neq ?_; first | (refine EK_ev (Ev_neqI rfl rfl) ?_) | (refine EK_ev (Ev_neqS rfl rfl) ?_) | (refine EK_ev (Ev_neqNil rfl rfl) ?_) | (refine EK_ev (Ev_neqB rfl rfl) ?_) | (refine EK_ev (Ev_neqO rfl rfl rfl (fun _ => rfl)) ?_)) | (refine ek_lss ?_; first | (refine EK_ev (Ev_lssI_q rfl rfl ql) ?_) | (refine EK_ev (Ev_lssI rfl rfl) ?_) | (refine EK_ev (Ev_lssS rfl rfl) ?_)) | (refine ek_gtr ?_; first | (refine EK_ev (Ev_gtrI rfl rfl) ?_) | (refine EK_ev (Ev_gtrS rfl rfl) ?_)))
    | (refine is_ex ?_; first | (refine KJ_blk_exit' rfl ?_))
    | (refine is_code ?_; first | (refine KJ_cond_dec rfl (fun _ => ?_) (fun _ => ?_) <;> first | (exfalso; omega) | skip) | (refine KJ_cond_t rfl ?_) | (refine KJ_cond_f rfl ?_) | (refine KJ_draws (id := 4) (.op 0 (.op 1 (.op 2 (.op 3 (.op 4 (.op 5 (.op 6 (.op 7 (.op 8 (.op 9 (.op 10 (.op 11 (.op 12 (.op 13 (.op 14 (.op 15 (.op 16 (.op 17 (.op 18 .nil))))))))))))))))))) (by kernel_rfl) (by kernel_rfl) ?_))
    | (refine is_fw ?_; first | (refine FW_open rfl ?_) | (refine FW_nil ?_) | (refine FW_ef rfl ?_) | (refine FW_efg rfl rfl rfl ?_) | (refine FW_alt ?_ ?_))
    | (refine is_fo ?_; first | (refine FO_dec_t rfl rfl (fun _ => ?_) (fun _ => ?_) <;> first | (exfalso; omega) | skip) | (refine FO_dec_f rfl rfl (fun _ => ?_) (fun _ => ?_) <;> first | (exfalso; omega) | skip) | (refine FO_no rfl rfl rfl rfl ?_) | (refine FO_ekg rfl rfl rfl ?_) | (refine FO_ek rfl ?_))
    | (refine is_ro ?_; first | (refine RO_no rfl rfl rfl rfl ?_) | (refine RO_ekg rfl rfl ?_) | (refine RO_ek ?_))
    | (refine is_raw ?_; first | (refine KJ_flow ?_ ?_))
    | (refine AtR_mk rfl ?_)
    | exact Rech.nil
    | (refine Rech_open rfl ?_))
      all_goals (exact xdn ())
    | some q2 =>
      have c6' : Ct Tryd.prog W 133 [.pointer (some ⟨p, 0, none⟩), .int .i64 at_, .int .i64 ((i + P.length : Nat) : Int), .int .i64 (ver : Nat)] [RefP p D] (fun _ : Unit => .tuple #[strV q2, .bool true]) (fun _ => [RefP p D]) := c6
      by_cases h9 : q2.length < 1
      · have q9 : decide ((q2.length : Int) < 1) = true := decide_eq_true (by omega)
        rw [hno (hgp (fun p hp => by rw [ho2] at hp; cases hp; exact h9))]
        repeat' (first 
    | refine KJ_stp (by first | constructor | fail) ?_
    | (refine is_list ?_; first | (refine KJ_guard_dec_t rfl rfl rfl (fun _ => ?_) (fun _ => ?_) <;> first | (exfalso; omega) | skip) | (refine KJ_guard_dec_f rfl rfl rfl (fun _ => ?_) (fun _ => ?_) <;> first | (exfalso; omega) | skip) | (refine KJ_guard_yes rfl rfl ?_) | (refine KJ_guard_no rfl rfl rfl rfl ?_))
    | (refine is_oper ?_; first | (refine is_call ?_; first | (refine KJ_call xE c6' xP rfl (fun _ => ?_))) | (refine KJ_ek rfl ?_) | (refine KJ_ek0 ?_))
    | (refine is_ek ?_; first | (refine xmv ?_) | (refine xas ?_) | (refine xpt ?_) | (refine xpf ?_) | (refine ek_load ?_; first | (refine EK_ev (Ev_loadAgg rfl xS xC) ?_) | (refine EK_ev (Ev_load rfl xS (by rfl)) ?_) | (refine EK_ev (Ev_loadOld rfl (by assumption)) ?_)) | (refine ek_un ?_; first | (refine EK_ev (Ev_notD rfl) ?_) | (refine EK_ev (Ev_not rfl) ?_) | (refine EK_ev (Ev_neg rfl) ?_)) | (refine ek_conv ?_; first | (refine EK_ev (Ev_convI64 rfl (by omega)) ?_) | (refine EK_ev (Ev_convI rfl) ?_) | (refine EK_ev (Ev_convS rfl) ?_)) | (refine xex ?_) | (refine ek_indexAddr ?_; first | (refine EK_ev (Ev_indexSlice rfl rfl (by omega)) ?_) | (refine EK_ev (Ev_indexArr rfl rfl (by omega)) ?_)) | (refine ek_len ?_; first | (refine EK_ev (Ev_len_str rfl) ?_) | (refine EK_ev (Ev_len_slice rfl) ?_) | (refine EK_ev (Ev_len_arr rfl) ?_) | (refine EK_ev (Ev_len_map rfl xS) ?_)) | (refine ek_add ?_; first | (refine EK_ev (Ev_addI_v (r := ((i + P.length : Nat) : Int)) rfl rfl (by omega) (by omega)) ?_) | (refine EK_ev (Ev_addI rfl rfl (by omega)) ?_) | (refine EK_ev (Ev_addS rfl rfl (by simp <;> omega)) ?_) | (refine EK_ev (Ev_add rfl rfl) ?_)) | (refine ek_sub ?_; first | (refine EK_ev (Ev_subI rfl rfl (by omega)) ?_) | (refine EK_ev (Ev_sub rfl rfl) ?_)) | (refine ek_shl ?_; first | (refine EK_ev (Ev_shl rfl rfl (by omega)) ?_)) | (refine ek_neq ?_; first | (refine EK_ev (Ev_neqI rfl rfl) ?_) | (refine EK_ev (Ev_neqS rfl rfl) ?_) | (refine EK_ev (Ev_neqNil rfl rfl) ?_) | (refine EK_ev (Ev_neqB rfl rfl) ?_) | (refine EK_ev (Ev_neqO rfl rfl rfl (fun _ => rfl)) ?_)) | (refine ek_lss ?_; first | (refine EK_ev (Ev_lssI_q rfl rfl q9) ?_) | (refine EK_ev (Ev_lssI_q rfl rfl ql) ?_) | (refine EK_ev (Ev_lssI rfl rfl) ?_) | (refine EK_ev (Ev_lssS rfl rfl) ?_)) | (refine ek_gtr ?_; first | (refine EK_ev (Ev_gtrI rfl rfl) ?_) | (refine EK_ev (Ev_gtrS rfl rfl) ?_)))
    | (refine is_ex ?_; first | (refine KJ_blk_exit' rfl ?_))
    | (refine is_code ?_; first | (refine KJ_cond_dec rfl (fun _ => ?_) (fun _ => ?_) <;> first | (exfalso; omega) | skip) | (refine KJ_cond_t rfl ?_) | (refine KJ_cond_f rfl ?_) | (refine KJ_draws (id := 4) (.op 0 (.op 1 (.op 2 (.op 3 (.op 4 (.op 5 (.op 6 (.op 7 (.op 8 (.op 9 (.op 10 (.op 11 (.op 12 (.op 13 (.op 14 (.op 15 (.op 16 (.op 17 (.op 18 .nil))))))))))))))))))) (by kernel_rfl) (by kernel_rfl) ?_))
    | (refine is_fw ?_; first | (refine FW_open rfl ?_) | (refine FW_nil ?_) | (refine FW_ef rfl ?_) | (refine FW_efg rfl rfl rfl ?_) | (refine FW_alt ?_ ?_))
    | (refine is_fo ?_; first | (refine FO_dec_t rfl rfl (fun _ => ?_) (fun _ => ?_) <;> first | (exfalso; omega) | skip) | (refine FO_dec_f rfl rfl (fun _ => ?_) (fun _ => ?_) <;> first | (exfalso; omega) | skip) | (refine FO_no rfl rfl rfl rfl ?_) | (refine FO_ekg rfl rfl rfl ?_) | (refine FO_ek rfl ?_))
    | (refine is_ro ?_; first | (refine RO_no rfl rfl rfl rfl ?_) | (refine RO_ekg rfl rfl ?_) | (refine RO_ek ?_))
    | (refine is_raw ?_; first | (refine KJ_flow ?_ ?_))
    | (refine AtR_mk rfl ?_)
    | exact Rech.nil
    | (refine Rech_open rfl ?_))
        all_goals (exact xdn ())
      have q9 : decide ((q2.length : Int) < 1) = false := decide_eq_false (by omega)
      have hq2l := hp6 q2 ho2
      have hnx2 := hnx q2 ho2
      obtain ⟨q3, hq3⟩ : ∃ x, q2.drop (1 : Int).toNat = x := ⟨_, rfl⟩
      have hq3l : q3.length = q2.length - 1 := by rw [← hq3]; exact List.length_drop
      have hT2 : txt (P ++ [q2]) = T ++ q3 := by rw [txt_snoc P hPne, hT, ← hq3]; rfl
      repeat' (first 
    | refine KJ_stp (by first | constructor | fail) ?_
    | (refine is_list ?_; first | (refine KJ_guard_dec_t rfl rfl rfl (fun _ => ?_) (fun _ => ?_) <;> first | (exfalso; omega) | skip) | (refine KJ_guard_dec_f rfl rfl rfl (fun _ => ?_) (fun _ => ?_) <;> first | (exfalso; omega) | skip) | (refine KJ_guard_yes rfl rfl ?_) | (refine KJ_guard_no rfl rfl rfl rfl ?_))
    | (refine is_oper ?_; first | (refine is_call ?_; first | (refine KJ_call xE c6' xP rfl (fun _ => ?_))) | (refine is_append ?_; first | (refine KJ_appendBuf rfl rfl xS (by omega) rfl (fun g5 c5 => ?_))) | (refine KJ_ek rfl ?_) | (refine KJ_ek0 ?_))
    | (refine is_ek ?_; first | (refine xmv ?_) | (refine xas ?_) | (refine xpt ?_) | (refine xpf ?_) | (refine ek_load ?_; first | (refine EK_ev (Ev_loadAgg rfl xS xC) ?_) | (refine EK_ev (Ev_load rfl xS (by rfl)) ?_) | (refine EK_ev (Ev_loadOld rfl (by assumption)) ?_)) | (refine ek_un ?_; first | (refine EK_ev (Ev_notD rfl) ?_) | (refine EK_ev (Ev_not rfl) ?_) | (refine EK_ev (Ev_neg rfl) ?_)) | (refine ek_conv ?_; first | (refine EK_ev (Ev_convI64 rfl (by omega)) ?_) | (refine EK_ev (Ev_convI rfl) ?_) | (refine EK_ev (Ev_convS rfl) ?_)) | (refine xex ?_) | (refine ek_indexAddr ?_; first | (refine EK_ev (Ev_indexSlice rfl rfl (by omega)) ?_) | (refine EK_ev (Ev_indexArr rfl rfl (by omega)) ?_)) | (refine ek_slice ?_; first | (refine EK_ev (Ev_sliceStrFrom_v rfl rfl (by omega) hq3) ?_)) | (refine ek_len ?_; first | (refine EK_ev (Ev_len_str rfl) ?_) | (refine EK_ev (Ev_len_slice rfl) ?_) | (refine EK_ev (Ev_len_arr rfl) ?_) | (refine EK_ev (Ev_len_map rfl xS) ?_)) | (refine ek_add ?_; first | (refine EK_ev (Ev_addI_v (r := ((P.length + 1 : Nat) : Int)) rfl rfl (by omega) (by omega)) ?_) | (refine EK_ev (Ev_addI_v (r := ((i + P.length : Nat) : Int)) rfl rfl (by omega) (by omega)) ?_) | (refine EK_ev (Ev_addI rfl rfl (by omega)) ?_) | (refine EK_ev (Ev_addS rfl rfl (by simp <;> omega)) ?_) | (refine EK_ev (Ev_add rfl rfl) ?_)) | (refine ek_sub ?_; first | (refine EK_ev (Ev_subI rfl rfl (by omega)) ?_) | (refine EK_ev (Ev_sub rfl rfl) ?_)) | (refine ek_shl ?_; first | (refine EK_ev (Ev_shl rfl rfl (by omega)) ?_)) | (refine ek_neq ?_; first | (refine EK_ev (Ev_neqI rfl rfl) ?_) | (refine EK_ev (Ev_neqS rfl rfl) ?_) | (refine EK_ev (Ev_neqNil rfl rfl) ?_) | (refine EK_ev (Ev_neqB rfl rfl) ?_) | (refine EK_ev (Ev_neqO rfl rfl rfl (fun _ => rfl)) ?_)) | (refine ek_lss ?_; first | (refine EK_ev (Ev_lssI_q rfl rfl q9) ?_) | (refine EK_ev (Ev_lssI_q rfl rfl ql) ?_) | (refine EK_ev (Ev_lssI rfl rfl) ?_) | (refine EK_ev (Ev_lssS rfl rfl) ?_)) | (refine ek_gtr ?_; first | (refine EK_ev (Ev_gtrI rfl rfl) ?_) | (refine EK_ev (Ev_gtrS rfl rfl) ?_)))
    | (refine is_ex ?_; first | (refine KJ_blk_exit' rfl ?_))
    | (refine is_code ?_; first | (refine KJ_cond_dec rfl (fun _ => ?_) (fun _ => ?_) <;> first | (exfalso; omega) | skip) | (refine KJ_cond_t rfl ?_) | (refine KJ_cond_f rfl ?_) | (refine KJ_draws (id := 4) (.op 0 (.op 1 (.op 2 (.op 3 (.op 4 (.op 5 (.op 6 (.op 7 (.op 8 (.op 9 (.op 10 (.op 11 (.op 12 (.op 13 (.op 14 (.op 15 (.op 16 (.op 17 (.op 18 .nil))))))))))))))))))) (by kernel_rfl) (by kernel_rfl) ?_))
    | (refine is_fw ?_; first | (refine FW_open rfl ?_) | (refine FW_nil ?_) | (refine FW_ef rfl ?_) | (refine FW_efg rfl rfl rfl ?_) | (refine FW_alt ?_ ?_))
    | (refine is_fo ?_; first | (refine FO_dec_t rfl rfl (fun _ => ?_) (fun _ => ?_) <;> first | (exfalso; omega) | skip) | (refine FO_dec_f rfl rfl (fun _ => ?_) (fun _ => ?_) <;> first | (exfalso; omega) | skip) | (refine FO_no rfl rfl rfl rfl ?_) | (refine FO_ekg rfl rfl rfl ?_) | (refine FO_ek rfl ?_))
    | (refine is_ro ?_; first | (refine RO_no rfl rfl rfl rfl ?_) | (refine RO_ekg rfl rfl ?_) | (refine RO_ek ?_))
    | (refine is_raw ?_; first | (refine KJ_flow ?_ ?_))
    | (refine AtR_mk rfl ?_)
    | exact Rech.nil
    | (refine Rech_open rfl ?_))
      refine KJ_again ⟨(P ++ [q2], T ++ q3, g5, c5), hnx2, hT2, by dsimp only; rw [List.length_append]; omega, by dsimp only; rw [List.length_append]; show ((P.length + 1 : Nat) : Int) ≤ need; omega, by dsimp only; rw [List.length_append, List.length_append]; show _ ≤ 240 * (P.length + 1); omega⟩ (by show need.toNat - (P ++ [q2]).length < need.toNat - P.length; rw [List.length_append]; show need.toNat - (P.length + 1) < _; omega) ?_ ?_
      · dsimp only
        rw [List.length_append, List.length_append]
        exact xB
      · dsimp only
        rw [List.length_append]
        exact (xN)
  have ql : decide ((P.length : Int) < need) = false := decide_eq_false hlt
  have hPe : (P.length : Int) = need := by omega
  have hal := fun s u => @hall P hP hPe s u
  by_cases h10 : (T.length : Int) = (Z : Nat)
  rotate_left
  · rw [hno (recO_not fun s u hr => by
      obtain ⟨-, e2, e3⟩ := hal s u hr
      rw [hT] at e2
      rw [e2, e3] at h10
      exact h10 rfl)]
    repeat' (first 
    | refine KJ_stp (by first | constructor | fail) ?_
    | (refine is_list ?_; first | (refine KJ_guard_dec_t rfl rfl rfl (fun _ => ?_) (fun _ => ?_) <;> first | (exfalso; omega) | skip) | (refine KJ_guard_dec_f rfl rfl rfl (fun _ => ?_) (fun _ => ?_) <;> first | (exfalso; omega) | skip) | (refine KJ_guard_yes rfl rfl ?_) | (refine KJ_guard_no rfl rfl rfl rfl ?_))
    | (refine is_oper ?_; first | (refine KJ_ek rfl ?_) | (refine KJ_ek0 ?_))
    | (refine is_ek ?_; first | (refine xmv ?_) | (refine xas ?_) | (refine xpt ?_) | (refine xpf ?_) | (refine ek_load ?_; first | (refine EK_ev (Ev_loadAgg rfl xS xC) ?_) | (refine EK_ev (Ev_load rfl xS (by rfl)) ?_) | (refine EK_ev (Ev_loadOld rfl (by assumption)) ?_)) | (refine ek_un ?_; first | (refine EK_ev (Ev_notD rfl) ?_) | (refine EK_ev (Ev_not rfl) ?_) | (refine EK_ev (Ev_neg rfl) ?_)) | (refine ek_conv ?_; first | (refine EK_ev (Ev_convI64 rfl (by omega)) ?_) | (refine EK_ev (Ev_convI rfl) ?_) | (refine EK_ev (Ev_convS rfl) ?_)) | (refine xex ?_) | (refine ek_indexAddr ?_; first | (refine EK_ev (Ev_indexSlice rfl rfl (by omega)) ?_) | (refine EK_ev (Ev_indexArr rfl rfl (by omega)) ?_)) | (refine ek_len ?_; first | (refine EK_ev (Ev_len_str rfl) ?_) | (refine EK_ev (Ev_len_slice rfl) ?_) | (refine EK_ev (Ev_len_arr rfl) ?_) | (refine EK_ev (Ev_len_map rfl xS) ?_)) | (refine ek_add ?_; first | (refine EK_ev (Ev_addI rfl rfl (by omega)) ?_) | (refine EK_ev (Ev_addS rfl rfl (by simp <;> omega)) ?_) | (refine EK_ev (Ev_add rfl rfl) ?_)) | (refine ek_sub ?_; first | (refine EK_ev (Ev_subI rfl rfl (by omega)) ?_) | (refine EK_ev (Ev_sub rfl rfl) ?_)) | (refine ek_shl ?_; first | (refine EK_ev (Ev_shl rfl rfl (by omega)) ?_)) | (refine ek_neq ?_; first | (refine EK_ev (Ev_neqI_t rfl rfl h10) ?_) | (refine EK_ev (Ev_neqI rfl rfl) ?_) | (refine EK_ev (Ev_neqS rfl rfl) ?_) | (refine EK_ev (Ev_neqNil rfl rfl) ?_) | (refine EK_ev (Ev_neqB rfl rfl) ?_) | (refine EK_ev (Ev_neqO rfl rfl rfl (fun _ => rfl)) ?_)) | (refine ek_lss ?_; first | (refine EK_ev (Ev_lssI_q rfl rfl ql) ?_) | (refine EK_ev (Ev_lssI rfl rfl) ?_) | (refine EK_ev (Ev_lssS rfl rfl) ?_)) | (refine ek_gtr ?_; first | (refine EK_ev (Ev_gtrI rfl rfl) ?_) | (refine EK_ev (Ev_gtrS rfl rfl) ?_)))
    | (refine is_ex ?_; first | (refine KJ_blk_exit' rfl ?_))
    | (refine is_code ?_; first | (refine KJ_cond_dec rfl (fun _ => ?_) (fun _ => ?_) <;> first | (exfalso; omega) | skip) | (refine KJ_cond_t rfl ?_) | (refine KJ_cond_f rfl ?_) | (refine KJ_draws (id := 4) (.op 0 (.op 1 (.op 2 (.op 3 (.op 4 (.op 5 (.op 6 (.op 7 (.op 8 (.op 9 (.op 10 (.op 11 (.op 12 (.op 13 (.op 14 (.op 15 (.op 16 (.op 17 (.op 18 .nil))))))))))))))))))) (by kernel_rfl) (by kernel_rfl) ?_))
    | (refine is_fw ?_; first | (refine FW_open rfl ?_) | (refine FW_nil ?_) | (refine FW_ef rfl ?_) | (refine FW_efg rfl rfl rfl ?_) | (refine FW_alt ?_ ?_))
    | (refine is_fo ?_; first | (refine FO_dec_t rfl rfl (fun _ => ?_) (fun _ => ?_) <;> first | (exfalso; omega) | skip) | (refine FO_dec_f rfl rfl (fun _ => ?_) (fun _ => ?_) <;> first | (exfalso; omega) | skip) | (refine FO_no rfl rfl rfl rfl ?_) | (refine FO_ekg rfl rfl rfl ?_) | (refine FO_ek rfl ?_))
    | (refine is_ro ?_; first | (refine RO_no rfl rfl rfl rfl ?_) | (refine RO_ekg rfl rfl ?_) | (refine RO_ek ?_))
    | (refine is_raw ?_; first | (refine KJ_flow ?_ ?_))
    | (refine AtR_mk rfl ?_)
    | exact Rech.nil
    | (refine Rech_open rfl ?_))
    all_goals (exact xdn ())
  have hTZ : T.length = Z := by omega
  have cp := rpieces_ct (W := W) T (by omega)
  have hpn := hpl T hTZ
  have hyes := fun (hp : ∀ j p, (pcsJ T)[j]? = some p → payO D at_ n ver (i + j) = some p) => recO_yes (D := D) (at_ := at_) (n := n) (ver := ver) (i := i) (s := T) (by omega) hp (by omega)
  have hbad := fun (hne : P ≠ pcsJ T) => hno (recO_not fun s u hr => by
      obtain ⟨e1, e2, -⟩ := hal s u hr
      rw [hT] at e2
      rw [e2] at hne
      exact hne e1)
  obtain ⟨Q, hQ⟩ : ∃ Q, Q = pcsJ T := ⟨_, rfl⟩
  rw [← hQ] at cp hpn hyes hbad
  clear hal hall hgap hQ
  repeat' (first 
    | refine KJ_stp (by first | constructor | fail) ?_
    | (refine is_list ?_; first | (refine KJ_guard_dec_t rfl rfl rfl (fun _ => ?_) (fun _ => ?_) <;> first | (exfalso; omega) | skip) | (refine KJ_guard_dec_f rfl rfl rfl (fun _ => ?_) (fun _ => ?_) <;> first | (exfalso; omega) | skip) | (refine KJ_guard_yes rfl rfl ?_) | (refine KJ_guard_no rfl rfl rfl rfl ?_))
    | (refine is_oper ?_; first | (refine is_call ?_; first | (refine KJ_call xE cp xP rfl (fun x => ?_))) | (refine KJ_ek rfl ?_) | (refine KJ_ek0 ?_))
    | (refine is_ek ?_; first | (refine xmv ?_) | (refine xas ?_) | (refine xpt ?_) | (refine xpf ?_) | (refine ek_load ?_; first | (refine EK_ev (Ev_loadAgg rfl xS xC) ?_) | (refine EK_ev (Ev_load rfl xS (by rfl)) ?_) | (refine EK_ev (Ev_loadOld rfl (by assumption)) ?_)) | (refine ek_un ?_; first | (refine EK_ev (Ev_notD rfl) ?_) | (refine EK_ev (Ev_not rfl) ?_) | (refine EK_ev (Ev_neg rfl) ?_)) | (refine ek_conv ?_; first | (refine EK_ev (Ev_bytesBuf rfl xS) ?_) | (refine EK_ev (Ev_convI64 rfl (by omega)) ?_) | (refine EK_ev (Ev_convI rfl) ?_) | (refine EK_ev (Ev_convS rfl) ?_)) | (refine xex ?_) | (refine ek_indexAddr ?_; first | (refine EK_ev (Ev_indexSlice rfl rfl (by omega)) ?_) | (refine EK_ev (Ev_indexArr rfl rfl (by omega)) ?_)) | (refine ek_len ?_; first | (refine EK_ev (Ev_len_str rfl) ?_) | (refine EK_ev (Ev_len_slice rfl) ?_) | (refine EK_ev (Ev_len_arr rfl) ?_) | (refine EK_ev (Ev_len_map rfl xS) ?_)) | (refine ek_add ?_; first | (refine EK_ev (Ev_addI rfl rfl (by omega)) ?_) | (refine EK_ev (Ev_addS rfl rfl (by simp <;> omega)) ?_) | (refine EK_ev (Ev_add rfl rfl) ?_)) | (refine ek_sub ?_; first | (refine EK_ev (Ev_subI rfl rfl (by omega)) ?_) | (refine EK_ev (Ev_sub rfl rfl) ?_)) | (refine ek_shl ?_; first | (refine EK_ev (Ev_shl rfl rfl (by omega)) ?_)) | (refine ek_neq ?_; first | (refine EK_ev (Ev_neqI_f rfl rfl h10) ?_) | (refine EK_ev (Ev_neqI rfl rfl) ?_) | (refine EK_ev (Ev_neqS rfl rfl) ?_) | (refine EK_ev (Ev_neqNil rfl rfl) ?_) | (refine EK_ev (Ev_neqB rfl rfl) ?_) | (refine EK_ev (Ev_neqO rfl rfl rfl (fun _ => rfl)) ?_)) | (refine ek_lss ?_; first | (refine EK_ev (Ev_lssI_q rfl rfl ql) ?_) | (refine EK_ev (Ev_lssI rfl rfl) ?_) | (refine EK_ev (Ev_lssS rfl rfl) ?_)) | (refine ek_gtr ?_; first | (refine EK_ev (Ev_gtrI rfl rfl) ?_) | (refine EK_ev (Ev_gtrS rfl rfl) ?_)))
    | (refine is_ex ?_; first | (refine KJ_blk_exit' rfl ?_))
    | (refine is_code ?_; first | (refine KJ_cond_dec rfl (fun _ => ?_) (fun _ => ?_) <;> first | (exfalso; omega) | skip) | (refine KJ_cond_t rfl ?_) | (refine KJ_cond_f rfl ?_) | (refine KJ_draws (id := 4) (.op 0 (.op 1 (.op 2 (.op 3 (.op 4 (.op 5 (.op 6 (.op 7 (.op 8 (.op 9 (.op 10 (.op 11 (.op 12 (.op 13 (.op 14 (.op 15 (.op 16 (.op 17 (.op 18 .nil))))))))))))))))))) (by kernel_rfl) (by kernel_rfl) ?_))
    | (refine is_fw ?_; first | (refine FW_open rfl ?_) | (refine FW_nil ?_) | (refine FW_ef rfl ?_) | (refine FW_efg rfl rfl rfl ?_) | (refine FW_alt ?_ ?_))
    | (refine is_fo ?_; first | (refine FO_dec_t rfl rfl (fun _ => ?_) (fun _ => ?_) <;> first | (exfalso; omega) | skip) | (refine FO_dec_f rfl rfl (fun _ => ?_) (fun _ => ?_) <;> first | (exfalso; omega) | skip) | (refine FO_no rfl rfl rfl rfl ?_) | (refine FO_ekg rfl rfl rfl ?_) | (refine FO_ek rfl ?_))
    | (refine is_ro ?_; first | (refine RO_no rfl rfl rfl rfl ?_) | (refine RO_ekg rfl rfl ?_) | (refine RO_ek ?_))
    | (refine is_raw ?_; first | (refine KJ_flow ?_ ?_))
    | (refine AtR_mk rfl ?_)
    | exact Rech.nil
    | (refine Rech_open rfl ?_))
  rename_i x
  obtain ⟨gw, cw⟩ := x
  dsimp only
  refine KJ_loop (fun k : {k : Nat // (k : Int) ≤ need ∧ ∀ j, j < k → P[j]? = Q[j]?} => [(0, .pointer (some ⟨p, 0, none⟩)), (1, .int .i64 at_), (2, .int .i64 n), (3, .int .i64 (ver : Nat)), (4, .int .i64 (i : Nat)), (16, .int .i64 need), (17, .slice (some ⟨g4, 0, none⟩) T.length c4), (21, .slice (some ⟨gw, 0, none⟩) Q.length cw), (22, .int .i64 (k.1 : Nat))])
    (fun _ => [RefP p D, bufP g4 T.length c4 T 5, rowP (.slice (some ⟨gw, 0, none⟩) Q.length cw) 9 1 Q.length (Q.map strV)] ++ R) (fun k => need.toNat - k.1) ⟨0, by omega, fun j hj => by omega⟩ xB (xN) (fun ⟨k, hk, hkq⟩ => ?_)
  dsimp only at hk hkq ⊢
  by_cases hlt2 : (k : Int) < need
  rotate_left
  · have ql2 : decide ((k : Int) < need) = false := decide_eq_false hlt2
    have hPQ : P = Q := by
      apply List.ext_getElem?
      intro j
      by_cases hj : j < k
      · exact hkq j hj
      · rw [List.getElem?_eq_none (by omega), List.getElem?_eq_none (by omega)]
    have hr := hyes (fun j p hj => hP j p (by rw [hPQ]; exact hj))
    rw [hpn] at hr
    have hres2 : res = .tuple #[strV T, .int .i64 ((i : Int) + need), .bool true] := by rw [← hres, hr]; rfl
    rw [hres2]
    repeat' (first 
    | refine KJ_stp (by first | constructor | fail) ?_
    | (refine is_list ?_; first | (refine KJ_guard_dec_t rfl rfl rfl (fun _ => ?_) (fun _ => ?_) <;> first | (exfalso; omega) | skip) | (refine KJ_guard_dec_f rfl rfl rfl (fun _ => ?_) (fun _ => ?_) <;> first | (exfalso; omega) | skip) | (refine KJ_guard_yes rfl rfl ?_) | (refine KJ_guard_no rfl rfl rfl rfl ?_))
    | (refine is_oper ?_; first | (refine KJ_ek rfl ?_) | (refine KJ_ek0 ?_))
    | (refine is_ek ?_; first | (refine xmv ?_) | (refine xas ?_) | (refine xpt ?_) | (refine xpf ?_) | (refine ek_load ?_; first | (refine EK_ev (Ev_loadAgg rfl xS xC) ?_) | (refine EK_ev (Ev_load rfl xS (by rfl)) ?_) | (refine EK_ev (Ev_loadOld rfl (by assumption)) ?_)) | (refine ek_un ?_; first | (refine EK_ev (Ev_notD rfl) ?_) | (refine EK_ev (Ev_not rfl) ?_) | (refine EK_ev (Ev_neg rfl) ?_)) | (refine ek_conv ?_; first | (refine EK_ev (Ev_bytesBuf rfl xS) ?_) | (refine EK_ev (Ev_convI64 rfl (by omega)) ?_) | (refine EK_ev (Ev_convI rfl) ?_) | (refine EK_ev (Ev_convS rfl) ?_)) | (refine xex ?_) | (refine ek_indexAddr ?_; first | (refine EK_ev (Ev_indexSlice rfl rfl (by omega)) ?_) | (refine EK_ev (Ev_indexArr rfl rfl (by omega)) ?_)) | (refine ek_len ?_; first | (refine EK_ev (Ev_len_str rfl) ?_) | (refine EK_ev (Ev_len_slice rfl) ?_) | (refine EK_ev (Ev_len_arr rfl) ?_) | (refine EK_ev (Ev_len_map rfl xS) ?_)) | (refine ek_add ?_; first | (refine EK_ev (Ev_addI_v (r := (i : Int) + need) rfl rfl rfl (by omega)) ?_) | (refine EK_ev (Ev_addI rfl rfl (by omega)) ?_) | (refine EK_ev (Ev_addS rfl rfl (by simp <;> omega)) ?_) | (refine EK_ev (Ev_add rfl rfl) ?_)) | (refine ek_sub ?_; first | (refine EK_ev (Ev_subI rfl rfl (by omega)) ?_) | (refine EK_ev (Ev_sub rfl rfl) ?_)) | (refine ek_shl ?_; first | (refine EK_ev (Ev_shl rfl rfl (by omega)) ?_)) | (refine ek_neq ?_; first | (refine EK_ev (Ev_neqI rfl rfl) ?_) | (refine EK_ev (Ev_neqS rfl rfl) ?_) | (refine EK_ev (Ev_neqNil rfl rfl) ?_) | (refine EK_ev (Ev_neqB rfl rfl) ?_) | (refine EK_ev (Ev_neqO rfl rfl rfl (fun _ => rfl)) ?_)) | (refine ek_lss ?_; first | (refine EK_ev (Ev_lssI_q rfl rfl ql2) ?_) | (refine EK_ev (Ev_lssI rfl rfl) ?_) | (refine EK_ev (Ev_lssS rfl rfl) ?_)) | (refine ek_gtr ?_; first | (refine EK_ev (Ev_gtrI rfl rfl) ?_) | (refine EK_ev (Ev_gtrS rfl rfl) ?_)))
    | (refine is_ex ?_; first | (refine KJ_blk_exit' rfl ?_))
    | (refine is_code ?_; first | (refine KJ_cond_dec rfl (fun _ => ?_) (fun _ => ?_) <;> first | (exfalso; omega) | skip) | (refine KJ_cond_t rfl ?_) | (refine KJ_cond_f rfl ?_) | (refine KJ_draws (id := 4) (.op 0 (.op 1 (.op 2 (.op 3 (.op 4 (.op 5 (.op 6 (.op 7 (.op 8 (.op 9 (.op 10 (.op 11 (.op 12 (.op 13 (.op 14 (.op 15 (.op 16 (.op 17 (.op 18 .nil))))))))))))))))))) (by kernel_rfl) (by kernel_rfl) ?_))
    | (refine is_fw ?_; first | (refine FW_open rfl ?_) | (refine FW_nil ?_) | (refine FW_ef rfl ?_) | (refine FW_efg rfl rfl rfl ?_) | (refine FW_alt ?_ ?_))
    | (refine is_fo ?_; first | (refine FO_dec_t rfl rfl (fun _ => ?_) (fun _ => ?_) <;> first | (exfalso; omega) | skip) | (refine FO_dec_f rfl rfl (fun _ => ?_) (fun _ => ?_) <;> first | (exfalso; omega) | skip) | (refine FO_no rfl rfl rfl rfl ?_) | (refine FO_ekg rfl rfl rfl ?_) | (refine FO_ek rfl ?_))
    | (refine is_ro ?_; first | (refine RO_no rfl rfl rfl rfl ?_) | (refine RO_ekg rfl rfl ?_) | (refine RO_ek ?_))
    | (refine is_raw ?_; first | (refine KJ_flow ?_ ?_))
    | (refine AtR_mk rfl ?_)
    | exact Rech.nil
    | (refine Rech_open rfl ?_))
    all_goals (exact xdn ())
  have ql2 : decide ((k : Int) < need) = true := decide_eq_true hlt2
  have hkP : k < P.length := by omega
  obtain ⟨pk, hpk⟩ : ∃ q, P[k]? = some q := ⟨_, List.getElem?_eq_getElem hkP⟩
  obtain ⟨qk, hqk⟩ : ∃ q, Q[k]? = some q := ⟨_, List.getElem?_eq_getElem (by omega)⟩
  have c7 := co k (by omega)
  rw [hP k pk hpk] at c7
  have c7' : Ct Tryd.prog W 133 [.pointer (some ⟨p, 0, none⟩), .int .i64 at_, .int .i64 ((i + k : Nat) : Int), .int .i64 (ver : Nat)] [RefP p D] (fun _ : Unit => .tuple #[strV pk, .bool true]) (fun _ => [RefP p D]) := c7
  have hget : (Q.map strV)[0 + ((k : Nat) : Int).toNat * 1]? = some (strV qk) := by rw [Int.toNat_natCast, Nat.mul_one, Nat.zero_add, List.getElem?_map, hqk]; rfl
  by_cases he : pk = qk
  · subst he
    repeat' (first 
    | refine KJ_stp (by first | constructor | fail) ?_
    | (refine is_list ?_; first | (refine KJ_guard_dec_t rfl rfl rfl (fun _ => ?_) (fun _ => ?_) <;> first | (exfalso; omega) | skip) | (refine KJ_guard_dec_f rfl rfl rfl (fun _ => ?_) (fun _ => ?_) <;> first | (exfalso; omega) | skip) | (refine KJ_guard_yes rfl rfl ?_) | (refine KJ_guard_no rfl rfl rfl rfl ?_))
    | (refine is_oper ?_; first | (refine is_call ?_; first | (refine KJ_call xE c7' xP rfl (fun _ => ?_))) | (refine KJ_ek rfl ?_) | (refine KJ_ek0 ?_))
    | (refine is_ek ?_; first | (refine xmv ?_) | (refine xas ?_) | (refine xpt ?_) | (refine xpf ?_) | (refine ek_load ?_; first | (refine EK_ev (Ev_loadAgg rfl xS xC) ?_) | (refine EK_ev (Ev_load rfl xS (by rfl)) ?_) | (refine EK_ev (Ev_loadRow rfl xS hget) ?_) | (refine EK_ev (Ev_loadOld rfl (by assumption)) ?_)) | (refine ek_un ?_; first | (refine EK_ev (Ev_notD rfl) ?_) | (refine EK_ev (Ev_not rfl) ?_) | (refine EK_ev (Ev_neg rfl) ?_)) | (refine ek_conv ?_; first | (refine EK_ev (Ev_convI64 rfl (by omega)) ?_) | (refine EK_ev (Ev_convI rfl) ?_) | (refine EK_ev (Ev_convS rfl) ?_)) | (refine xex ?_) | (refine ek_indexAddr ?_; first | (refine EK_ev (Ev_indexSlice rfl rfl (by omega)) ?_) | (refine EK_ev (Ev_indexArr rfl rfl (by omega)) ?_)) | (refine ek_len ?_; first | (refine EK_ev (Ev_len_str rfl) ?_) | (refine EK_ev (Ev_len_slice rfl) ?_) | (refine EK_ev (Ev_len_arr rfl) ?_) | (refine EK_ev (Ev_len_map rfl xS) ?_)) | (refine ek_add ?_; first | (refine EK_ev (Ev_addI_v (r := ((k + 1 : Nat) : Int)) rfl rfl (by omega) (by omega)) ?_) | (refine EK_ev (Ev_addI_v (r := ((i + k : Nat) : Int)) rfl rfl (by omega) (by omega)) ?_) | (refine EK_ev (Ev_addI rfl rfl (by omega)) ?_) | (refine EK_ev (Ev_addS rfl rfl (by simp <;> omega)) ?_) | (refine EK_ev (Ev_add rfl rfl) ?_)) | (refine ek_sub ?_; first | (refine EK_ev (Ev_subI rfl rfl (by omega)) ?_) | (refine EK_ev (Ev_sub rfl rfl) ?_)) | (refine ek_shl ?_; first | (refine EK_ev (Ev_shl rfl rfl (by omega)) ?_)) | (refine ek_neq ?_; first | (refine EK_ev (Ev_neqS_f rfl rfl rfl) ?_) | (refine EK_ev (Ev_neqI rfl rfl) ?_) | (refine EK_ev (Ev_neqS rfl rfl) ?_) | (refine EK_ev (Ev_neqNil rfl rfl) ?_) | (refine EK_ev (Ev_neqB rfl rfl) ?_) | (refine EK_ev (Ev_neqO rfl rfl rfl (fun _ => rfl)) ?_)) | (refine ek_lss ?_; first | (refine EK_ev (Ev_lssI_q rfl rfl ql2) ?_) | (refine EK_ev (Ev_lssI rfl rfl) ?_) | (refine EK_ev (Ev_lssS rfl rfl) ?_)) | (refine ek_gtr ?_; first | (refine EK_ev (Ev_gtrI rfl rfl) ?_) | (refine EK_ev (Ev_gtrS rfl rfl) ?_)))
    | (refine is_ex ?_; first | (refine KJ_blk_exit' rfl ?_))
    | (refine is_code ?_; first | (refine KJ_cond_dec rfl (fun _ => ?_) (fun _ => ?_) <;> first | (exfalso; omega) | skip) | (refine KJ_cond_t rfl ?_) | (refine KJ_cond_f rfl ?_) | (refine KJ_draws (id := 4) (.op 0 (.op 1 (.op 2 (.op 3 (.op 4 (.op 5 (.op 6 (.op 7 (.op 8 (.op 9 (.op 10 (.op 11 (.op 12 (.op 13 (.op 14 (.op 15 (.op 16 (.op 17 (.op 18 .nil))))))))))))))))))) (by kernel_rfl) (by kernel_rfl) ?_))
    | (refine is_fw ?_; first | (refine FW_open rfl ?_) | (refine FW_nil ?_) | (refine FW_ef rfl ?_) | (refine FW_efg rfl rfl rfl ?_) | (refine FW_alt ?_ ?_))
    | (refine is_fo ?_; first | (refine FO_dec_t rfl rfl (fun _ => ?_) (fun _ => ?_) <;> first | (exfalso; omega) | skip) | (refine FO_dec_f rfl rfl (fun _ => ?_) (fun _ => ?_) <;> first | (exfalso; omega) | skip) | (refine FO_no rfl rfl rfl rfl ?_) | (refine FO_ekg rfl rfl rfl ?_) | (refine FO_ek rfl ?_))
    | (refine is_ro ?_; first | (refine RO_no rfl rfl rfl rfl ?_) | (refine RO_ekg rfl rfl ?_) | (refine RO_ek ?_))
    | (refine is_raw ?_; first | (refine KJ_flow ?_ ?_))
    | (refine AtR_mk rfl ?_)
    | exact Rech.nil
    | (refine Rech_open rfl ?_))
    all_goals exact KJ_again ⟨k + 1, by omega, fun j hj => by
      by_cases h : j < k
      · exact hkq j h
      · obtain rfl : j = k := by omega
        rw [hpk, hqk]⟩ (by show need.toNat - (k + 1) < need.toNat - k; omega) xB (xN)
  · rw [hbad (fun e => by rw [e, hqk] at hpk; cases hpk; exact he rfl)]
    repeat' (first 
    | refine KJ_stp (by first | constructor | fail) ?_
    | (refine is_list ?_; first | (refine KJ_guard_dec_t rfl rfl rfl (fun _ => ?_) (fun _ => ?_) <;> first | (exfalso; omega) | skip) | (refine KJ_guard_dec_f rfl rfl rfl (fun _ => ?_) (fun _ => ?_) <;> first | (exfalso; omega) | skip) | (refine KJ_guard_yes rfl rfl ?_) | (refine KJ_guard_no rfl rfl rfl rfl ?_))
    | (refine is_oper ?_; first | (refine is_call ?_; first | (refine KJ_call xE c7' xP rfl (fun _ => ?_))) | (refine KJ_ek rfl ?_) | (refine KJ_ek0 ?_))
    | (refine is_ek ?_; first | (refine xmv ?_) | (refine xas ?_) | (refine xpt ?_) | (refine xpf ?_) | (refine ek_load ?_; first | (refine EK_ev (Ev_loadAgg rfl xS xC) ?_) | (refine EK_ev (Ev_load rfl xS (by rfl)) ?_) | (refine EK_ev (Ev_loadRow rfl xS hget) ?_) | (refine EK_ev (Ev_loadOld rfl (by assumption)) ?_)) | (refine ek_un ?_; first | (refine EK_ev (Ev_notD rfl) ?_) | (refine EK_ev (Ev_not rfl) ?_) | (refine EK_ev (Ev_neg rfl) ?_)) | (refine ek_conv ?_; first | (refine EK_ev (Ev_convI64 rfl (by omega)) ?_) | (refine EK_ev (Ev_convI rfl) ?_) | (refine EK_ev (Ev_convS rfl) ?_)) | (refine xex ?_) | (refine ek_indexAddr ?_; first | (refine EK_ev (Ev_indexSlice rfl rfl (by omega)) ?_) | (refine EK_ev (Ev_indexArr rfl rfl (by omega)) ?_)) | (refine ek_len ?_; first | (refine EK_ev (Ev_len_str rfl) ?_) | (refine EK_ev (Ev_len_slice rfl) ?_) | (refine EK_ev (Ev_len_arr rfl) ?_) | (refine EK_ev (Ev_len_map rfl xS) ?_)) | (refine ek_add ?_; first | (refine EK_ev (Ev_addI_v (r := ((i + k : Nat) : Int)) rfl rfl (by omega) (by omega)) ?_) | (refine EK_ev (Ev_addI rfl rfl (by omega)) ?_) | (refine EK_ev (Ev_addS rfl rfl (by simp <;> omega)) ?_) | (refine EK_ev (Ev_add rfl rfl) ?_)) | (refine ek_sub ?_; first | (refine EK_ev (Ev_subI rfl rfl (by omega)) ?_) | (refine EK_ev (Ev_sub rfl rfl) ?_)) | (refine ek_shl ?_; first | (refine EK_ev (Ev_shl rfl rfl (by omega)) ?_)) | (refine ek_neq ?_; first | (refine EK_ev (Ev_neqS_t rfl rfl he) ?_) | (refine EK_ev (Ev_neqI rfl rfl) ?_) | (refine EK_ev (Ev_neqS rfl rfl) ?_) | (refine EK_ev (Ev_neqNil rfl rfl) ?_) | (refine EK_ev (Ev_neqB rfl rfl) ?_) | (refine EK_ev (Ev_neqO rfl rfl rfl (fun _ => rfl)) ?_)) | (refine ek_lss ?_; first | (refine EK_ev (Ev_lssI_q rfl rfl ql2) ?_) | (refine EK_ev (Ev_lssI rfl rfl) ?_) | (refine EK_ev (Ev_lssS rfl rfl) ?_)) | (refine ek_gtr ?_; first | (refine EK_ev (Ev_gtrI rfl rfl) ?_) | (refine EK_ev (Ev_gtrS rfl rfl) ?_)))
    | (refine is_ex ?_; first | (refine KJ_blk_exit' rfl ?_))
    | (refine is_code ?_; first | (refine KJ_cond_dec rfl (fun _ => ?_) (fun _ => ?_) <;> first | (exfalso; omega) | skip) | (refine KJ_cond_t rfl ?_) | (refine KJ_cond_f rfl ?_) | (refine KJ_draws (id := 4) (.op 0 (.op 1 (.op 2 (.op 3 (.op 4 (.op 5 (.op 6 (.op 7 (.op 8 (.op 9 (.op 10 (.op 11 (.op 12 (.op 13 (.op 14 (.op 15 (.op 16 (.op 17 (.op 18 .nil))))))))))))))))))) (by kernel_rfl) (by kernel_rfl) ?_))
    | (refine is_fw ?_; first | (refine FW_open rfl ?_) | (refine FW_nil ?_) | (refine FW_ef rfl ?_) | (refine FW_efg rfl rfl rfl ?_) | (refine FW_alt ?_ ?_))
    | (refine is_fo ?_; first | (refine FO_dec_t rfl rfl (fun _ => ?_) (fun _ => ?_) <;> first | (exfalso; omega) | skip) | (refine FO_dec_f rfl rfl (fun _ => ?_) (fun _ => ?_) <;> first | (exfalso; omega) | skip) | (refine FO_no rfl rfl rfl rfl ?_) | (refine FO_ekg rfl rfl rfl ?_) | (refine FO_ek rfl ?_))
    | (refine is_ro ?_; first | (refine RO_no rfl rfl rfl rfl ?_) | (refine RO_ekg rfl rfl ?_) | (refine RO_ek ?_))
    | (refine is_raw ?_; first | (refine KJ_flow ?_ ?_))
    | (refine AtR_mk rfl ?_)
    | exact Rech.nil
    | (refine Rech_open rfl ?_))
    all_goals (exact xdn ())
set_option maxHeartbeats 1000000 in
set_option maxRecDepth 100000 in
theorem rreplay_ct (hok : D.ok) (hul : D.und.length < 1073741824) (at_ n : Int) (ver : Nat) (hn : D.n ≤ 65536) (ho : D.off = false) (h : logOk D at_ n (ver : Nat)) : Ct Tryd.prog W 104 [.pointer (some ⟨p, 0, none⟩), .int .i64 at_, .int .i64 n, .int .i64 (ver : Nat)] [RefP p D]
    (fun v : Value => .tuple #[v, .int .i64 0]) (fun v => [RefP p D, rowP v 9 1 (rpGo D at_ n ver (n.toNat + 1) 0 []).length ((rpGo D at_ n ver (n.toNat + 1) 0 []).map strV)]) := by
  have cm := may_yes (W := W) (p := p) at_ n (ver : Nat) hn h
  have cr := fun i (hi : ((i : Nat) : Int) < n) => rrecord_ct (W := W) (p := p) hok hul at_ n ver i hn ho h hi
  obtain ⟨h1, h2, h3, h4, h5, h6, h7⟩ := h
  obtain ⟨res, hres⟩ : ∃ res, res = rpGo D at_ n ver (n.toNat + 1) 0 [] := ⟨_, rfl⟩
  rw [← hres]
  refine Ct.enter Tryd.func104 rfl Tryd.ntmps104 (by simp) (fun R => ?_)
  apply KJ_rest (fun K => KJ W 47 K [(0, .pointer (some ⟨p, 0, none⟩)), (1, .int .i64 at_), (2, .int .i64 n), (3, .int .i64 (ver : Nat))] ([RefP p D] ++ R))
  · intro rest
    repeat' (first 
    | (refine at_seq_region (id := 3) ?_; exact KJ.weak rest xB (xN))
    | refine KJ_stp (by first | constructor | fail) ?_
    | (refine is_oper ?_; first | (refine is_call ?_; first | (refine KJ_call xE cm xP rfl (fun _ => ?_))) | (refine KJ_ek rfl ?_) | (refine KJ_ek0 ?_))
    | (refine is_ek ?_; first | (refine xmv ?_) | (refine xas ?_) | (refine xnc ?_) | (refine xfa ?_) | (refine ek_load ?_; first | (refine EK_ev (Ev_loadAgg rfl xS xC) ?_) | (refine EK_ev (Ev_load rfl xS (by rfl)) ?_) | (refine EK_ev (Ev_loadOld rfl (by assumption)) ?_)) | (refine ek_un ?_; first | (refine EK_ev (Ev_notD rfl) ?_) | (refine EK_ev (Ev_not rfl) ?_) | (refine EK_ev (Ev_neg rfl) ?_)) | (refine xex ?_) | (refine ek_lss ?_; first | (refine EK_ev (Ev_lssI rfl rfl) ?_) | (refine EK_ev (Ev_lssS rfl rfl) ?_)))
    | (refine is_ex ?_; first | (refine KJ_blk_exit' rfl ?_))
    | (refine is_code ?_; first | (refine KJ_cond_dec rfl (fun _ => ?_) (fun _ => ?_) <;> first | (exfalso; omega) | skip) | (refine KJ_cond_t rfl ?_) | (refine KJ_cond_f rfl ?_)))
  apply KJ_rest (fun K => KJ W 47 K [(0, .pointer (some ⟨p, 0, none⟩)), (1, .int .i64 at_), (2, .int .i64 n), (3, .int .i64 (ver : Nat))] ([RefP p D] ++ R))
  · intro rest
    refine KJ.unpack_at (F := RefF p D) xS (fun x => ?_)
    obtain ⟨sv, wv⟩ := x
    rw [RefF_eq, ho]
    repeat' (first 
    | (refine at_seq_region (id := 5) ?_; exact KJ.weak rest xB (fun g q => pack_star (F := RefF p D) (sv, wv) g (by rw [RefF_eq, ho]; exact q)))
    | refine KJ_stp (by first | constructor | fail) ?_
    | (refine is_oper ?_; first | (refine KJ_ek rfl ?_) | (refine KJ_ek0 ?_))
    | (refine is_ek ?_; first | (refine xmv ?_) | (refine xas ?_) | (refine xnc ?_) | (refine xfa ?_) | (refine ek_load ?_; first | (refine EK_ev (Ev_loadAgg rfl xS xC) ?_) | (refine EK_ev (Ev_load rfl xS (by rfl)) ?_) | (refine EK_ev (Ev_loadOld rfl (by assumption)) ?_)) | (refine ek_un ?_; first | (refine EK_ev (Ev_notD rfl) ?_) | (refine EK_ev (Ev_not rfl) ?_) | (refine EK_ev (Ev_neg rfl) ?_)) | (refine xex ?_) | (refine ek_lss ?_; first | (refine EK_ev (Ev_lssI rfl rfl) ?_) | (refine EK_ev (Ev_lssS rfl rfl) ?_)))
    | (refine is_ex ?_; first | (refine KJ_blk_exit' rfl ?_))
    | (refine is_code ?_; first | (refine KJ_cond_dec rfl (fun _ => ?_) (fun _ => ?_) <;> first | (exfalso; omega) | skip) | (refine KJ_cond_t rfl ?_) | (refine KJ_cond_f rfl ?_)))
  refine KJ_stp (by first | constructor | fail) ?_
  repeat' (first 
    | (refine at_seq_block (id := 0) ?_; fail)
    | refine KJ_stp (by first | constructor | fail) ?_
    | (refine is_oper ?_; first | (refine KJ_ek rfl ?_) | (refine KJ_ek0 ?_))
    | (refine is_ek ?_; first | (refine xmv ?_) | (refine xas ?_) | (refine xnc ?_) | (refine xfa ?_) | (refine ek_load ?_; first | (refine EK_ev (Ev_loadAgg rfl xS xC) ?_) | (refine EK_ev (Ev_load rfl xS (by rfl)) ?_) | (refine EK_ev (Ev_loadOld rfl (by assumption)) ?_)) | (refine ek_un ?_; first | (refine EK_ev (Ev_notD rfl) ?_) | (refine EK_ev (Ev_not rfl) ?_) | (refine EK_ev (Ev_neg rfl) ?_)) | (refine xex ?_) | (refine ek_lss ?_; first | (refine EK_ev (Ev_lssI rfl rfl) ?_) | (refine EK_ev (Ev_lssS rfl rfl) ?_)))
    | (refine is_ex ?_; first | (refine KJ_blk_exit' rfl ?_))
    | (refine is_code ?_; first | (refine KJ_cond_dec rfl (fun _ => ?_) (fun _ => ?_) <;> first | (exfalso; omega) | skip) | (refine KJ_cond_t rfl ?_) | (refine KJ_cond_f rfl ?_)))
  all_goals skip
  refine KJ.row0 (e := 9) (sz := 1) ?_
  refine KJ_loop (fun k : {s : Nat × Nat × List (List UInt8) × Value // rpGo D at_ n ver s.1 s.2.1 s.2.2.1 = res ∧ (s.2.1 : Int) ≤ n ∧ n + 1 ≤ (s.1 : Int) + s.2.1 ∧ s.2.2.1.length ≤ s.2.1} => [(0, .pointer (some ⟨p, 0, none⟩)), (1, .int .i64 at_), (2, .int .i64 n), (3, .int .i64 (ver : Nat)), (10, k.1.2.2.2), (11, .int .i64 (k.1.2.1 : Nat))])
    (fun k => [RefP p D, rowP k.1.2.2.2 9 1 k.1.2.2.1.length (k.1.2.2.1.map strV)] ++ R) (fun k => k.1.1) ⟨(n.toNat + 1, 0, [], .slice none 0 0), hres.symm, by dsimp only; omega, by dsimp only; omega, Nat.le_refl _⟩ xB (xN) (fun ⟨(f, i, acc, v), hr, hin, hfi, hal⟩ => ?_)
  dsimp only at hr hin hfi hal ⊢
  obtain ⟨f', rfl⟩ : ∃ f', f = f' + 1 := ⟨f - 1, by omega⟩
  have hunf : rpGo D at_ n ver (f' + 1) i acc = match recO D at_ n ver i with
    | none => acc
    | some (s, u) => rpGo D at_ n ver f' (i + u.toNat) (acc ++ [s]) := rfl
  rw [hunf] at hr
  clear hunf
  by_cases hlt : (i : Int) < n
  rotate_left
  · have ql : decide ((i : Int) < n) = false := decide_eq_false hlt
    rw [recO_none (by unfold payO; rw [if_pos (by omega)])] at hr
    have hr2 : acc = res := hr
    subst hr2
    repeat' (first 
    | refine KJ_stp (by first | constructor | fail) ?_
    | (refine is_oper ?_; first | (refine KJ_ek rfl ?_) | (refine KJ_ek0 ?_))
    | (refine is_ek ?_; first | (refine xmv ?_) | (refine xas ?_) | (refine xnc ?_) | (refine xfa ?_) | (refine ek_load ?_; first | (refine EK_ev (Ev_loadAgg rfl xS xC) ?_) | (refine EK_ev (Ev_load rfl xS (by rfl)) ?_) | (refine EK_ev (Ev_loadOld rfl (by assumption)) ?_)) | (refine ek_un ?_; first | (refine EK_ev (Ev_notD rfl) ?_) | (refine EK_ev (Ev_not rfl) ?_) | (refine EK_ev (Ev_neg rfl) ?_)) | (refine xex ?_) | (refine ek_lss ?_; first | (refine EK_ev (Ev_lssI_q rfl rfl ql) ?_) | (refine EK_ev (Ev_lssI rfl rfl) ?_) | (refine EK_ev (Ev_lssS rfl rfl) ?_)))
    | (refine is_ex ?_; first | (refine KJ_blk_exit' rfl ?_))
    | (refine is_code ?_; first | (refine KJ_cond_dec rfl (fun _ => ?_) (fun _ => ?_) <;> first | (exfalso; omega) | skip) | (refine KJ_cond_t rfl ?_) | (refine KJ_cond_f rfl ?_)))
    all_goals (exact xdn v)
  have ql : decide ((i : Int) < n) = true := decide_eq_true hlt
  have c2 := cr i hlt
  have hrs := fun s u => recO_some (D := D) (at_ := at_) (n := n) (ver := ver) (i := i) (s := s) (u := u)
  obtain ⟨o, ho⟩ : ∃ o, o = recO D at_ n ver i := ⟨_, rfl⟩
  rw [← ho] at c2 hr
  simp only [← ho] at hrs
  clear ho
  cases o with
  | none =>
    have hr2 : acc = res := hr
    subst hr2
    have c2' : Ct Tryd.prog W 125 [.pointer (some ⟨p, 0, none⟩), .int .i64 at_, .int .i64 n, .int .i64 (ver : Nat), .int .i64 (i : Nat)] [RefP p D] (fun _ : Unit => .tuple #[strV [], .int .i64 0, .bool false]) (fun _ => [RefP p D]) := c2
    repeat' (first 
    | refine KJ_stp (by first | constructor | fail) ?_
    | (refine is_oper ?_; first | (refine is_call ?_; first | (refine KJ_call xE c2' xP rfl (fun _ => ?_))) | (refine KJ_ek rfl ?_) | (refine KJ_ek0 ?_))
    | (refine is_ek ?_; first | (refine xmv ?_) | (refine xas ?_) | (refine xnc ?_) | (refine xfa ?_) | (refine ek_load ?_; first | (refine EK_ev (Ev_loadAgg rfl xS xC) ?_) | (refine EK_ev (Ev_load rfl xS (by rfl)) ?_) | (refine EK_ev (Ev_loadOld rfl (by assumption)) ?_)) | (refine ek_un ?_; first | (refine EK_ev (Ev_notD rfl) ?_) | (refine EK_ev (Ev_not rfl) ?_) | (refine EK_ev (Ev_neg rfl) ?_)) | (refine xex ?_) | (refine ek_lss ?_; first | (refine EK_ev (Ev_lssI_q rfl rfl ql) ?_) | (refine EK_ev (Ev_lssI rfl rfl) ?_) | (refine EK_ev (Ev_lssS rfl rfl) ?_)))
    | (refine is_ex ?_; first | (refine KJ_blk_exit' rfl ?_))
    | (refine is_code ?_; first | (refine KJ_cond_dec rfl (fun _ => ?_) (fun _ => ?_) <;> first | (exfalso; omega) | skip) | (refine KJ_cond_t rfl ?_) | (refine KJ_cond_f rfl ?_)))
    all_goals (exact xdn v)
  | some su =>
    obtain ⟨s, u⟩ := su
    dsimp only at hr
    obtain ⟨hu1, hu2⟩ := hrs s u rfl
    obtain ⟨un, rfl⟩ : ∃ un : Nat, u = (un : Int) := ⟨u.toNat, by omega⟩
    rw [Int.toNat_natCast] at hr
    have c2' : Ct Tryd.prog W 125 [.pointer (some ⟨p, 0, none⟩), .int .i64 at_, .int .i64 n, .int .i64 (ver : Nat), .int .i64 (i : Nat)] [RefP p D] (fun _ : Unit => .tuple #[strV s, .int .i64 ((i + un : Nat) : Int), .bool true]) (fun _ => [RefP p D]) := c2
    repeat' (first 
    | refine KJ_stp (by first | constructor | fail) ?_
    | (refine is_oper ?_; first | (refine is_call ?_; first | (refine KJ_call xE c2' xP rfl (fun _ => ?_))) | (refine is_append ?_; first | (refine KJ_append (a2 := 0) rfl rfl (by rfl) (by omega) xS (Src.cells (i := 1) xS xC) (by rfl) (by omega) xO (by omega) (by omega) rfl rfl (fun g5 c5 => ?_))) | (refine is_bslice ?_; first | (refine KJ_bslice1 rfl xF (by rfl) (by omega) rfl (fun g3 => ?_))) | (refine KJ_ek rfl ?_) | (refine KJ_ek0 ?_))
    | (refine is_ek ?_; first | (refine xmv ?_) | (refine xas ?_) | (refine xnc ?_) | (refine xfa ?_) | (refine ek_load ?_; first | (refine EK_ev (Ev_loadAgg rfl xS xC) ?_) | (refine EK_ev (Ev_load rfl xS (by rfl)) ?_) | (refine EK_ev (Ev_loadOld rfl (by assumption)) ?_)) | (refine ek_un ?_; first | (refine EK_ev (Ev_notD rfl) ?_) | (refine EK_ev (Ev_not rfl) ?_) | (refine EK_ev (Ev_neg rfl) ?_)) | (refine xex ?_) | (refine ek_lss ?_; first | (refine EK_ev (Ev_lssI_q rfl rfl ql) ?_) | (refine EK_ev (Ev_lssI rfl rfl) ?_) | (refine EK_ev (Ev_lssS rfl rfl) ?_)))
    | (refine is_ex ?_; first | (refine KJ_blk_exit' rfl ?_))
    | (refine is_code ?_; first | (refine KJ_cond_dec rfl (fun _ => ?_) (fun _ => ?_) <;> first | (exfalso; omega) | skip) | (refine KJ_cond_t rfl ?_) | (refine KJ_cond_f rfl ?_)))
    refine KJ_again ⟨(f', i + un, acc ++ [s], .slice (some ⟨g5, 0, none⟩) (acc.length + 1) c5), hr, by dsimp only; omega, by dsimp only; omega, by dsimp only; rw [List.length_append]; show acc.length + 1 ≤ _; omega⟩ (by show f' < f' + 1; omega) xB ?_
    have em : acc.map strV ++ [strV s] = (acc ++ [s]).map strV := by simp
    dsimp only
    rw [← em, List.length_append]
    exact (xN)
theorem rreplay_range (at_ n ver : Int) (hn : D.n ≤ 65536) (h : ¬ logOk D at_ n ver) : Ct Tryd.prog W 104 [.pointer (some ⟨p, 0, none⟩), .int .i64 at_, .int .i64 n, .int .i64 ver] [RefP p D] (fun _ : Unit => .tuple #[.slice none 0 0, .int .i64 6]) (fun _ => [RefP p D]) := by
  have cm := may_no (W := W) (p := p) at_ n ver hn h
  refine Ct.enter Tryd.func104 rfl Tryd.ntmps104 (by simp) (fun R => ?_)
  repeat' (first 
    | refine KJ_stp (by first | constructor | fail) ?_
    | (refine is_oper ?_; first | (refine is_call ?_; first | (refine KJ_call xE cm xP rfl (fun _ => ?_))) | (refine KJ_ek rfl ?_) | (refine KJ_ek0 ?_))
    | (refine is_ek ?_; first | (refine xmv ?_) | (refine xas ?_) | (refine xnc ?_) | (refine xfa ?_) | (refine ek_load ?_; first | (refine EK_ev (Ev_loadAgg rfl xS xC) ?_) | (refine EK_ev (Ev_load rfl xS (by rfl)) ?_) | (refine EK_ev (Ev_loadOld rfl (by assumption)) ?_)) | (refine ek_un ?_; first | (refine EK_ev (Ev_notD rfl) ?_) | (refine EK_ev (Ev_not rfl) ?_) | (refine EK_ev (Ev_neg rfl) ?_)) | (refine xex ?_) | (refine ek_lss ?_; first | (refine EK_ev (Ev_lssI rfl rfl) ?_) | (refine EK_ev (Ev_lssS rfl rfl) ?_)))
    | (refine is_ex ?_; first | (refine KJ_blk_exit' rfl ?_))
    | (refine is_code ?_; first | (refine KJ_cond_dec rfl (fun _ => ?_) (fun _ => ?_) <;> first | (exfalso; omega) | skip) | (refine KJ_cond_t rfl ?_) | (refine KJ_cond_f rfl ?_)))
  all_goals (exact xdn ())
theorem rreplay_down (at_ n ver : Int) (hn : D.n ≤ 65536) (ho : D.off = true) (h : logOk D at_ n ver) : Ct Tryd.prog W 104 [.pointer (some ⟨p, 0, none⟩), .int .i64 at_, .int .i64 n, .int .i64 ver] [RefP p D] (fun _ : Unit => .tuple #[.slice none 0 0, .int .i64 12]) (fun _ => [RefP p D]) := by
  have cm := may_yes (W := W) (p := p) at_ n ver hn h
  refine Ct.enter Tryd.func104 rfl Tryd.ntmps104 (by simp) (fun R => ?_)
  apply KJ_rest (fun K => KJ W 47 K [(0, .pointer (some ⟨p, 0, none⟩))] ([RefP p D] ++ R))
  · intro rest
    repeat' (first 
    | (refine at_seq_region (id := 3) ?_; exact KJ.weak rest xB (xN))
    | refine KJ_stp (by first | constructor | fail) ?_
    | (refine is_oper ?_; first | (refine is_call ?_; first | (refine KJ_call xE cm xP rfl (fun _ => ?_))) | (refine KJ_ek rfl ?_) | (refine KJ_ek0 ?_))
    | (refine is_ek ?_; first | (refine xmv ?_) | (refine xas ?_) | (refine xnc ?_) | (refine xfa ?_) | (refine ek_load ?_; first | (refine EK_ev (Ev_loadAgg rfl xS xC) ?_) | (refine EK_ev (Ev_load rfl xS (by rfl)) ?_) | (refine EK_ev (Ev_loadOld rfl (by assumption)) ?_)) | (refine ek_un ?_; first | (refine EK_ev (Ev_notD rfl) ?_) | (refine EK_ev (Ev_not rfl) ?_) | (refine EK_ev (Ev_neg rfl) ?_)) | (refine xex ?_) | (refine ek_lss ?_; first | (refine EK_ev (Ev_lssI rfl rfl) ?_) | (refine EK_ev (Ev_lssS rfl rfl) ?_)))
    | (refine is_ex ?_; first | (refine KJ_blk_exit' rfl ?_))
    | (refine is_code ?_; first | (refine KJ_cond_dec rfl (fun _ => ?_) (fun _ => ?_) <;> first | (exfalso; omega) | skip) | (refine KJ_cond_t rfl ?_) | (refine KJ_cond_f rfl ?_)))
  refine KJ.unpack_at (F := RefF p D) xS (fun x => ?_)
  obtain ⟨sv, wv⟩ := x
  rw [RefF_eq, ho]
  repeat' (first 
    | refine KJ_stp (by first | constructor | fail) ?_
    | (refine is_oper ?_; first | (refine KJ_ek rfl ?_) | (refine KJ_ek0 ?_))
    | (refine is_ek ?_; first | (refine xmv ?_) | (refine xas ?_) | (refine xnc ?_) | (refine xfa ?_) | (refine ek_load ?_; first | (refine EK_ev (Ev_loadAgg rfl xS xC) ?_) | (refine EK_ev (Ev_load rfl xS (by rfl)) ?_) | (refine EK_ev (Ev_loadOld rfl (by assumption)) ?_)) | (refine ek_un ?_; first | (refine EK_ev (Ev_notD rfl) ?_) | (refine EK_ev (Ev_not rfl) ?_) | (refine EK_ev (Ev_neg rfl) ?_)) | (refine xex ?_) | (refine ek_lss ?_; first | (refine EK_ev (Ev_lssI rfl rfl) ?_) | (refine EK_ev (Ev_lssS rfl rfl) ?_)))
    | (refine is_ex ?_; first | (refine KJ_blk_exit' rfl ?_))
    | (refine is_code ?_; first | (refine KJ_cond_dec rfl (fun _ => ?_) (fun _ => ?_) <;> first | (exfalso; omega) | skip) | (refine KJ_cond_t rfl ?_) | (refine KJ_cond_f rfl ?_)))
  (refine is_ex ?_; exact KJ_doneR (by first | exact Or.inl rfl | exact Or.inr rfl) rfl (by (repeat' (first | exact Rvs.nil | (apply Rvs.tmp; exact rfl))); first | done | fail) (by rfl) sv wv (by rw [RefF_eq, ho]; exact (xN)))
end
end Go.Proofs.YteklldbfdmaafaaDoor
/-
  The law's each and replayed; JournalReads.
-/
namespace Go.Proofs.YteklldbfdmaafaaDoor
open Go Go.RowKit
section
variable {P : Program} {W : World} {n : Nat} {k : KK} {E : Env} {H R : List SP}
theorem KJ.pack {α : Type} {tag key : Nat} {F : α → List SP} (a : α) (p : Pick (F a) H R) (h : KJ W n k E (packP tag key F :: R)) : KJ W n k E H :=
  ⟨fun ac w q s => h.go ac w q ((s.perm (p.perm.append_right _)).mono (star_app (fun g hg => pack_star a g hg) _))⟩
theorem Ct.rowSlz {f : FuncId} {args : List Value} {Hpre : List SP} {A : SP} {e size m : Nat} {xs : List Value} {z : Value} (h : Ct P W f args Hpre (fun v : Value => .tuple #[v, z]) (fun v => [A, rowP v e size m xs])) :
    Ct P W f args Hpre (fun x : Option Addr × Nat => .tuple #[.slice x.1 m x.2, z]) (fun x => [A, rowP (.slice x.1 m x.2) e size m xs]) :=
  ⟨fun R w s => (h.go R w s).mono fun en w' ⟨v, he, st⟩ => by
    have hrow := St.row (v := v) (e := e) (size := size) (n := m) (xs := xs) st (.there .here)
    rcases hrow.2 with ⟨hv, q⟩ | ⟨g, cap, cur, hv, _⟩
    · subst hv
      subst q
      exact ⟨(none, 0), he, st⟩
    · subst hv
      exact ⟨(some ⟨g, 0, none⟩, cap), he, st⟩⟩
/-- a nil slice, and its row -/
theorem Ct.nilSl {f : FuncId} {args : List Value} {Hpre : List SP} {A : SP} {e size : Nat} {z : Value} (h : Ct P W f args Hpre (fun _ : Unit => .tuple #[.slice none 0 0, z]) (fun _ => [A])) :
    Ct P W f args Hpre (fun x : Option Addr × Nat => .tuple #[.slice x.1 0 x.2, z]) (fun x => [A, rowP (.slice x.1 0 x.2) e size 0 []]) :=
  ⟨fun R w s => (h.go R w s).mono fun en w' ⟨_, he, st⟩ => ⟨(none, 0), he, by
    have := St.mono st (starL_nilrow (e := e) (size := size) (H := [A]) (R := R))
    simpa using this⟩⟩
end
section
variable {W : World} {E : Nat → Addr} {p g r : Nat} {D : Dsk}
set_option maxHeartbeats 1000000 in
set_option maxRecDepth 100000 in
theorem eachL_ct (L : List (List UInt8)) (e : Value) (at_ n ver : Int) (hL : L.length ≤ 65536) (hr : Ct Tryd.prog W 70 [.pointer (some ⟨p, 0, none⟩), .int .i64 at_, .int .i64 n, .int .i64 ver] [DiskP p D] (fun x : Option Addr × Nat => .tuple #[.slice x.1 L.length x.2, e]) (fun x => [DiskP p D, rowP (.slice x.1 L.length x.2) 9 1 L.length (L.map strV)])) :
    Ct Tryd.prog W 105 [.pointer (some ⟨p, 0, none⟩), .int .i64 at_, .int .i64 n, .int .i64 ver] [DiskP p D] (fun x : Option Addr × Nat => .tuple #[.slice x.1 L.length x.2, .bool true]) (fun x => [DiskP p D, rowP (.slice x.1 L.length x.2) 9 1 L.length (L.map strV)]) := by
  have c1 := each_ct (W := W) (p := p) (D := D) L e at_ n ver hr
  refine Ct.enter Tryd.func105 rfl Tryd.ntmps105 (by simp) (fun R => ?_)
  repeat' (first 
    | refine KJ_stp (by first | constructor | fail) ?_
    | (refine is_list ?_; first | (refine KJ_guard_dec_t rfl rfl rfl (fun _ => ?_) (fun _ => ?_) <;> first | (exfalso; omega) | skip) | (refine KJ_guard_dec_f rfl rfl rfl (fun _ => ?_) (fun _ => ?_) <;> first | (exfalso; omega) | skip) | (refine KJ_guard_yes rfl rfl ?_) | (refine KJ_guard_no rfl rfl rfl rfl ?_))
    | (refine is_oper ?_; first | (refine is_store ?_; first | (refine KJ_store rfl rfl xS xF (by rfl) xO xL xR ?_)) | (refine is_alloc ?_; first | (refine KJ_alloc rfl (fun ga => ?_)) | (refine KJ_alloc rfl (fun _ => ?_))) | (refine is_call ?_; first | (refine KJ_call xE c1 xP rfl (fun x => ?_))) | (refine KJ_ek rfl ?_) | (refine KJ_ek0 ?_))
    | (refine is_ek ?_; first | (refine xmv ?_) | (refine xas ?_) | (refine xpt ?_) | (refine xpf ?_) | (refine ek_load ?_; first | (refine EK_ev (Ev_loadAgg rfl xS xC) ?_) | (refine EK_ev (Ev_load rfl xS (by rfl)) ?_) | (refine EK_ev (Ev_loadOld rfl (by assumption)) ?_)) | (refine ek_len ?_; first | (refine EK_ev (Ev_len_str rfl) ?_) | (refine EK_ev (Ev_len_slice rfl) ?_) | (refine EK_ev (Ev_len_arr rfl) ?_) | (refine EK_ev (Ev_len_map rfl xS) ?_)) | (refine ek_eql ?_; first | (refine EK_ev (Ev_eqlFn rfl rfl) ?_) | (refine EK_ev (Ev_eqlI rfl rfl) ?_) | (refine EK_ev (Ev_eqlS rfl rfl) ?_) | (refine EK_ev (Ev_eqlNil rfl rfl) ?_) | (refine EK_ev (Ev_eqlB rfl rfl) ?_) | (refine EK_ev (Ev_eqlO rfl rfl rfl (fun _ => rfl)) ?_)) | (refine ek_neq ?_; first | (refine EK_ev (Ev_neqI rfl rfl) ?_) | (refine EK_ev (Ev_neqS rfl rfl) ?_) | (refine EK_ev (Ev_neqNil rfl rfl) ?_) | (refine EK_ev (Ev_neqB rfl rfl) ?_) | (refine EK_ev (Ev_neqO rfl rfl rfl (fun _ => rfl)) ?_)) | (refine ek_gtr ?_; first | (refine EK_ev (Ev_gtrI rfl rfl) ?_) | (refine EK_ev (Ev_gtrS rfl rfl) ?_)))
    | (refine is_ex ?_; first | (refine KJ_blk_exit' rfl ?_))
    | (refine is_code ?_; first | (refine KJ_cond_dec rfl (fun _ => ?_) (fun _ => ?_) <;> first | (exfalso; omega) | skip) | (refine KJ_cond_t rfl ?_) | (refine KJ_cond_f rfl ?_)))
  rename_i g8 g9
  obtain ⟨g11, hg11⟩ : ∃ g, g = ga := ⟨_, rfl⟩
  rw [← hg11]
  clear hg11
  obtain ⟨gl, a, c⟩ := x
  dsimp only
  obtain ⟨F, hF⟩ : ∃ F : Nat → Option Addr × Nat → List SP, F = fun i x => [cellsP g11 [.slice x.1 i x.2] 47, rowP (.slice x.1 i x.2) 9 1 i ((L.take i).map strV)] := ⟨_, rfl⟩
  have hFi : ∀ i x, F i x = [cellsP g11 [.slice x.1 i x.2] 47, rowP (.slice x.1 i x.2) 9 1 i ((L.take i).map strV)] := fun i x => by rw [hF]
  clear hF
  refine KJ.row0 (e := 9) (sz := 1) ?_
  refine KJ.pack (tag := 31) (key := g11) (F := F 0) (none, 0) (by rw [hFi]; exact xP) ?_
  refine KJ_rangeEach (g := gl) (L := L) (a := a) (c := c) rfl rfl (by omega) rfl (by decide) (fun i => [packP 31 g11 (F i), cellsP g8 [.slice none 0 0] 47, cellsP g9 [.bool false] 4]) (fun i => [factP False]) .ret xP (fun l i s hs R' => ?_) ?_ (fun i hi => ?_)
  · have hlt := (List.getElem?_eq_some_iff.1 hs).1
    dsimp only [Env.ofPs]
    refine KJ.unpack_at (F := F i) xS (fun x => ?_)
    rw [hFi]
    have qg : decide ((70000 : Int) < ((i : Nat) : Int)) = false := decide_eq_false (by omega)
    have em : (L.take i).map strV ++ [strV s] = (L.take (i + 1)).map strV := by rw [List.take_add_one, hs]; simp
    repeat' (first 
    | (refine is_begin ?_; refine KJ_begin xS ?_)
    | refine KJ_stp (by first | constructor | fail) ?_
    | (refine is_list ?_; first | (refine KJ_guard_dec_t rfl rfl rfl (fun _ => ?_) (fun _ => ?_) <;> first | (exfalso; omega) | skip) | (refine KJ_guard_dec_f rfl rfl rfl (fun _ => ?_) (fun _ => ?_) <;> first | (exfalso; omega) | skip) | (refine KJ_guard_yes rfl rfl ?_) | (refine KJ_guard_no rfl rfl rfl rfl ?_))
    | (refine is_oper ?_; first | (refine is_store ?_; first | (refine KJ_store rfl rfl xS xF (by rfl) xO xL xR ?_)) | (refine is_alloc ?_; first | (refine KJ_alloc rfl (fun _ => ?_))) | (refine is_append ?_; first | (refine KJ_append (a2 := 0) rfl rfl (by rfl) (by omega) xS (Src.cells (i := 1) xS xC) (by rfl) (by omega) xO (by omega) (by omega) rfl rfl (fun g5 c5 => ?_))) | (refine is_bslice ?_; first | (refine KJ_bslice1 rfl xF (by rfl) (by omega) rfl (fun g3 => ?_))) | (refine KJ_ek rfl ?_) | (refine KJ_ek0 ?_))
    | (refine is_ek ?_; first | (refine xmv ?_) | (refine xas ?_) | (refine xpt ?_) | (refine xpf ?_) | (refine ek_load ?_; first | (refine EK_ev (Ev_loadAgg rfl xS xC) ?_) | (refine EK_ev (Ev_load rfl xS (by rfl)) ?_) | (refine EK_ev (Ev_loadOld rfl (by assumption)) ?_)) | (refine ek_len ?_; first | (refine EK_ev (Ev_len_str rfl) ?_) | (refine EK_ev (Ev_len_slice rfl) ?_) | (refine EK_ev (Ev_len_arr rfl) ?_) | (refine EK_ev (Ev_len_map rfl xS) ?_)) | (refine ek_eql ?_; first | (refine EK_ev (Ev_eqlI rfl rfl) ?_) | (refine EK_ev (Ev_eqlS rfl rfl) ?_) | (refine EK_ev (Ev_eqlNil rfl rfl) ?_) | (refine EK_ev (Ev_eqlB rfl rfl) ?_) | (refine EK_ev (Ev_eqlO rfl rfl rfl (fun _ => rfl)) ?_)) | (refine ek_neq ?_; first | (refine EK_ev (Ev_neqI_f rfl rfl rfl) ?_) | (refine EK_ev (Ev_neqI rfl rfl) ?_) | (refine EK_ev (Ev_neqS rfl rfl) ?_) | (refine EK_ev (Ev_neqNil rfl rfl) ?_) | (refine EK_ev (Ev_neqB rfl rfl) ?_) | (refine EK_ev (Ev_neqO rfl rfl rfl (fun _ => rfl)) ?_)) | (refine ek_gtr ?_; first | (refine EK_ev (Ev_gtrI_q rfl rfl qg) ?_) | (refine EK_ev (Ev_gtrI rfl rfl) ?_) | (refine EK_ev (Ev_gtrS rfl rfl) ?_)))
    | (refine is_ex ?_; first | (refine KJ_blk_exit' rfl ?_))
    | (refine is_code ?_; first | (refine KJ_cond_dec rfl (fun _ => ?_) (fun _ => ?_) <;> first | (exfalso; omega) | skip) | (refine KJ_cond_t rfl ?_) | (refine KJ_cond_f rfl ?_)))
    rw [em]
    refine KJ.pack (tag := 31) (key := g11) (F := F (i + 1)) (some ⟨g5, 0, none⟩, c5) (by rw [hFi]; exact xP) ?_
    exact KJ_round_t xS (xN)
  · refine KJ.unpack_at (F := F L.length) xS (fun x => ?_)
    rw [hFi, List.take_length]
    repeat' (first 
    | refine KJ_stp (by first | constructor | fail) ?_
    | (refine is_list ?_; first | (refine KJ_guard_dec_t rfl rfl rfl (fun _ => ?_) (fun _ => ?_) <;> first | (exfalso; omega) | skip) | (refine KJ_guard_dec_f rfl rfl rfl (fun _ => ?_) (fun _ => ?_) <;> first | (exfalso; omega) | skip) | (refine KJ_guard_yes rfl rfl ?_) | (refine KJ_guard_no rfl rfl rfl rfl ?_))
    | (refine is_oper ?_; first | (refine is_store ?_; first | (refine KJ_store rfl rfl xS xF (by rfl) xO xL xR ?_)) | (refine is_alloc ?_; first | (refine KJ_alloc rfl (fun _ => ?_))) | (refine KJ_ek rfl ?_) | (refine KJ_ek0 ?_))
    | (refine is_ek ?_; first | (refine xmv ?_) | (refine xas ?_) | (refine xpt ?_) | (refine xpf ?_) | (refine ek_load ?_; first | (refine EK_ev (Ev_loadAgg rfl xS xC) ?_) | (refine EK_ev (Ev_load rfl xS (by rfl)) ?_) | (refine EK_ev (Ev_loadOld rfl (by assumption)) ?_)) | (refine ek_len ?_; first | (refine EK_ev (Ev_len_str rfl) ?_) | (refine EK_ev (Ev_len_slice rfl) ?_) | (refine EK_ev (Ev_len_arr rfl) ?_) | (refine EK_ev (Ev_len_map rfl xS) ?_)) | (refine ek_eql ?_; first | (refine EK_ev (Ev_eqlI rfl rfl) ?_) | (refine EK_ev (Ev_eqlS rfl rfl) ?_) | (refine EK_ev (Ev_eqlNil rfl rfl) ?_) | (refine EK_ev (Ev_eqlB rfl rfl) ?_) | (refine EK_ev (Ev_eqlO rfl rfl rfl (fun _ => rfl)) ?_)) | (refine ek_neq ?_; first | (refine EK_ev (Ev_neqI rfl rfl) ?_) | (refine EK_ev (Ev_neqS rfl rfl) ?_) | (refine EK_ev (Ev_neqNil rfl rfl) ?_) | (refine EK_ev (Ev_neqB rfl rfl) ?_) | (refine EK_ev (Ev_neqO rfl rfl rfl (fun _ => rfl)) ?_)) | (refine ek_gtr ?_; first | (refine EK_ev (Ev_gtrI rfl rfl) ?_) | (refine EK_ev (Ev_gtrS rfl rfl) ?_)))
    | (refine is_ex ?_; first | (refine KJ_blk_exit' rfl ?_))
    | (refine is_code ?_; first | (refine KJ_cond_dec rfl (fun _ => ?_) (fun _ => ?_) <;> first | (exfalso; omega) | skip) | (refine KJ_cond_t rfl ?_) | (refine KJ_cond_f rfl ?_)))
    (refine is_ex ?_; exact KJ_done (by first | exact Or.inl rfl | exact Or.inr rfl) rfl (Rvs.cell (T := 47) rfl inferInstance xS rfl (Rvs.cell (T := 4) rfl inferInstance xS rfl Rvs.nil)) x (by rfl) (xN))
  · exact KJ_absurd xS
set_option maxHeartbeats 1000000 in
theorem replayed_ct (L : List (List UInt8)) (e : Nat) (at_ n ver : Int) (hL : L.length ≤ 65536) (hr : Ct Tryd.prog W 70 [.pointer (some ⟨p, 0, none⟩), .int .i64 at_, .int .i64 n, .int .i64 ver] [DiskP p D] (fun x : Option Addr × Nat => .tuple #[.slice x.1 L.length x.2, errV E e]) (fun x => [DiskP p D, rowP (.slice x.1 L.length x.2) 9 1 L.length (L.map strV)]))
    (hf : Ct Tryd.prog W 104 [.pointer (some ⟨r, 0, none⟩), .int .i64 at_, .int .i64 n, .int .i64 ver] [RefP r D] (fun x : Option Addr × Nat => .tuple #[.slice x.1 L.length x.2, .int .i64 (e : Nat)]) (fun x => [RefP r D, rowP (.slice x.1 L.length x.2) 9 1 L.length (L.map strV)])) (hn : Ct Tryd.prog W 35 [errV E e] [] (fun _ : Unit => .int .i64 (e : Nat)) (fun _ => [])) :
    Ct Tryd.prog W 73 [.pointer (some ⟨p, 0, none⟩), .pointer (some ⟨r, 0, none⟩), .int .i64 at_, .int .i64 n, .int .i64 ver] [DiskP p D, RefP r D] (fun _ : Unit => .bool true) (fun _ => [DiskP p D, RefP r D]) := by
  have he := eachL_ct L (errV E e) at_ n ver hL hr
  have cs := fun a1 a2 c1 c2 => same_ct (W := W) L L a1 a2 c1 c2 (Nat.le_refl _) List.take_length (by omega)
  obtain ⟨ev, hev⟩ : ∃ ev, ev = errV E e := ⟨_, rfl⟩
  rw [← hev] at hr hn
  refine Ct.enter Tryd.func73 rfl Tryd.ntmps73 (by simp) (fun R => ?_)
  repeat' (first 
    | refine KJ_stp (by first | constructor | fail) ?_
    | (refine is_list ?_; first | (refine KJ_guard_dec_t rfl rfl rfl (fun _ => ?_) (fun _ => ?_) <;> first | (exfalso; omega) | skip) | (refine KJ_guard_dec_f rfl rfl rfl (fun _ => ?_) (fun _ => ?_) <;> first | (exfalso; omega) | skip) | (refine KJ_guard_yes rfl rfl ?_) | (refine KJ_guard_no rfl rfl rfl rfl ?_))
    | (refine is_oper ?_; first | (refine is_call ?_; first | (refine KJ_call xE (cs _ _ _ _) xP rfl (fun _ => ?_)) | (refine KJ_call xE hn xP rfl (fun _ => ?_)) | (refine KJ_call xE he xP rfl (fun z => ?_)) | (refine KJ_call xE hf xP rfl (fun y => ?_)) | (refine KJ_call xE hr xP rfl (fun x => ?_))) | (refine KJ_ek rfl ?_) | (refine KJ_ek0 ?_))
    | (refine is_ek ?_; first | (refine xmv ?_) | (refine xas ?_) | (refine xpt ?_) | (refine xpf ?_) | (refine xex ?_) | (refine ek_eql ?_; first | (refine EK_ev (Ev_eqlI_t rfl rfl rfl) ?_) | (refine EK_ev (Ev_eqlI rfl rfl) ?_) | (refine EK_ev (Ev_eqlS rfl rfl) ?_) | (refine EK_ev (Ev_eqlNil rfl rfl) ?_) | (refine EK_ev (Ev_eqlB rfl rfl) ?_) | (refine EK_ev (Ev_eqlO rfl rfl rfl (fun _ => rfl)) ?_)))
    | (refine is_ex ?_; first | (refine KJ_blk_exit' rfl ?_))
    | (refine is_code ?_; first | (refine KJ_cond_dec rfl (fun _ => ?_) (fun _ => ?_) <;> first | (exfalso; omega) | skip) | (refine KJ_cond_t rfl ?_) | (refine KJ_cond_f rfl ?_)))
  all_goals (exact xdn ())
theorem rpGo_count {at_ n : Int} {ver : Nat} : ∀ (f i : Nat) (acc : List (List UInt8)), (i : Int) ≤ n → acc.length ≤ i → ((rpGo D at_ n ver f i acc).length : Int) ≤ n := by
  intro f
  induction f with
  | zero => intro i acc h1 h2; show (acc.length : Int) ≤ n; omega
  | succ f ih =>
    intro i acc h1 h2
    have hunf : rpGo D at_ n ver (f + 1) i acc = match recO D at_ n ver i with
      | none => acc
      | some (s, u) => rpGo D at_ n ver f (i + u.toNat) (acc ++ [s]) := rfl
    rw [hunf]
    cases ho : recO D at_ n ver i with
    | none => show (acc.length : Int) ≤ n; omega
    | some su =>
      obtain ⟨s, u⟩ := su
      obtain ⟨a, b⟩ := recO_some ho
      exact ih _ _ (by omega) (by rw [List.length_append]; show acc.length + 1 ≤ _; omega)
/-- Replay, Each and the document's Replay, wherever -/
theorem replayed_all (hE : ErrsAt W E) (hN : NibAt W) (hg : gB ≤ W.heap.size) (hok : D.ok) (hul : D.und.length < 1073741824) (at_ n ver : Int) :
    Ct Tryd.prog W 73 [.pointer (some ⟨p, 0, none⟩), .pointer (some ⟨r, 0, none⟩), .int .i64 at_, .int .i64 n, .int .i64 ver] [DiskP p D, RefP r D] (fun _ : Unit => .bool true) (fun _ => [DiskP p D, RefP r D]) := by
  have e6 : W.cell? ⟨3, 0, none⟩ = some (errV E 6) := hE.all.at_ 6 (by decide)
  have e12 : W.cell? ⟨2, 0, none⟩ = some (errV E 12) := hE.all.at_ 12 (by decide)
  by_cases h : logOk D at_ n ver
  rotate_left
  · have c1 := replay_no (W := W) (p := p) (D := D) 6 (by decide) at_ n ver (check_bad hok.n2 e6 at_ n ver h)
    have c2 := rreplay_range (W := W) (p := r) at_ n ver hok.n2 h
    exact replayed_ct [] 6 at_ n ver (by simp) (Ct.nilSl c1) (Ct.nilSl c2) (num_ct hE hg 6 (by omega))
  by_cases ho : D.off = true
  · have c1 := replay_no (W := W) (p := p) (D := D) 12 (by decide) at_ n ver (check_down hok.n2 e12 ho at_ n ver h)
    have c2 := rreplay_down (W := W) (p := r) at_ n ver hok.n2 ho h
    exact replayed_ct [] 12 at_ n ver (by simp) (Ct.nilSl c1) (Ct.nilSl c2) (num_ct hE hg 12 (by omega))
  have ho : D.off = false := by simpa using ho
  obtain ⟨vn, rfl⟩ : ∃ v : Nat, ver = (v : Int) := ⟨ver.toNat, by obtain ⟨-, -, -, -, -, h6, -⟩ := h; omega⟩
  have h5 : 0 ≤ n ∧ n ≤ 65536 := ⟨h.2.1, h.2.2.2.2.1⟩
  have c1 := replay_ct (W := W) (p := p) (D := D) hE.on hN at_ n vn hok.n2 ho h
  have c2 := rreplay_ct (W := W) (p := r) hok hul at_ n vn hok.n2 ho h
  have hc := rpGo_count (D := D) (at_ := at_) (n := n) (ver := vn) (n.toNat + 1) 0 [] (by omega) (by simp)
  exact replayed_ct _ 0 at_ n vn (by omega) (Ct.rowSlz c1) (Ct.rowSlz c2) (num_ct hE hg 0 (by omega))
set_option maxHeartbeats 1000000 in
theorem reads10_ct (hE : ErrsAt W E) (hN : NibAt W) (hg : gB ≤ W.heap.size) (l : List UInt8) (at_ n ver : Int) (hlb : l.length ≤ 9223372036854775807) : Ct Tryd.prog W 19 [strV l, .int .i64 at_, .int .i64 n, .int .i64 ver] [] (fun _ : Unit => .bool true) (fun _ => []) := by
  have cl := fixed10_ct (W := W) (E := E) hE hN hg
  by_cases hf : l.length % 256 ≠ 0
  · have c1 := from_form_ct hE.on l hf hlb
    have c2 := rfrom_form (W := W) l hf
    have c3 := num_ct hE hg 7 (by omega)
    refine Ct.enter Tryd.func19 rfl Tryd.ntmps19 (by simp) (fun R => ?_)
    repeat' (first 
    | refine KJ_stp (by first | constructor | fail) ?_
    | (refine is_list ?_; first | (refine KJ_guard_dec_t rfl rfl rfl (fun _ => ?_) (fun _ => ?_) <;> first | (exfalso; omega) | skip) | (refine KJ_guard_dec_f rfl rfl rfl (fun _ => ?_) (fun _ => ?_) <;> first | (exfalso; omega) | skip) | (refine KJ_guard_yes rfl rfl ?_) | (refine KJ_guard_no rfl rfl rfl rfl ?_))
    | (refine is_oper ?_; first | (refine is_call ?_; first | (refine KJ_call xE c3 xP rfl (fun _ => ?_)) | (refine KJ_call xE c2 xP rfl (fun _ => ?_)) | (refine KJ_call xE c1 xP rfl (fun _ => ?_)) | (refine KJ_call xE cl xP rfl (fun _ => ?_))) | (refine KJ_ek rfl ?_) | (refine KJ_ek0 ?_))
    | (refine is_ek ?_; first | (refine xmv ?_) | (refine xas ?_) | (refine xpt ?_) | (refine xpf ?_) | (refine ek_un ?_; first | (refine EK_ev (Ev_notD rfl) ?_) | (refine EK_ev (Ev_not rfl) ?_) | (refine EK_ev (Ev_neg rfl) ?_)) | (refine xex ?_) | (refine ek_eql ?_; first | (refine EK_ev (Ev_eqlI rfl rfl) ?_) | (refine EK_ev (Ev_eqlS rfl rfl) ?_) | (refine EK_ev (Ev_eqlNil rfl rfl) ?_) | (refine EK_ev (Ev_eqlB rfl rfl) ?_) | (refine EK_ev (Ev_eqlO rfl rfl rfl (fun _ => rfl)) ?_)) | (refine ek_neq ?_; first | (refine EK_ev (Ev_neqB_f rfl rfl rfl) ?_) | (refine EK_ev (Ev_neqI_f rfl rfl (by first | rfl | omega)) ?_) | (refine EK_ev (Ev_neqI_t rfl rfl (by omega)) ?_) | (refine EK_ev (Ev_neqI rfl rfl) ?_) | (refine EK_ev (Ev_neqS rfl rfl) ?_) | (refine EK_ev (Ev_neqNil rfl rfl) ?_) | (refine EK_ev (Ev_neqB rfl rfl) ?_) | (refine EK_ev (Ev_neqO rfl rfl rfl (fun _ => rfl)) ?_)))
    | (refine is_ex ?_; first | (refine KJ_blk_exit' rfl ?_))
    | (refine is_code ?_; first | (refine KJ_cond_dec rfl (fun _ => ?_) (fun _ => ?_) <;> first | (exfalso; omega) | skip) | (refine KJ_cond_t rfl ?_) | (refine KJ_cond_f rfl ?_)))
    all_goals (exact xdn ())
  have hf : l.length % 256 = 0 := by omega
  by_cases hb : l.length / 256 < 1 ∨ 65536 < l.length / 256
  · have c1 := from_range_ct hE.on l hf hlb hb
    have c2 := rfrom_range (W := W) l hf hlb hb
    have c3 := num_ct hE hg 6 (by omega)
    refine Ct.enter Tryd.func19 rfl Tryd.ntmps19 (by simp) (fun R => ?_)
    repeat' (first 
    | refine KJ_stp (by first | constructor | fail) ?_
    | (refine is_list ?_; first | (refine KJ_guard_dec_t rfl rfl rfl (fun _ => ?_) (fun _ => ?_) <;> first | (exfalso; omega) | skip) | (refine KJ_guard_dec_f rfl rfl rfl (fun _ => ?_) (fun _ => ?_) <;> first | (exfalso; omega) | skip) | (refine KJ_guard_yes rfl rfl ?_) | (refine KJ_guard_no rfl rfl rfl rfl ?_))
    | (refine is_oper ?_; first | (refine is_call ?_; first | (refine KJ_call xE c3 xP rfl (fun _ => ?_)) | (refine KJ_call xE c2 xP rfl (fun _ => ?_)) | (refine KJ_call xE c1 xP rfl (fun _ => ?_)) | (refine KJ_call xE cl xP rfl (fun _ => ?_))) | (refine KJ_ek rfl ?_) | (refine KJ_ek0 ?_))
    | (refine is_ek ?_; first | (refine xmv ?_) | (refine xas ?_) | (refine xpt ?_) | (refine xpf ?_) | (refine ek_un ?_; first | (refine EK_ev (Ev_notD rfl) ?_) | (refine EK_ev (Ev_not rfl) ?_) | (refine EK_ev (Ev_neg rfl) ?_)) | (refine xex ?_) | (refine ek_eql ?_; first | (refine EK_ev (Ev_eqlI rfl rfl) ?_) | (refine EK_ev (Ev_eqlS rfl rfl) ?_) | (refine EK_ev (Ev_eqlNil rfl rfl) ?_) | (refine EK_ev (Ev_eqlB rfl rfl) ?_) | (refine EK_ev (Ev_eqlO rfl rfl rfl (fun _ => rfl)) ?_)) | (refine ek_neq ?_; first | (refine EK_ev (Ev_neqB_f rfl rfl rfl) ?_) | (refine EK_ev (Ev_neqI_f rfl rfl (by first | rfl | omega)) ?_) | (refine EK_ev (Ev_neqI_t rfl rfl (by omega)) ?_) | (refine EK_ev (Ev_neqI rfl rfl) ?_) | (refine EK_ev (Ev_neqS rfl rfl) ?_) | (refine EK_ev (Ev_neqNil rfl rfl) ?_) | (refine EK_ev (Ev_neqB rfl rfl) ?_) | (refine EK_ev (Ev_neqO rfl rfl rfl (fun _ => rfl)) ?_)))
    | (refine is_ex ?_; first | (refine KJ_blk_exit' rfl ?_))
    | (refine is_code ?_; first | (refine KJ_cond_dec rfl (fun _ => ?_) (fun _ => ?_) <;> first | (exfalso; omega) | skip) | (refine KJ_cond_t rfl ?_) | (refine KJ_cond_f rfl ?_)))
    all_goals (exact xdn ())
  · obtain ⟨N, hNn⟩ : ∃ N, l.length = N * 256 := ⟨l.length / 256, by omega⟩
    have h1 : 1 ≤ N := by omega
    have h2 : N ≤ 65536 := by omega
    have c1 := from_ct (W := W) l N hNn h1 h2 hg
    have c2 := rfrom_ct (W := W) l N hNn h1 h2
    have c3 := num_ct hE hg 0 (by omega)
    have hok : (Dsk.of l).ok := ⟨by show 1 ≤ l.length / 256; omega, by show l.length / 256 ≤ 65536; omega, by show l.length = 256 * (l.length / 256); omega, fun x hx => (by cases hx), by show (-1 : Int) ≤ -1; omega, by show (-1 : Int) ≤ 9223372036854775807; omega⟩
    have c4 := fun p r => replayed_all (W := W) (p := p) (r := r) hE hN hg hok (by show 0 < _; omega) at_ n ver
    have c5 : ∀ p, Ct Tryd.prog W 27 [.pointer (some ⟨p, 0, none⟩)] [DiskP p (Dsk.of l)] (fun _ : Unit => strV l) (fun _ => [DiskP p (Dsk.of l)]) := fun p => image_ct
    have c6 : ∀ p, Ct Tryd.prog W 25 [.pointer (some ⟨p, 0, none⟩)] [DiskP p (Dsk.of l)] (fun _ : Unit => .int .i64 0) (fun _ => [DiskP p (Dsk.of l)]) := fun p => pending_ct
    refine Ct.enter Tryd.func19 rfl Tryd.ntmps19 (by simp) (fun R => ?_)
    repeat' (first 
    | refine KJ_stp (by first | constructor | fail) ?_
    | (refine is_list ?_; first | (refine KJ_guard_dec_t rfl rfl rfl (fun _ => ?_) (fun _ => ?_) <;> first | (exfalso; omega) | skip) | (refine KJ_guard_dec_f rfl rfl rfl (fun _ => ?_) (fun _ => ?_) <;> first | (exfalso; omega) | skip) | (refine KJ_guard_yes rfl rfl ?_) | (refine KJ_guard_no rfl rfl rfl rfl ?_))
    | (refine is_oper ?_; first | (refine is_call ?_; first | (refine KJ_call xE (c6 _) xP rfl (fun _ => ?_)) | (refine KJ_call xE (c5 _) xP rfl (fun _ => ?_)) | (refine KJ_call xE (c4 _ _) xP rfl (fun _ => ?_)) | (refine KJ_call xE c3 xP rfl (fun _ => ?_)) | (refine KJ_call xE c2 xP rfl (fun q => ?_)) | (refine KJ_call xE c1 xP rfl (fun p => ?_)) | (refine KJ_call xE cl xP rfl (fun _ => ?_))) | (refine KJ_ek rfl ?_) | (refine KJ_ek0 ?_))
    | (refine is_ek ?_; first | (refine xmv ?_) | (refine xas ?_) | (refine xpt ?_) | (refine xpf ?_) | (refine ek_un ?_; first | (refine EK_ev (Ev_notD rfl) ?_) | (refine EK_ev (Ev_not rfl) ?_) | (refine EK_ev (Ev_neg rfl) ?_)) | (refine xex ?_) | (refine ek_eql ?_; first | (refine EK_ev (Ev_eqlI_t rfl rfl rfl) ?_) | (refine EK_ev (Ev_eqlS_t rfl rfl rfl) ?_) | (refine EK_ev (Ev_eqlI rfl rfl) ?_) | (refine EK_ev (Ev_eqlS rfl rfl) ?_) | (refine EK_ev (Ev_eqlNil rfl rfl) ?_) | (refine EK_ev (Ev_eqlB rfl rfl) ?_) | (refine EK_ev (Ev_eqlO rfl rfl rfl (fun _ => rfl)) ?_)) | (refine ek_neq ?_; first | (refine EK_ev (Ev_neqB_f rfl rfl rfl) ?_) | (refine EK_ev (Ev_neqI_f rfl rfl (by first | rfl | omega)) ?_) | (refine EK_ev (Ev_neqI rfl rfl) ?_) | (refine EK_ev (Ev_neqS rfl rfl) ?_) | (refine EK_ev (Ev_neqNil rfl rfl) ?_) | (refine EK_ev (Ev_neqB rfl rfl) ?_) | (refine EK_ev (Ev_neqO rfl rfl rfl (fun _ => rfl)) ?_)))
    | (refine is_ex ?_; first | (refine KJ_blk_exit' rfl ?_))
    | (refine is_code ?_; first | (refine KJ_cond_dec rfl (fun _ => ?_) (fun _ => ?_) <;> first | (exfalso; omega) | skip) | (refine KJ_cond_t rfl ?_) | (refine KJ_cond_f rfl ?_)))
    all_goals (exact xdn ())
end
end Go.Proofs.YteklldbfdmaafaaDoor
/-
  The arguments of the laws of chapter 6, opened: a fate, a script; with what the bound gives of their sizes.
-/
namespace Go.Proofs.YteklldbfdmaafaaDoor
open Go Go.RowKit Go.ChangeShapes Go.WideShapes Go.Deep
section
variable {H : Type} {enc : TypeId × Value → H} {W : World} {base : Nat} {held : Bool}
instance : Inhabited POp := ⟨⟨0, 0, [], 0, [], 0, 0⟩⟩
end
end Go.Proofs.YteklldbfdmaafaaDoor
/-
  SlotsApart (chapter 8): slots at two places do not see each other; no other sector is touched.
-/
namespace Go.Proofs.YteklldbfdmaafaaDoor
open Go Go.RowKit
/-- what stands behind the first values -/
structure ApSt (c0 c1 : Nat) (l0 l1 : List UInt8) (m : Nat) (D : Dsk) : Prop where
  rest : Rest D
  n : D.n = 6
  h0 : Holds D 1 c0 l0
  h1 : Holds D 3 c1 l1
  z0 : D.sec 0 = zs 256
  z5 : D.sec 5 = zs 256
  m0 : c0 ≤ m
  m1 : c1 ≤ m
theorem ApSt.start : ApSt 0 0 [] [] 0 (Dsk.blank 6) :=
  ⟨blank_rest 6 (by omega) (by omega), rfl, Holds.blank 6 1 (by omega), Holds.blank 6 3 (by omega), blank_sec _ _ (by omega), blank_sec _ _ (by omega), Nat.le_refl _, Nat.le_refl _⟩
theorem ApSt.step {c0 c1 m : Nat} {l0 l1 : List UInt8} {D : Dsk} (h : ApSt c0 c1 l0 l1 m D) : ApSt c0 c1 l0 l1 (m + 1) D :=
  ⟨h.rest, h.n, h.h0, h.h1, h.z0, h.z5, by have := h.m0; omega, by have := h.m1; omega⟩
end Go.Proofs.YteklldbfdmaafaaDoor
/-
  Arguments opened: slices of texts, of bools, of structs; with what the bound gives of their sizes.
-/
namespace Go.Proofs.YteklldbfdmaafaaDoor
open Go Go.RowKit Go.ChangeShapes Go.WideShapes Go.Deep
section
variable {H : Type} {enc : TypeId × Value → H} {W : World} {base : Nat} {held : Bool}
/-- a step of SlotsKeeps -/
structure KStep where
  val : List UInt8
  arm : Int
  crash : Bool
  kept : List Bool
  torn : Int
  bytes : Int
instance : Inhabited KStep := ⟨⟨[], 0, false, [], 0, 0⟩⟩
def KStep.cells (o : KStep) (kv : Value) : List Value := [strV o.val, .int .i64 o.arm, .bool o.crash, kv, .int .i64 o.torn, .int .i64 o.bytes]
end
end Go.Proofs.YteklldbfdmaafaaDoor
