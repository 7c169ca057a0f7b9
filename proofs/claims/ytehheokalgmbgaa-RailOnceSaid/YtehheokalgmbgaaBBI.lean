/-
  RaR2.
-/
import Derived.Test.YtehheokalgmbgaaBBH
/-
  The document's rail: Handle.
-/
namespace Go.Proofs.Ytehheokalgmbgaa
open Go Go.RowKit
section
variable {W : World} {w : Nat} {N : Int} {hs : RH}
theorem refHandle_no (m : RMsg) (v : Int) (hh : handled N m = false) : Ct Try.prog W 19 [.pointer (some ⟨w, 0, none⟩), .agg m.cells.toArray, .int .i64 v] [RefH w N hs] (fun _ : Unit => ansV N 0 m.token) (fun _ => [RefH w N hs]) := by
  refine Ct_unpack (Hs := []) fun x => ?_
  obtain ⟨a, c⟩ := x
  refine Ct_packs (F := fun _ : Unit => refF w N hs) (fun _ => (a, c)) ?_
  rw [List.append_nil]
  dsimp only [refF]
  have e : ansV N 0 m.token = .tuple #[.agg #[.int .i64 0, .int .i64 0, strV []], .bool false] := rfl
  have hh : ¬ (m.rail = N ∧ 1 ≤ m.kind ∧ m.kind ≤ 3) := by simpa [handled] using hh
  rw [e]
  by_cases h1 : m.rail = N
  rotate_left
  · refine Ct.enter Try.func19 rfl Try.ntmps19 (by simp) (fun R => ?_)
    repeat' (first 
    | (refine is_box ?_; refine KJ_box rfl xF rfl (fun g => ?_))
    | (refine ek_build ?_; refine EK_ev (Ev_build xV xW) ?_)
    | (refine ek_neq ?_; refine EK_ev (Ev_neqI_t rfl rfl h1) ?_)
    | refine xst ?_
    | (refine xsa ?_; intro _)
    | (refine xsb ?_ ?_ <;> intro _ <;> first | (exfalso; omega) | skip)
    | refine xsc ?_
    | (refine KJ_draws (id := 1) (.op 0 (.op 1 (.op 2 (.op 3 (.op 4 (.op 5 (.op 6 (.op 7 (.op 8 (.op 9 (.op 10 (.op 11 (.op 12 (.op 13 (.op 14 (.op 15 (.op 16 .nil))))))))))))))))) (by kernel_rfl) (by kernel_rfl) ?_)
    | (refine KJ_draws (id := 3) (.op 0 (.op 1 (.op 2 (.op 3 (.op 4 (.op 5 (.op 6 (.op 7 (.ef 8 [4, 3, 2, 1, 0] (.ef 9 [0] (.op 10 (.op 11 (.ef 12 [] .nil))))))))))))) (by kernel_rfl) (by kernel_rfl) ?_)
    | (refine KJ_draws (id := 4) (.op 0 (.op 1 (.op 2 (.op 3 (.op 4 (.op 5 (.op 6 (.ef 7 [6, 5, 4, 3, 2, 1, 0] (.ef 8 [] .nil))))))))) (by kernel_rfl) (by kernel_rfl) ?_)
    | refine FW_alt ?_ ?_
    | refine KJ_flow ?_ ?_
    | exact Rech.nil
    | fail)
    all_goals (refine is_ex ?_; exact KJ_done (by first | exact Or.inl rfl | exact Or.inr rfl) rfl (Rvs.agg (T := 45) rfl inferInstance inferInstance xS xC (Rvs.tmp rfl Rvs.nil)) () (by rfl) (xN))
  by_cases h2 : m.kind < 1
  · have q1 : decide (m.kind < 1) = true := decide_eq_true h2
    refine Ct.enter Try.func19 rfl Try.ntmps19 (by simp) (fun R => ?_)
    repeat' (first 
    | (refine is_box ?_; refine KJ_box rfl xF rfl (fun g => ?_))
    | (refine ek_build ?_; refine EK_ev (Ev_build xV xW) ?_)
    | (refine ek_neq ?_; refine EK_ev (Ev_neqI_f rfl rfl h1) ?_)
    | (refine ek_lss ?_; refine EK_ev (Ev_lssI_q rfl rfl q1) ?_)
    | refine xst ?_
    | (refine xsa ?_; intro _)
    | (refine xsb ?_ ?_ <;> intro _ <;> first | (exfalso; omega) | skip)
    | refine xsc ?_
    | (refine KJ_draws (id := 1) (.op 0 (.op 1 (.op 2 (.op 3 (.op 4 (.op 5 (.op 6 (.op 7 (.op 8 (.op 9 (.op 10 (.op 11 (.op 12 (.op 13 (.op 14 (.op 15 (.op 16 .nil))))))))))))))))) (by kernel_rfl) (by kernel_rfl) ?_)
    | (refine KJ_draws (id := 3) (.op 0 (.op 1 (.op 2 (.op 3 (.op 4 (.op 5 (.op 6 (.op 7 (.ef 8 [4, 3, 2, 1, 0] (.ef 9 [0] (.op 10 (.op 11 (.ef 12 [] .nil))))))))))))) (by kernel_rfl) (by kernel_rfl) ?_)
    | (refine KJ_draws (id := 4) (.op 0 (.op 1 (.op 2 (.op 3 (.op 4 (.op 5 (.op 6 (.ef 7 [6, 5, 4, 3, 2, 1, 0] (.ef 8 [] .nil))))))))) (by kernel_rfl) (by kernel_rfl) ?_)
    | refine FW_alt ?_ ?_
    | refine KJ_flow ?_ ?_
    | exact Rech.nil
    | fail)
    all_goals (refine is_ex ?_; exact KJ_done (by first | exact Or.inl rfl | exact Or.inr rfl) rfl (Rvs.agg (T := 45) rfl inferInstance inferInstance xS xC (Rvs.tmp rfl Rvs.nil)) () (by rfl) (xN))
  · have q1 : decide (m.kind < 1) = false := decide_eq_false h2
    have q2 : decide (3 < m.kind) = true := decide_eq_true (by omega)
    refine Ct.enter Try.func19 rfl Try.ntmps19 (by simp) (fun R => ?_)
    repeat' (first 
    | (refine is_box ?_; refine KJ_box rfl xF rfl (fun g => ?_))
    | (refine ek_build ?_; refine EK_ev (Ev_build xV xW) ?_)
    | (refine ek_neq ?_; refine EK_ev (Ev_neqI_f rfl rfl h1) ?_)
    | (refine ek_lss ?_; refine EK_ev (Ev_lssI_q rfl rfl q1) ?_)
    | (refine ek_gtr ?_; refine EK_ev (Ev_gtrI_q rfl rfl q2) ?_)
    | refine xst ?_
    | (refine xsa ?_; intro _)
    | (refine xsb ?_ ?_ <;> intro _ <;> first | (exfalso; omega) | skip)
    | refine xsc ?_
    | (refine KJ_draws (id := 1) (.op 0 (.op 1 (.op 2 (.op 3 (.op 4 (.op 5 (.op 6 (.op 7 (.op 8 (.op 9 (.op 10 (.op 11 (.op 12 (.op 13 (.op 14 (.op 15 (.op 16 .nil))))))))))))))))) (by kernel_rfl) (by kernel_rfl) ?_)
    | (refine KJ_draws (id := 3) (.op 0 (.op 1 (.op 2 (.op 3 (.op 4 (.op 5 (.op 6 (.op 7 (.ef 8 [4, 3, 2, 1, 0] (.ef 9 [0] (.op 10 (.op 11 (.ef 12 [] .nil))))))))))))) (by kernel_rfl) (by kernel_rfl) ?_)
    | (refine KJ_draws (id := 4) (.op 0 (.op 1 (.op 2 (.op 3 (.op 4 (.op 5 (.op 6 (.ef 7 [6, 5, 4, 3, 2, 1, 0] (.ef 8 [] .nil))))))))) (by kernel_rfl) (by kernel_rfl) ?_)
    | refine FW_alt ?_ ?_
    | refine KJ_flow ?_ ?_
    | exact Rech.nil
    | fail)
    all_goals (refine is_ex ?_; exact KJ_done (by first | exact Or.inl rfl | exact Or.inr rfl) rfl (Rvs.agg (T := 45) rfl inferInstance inferInstance xS xC (Rvs.tmp rfl Rvs.nil)) () (by rfl) (xN))

set_option maxHeartbeats 2000000 in
theorem refHandle_yes (hl : (hs.length + 1) * 88 ≤ 140737488355328) (m : RMsg) (v : Int) (hh : handled N m = true) : Ct Try.prog W 19 [.pointer (some ⟨w, 0, none⟩), .agg m.cells.toArray, .int .i64 v] [RefH w N hs] (fun _ : Unit => ansV N (answer N hs m v) m.token) (fun _ => [RefH w N (hs ++ [(m, v)])]) := by
  refine Ct_unpack (Hs := []) fun x => ?_
  obtain ⟨a, c⟩ := x
  rw [List.append_nil]
  dsimp only [refF]
  have hh2 : m.rail = N ∧ 1 ≤ m.kind ∧ m.kind ≤ 3 := by simpa [handled] using hh
  obtain ⟨h1, h2, h3⟩ := hh2
  have q1 : decide (m.kind < 1) = false := decide_eq_false (by omega)
  have q2 : decide (3 < m.kind) = false := decide_eq_false (by omega)
  have ce := refEffect_ct (W := W) (w := w) (N := N) (hs := hs ++ [(m, v)]) (by simp; omega) m.token
  have ha := answer_yes (hs := hs) (v := v) hh
  refine Ct.enter Try.func19 rfl Try.ntmps19 (by simp) (fun R => ?_)
  repeat' (first 
    | (refine at_seq_region (id := 5) ?_; refine KJ.packs (tag := 41) (key := w) (F := refF w N (hs ++ [(m, v)])) (some ⟨g', 0, none⟩, c') (by dsimp only [refF]; exact xP) ?_; refine hold ?_)
    | (refine is_box ?_; refine KJ_box rfl xF rfl (fun g => ?_))
    | (refine is_append ?_; refine KJ_appOne (a := (m, v)) enc_hrd rfl rfl rfl xS xS (by omega) (by omega) rfl (fun g' c' => ?_))
    | (refine is_bslice ?_; refine KJ_bslice1 rfl xF (by rfl) (by omega) rfl (fun gb => ?_))
    | (refine ek_build ?_; refine EK_ev (Ev_build xV xW) ?_)
    | (refine ek_neq ?_; refine EK_ev (Ev_neqI_f rfl rfl h1) ?_)
    | (refine ek_lss ?_; refine EK_ev (Ev_lssI_q rfl rfl q1) ?_)
    | (refine ek_gtr ?_; refine EK_ev (Ev_gtrI_q rfl rfl q2) ?_)
    | refine xst ?_
    | (refine xsa ?_; intro _)
    | (refine xsb ?_ ?_ <;> intro _ <;> first | (exfalso; omega) | skip)
    | refine xsc ?_
    | (refine KJ_draws (id := 1) (.op 0 (.op 1 (.op 2 (.op 3 (.op 4 (.op 5 (.op 6 (.op 7 (.op 8 (.op 9 (.op 10 (.op 11 (.op 12 (.op 13 (.op 14 (.op 15 (.op 16 .nil))))))))))))))))) (by kernel_rfl) (by kernel_rfl) ?_)
    | (refine KJ_draws (id := 3) (.op 0 (.op 1 (.op 2 (.op 3 (.op 4 (.op 5 (.op 6 (.op 7 (.ef 8 [4, 3, 2, 1, 0] (.ef 9 [0] (.op 10 (.op 11 (.ef 12 [] .nil))))))))))))) (by kernel_rfl) (by kernel_rfl) ?_)
    | (refine KJ_draws (id := 4) (.op 0 (.op 1 (.op 2 (.op 3 (.op 4 (.op 5 (.op 6 (.ef 7 [6, 5, 4, 3, 2, 1, 0] (.ef 8 [] .nil))))))))) (by kernel_rfl) (by kernel_rfl) ?_)
    | refine FW_alt ?_ ?_
    | refine KJ_flow ?_ ?_
    | exact Rech.nil
    | fail)
  refine Hold.mk ?_
  cases he : effect (hs ++ [(m, v)]) m.token with
  | some x =>
    rw [he] at ha ce
    dsimp only at ha
    have hnz : x.kind ≠ 0 := effect_nz he
    have e : ansV N (answer N hs m v) m.token = .tuple #[.agg #[.int .i64 N, .int .i64 x.kind, strV m.token], .bool true] := by rw [ha]; unfold ansV ansC; simp [hnz]
    rw [e]
    repeat' (first 
    | (refine is_call ?_; refine KJ_call xE ce xP rfl (fun _ => ?_))
    | refine xst ?_
    | (refine xsa ?_; intro _)
    | (refine xsb ?_ ?_ <;> intro _ <;> first | (exfalso; omega) | skip)
    | refine xsc ?_
    | (refine KJ_draws (id := 1) (.op 0 (.op 1 (.op 2 (.op 3 (.op 4 (.op 5 (.op 6 (.op 7 (.op 8 (.op 9 (.op 10 (.op 11 (.op 12 (.op 13 (.op 14 (.op 15 (.op 16 .nil))))))))))))))))) (by kernel_rfl) (by kernel_rfl) ?_)
    | (refine KJ_draws (id := 3) (.op 0 (.op 1 (.op 2 (.op 3 (.op 4 (.op 5 (.op 6 (.op 7 (.ef 8 [4, 3, 2, 1, 0] (.ef 9 [0] (.op 10 (.op 11 (.ef 12 [] .nil))))))))))))) (by kernel_rfl) (by kernel_rfl) ?_)
    | (refine KJ_draws (id := 4) (.op 0 (.op 1 (.op 2 (.op 3 (.op 4 (.op 5 (.op 6 (.ef 7 [6, 5, 4, 3, 2, 1, 0] (.ef 8 [] .nil))))))))) (by kernel_rfl) (by kernel_rfl) ?_)
    | refine FW_alt ?_ ?_
    | refine KJ_flow ?_ ?_
    | exact Rech.nil
    | fail)
    all_goals (refine is_ex ?_; exact KJ_done (by first | exact Or.inl rfl | exact Or.inr rfl) rfl (Rvs.agg (T := 45) rfl inferInstance inferInstance xS xC (Rvs.tmp rfl Rvs.nil)) () (by rfl) (xN))
  | none =>
    rw [he] at ha ce
    dsimp only at ha
    by_cases hk : m.kind = 2
    · have e : ansV N (answer N hs m v) m.token = .tuple #[.agg #[.int .i64 N, .int .i64 7, strV m.token], .bool true] := by rw [ha, if_pos hk]; unfold ansV ansC; simp
      rw [e]
      repeat' (first 
    | (refine is_call ?_; refine KJ_call xE ce xP rfl (fun _ => ?_))
    | (refine ek_eql ?_; refine EK_ev (Ev_eqlI_t rfl rfl hk) ?_)
    | refine xst ?_
    | (refine xsa ?_; intro _)
    | (refine xsb ?_ ?_ <;> intro _ <;> first | (exfalso; omega) | skip)
    | refine xsc ?_
    | (refine KJ_draws (id := 1) (.op 0 (.op 1 (.op 2 (.op 3 (.op 4 (.op 5 (.op 6 (.op 7 (.op 8 (.op 9 (.op 10 (.op 11 (.op 12 (.op 13 (.op 14 (.op 15 (.op 16 .nil))))))))))))))))) (by kernel_rfl) (by kernel_rfl) ?_)
    | (refine KJ_draws (id := 3) (.op 0 (.op 1 (.op 2 (.op 3 (.op 4 (.op 5 (.op 6 (.op 7 (.ef 8 [4, 3, 2, 1, 0] (.ef 9 [0] (.op 10 (.op 11 (.ef 12 [] .nil))))))))))))) (by kernel_rfl) (by kernel_rfl) ?_)
    | (refine KJ_draws (id := 4) (.op 0 (.op 1 (.op 2 (.op 3 (.op 4 (.op 5 (.op 6 (.ef 7 [6, 5, 4, 3, 2, 1, 0] (.ef 8 [] .nil))))))))) (by kernel_rfl) (by kernel_rfl) ?_)
    | refine FW_alt ?_ ?_
    | refine KJ_flow ?_ ?_
    | exact Rech.nil
    | fail)
      all_goals (refine is_ex ?_; exact KJ_done (by first | exact Or.inl rfl | exact Or.inr rfl) rfl (Rvs.agg (T := 45) rfl inferInstance inferInstance xS xC (Rvs.tmp rfl Rvs.nil)) () (by rfl) (xN))
    by_cases hv : v = 2
    · have e : ansV N (answer N hs m v) m.token = .tuple #[.agg #[.int .i64 N, .int .i64 8, strV m.token], .bool true] := by rw [ha, if_neg hk, if_pos hv]; unfold ansV ansC; simp
      rw [e]
      repeat' (first 
    | (refine is_call ?_; refine KJ_call xE ce xP rfl (fun _ => ?_))
    | (refine ek_eql ?_; first | refine EK_ev (Ev_eqlI_f rfl rfl hk) ?_ | refine EK_ev (Ev_eqlI_t rfl rfl hv) ?_)
    | refine xst ?_
    | (refine xsa ?_; intro _)
    | (refine xsb ?_ ?_ <;> intro _ <;> first | (exfalso; omega) | skip)
    | refine xsc ?_
    | (refine KJ_draws (id := 1) (.op 0 (.op 1 (.op 2 (.op 3 (.op 4 (.op 5 (.op 6 (.op 7 (.op 8 (.op 9 (.op 10 (.op 11 (.op 12 (.op 13 (.op 14 (.op 15 (.op 16 .nil))))))))))))))))) (by kernel_rfl) (by kernel_rfl) ?_)
    | (refine KJ_draws (id := 3) (.op 0 (.op 1 (.op 2 (.op 3 (.op 4 (.op 5 (.op 6 (.op 7 (.ef 8 [4, 3, 2, 1, 0] (.ef 9 [0] (.op 10 (.op 11 (.ef 12 [] .nil))))))))))))) (by kernel_rfl) (by kernel_rfl) ?_)
    | (refine KJ_draws (id := 4) (.op 0 (.op 1 (.op 2 (.op 3 (.op 4 (.op 5 (.op 6 (.ef 7 [6, 5, 4, 3, 2, 1, 0] (.ef 8 [] .nil))))))))) (by kernel_rfl) (by kernel_rfl) ?_)
    | refine FW_alt ?_ ?_
    | refine KJ_flow ?_ ?_
    | exact Rech.nil
    | fail)
      all_goals (refine is_ex ?_; exact KJ_done (by first | exact Or.inl rfl | exact Or.inr rfl) rfl (Rvs.agg (T := 45) rfl inferInstance inferInstance xS xC (Rvs.tmp rfl Rvs.nil)) () (by rfl) (xN))
    · have e : ansV N (answer N hs m v) m.token = .tuple #[.agg #[.int .i64 0, .int .i64 0, strV []], .bool false] := by rw [ha, if_neg hk, if_neg hv]; unfold ansV ansC; simp
      rw [e]
      repeat' (first 
    | (refine is_call ?_; refine KJ_call xE ce xP rfl (fun _ => ?_))
    | (refine ek_build ?_; refine EK_ev (Ev_build xV xW) ?_)
    | (refine ek_eql ?_; first | refine EK_ev (Ev_eqlI_f rfl rfl hk) ?_ | refine EK_ev (Ev_eqlI_f rfl rfl hv) ?_)
    | refine xst ?_
    | (refine xsa ?_; intro _)
    | (refine xsb ?_ ?_ <;> intro _ <;> first | (exfalso; omega) | skip)
    | refine xsc ?_
    | (refine KJ_draws (id := 1) (.op 0 (.op 1 (.op 2 (.op 3 (.op 4 (.op 5 (.op 6 (.op 7 (.op 8 (.op 9 (.op 10 (.op 11 (.op 12 (.op 13 (.op 14 (.op 15 (.op 16 .nil))))))))))))))))) (by kernel_rfl) (by kernel_rfl) ?_)
    | (refine KJ_draws (id := 3) (.op 0 (.op 1 (.op 2 (.op 3 (.op 4 (.op 5 (.op 6 (.op 7 (.ef 8 [4, 3, 2, 1, 0] (.ef 9 [0] (.op 10 (.op 11 (.ef 12 [] .nil))))))))))))) (by kernel_rfl) (by kernel_rfl) ?_)
    | (refine KJ_draws (id := 4) (.op 0 (.op 1 (.op 2 (.op 3 (.op 4 (.op 5 (.op 6 (.ef 7 [6, 5, 4, 3, 2, 1, 0] (.ef 8 [] .nil))))))))) (by kernel_rfl) (by kernel_rfl) ?_)
    | refine FW_alt ?_ ?_
    | refine KJ_flow ?_ ?_
    | exact Rech.nil
    | fail)
      all_goals (refine is_ex ?_; exact KJ_done (by first | exact Or.inl rfl | exact Or.inr rfl) rfl (Rvs.agg (T := 45) rfl inferInstance inferInstance xS xC (Rvs.tmp rfl Rvs.nil)) () (by rfl) (xN))
theorem refHandle_ct (hl : (hs.length + 1) * 88 ≤ 140737488355328) (m : RMsg) (v : Int) : Ct Try.prog W 19 [.pointer (some ⟨w, 0, none⟩), .agg m.cells.toArray, .int .i64 v] [RefH w N hs] (fun _ : Unit => ansV N (answer N hs m v) m.token) (fun _ => [RefH w N (hear N hs m v)]) := by
  cases hh : handled N m with
  | false => rw [answer_no hh, hear_no hh]; exact refHandle_no m v hh
  | true => rw [hear_yes hh]; exact refHandle_yes hl m v hh
end
end Go.Proofs.Ytehheokalgmbgaa
