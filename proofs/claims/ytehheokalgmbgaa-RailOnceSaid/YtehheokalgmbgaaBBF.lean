/-
  RaW4.
-/
import Derived.Test.YtehheokalgmbgaaBBE
/-
  The package rail by what was handled: Handle, Effect, Asked, Effects.
-/
namespace Go.Proofs.Ytehheokalgmbgaa
open Go Go.RowKit
theorem enc_eff : EncOk REff.cells 4 := ⟨fun _ => rfl, fun x => by unfold REff.cells; exact xO, by omega⟩
theorem cnt_bound {hs : RH} {cnt : RCnt} (h : CntOk hs cnt) (tok : List UInt8) (kind : Int) : 0 ≤ (lk cnt (tok, kind)).getD 0 ∧ (lk cnt (tok, kind)).getD 0 ≤ (hs.length : Int) := by
  rw [h.2]
  have : asked hs tok kind ≤ hs.length := List.length_filter_le _ _
  omega
/-- one is taken out of what is left -/
theorem perm_pick {α β : Type} [DecidableEq α] : ∀ {left : List (α × β)} {p : α × β}, (left.map (·.1)).Nodup → p ∈ left → (p :: left.filter fun q => decide (q.1 ≠ p.1)).Perm left
  | [], p, _, h => by cases h
  | q :: l, p, hn, h => by
    simp only [List.map_cons, List.nodup_cons] at hn
    by_cases e : q = p
    · subst e
      have : l.filter (fun x => decide (x.1 ≠ q.1)) = l := List.filter_eq_self.2 (fun x hx => by
        simp only [ne_eq, decide_not, Bool.not_eq_eq_eq_not, Bool.not_true, decide_eq_false_iff_not]
        intro h; exact hn.1 (h ▸ List.mem_map.2 ⟨x, hx, rfl⟩))
      simp only [List.filter_cons, ne_eq, not_true_eq_false, decide_false, Bool.false_eq_true, if_false]
      simp only [ne_eq] at this
      rw [this]
    · have hp : p ∈ l := by
        rcases List.mem_cons.1 h with h | h
        · exact absurd h.symm e
        · exact h
      have hk : q.1 ≠ p.1 := fun h => hn.1 (h ▸ List.mem_map.2 ⟨p, hp, rfl⟩)
      have ih := perm_pick hn.2 hp
      simp only [List.filter_cons, hk, ne_eq, not_false_eq_true, decide_true, if_true]
      simp only [ne_eq] at ih
      exact (List.Perm.swap _ _ _).trans (List.Perm.cons _ ih)
section
variable {W : World} {r : Nat} {N : Int} {hs : RH}
theorem railNew_ct (N : Int) : Ct Try.prog W 9 [.int .i64 N] [] (fun r : Nat => .pointer (some ⟨r, 0, none⟩)) (fun r => [RailH r N []]) :=
  ⟨fun R w s => ((rnew_ct (W := W) N).go R w s).mono fun e w' ⟨x, he, st⟩ => ⟨x.1, he, st.mono (pack_star (tag := 40) (key := x.1) (F := railF x.1 N []) ⟨((x.2.1, x.2.2), [], []), TabOk.nil, CntOk.nil⟩)⟩⟩
theorem railHandle_no (m : RMsg) (v : Int) (hh : handled N m = false) {eb cb : Nat} {tab : RTab} {cnt : RCnt} : Ct Try.prog W 16 [.pointer (some ⟨r, 0, none⟩), .agg m.cells.toArray, .int .i64 v] (RailL r N eb cb tab cnt) (fun _ : Unit => ansV N 0 m.token) (fun _ => RailL r N eb cb tab cnt) := by
  have e : ansV N 0 m.token = .tuple #[.agg #[.int .i64 0, .int .i64 0, strV []], .bool false] := rfl
  have hh : ¬ (m.rail = N ∧ 1 ≤ m.kind ∧ m.kind ≤ 3) := by simpa [handled] using hh
  rw [e]
  by_cases h1 : m.rail = N
  rotate_left
  · refine Ct.enter Try.func16 rfl Try.ntmps16 (by simp) (fun R => ?_)
    repeat' (first 
    | (refine is_box ?_; refine KJ_box rfl xF rfl (fun g => ?_))
    | (refine ek_build ?_; refine EK_ev (Ev_build xV xW) ?_)
    | (refine ek_neq ?_; refine EK_ev (Ev_neqI_t rfl rfl h1) ?_)
    | refine xst ?_
    | (refine xsa ?_; intro _)
    | (refine xsb ?_ ?_ <;> intro _ <;> first | (exfalso; omega) | skip)
    | refine xsc ?_
    | (refine KJ_draws (id := 1) (.op 0 (.op 1 (.op 2 (.op 3 (.op 4 (.op 5 (.op 6 (.op 7 (.op 8 (.op 9 (.op 10 (.op 11 (.op 12 (.op 13 (.op 14 (.op 15 (.op 16 .nil))))))))))))))))) (by kernel_rfl) (by kernel_rfl) ?_)
    | (refine KJ_draws (id := 3) (.op 0 (.op 1 (.op 2 (.op 3 (.op 4 (.op 5 (.op 6 (.op 7 (.op 8 (.op 9 (.op 10 (.ef 11 [10, 9] (.op 12 (.ef 13 [] .nil)))))))))))))) (by kernel_rfl) (by kernel_rfl) ?_)
    | (refine KJ_draws (id := 4) (.op 1 (.op 2 (.op 4 (.op 5 (.op 6 (.ef 0 [6, 5, 4, 2, 1] (.op 3 (.ef 7 [] (.op 8 .nil))))))))) (by kernel_rfl) (by kernel_rfl) ?_)
    | (refine KJ_draws (id := 7) (.op 0 (.op 1 (.op 2 (.op 3 (.op 4 (.op 5 (.op 6 (.op 7 (.ef 8 [] (.op 9 .nil)))))))))) (by kernel_rfl) (by kernel_rfl) ?_)
    | refine FW_alt ?_ ?_
    | refine KJ_flow ?_ ?_
    | exact Rech.nil
    | fail)
    all_goals (refine is_ex ?_; exact KJ_done (by first | exact Or.inl rfl | exact Or.inr rfl) rfl (Rvs.agg (T := 45) rfl inferInstance inferInstance xS xC (Rvs.tmp rfl Rvs.nil)) () (by rfl) (xN))
  by_cases h2 : m.kind < 1
  · have q1 : decide (m.kind < 1) = true := decide_eq_true h2
    refine Ct.enter Try.func16 rfl Try.ntmps16 (by simp) (fun R => ?_)
    repeat' (first 
    | (refine is_box ?_; refine KJ_box rfl xF rfl (fun g => ?_))
    | (refine ek_build ?_; refine EK_ev (Ev_build xV xW) ?_)
    | (refine ek_neq ?_; refine EK_ev (Ev_neqI_f rfl rfl h1) ?_)
    | (refine ek_lss ?_; refine EK_ev (Ev_lssI_q rfl rfl q1) ?_)
    | refine xst ?_
    | (refine xsa ?_; intro _)
    | (refine xsb ?_ ?_ <;> intro _ <;> first | (exfalso; omega) | skip)
    | refine xsc ?_
    | (refine KJ_draws (id := 1) (.op 0 (.op 1 (.op 2 (.op 3 (.op 4 (.op 5 (.op 6 (.op 7 (.op 8 (.op 9 (.op 10 (.op 11 (.op 12 (.op 13 (.op 14 (.op 15 (.op 16 .nil))))))))))))))))) (by kernel_rfl) (by kernel_rfl) ?_)
    | (refine KJ_draws (id := 3) (.op 0 (.op 1 (.op 2 (.op 3 (.op 4 (.op 5 (.op 6 (.op 7 (.op 8 (.op 9 (.op 10 (.ef 11 [10, 9] (.op 12 (.ef 13 [] .nil)))))))))))))) (by kernel_rfl) (by kernel_rfl) ?_)
    | (refine KJ_draws (id := 4) (.op 1 (.op 2 (.op 4 (.op 5 (.op 6 (.ef 0 [6, 5, 4, 2, 1] (.op 3 (.ef 7 [] (.op 8 .nil))))))))) (by kernel_rfl) (by kernel_rfl) ?_)
    | (refine KJ_draws (id := 7) (.op 0 (.op 1 (.op 2 (.op 3 (.op 4 (.op 5 (.op 6 (.op 7 (.ef 8 [] (.op 9 .nil)))))))))) (by kernel_rfl) (by kernel_rfl) ?_)
    | refine FW_alt ?_ ?_
    | refine KJ_flow ?_ ?_
    | exact Rech.nil
    | fail)
    all_goals (refine is_ex ?_; exact KJ_done (by first | exact Or.inl rfl | exact Or.inr rfl) rfl (Rvs.agg (T := 45) rfl inferInstance inferInstance xS xC (Rvs.tmp rfl Rvs.nil)) () (by rfl) (xN))
  · have q1 : decide (m.kind < 1) = false := decide_eq_false h2
    have q2 : decide (3 < m.kind) = true := decide_eq_true (by omega)
    refine Ct.enter Try.func16 rfl Try.ntmps16 (by simp) (fun R => ?_)
    repeat' (first 
    | (refine is_box ?_; refine KJ_box rfl xF rfl (fun g => ?_))
    | (refine ek_build ?_; refine EK_ev (Ev_build xV xW) ?_)
    | (refine ek_neq ?_; refine EK_ev (Ev_neqI_f rfl rfl h1) ?_)
    | (refine ek_lss ?_; refine EK_ev (Ev_lssI_q rfl rfl q1) ?_)
    | (refine ek_gtr ?_; refine EK_ev (Ev_gtrI_q rfl rfl q2) ?_)
    | refine xst ?_
    | (refine xsa ?_; intro _)
    | (refine xsb ?_ ?_ <;> intro _ <;> first | (exfalso; omega) | skip)
    | refine xsc ?_
    | (refine KJ_draws (id := 1) (.op 0 (.op 1 (.op 2 (.op 3 (.op 4 (.op 5 (.op 6 (.op 7 (.op 8 (.op 9 (.op 10 (.op 11 (.op 12 (.op 13 (.op 14 (.op 15 (.op 16 .nil))))))))))))))))) (by kernel_rfl) (by kernel_rfl) ?_)
    | (refine KJ_draws (id := 3) (.op 0 (.op 1 (.op 2 (.op 3 (.op 4 (.op 5 (.op 6 (.op 7 (.op 8 (.op 9 (.op 10 (.ef 11 [10, 9] (.op 12 (.ef 13 [] .nil)))))))))))))) (by kernel_rfl) (by kernel_rfl) ?_)
    | (refine KJ_draws (id := 4) (.op 1 (.op 2 (.op 4 (.op 5 (.op 6 (.ef 0 [6, 5, 4, 2, 1] (.op 3 (.ef 7 [] (.op 8 .nil))))))))) (by kernel_rfl) (by kernel_rfl) ?_)
    | (refine KJ_draws (id := 7) (.op 0 (.op 1 (.op 2 (.op 3 (.op 4 (.op 5 (.op 6 (.op 7 (.ef 8 [] (.op 9 .nil)))))))))) (by kernel_rfl) (by kernel_rfl) ?_)
    | refine FW_alt ?_ ?_
    | refine KJ_flow ?_ ?_
    | exact Rech.nil
    | fail)
    all_goals (refine is_ex ?_; exact KJ_done (by first | exact Or.inl rfl | exact Or.inr rfl) rfl (Rvs.agg (T := 45) rfl inferInstance inferInstance xS xC (Rvs.tmp rfl Rvs.nil)) () (by rfl) (xN))
theorem railHandle_ct (hl : hs.length ≤ 4611686018427387904) (m : RMsg) (v : Int) : Ct Try.prog W 16 [.pointer (some ⟨r, 0, none⟩), .agg m.cells.toArray, .int .i64 v] [RailH r N hs] (fun _ : Unit => ansV N (answer N hs m v) m.token) (fun _ => [RailH r N (hear N hs m v)]) := by
  refine Ct_unpack (Hs := []) fun x => ?_
  obtain ⟨⟨⟨eb, cb⟩, tab, cnt⟩, hT, hC⟩ := x
  dsimp only at hT hC
  cases hh : handled N m with
  | false =>
    rw [answer_no hh, hear_no hh]
    refine Ct_pack (F := fun _ : Unit => railF r N hs) (fun u : Unit => u) (fun _ => ⟨((eb, cb), tab, cnt), hT, hC⟩) ?_ (fun _ => rfl)
    have := railHandle_no (W := W) (r := r) (N := N) m v hh (eb := eb) (cb := cb) (tab := tab) (cnt := cnt)
    rw [List.append_nil]
    exact this
  | true =>
    have hb := cnt_bound hC m.token m.kind
    have hh2 : m.rail = N ∧ 1 ≤ m.kind ∧ m.kind ≤ 3 := by simpa [handled] using hh
    obtain ⟨h1, h2, h3⟩ := hh2
    rw [← act_answer hT hh, hear_yes hh]
    refine Ct_pack (F := fun _ : Unit => railF r N (hs ++ [(m, v)])) (fun u : Unit => u) (fun _ => ⟨((eb, cb), actT tab m v, mput (mput cnt (m.token, m.kind) ((lk cnt (m.token, m.kind)).getD 0)) (m.token, m.kind) ((lk cnt (m.token, m.kind)).getD 0 + 1)), act_tab hT m v, hC.up m v⟩) ?_ (fun _ => rfl)
    rw [List.append_nil]
    have hz := tab_nz hT m.token
    rcases (show m.kind = 1 ∨ m.kind = 2 ∨ m.kind = 3 by omega) with hk | hk | hk
    · exact handle_in (eb := eb) (cb := cb) (tab := tab) (cnt := cnt) m v 41 h1 h2 h3 (by omega) (by rw [hk]; rfl) (fun c => exec_ct m v hk hz)
    · exact handle_in (eb := eb) (cb := cb) (tab := tab) (cnt := cnt) m v 42 h1 h2 h3 (by omega) (by rw [hk]; rfl) (fun c => query_ct m v hk hz)
    · exact handle_in (eb := eb) (cb := cb) (tab := tab) (cnt := cnt) m v 43 h1 h2 h3 (by omega) (by rw [hk]; rfl) (fun c => void_ct m v hk hz)
theorem railEffect_ct (tok : List UInt8) : Ct Try.prog W 14 [.pointer (some ⟨r, 0, none⟩), strV tok] [RailH r N hs] (fun _ : Unit => effO (effect hs tok)) (fun _ => [RailH r N hs]) := by
  refine Ct_unpack (Hs := []) fun x => ?_
  obtain ⟨⟨⟨eb, cb⟩, tab, cnt⟩, hT, hC⟩ := x
  dsimp only at hT hC
  refine Ct_pack (F := fun _ : Unit => railF r N hs) (fun u : Unit => u) (fun _ => ⟨((eb, cb), tab, cnt), hT, hC⟩) ?_ (fun _ => rfl)
  rw [List.append_nil, ← hT.2]
  show Ct _ _ _ _ (RailL r N eb cb tab cnt) _ (fun _ => RailL r N eb cb tab cnt)
  obtain ⟨x, hx⟩ : ∃ x, x = (lk tab tok).getD eff0 := ⟨_, rfl⟩
  obtain ⟨b, hb⟩ : ∃ b, b = (lk tab tok).isSome := ⟨_, rfl⟩
  have h2 : (lk tab tok).elim (effV eff0) effV = effV x := by rw [hx]; cases lk tab tok <;> rfl
  unfold effO
  rw [← hx, ← hb]
  refine Ct.enter Try.func14 rfl Try.ntmps14 (by simp) (fun R => ?_)
  repeat' (first 
    | (refine ek_lookup ?_; refine EK_ev (Ev_lookupOk ky_tok rfl rfl xS h2 hb.symm) ?_)
    | refine xst ?_
    | (refine xsa ?_; intro _)
    | (refine xsb ?_ ?_ <;> intro _ <;> first | (exfalso; omega) | skip)
    | refine xsc ?_
    | fail)
  all_goals (refine is_ex ?_; exact KJ_done (by first | exact Or.inl rfl | exact Or.inr rfl) rfl (Rvs.agg (T := 40) rfl inferInstance inferInstance xS xC (Rvs.tmp rfl Rvs.nil)) () (by rfl) (xN))
theorem railAsked_ct (tok : List UInt8) (kind : Int) : Ct Try.prog W 15 [.pointer (some ⟨r, 0, none⟩), strV tok, .int .i64 kind] [RailH r N hs] (fun _ : Unit => .int .i64 (asked hs tok kind : Nat)) (fun _ => [RailH r N hs]) := by
  refine Ct_unpack (Hs := []) fun x => ?_
  obtain ⟨⟨⟨eb, cb⟩, tab, cnt⟩, hT, hC⟩ := x
  dsimp only at hT hC
  refine Ct_pack (F := fun _ : Unit => railF r N hs) (fun u : Unit => u) (fun _ => ⟨((eb, cb), tab, cnt), hT, hC⟩) ?_ (fun _ => rfl)
  rw [List.append_nil]
  show Ct _ _ _ _ (RailL r N eb cb tab cnt) _ (fun _ => RailL r N eb cb tab cnt)
  have h2 : (lk cnt (tok, kind)).elim (intV 0) intV = .int .i64 (asked hs tok kind : Nat) := by
    have := hC.2 tok kind
    rw [← this]; cases lk cnt (tok, kind) <;> rfl
  refine Ct.enter Try.func15 rfl Try.ntmps15 (by simp) (fun R => ?_)
  repeat' (first 
    | (refine ek_lookup ?_; refine EK_ev (Ev_lookup (a := (tok, kind)) ky_ask rfl rfl xS h2) ?_)
    | (refine ek_build ?_; refine EK_ev (Ev_build xV xW) ?_)
    | refine xst ?_
    | (refine xsa ?_; intro _)
    | (refine xsb ?_ ?_ <;> intro _ <;> first | (exfalso; omega) | skip)
    | refine xsc ?_
    | fail)
  all_goals (exact xdn ())
end
end Go.Proofs.Ytehheokalgmbgaa
