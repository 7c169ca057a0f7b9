/-
  RaL6.
-/
import Derived.Test.YtehheokalgmbgaaBBS
/-
  RailOnce (printed by genonce.py).
-/
namespace Go.Proofs.Ytehheokalgmbgaa
open Go Go.RowKit
section
variable {W : World} {r : Nat} {N : Int} {hs : RH}
set_option maxHeartbeats 4000000 in
set_option maxRecDepth 100000 in
theorem once24_ct (N : Int) (v : Value) (ops : List ROp) (hs : LsAt W ROp.cells 9 v ops) (hb : ops.length * 96 ≤ 140737488355328) : Ct Try.prog W 4 [.int .i64 N, v] [] (fun _ : Unit => .bool true) (fun _ => []) := by
  obtain ⟨a, c, rfl, hx⟩ := hs
  have cl := lives24_ct (W := W)
  have c1 := railNew_ct (W := W) N
  refine Ct.enter Try.func4 rfl Try.ntmps4 (by simp) (fun R => ?_)
  repeat' (first 
    | (refine is_call ?_; first | (refine KJ_call xE c1 xP rfl (fun r => ?_)) | (refine KJ_call xE cl xP rfl (fun _ => ?_)))
    | refine xst ?_
    | (refine xsa ?_; intro _)
    | (refine xsb ?_ ?_ <;> intro _ <;> first | (exfalso; omega) | skip)
    | refine xsc ?_
    | fail)
  refine KJ_loop (fun i : {i : Nat × RH // i.1 ≤ ops.length ∧ i.2.length ≤ i.1} => [(0, .int .i64 N), (5, .pointer (some ⟨r, 0, none⟩)), (22, .slice a ops.length c), (23, .int .i64 (ops.length : Nat)), (24, .int .i64 (i.1.1 : Nat))])
    (fun i => [RailH r N i.1.2] ++ R) (fun i => ops.length - i.1.1) ⟨(0, []), Nat.zero_le _, Nat.le_refl _⟩ xB (xN) (fun ⟨(i, hs), hi, hle⟩ => ?_)
  dsimp only at hi hle ⊢
  by_cases hlt : i < ops.length
  rotate_left
  · have ql : decide ((i : Int) < (ops.length : Nat)) = false := decide_eq_false (by omega)
    have c5 := railEffects_ct (W := W) (r := r) (N := N) (hs := hs) (by omega)
    have c6 := fun a c => listed24_ct (W := W) (r := r) (N := N) (hs := hs) (by omega) a c
    repeat' (first 
    | (refine is_call ?_; first | (refine KJ_call xE (c6 _ _) xP rfl (fun _ => ?_)) | (refine KJ_call xE c5 xP rfl (fun y1 => ?_)))
    | (refine ek_lss ?_; refine EK_ev (Ev_lssI_q rfl rfl ql) ?_)
    | refine xst ?_
    | (refine xsa ?_; intro _)
    | (refine xsb ?_ ?_ <;> intro _ <;> first | (exfalso; omega) | skip)
    | refine xsc ?_
    | fail)
    all_goals (exact xdn ())
  have ql : decide ((i : Int) < (ops.length : Nat)) = true := decide_eq_true (by omega)
  obtain ⟨⟨m, v, ask⟩, ho⟩ : ∃ s, ops[i]? = some s := ⟨_, List.getElem?_eq_getElem hlt⟩
  obtain ⟨b, of, rfl, -, hr⟩ := hx (by intro e; rw [e] at hlt; simp at hlt)
  have Hr : W.rangeAt b (of + Int.toNat (i : Int) * 9) (ROp.cells ⟨m, v, ask⟩) := by
    rw [Int.toNat_natCast, Nat.mul_comm i 9]; exact hr i _ ho
  dsimp only [ROp.cells] at Hr
  clear hr ho
  have hn := hear_len N hs m v
  have hnn : (hear N hs m v).length ≤ i + 1 := by omega
  have cw := railEffect_ct (W := W) (r := r) (N := N) (hs := hs) m.token
  have cn := railAsked_ct (W := W) (r := r) (N := N) (hs := hs) m.token m.kind
  have ch := railHandle_ct (W := W) (r := r) (N := N) (hs := hs) (by omega) m v
  have cx := railEffect_ct (W := W) (r := r) (N := N) (hs := hear N hs m v) m.token
  have ca := railAsked_ct (W := W) (r := r) (N := N) (hs := hear N hs m v) m.token m.kind
  have has := asked_hear (N := N) (hs := hs) (m := m) (v := v)
  have hal : asked hs m.token m.kind ≤ hs.length := List.length_filter_le _ _
  apply KJ_rest (fun K => ∀ hs' : RH, hs'.length ≤ i + 1 → KJ W 185 K [(0, .int .i64 N), (5, .pointer (some ⟨r, 0, none⟩)), (6, .int .i64 (i : Nat)), (22, .slice (some ⟨b, of, none⟩) ops.length c), (23, .int .i64 (ops.length : Nat)), (24, .int .i64 (i : Nat))] ([RailH r N hs'] ++ R))
  · intro rest
    cases hh : handled N m with
    | false =>
      rw [answer_no hh, hear_no hh] at ch
      rw [hear_no hh] at cx ca hnn
      rw [hear_no hh, if_neg (by rw [hh]; simp), Nat.add_zero] at has
      have hne : ((asked hs m.token m.kind : Nat) : Int) ≠ ((asked hs m.token m.kind : Nat) : Int) + 1 := by omega
      have hh2 : ¬ (m.rail = N ∧ 1 ≤ m.kind ∧ m.kind ≤ 3) := by simpa [handled] using hh
      have hxx : ∀ x : REff, (!decide (x = x)) = false := fun x => by simp
      unfold ansV at ch
      dsimp only [ansC] at ch
      rw [if_pos rfl] at ch
      rw [show decide ((0 : Int) ≠ 0) = false from rfl] at ch
      cases he : effect hs m.token with
      | some x =>
        rw [he] at cw cx
        dsimp only [effO, Option.getD_some, Option.isSome_some] at cw cx
        by_cases h1 : m.rail = N
        rotate_left
        · skip

          repeat' (first 
    | (refine at_seq_region (id := 20) ?_; exact KJ.weak (rest _ hnn) xB (xN))
    | (refine is_call ?_; first | (refine KJ_call xE cw xP rfl (fun _ => ?_)) | (refine KJ_call xE cn xP rfl (fun _ => ?_)) | (refine KJ_call xE ch xP rfl (fun _ => ?_)) | (refine KJ_call xE cx xP rfl (fun _ => ?_)) | (refine KJ_call xE ca xP rfl (fun _ => ?_)))
    | (refine ek_load ?_; refine EK_ev (Ev_loadAggOld rfl Hr) ?_)
    | (refine ek_add ?_; refine EK_ev (Ev_addI rfl rfl ⟨by omega, by omega⟩) ?_)
    | (refine ek_eql ?_; first | refine EK_ev (Ev_eqlI_f rfl rfl h1) ?_ | refine EK_ev (Ev_eqlI_f rfl rfl hne) ?_)
    | (refine ek_neq ?_; first | refine EK_ev (Ev_neqBw rfl rfl rfl) ?_ | refine EK_ev (Ev_neqSt rfl rfl (eff_eqF x x Try.underlying40) (hxx x)) ?_)
    | (refine ek_lss ?_; refine EK_ev (Ev_lssI_q rfl rfl ql) ?_)
    | refine xst ?_
    | (refine xsa ?_; intro _)
    | (refine xsb ?_ ?_ <;> intro _ <;> first | (exfalso; omega) | skip)
    | refine xsc ?_
    | fail)
        by_cases h2 : 1 ≤ m.kind
        rotate_left
        · skip

          repeat' (first 
    | (refine at_seq_region (id := 20) ?_; exact KJ.weak (rest _ hnn) xB (xN))
    | (refine is_call ?_; first | (refine KJ_call xE cw xP rfl (fun _ => ?_)) | (refine KJ_call xE cn xP rfl (fun _ => ?_)) | (refine KJ_call xE ch xP rfl (fun _ => ?_)) | (refine KJ_call xE cx xP rfl (fun _ => ?_)) | (refine KJ_call xE ca xP rfl (fun _ => ?_)))
    | (refine ek_load ?_; refine EK_ev (Ev_loadAggOld rfl Hr) ?_)
    | (refine ek_add ?_; refine EK_ev (Ev_addI rfl rfl ⟨by omega, by omega⟩) ?_)
    | (refine ek_eql ?_; first | refine EK_ev (Ev_eqlI_t rfl rfl h1) ?_ | refine EK_ev (Ev_eqlI_f rfl rfl hne) ?_)
    | (refine ek_neq ?_; first | refine EK_ev (Ev_neqBw rfl rfl rfl) ?_ | refine EK_ev (Ev_neqSt rfl rfl (eff_eqF x x Try.underlying40) (hxx x)) ?_)
    | (refine ek_lss ?_; refine EK_ev (Ev_lssI_q rfl rfl ql) ?_)
    | (refine ek_geq ?_; refine EK_ev (Ev_geqI_q rfl rfl (decide_eq_false h2)) ?_)
    | refine xst ?_
    | (refine xsa ?_; intro _)
    | (refine xsb ?_ ?_ <;> intro _ <;> first | (exfalso; omega) | skip)
    | refine xsc ?_
    | fail)
        have h3 : ¬ m.kind ≤ 3 := fun h => hh2 ⟨h1, h2, h⟩

        repeat' (first 
    | (refine at_seq_region (id := 20) ?_; exact KJ.weak (rest _ hnn) xB (xN))
    | (refine is_call ?_; first | (refine KJ_call xE cw xP rfl (fun _ => ?_)) | (refine KJ_call xE cn xP rfl (fun _ => ?_)) | (refine KJ_call xE ch xP rfl (fun _ => ?_)) | (refine KJ_call xE cx xP rfl (fun _ => ?_)) | (refine KJ_call xE ca xP rfl (fun _ => ?_)))
    | (refine ek_load ?_; refine EK_ev (Ev_loadAggOld rfl Hr) ?_)
    | (refine ek_add ?_; refine EK_ev (Ev_addI rfl rfl ⟨by omega, by omega⟩) ?_)
    | (refine ek_eql ?_; first | refine EK_ev (Ev_eqlI_t rfl rfl h1) ?_ | refine EK_ev (Ev_eqlI_f rfl rfl hne) ?_)
    | (refine ek_neq ?_; first | refine EK_ev (Ev_neqBw rfl rfl rfl) ?_ | refine EK_ev (Ev_neqSt rfl rfl (eff_eqF x x Try.underlying40) (hxx x)) ?_)
    | (refine ek_lss ?_; refine EK_ev (Ev_lssI_q rfl rfl ql) ?_)
    | (refine ek_leq ?_; refine EK_ev (Ev_leqI_q rfl rfl (decide_eq_false h3)) ?_)
    | (refine ek_geq ?_; refine EK_ev (Ev_geqI_q rfl rfl (decide_eq_true h2)) ?_)
    | refine xst ?_
    | (refine xsa ?_; intro _)
    | (refine xsb ?_ ?_ <;> intro _ <;> first | (exfalso; omega) | skip)
    | refine xsc ?_
    | fail)
      | none =>
        rw [he] at cw cx
        dsimp only [effO, Option.getD_none, Option.isSome_none] at cw cx
        by_cases h1 : m.rail = N
        rotate_left
        · skip

          repeat' (first 
    | (refine at_seq_region (id := 20) ?_; exact KJ.weak (rest _ hnn) xB (xN))
    | (refine is_call ?_; first | (refine KJ_call xE cw xP rfl (fun _ => ?_)) | (refine KJ_call xE cn xP rfl (fun _ => ?_)) | (refine KJ_call xE ch xP rfl (fun _ => ?_)) | (refine KJ_call xE cx xP rfl (fun _ => ?_)) | (refine KJ_call xE ca xP rfl (fun _ => ?_)))
    | (refine ek_load ?_; refine EK_ev (Ev_loadAggOld rfl Hr) ?_)
    | (refine ek_add ?_; refine EK_ev (Ev_addI rfl rfl ⟨by omega, by omega⟩) ?_)
    | (refine ek_eql ?_; first | refine EK_ev (Ev_eqlI_f rfl rfl h1) ?_ | refine EK_ev (Ev_eqlI_f rfl rfl hne) ?_)
    | (refine ek_neq ?_; refine EK_ev (Ev_neqBw rfl rfl rfl) ?_)
    | (refine ek_lss ?_; refine EK_ev (Ev_lssI_q rfl rfl ql) ?_)
    | refine xst ?_
    | (refine xsa ?_; intro _)
    | (refine xsb ?_ ?_ <;> intro _ <;> first | (exfalso; omega) | skip)
    | refine xsc ?_
    | fail)
        by_cases h2 : 1 ≤ m.kind
        rotate_left
        · skip

          repeat' (first 
    | (refine at_seq_region (id := 20) ?_; exact KJ.weak (rest _ hnn) xB (xN))
    | (refine is_call ?_; first | (refine KJ_call xE cw xP rfl (fun _ => ?_)) | (refine KJ_call xE cn xP rfl (fun _ => ?_)) | (refine KJ_call xE ch xP rfl (fun _ => ?_)) | (refine KJ_call xE cx xP rfl (fun _ => ?_)) | (refine KJ_call xE ca xP rfl (fun _ => ?_)))
    | (refine ek_load ?_; refine EK_ev (Ev_loadAggOld rfl Hr) ?_)
    | (refine ek_add ?_; refine EK_ev (Ev_addI rfl rfl ⟨by omega, by omega⟩) ?_)
    | (refine ek_eql ?_; first | refine EK_ev (Ev_eqlI_t rfl rfl h1) ?_ | refine EK_ev (Ev_eqlI_f rfl rfl hne) ?_)
    | (refine ek_neq ?_; refine EK_ev (Ev_neqBw rfl rfl rfl) ?_)
    | (refine ek_lss ?_; refine EK_ev (Ev_lssI_q rfl rfl ql) ?_)
    | (refine ek_geq ?_; refine EK_ev (Ev_geqI_q rfl rfl (decide_eq_false h2)) ?_)
    | refine xst ?_
    | (refine xsa ?_; intro _)
    | (refine xsb ?_ ?_ <;> intro _ <;> first | (exfalso; omega) | skip)
    | refine xsc ?_
    | fail)
        have h3 : ¬ m.kind ≤ 3 := fun h => hh2 ⟨h1, h2, h⟩

        repeat' (first 
    | (refine at_seq_region (id := 20) ?_; exact KJ.weak (rest _ hnn) xB (xN))
    | (refine is_call ?_; first | (refine KJ_call xE cw xP rfl (fun _ => ?_)) | (refine KJ_call xE cn xP rfl (fun _ => ?_)) | (refine KJ_call xE ch xP rfl (fun _ => ?_)) | (refine KJ_call xE cx xP rfl (fun _ => ?_)) | (refine KJ_call xE ca xP rfl (fun _ => ?_)))
    | (refine ek_load ?_; refine EK_ev (Ev_loadAggOld rfl Hr) ?_)
    | (refine ek_add ?_; refine EK_ev (Ev_addI rfl rfl ⟨by omega, by omega⟩) ?_)
    | (refine ek_eql ?_; first | refine EK_ev (Ev_eqlI_t rfl rfl h1) ?_ | refine EK_ev (Ev_eqlI_f rfl rfl hne) ?_)
    | (refine ek_neq ?_; refine EK_ev (Ev_neqBw rfl rfl rfl) ?_)
    | (refine ek_lss ?_; refine EK_ev (Ev_lssI_q rfl rfl ql) ?_)
    | (refine ek_leq ?_; refine EK_ev (Ev_leqI_q rfl rfl (decide_eq_false h3)) ?_)
    | (refine ek_geq ?_; refine EK_ev (Ev_geqI_q rfl rfl (decide_eq_true h2)) ?_)
    | refine xst ?_
    | (refine xsa ?_; intro _)
    | (refine xsb ?_ ?_ <;> intro _ <;> first | (exfalso; omega) | skip)
    | refine xsc ?_
    | fail)
    | true =>
      obtain ⟨h1, h2, h3⟩ : m.rail = N ∧ 1 ≤ m.kind ∧ m.kind ≤ 3 := by simpa [handled] using hh
      rw [if_pos hh] at has
      have haq : ((asked (hear N hs m v) m.token m.kind : Nat) : Int) = ((asked hs m.token m.kind : Nat) : Int) + 1 := by omega
      have hxx : ∀ x : REff, (!decide (x = x)) = false := fun x => by simp
      have g2 : decide (1 ≤ m.kind) = true := decide_eq_true h2
      have g3 : decide (m.kind ≤ 3) = true := decide_eq_true h3
      cases he : effect hs m.token with
      | some x =>
        have hes := hear_stays (N := N) (m := m) (v := v) he
        have han := answer_had (v := v) hh he
        have hnz := effect_nz he
        have cf := final24_ct (W := W) x.kind
        rw [final_effect he] at cf
        rw [he] at cw
        rw [hes] at cx
        rw [han] at ch
        dsimp only [effO, Option.getD_some, Option.isSome_some] at cw cx
        unfold ansV ansC at ch
        rw [if_neg hnz, decide_eq_true hnz] at ch

        repeat' (first 
    | (refine at_seq_region (id := 20) ?_; exact KJ.weak (rest _ hnn) xB (xN))
    | (refine is_call ?_; first | (refine KJ_call xE cf xP rfl (fun _ => ?_)) | (refine KJ_call xE cw xP rfl (fun _ => ?_)) | (refine KJ_call xE cn xP rfl (fun _ => ?_)) | (refine KJ_call xE ch xP rfl (fun _ => ?_)) | (refine KJ_call xE cx xP rfl (fun _ => ?_)) | (refine KJ_call xE ca xP rfl (fun _ => ?_)))
    | (refine ek_load ?_; refine EK_ev (Ev_loadAggOld rfl Hr) ?_)
    | (refine ek_add ?_; refine EK_ev (Ev_addI rfl rfl ⟨by omega, by omega⟩) ?_)
    | (refine ek_eql ?_; first | refine EK_ev (Ev_eqlI_t rfl rfl h1) ?_ | refine EK_ev (Ev_eqlI_t rfl rfl haq) ?_)
    | (refine ek_neq ?_; first | refine EK_ev (Ev_neqS_f rfl rfl rfl) ?_ | refine EK_ev (Ev_neqI_f rfl rfl rfl) ?_ | refine EK_ev (Ev_neqBw rfl rfl rfl) ?_ | refine EK_ev (Ev_neqSt rfl rfl (eff_eqF x x Try.underlying40) (hxx x)) ?_)
    | (refine ek_lss ?_; refine EK_ev (Ev_lssI_q rfl rfl ql) ?_)
    | (refine ek_leq ?_; refine EK_ev (Ev_leqI_q rfl rfl g3) ?_)
    | (refine ek_geq ?_; refine EK_ev (Ev_geqI_q rfl rfl g2) ?_)
    | refine xst ?_
    | (refine xsa ?_; intro _)
    | (refine xsb ?_ ?_ <;> intro _ <;> first | (exfalso; omega) | skip)
    | refine xsc ?_
    | fail)
      | none =>
        rw [he] at cw
        dsimp only [effO, Option.getD_none, Option.isSome_none] at cw
        cases hes : effect (hear N hs m v) m.token with
        | some x =>
          have han := answer_some (v := v) hh hes
          have hnz := effect_nz hes
          have cf := final24_ct (W := W) x.kind
          rw [final_effect hes] at cf
          rw [hes] at cx
          rw [han] at ch
          dsimp only [effO, Option.getD_some, Option.isSome_some] at cx
          unfold ansV ansC at ch
          rw [if_neg hnz, decide_eq_true hnz] at ch

          repeat' (first 
    | (refine at_seq_region (id := 20) ?_; exact KJ.weak (rest _ hnn) xB (xN))
    | (refine is_call ?_; first | (refine KJ_call xE cf xP rfl (fun _ => ?_)) | (refine KJ_call xE cw xP rfl (fun _ => ?_)) | (refine KJ_call xE cn xP rfl (fun _ => ?_)) | (refine KJ_call xE ch xP rfl (fun _ => ?_)) | (refine KJ_call xE cx xP rfl (fun _ => ?_)) | (refine KJ_call xE ca xP rfl (fun _ => ?_)))
    | (refine ek_load ?_; refine EK_ev (Ev_loadAggOld rfl Hr) ?_)
    | (refine ek_add ?_; refine EK_ev (Ev_addI rfl rfl ⟨by omega, by omega⟩) ?_)
    | (refine ek_eql ?_; first | refine EK_ev (Ev_eqlI_t rfl rfl h1) ?_ | refine EK_ev (Ev_eqlI_t rfl rfl haq) ?_)
    | (refine ek_neq ?_; first | refine EK_ev (Ev_neqS_f rfl rfl rfl) ?_ | refine EK_ev (Ev_neqI_f rfl rfl rfl) ?_ | refine EK_ev (Ev_neqBw rfl rfl rfl) ?_)
    | (refine ek_lss ?_; refine EK_ev (Ev_lssI_q rfl rfl ql) ?_)
    | (refine ek_leq ?_; refine EK_ev (Ev_leqI_q rfl rfl g3) ?_)
    | (refine ek_geq ?_; refine EK_ev (Ev_geqI_q rfl rfl g2) ?_)
    | refine xst ?_
    | (refine xsa ?_; intro _)
    | (refine xsb ?_ ?_ <;> intro _ <;> first | (exfalso; omega) | skip)
    | refine xsc ?_
    | fail)
        | none =>
          rw [hes] at cx
          dsimp only [effO, Option.getD_none, Option.isSome_none] at cx
          have hfin := answer_final (N := N) (hs := hs) (m := m) (v := v)
          rw [hes] at hfin
          obtain ⟨K, hK⟩ : ∃ K, K = answer N hs m v := ⟨_, rfl⟩
          rw [← hK] at ch hfin
          by_cases hk : K = 0
          · unfold ansV ansC at ch
            rw [if_pos hk, decide_eq_false (by simpa using hk)] at ch

            repeat' (first 
    | (refine at_seq_region (id := 20) ?_; exact KJ.weak (rest _ hnn) xB (xN))
    | (refine is_call ?_; first | (refine KJ_call xE cw xP rfl (fun _ => ?_)) | (refine KJ_call xE cn xP rfl (fun _ => ?_)) | (refine KJ_call xE ch xP rfl (fun _ => ?_)) | (refine KJ_call xE cx xP rfl (fun _ => ?_)) | (refine KJ_call xE ca xP rfl (fun _ => ?_)))
    | (refine ek_load ?_; refine EK_ev (Ev_loadAggOld rfl Hr) ?_)
    | (refine ek_add ?_; refine EK_ev (Ev_addI rfl rfl ⟨by omega, by omega⟩) ?_)
    | (refine ek_eql ?_; first | refine EK_ev (Ev_eqlI_t rfl rfl h1) ?_ | refine EK_ev (Ev_eqlI_t rfl rfl haq) ?_)
    | (refine ek_neq ?_; first | refine EK_ev (Ev_neqS_f rfl rfl rfl) ?_ | refine EK_ev (Ev_neqI_f rfl rfl rfl) ?_ | refine EK_ev (Ev_neqBw rfl rfl rfl) ?_)
    | (refine ek_lss ?_; refine EK_ev (Ev_lssI_q rfl rfl ql) ?_)
    | (refine ek_leq ?_; refine EK_ev (Ev_leqI_q rfl rfl g3) ?_)
    | (refine ek_geq ?_; refine EK_ev (Ev_geqI_q rfl rfl g2) ?_)
    | refine xst ?_
    | (refine xsa ?_; intro _)
    | (refine xsb ?_ ?_ <;> intro _ <;> first | (exfalso; omega) | skip)
    | refine xsc ?_
    | fail)
          · unfold ansV ansC at ch
            rw [if_neg hk, decide_eq_true hk] at ch
            have cf := final24_ct (W := W) K
            rw [hfin hk] at cf
            dsimp only [Option.isSome_none] at cf

            repeat' (first 
    | (refine at_seq_region (id := 20) ?_; exact KJ.weak (rest _ hnn) xB (xN))
    | (refine is_call ?_; first | (refine KJ_call xE cf xP rfl (fun _ => ?_)) | (refine KJ_call xE cw xP rfl (fun _ => ?_)) | (refine KJ_call xE cn xP rfl (fun _ => ?_)) | (refine KJ_call xE ch xP rfl (fun _ => ?_)) | (refine KJ_call xE cx xP rfl (fun _ => ?_)) | (refine KJ_call xE ca xP rfl (fun _ => ?_)))
    | (refine ek_load ?_; refine EK_ev (Ev_loadAggOld rfl Hr) ?_)
    | (refine ek_add ?_; refine EK_ev (Ev_addI rfl rfl ⟨by omega, by omega⟩) ?_)
    | (refine ek_eql ?_; first | refine EK_ev (Ev_eqlI_t rfl rfl h1) ?_ | refine EK_ev (Ev_eqlI_t rfl rfl haq) ?_)
    | (refine ek_neq ?_; first | refine EK_ev (Ev_neqS_f rfl rfl rfl) ?_ | refine EK_ev (Ev_neqI_f rfl rfl rfl) ?_ | refine EK_ev (Ev_neqBw rfl rfl rfl) ?_)
    | (refine ek_lss ?_; refine EK_ev (Ev_lssI_q rfl rfl ql) ?_)
    | (refine ek_leq ?_; refine EK_ev (Ev_leqI_q rfl rfl g3) ?_)
    | (refine ek_geq ?_; refine EK_ev (Ev_geqI_q rfl rfl g2) ?_)
    | refine xst ?_
    | (refine xsa ?_; intro _)
    | (refine xsb ?_ ?_ <;> intro _ <;> first | (exfalso; omega) | skip)
    | refine xsc ?_
    | fail)
  · intro hs' hle'
    have c5 := railEffects_ct (W := W) (r := r) (N := N) (hs := hs') (by omega)
    have c6 := fun a c => listed24_ct (W := W) (r := r) (N := N) (hs := hs') (by omega) a c
    by_cases h8 : (i : Int) % 8 = 0
    · repeat' (first 
    | (refine is_call ?_; first | (refine KJ_call xE (c6 _ _) xP rfl (fun _ => ?_)) | (refine KJ_call xE c5 xP rfl (fun y1 => ?_)))
    | (refine ek_add ?_; refine EK_ev (Ev_addI_v (r := ((i + 1 : Nat) : Int)) rfl rfl (by omega) (by omega)) ?_)
    | (refine ek_rem ?_; refine EK_ev (Ev_remI rfl rfl (by omega)) ?_)
    | (refine ek_eql ?_; refine EK_ev (Ev_eqlI_t rfl rfl h8) ?_)
    | refine xst ?_
    | (refine xsa ?_; intro _)
    | (refine xsb ?_ ?_ <;> intro _ <;> first | (exfalso; omega) | skip)
    | refine xsc ?_
    | fail)
      all_goals refine KJ_again ⟨(i + 1, hs'), hlt, hle'⟩ (by show ops.length - (i + 1) < ops.length - i; omega) xB (xN)
    · repeat' (first 
    | (refine ek_add ?_; refine EK_ev (Ev_addI_v (r := ((i + 1 : Nat) : Int)) rfl rfl (by omega) (by omega)) ?_)
    | (refine ek_rem ?_; refine EK_ev (Ev_remI rfl rfl (by omega)) ?_)
    | (refine ek_eql ?_; refine EK_ev (Ev_eqlI_f rfl rfl h8) ?_)
    | refine xst ?_
    | (refine xsa ?_; intro _)
    | (refine xsb ?_ ?_ <;> intro _ <;> first | (exfalso; omega) | skip)
    | refine xsc ?_
    | fail)
      all_goals refine KJ_again ⟨(i + 1, hs'), hlt, hle'⟩ (by show ops.length - (i + 1) < ops.length - i; omega) xB (xN)
end
end Go.Proofs.Ytehheokalgmbgaa
