/-
  WpW3.
-/
import Derived.Test.YtnbgcimalpdfoaaGreatDoorPEU
import Derived.Test.YtnbgcimalpdfoaaGreatDoorPCX
/-
  The document's windows (chapter 19): Used and Take of a row.
-/
namespace Go.Proofs.YtnbgcimalpdfoaaGreatDoor
open Go Go.RowKit
/-- what the document's Take answers -/
def takeV (o : Option (List UInt8)) (now span most amount : Int) : Value := match takeR o now span most amount with
  | none => .tuple #[strV [], .bool false, .int .i64 (takeE o now span most amount)]
  | some v => .tuple #[strV v, .bool true, .int .i64 0]
theorem takeV_none {o : Option (List UInt8)} {now span most amount : Int} (h : takeR o now span most amount = none) : takeV o now span most amount = .tuple #[strV [], .bool false, .int .i64 (takeE o now span most amount)] := by unfold takeV; rw [h]
theorem takeV_some {o : Option (List UInt8)} {now span most amount : Int} {v : List UInt8} (h : takeR o now span most amount = some v) : takeV o now span most amount = .tuple #[strV v, .bool true, .int .i64 0] := by unfold takeV; rw [h]
section
variable {W : World} {o : Option (List UInt8)} {now span most amount : Int}
instance fn_dused19 : FnIs Tryz.prog 21 := ⟨by kernel_rfl⟩
instance fn_dtake19 : FnIs Tryz.prog 19 := ⟨by kernel_rfl⟩
set_option maxHeartbeats 2000000 in
theorem dused19_ct (hn : now ≤ 9223372036854775807) : Ct Tryz.prog W 21 [strV (o.getD []), .bool o.isSome, .int .i64 now, .int .i64 span] [] (fun _ : Unit => .int .i64 (usedW o now span)) (fun _ => []) := by
  by_cases h1 : now < 0
  · have q1 : decide (now < 0) = true := decide_eq_true h1
    rw [show usedW o now span = 0 from if_pos (.inl h1)]
    refine Ct.enter Tryz.func21 rfl Tryz.ntmps21 (by simp) (fun R => ?_)
    repeat' (first 
    | (refine ek_lss ?_; refine EK_ev (Ev_lssI_q rfl rfl q1) ?_)
    | refine xst ?_
    | (refine xsa ?_; intro _)
    | (refine xsb ?_ ?_ <;> intro _ <;> first | (exfalso; omega) | skip)
    | refine xsc ?_
    | fail)
    all_goals (exact xdn ())
  have q1 : decide (now < 0) = false := decide_eq_false h1
  by_cases h2 : span < 1
  · have q2 : decide (span < 1) = true := decide_eq_true h2
    rw [show usedW o now span = 0 from if_pos (.inr h2)]
    refine Ct.enter Tryz.func21 rfl Tryz.ntmps21 (by simp) (fun R => ?_)
    repeat' (first 
    | (refine ek_lss ?_; first | refine EK_ev (Ev_lssI_q rfl rfl q2) ?_ | refine EK_ev (Ev_lssI_q rfl rfl q1) ?_)
    | refine xst ?_
    | (refine xsa ?_; intro _)
    | (refine xsb ?_ ?_ <;> intro _ <;> first | (exfalso; omega) | skip)
    | refine xsc ?_
    | fail)
    all_goals (exact xdn ())
  have q2 : decide (span < 1) = false := decide_eq_false h2
  cases o with
  | none =>
    rw [usedW_none]
    show Ct Tryz.prog W 21 [strV [], .bool false, .int .i64 now, .int .i64 span] [] (fun _ : Unit => .int .i64 0) (fun _ => [])
    refine Ct.enter Tryz.func21 rfl Tryz.ntmps21 (by simp) (fun R => ?_)
    repeat' (first 
    | (refine ek_lss ?_; first | refine EK_ev (Ev_lssI_q rfl rfl q2) ?_ | refine EK_ev (Ev_lssI_q rfl rfl q1) ?_)
    | refine xst ?_
    | (refine xsa ?_; intro _)
    | (refine xsb ?_ ?_ <;> intro _ <;> first | (exfalso; omega) | skip)
    | refine xsc ?_
    | fail)
    all_goals (exact xdn ())
  | some s =>
    show Ct Tryz.prog W 21 [strV s, .bool true, .int .i64 now, .int .i64 span] [] (fun _ : Unit => .int .i64 (usedW (some s) now span)) (fun _ => [])
    rw [usedW_some h1 h2]
    by_cases hs : s.length = 16
    rotate_left
    · have q3 : decide (((s.length : Nat) : Int) ≠ 16) = true := decide_eq_true (by omega)
      rw [if_pos hs]
      refine Ct.enter Tryz.func21 rfl Tryz.ntmps21 (by simp) (fun R => ?_)
      repeat' (first 
    | (refine ek_neq ?_; refine EK_ev (Ev_neqI_q rfl rfl q3) ?_)
    | (refine ek_lss ?_; first | refine EK_ev (Ev_lssI_q rfl rfl q2) ?_ | refine EK_ev (Ev_lssI_q rfl rfl q1) ?_)
    | refine xst ?_
    | (refine xsa ?_; intro _)
    | (refine xsb ?_ ?_ <;> intro _ <;> first | (exfalso; omega) | skip)
    | refine xsc ?_
    | fail)
      all_goals (exact xdn ())
    have q3 : decide (((s.length : Nat) : Int) ≠ 16) = false := decide_eq_false (by omega)
    rw [if_neg (by omega)]
    have c1 := dgetlow_ct (W := W) s 0 (by omega) (by omega)
    have c2 := dgetlow_ct (W := W) s 8 (by omega) (by omega)
    rw [show (s.drop 8).take 8 = s.drop 8 from List.take_of_length_le (by rw [List.length_drop]; omega)] at c2
    rw [List.drop_zero] at c1
    obtain ⟨v1, hv1⟩ : ∃ v, v = valB (s.take 8) := ⟨_, rfl⟩
    obtain ⟨v2, hv2⟩ : ∃ v, v = valB (s.drop 8) := ⟨_, rfl⟩
    rw [← hv1] at c1 ⊢
    rw [← hv2] at c2 ⊢
    clear hv1 hv2
    have c1 : Ct Tryz.prog W 67 [strV s, .int .i64 0, .int .i64 8] [] (fun _ : Unit => .tuple #[.int .u64 (v1 : Nat), .int .i64 8, .int .i64 0]) (fun _ => []) := c1
    have c2 : Ct Tryz.prog W 67 [strV s, .int .i64 8, .int .i64 8] [] (fun _ : Unit => .tuple #[.int .u64 (v2 : Nat), .int .i64 16, .int .i64 0]) (fun _ => []) := c2
    obtain ⟨w, hw⟩ : ∃ w, w = now / span := ⟨_, rfl⟩
    have hw0 : 0 ≤ w ∧ w ≤ now := by
      rw [hw]
      exact ⟨Int.ediv_nonneg (by omega) (by omega), Int.ediv_le_self _ (by omega)⟩
    have cw : IntKind.u64.wrap w = w := by
      obtain ⟨m, rfl⟩ := Int.eq_ofNat_of_zero_le hw0.1
      exact u64_wrap _ (by omega)
    rw [← hw]
    by_cases h4 : (v1 : Int) = w
    rotate_left
    · have q4 : decide ((v1 : Int) ≠ w) = true := decide_eq_true h4
      rw [if_pos (.inl h4)]
      refine Ct.enter Tryz.func21 rfl Tryz.ntmps21 (by simp) (fun R => ?_)
      repeat' (first 
    | (refine is_call ?_; first | (refine KJ_call xE c1 xP rfl (fun _ => ?_)) | (refine KJ_call xE c2 xP rfl (fun _ => ?_)))
    | (refine ek_conv ?_; refine EK_ev (Ev_convI_v rfl cw) ?_)
    | (refine ek_quo ?_; refine EK_ev (Ev_quo_w rfl rfl (by omega) hw.symm) ?_)
    | (refine ek_neq ?_; first | refine EK_ev (Ev_neqI_q rfl rfl q3) ?_ | refine EK_ev (Ev_neqI_q rfl rfl q4) ?_)
    | (refine ek_lss ?_; first | refine EK_ev (Ev_lssI_q rfl rfl q2) ?_ | refine EK_ev (Ev_lssI_q rfl rfl q1) ?_)
    | refine xst ?_
    | (refine xsa ?_; intro _)
    | (refine xsb ?_ ?_ <;> intro _ <;> first | (exfalso; omega) | skip)
    | refine xsc ?_
    | fail)
      all_goals (exact xdn ())
    have q4 : decide ((v1 : Int) ≠ w) = false := decide_eq_false (by omega)
    by_cases h3 : v2 ≤ 9223372036854775807
    rotate_left
    · have q5 : decide ((9223372036854775808 : Int) ≤ ((v2 : Nat) : Int)) = true := decide_eq_true (by omega)
      rw [if_pos (.inr (by omega))]
      refine Ct.enter Tryz.func21 rfl Tryz.ntmps21 (by simp) (fun R => ?_)
      repeat' (first 
    | (refine is_call ?_; first | (refine KJ_call xE c1 xP rfl (fun _ => ?_)) | (refine KJ_call xE c2 xP rfl (fun _ => ?_)))
    | (refine ek_conv ?_; refine EK_ev (Ev_convI_v rfl cw) ?_)
    | (refine ek_quo ?_; refine EK_ev (Ev_quo_w rfl rfl (by omega) hw.symm) ?_)
    | (refine ek_neq ?_; first | refine EK_ev (Ev_neqI_q rfl rfl q3) ?_ | refine EK_ev (Ev_neqI_q rfl rfl q4) ?_)
    | (refine ek_lss ?_; first | refine EK_ev (Ev_lssI_q rfl rfl q2) ?_ | refine EK_ev (Ev_lssI_q rfl rfl q1) ?_)
    | (refine ek_geq ?_; refine EK_ev (Ev_geqI_q rfl rfl q5) ?_)
    | refine xst ?_
    | (refine xsa ?_; intro _)
    | (refine xsb ?_ ?_ <;> intro _ <;> first | (exfalso; omega) | skip)
    | refine xsc ?_
    | fail)
      all_goals (exact xdn ())
    have q5 : decide ((9223372036854775808 : Int) ≤ ((v2 : Nat) : Int)) = false := decide_eq_false (by omega)
    have cv := i64_small h3
    rw [if_neg (by omega)]
    refine Ct.enter Tryz.func21 rfl Tryz.ntmps21 (by simp) (fun R => ?_)
    repeat' (first 
    | (refine is_call ?_; first | (refine KJ_call xE c1 xP rfl (fun _ => ?_)) | (refine KJ_call xE c2 xP rfl (fun _ => ?_)))
    | (refine ek_conv ?_; first | refine EK_ev (Ev_convI_v rfl cw) ?_ | refine EK_ev (Ev_convI_v rfl cv) ?_)
    | (refine ek_quo ?_; refine EK_ev (Ev_quo_w rfl rfl (by omega) hw.symm) ?_)
    | (refine ek_neq ?_; first | refine EK_ev (Ev_neqI_q rfl rfl q3) ?_ | refine EK_ev (Ev_neqI_q rfl rfl q4) ?_)
    | (refine ek_lss ?_; first | refine EK_ev (Ev_lssI_q rfl rfl q2) ?_ | refine EK_ev (Ev_lssI_q rfl rfl q1) ?_)
    | (refine ek_geq ?_; refine EK_ev (Ev_geqI_q rfl rfl q5) ?_)
    | refine xst ?_
    | (refine xsa ?_; intro _)
    | (refine xsb ?_ ?_ <;> intro _ <;> first | (exfalso; omega) | skip)
    | refine xsc ?_
    | fail)
    all_goals (exact xdn ())
set_option maxHeartbeats 2000000 in
theorem dtake19_ct (hn : now ≤ 9223372036854775807) (hm : most ≤ 9223372036854775807) : Ct Tryz.prog W 19 [strV (o.getD []), .bool o.isSome, .int .i64 now, .int .i64 span, .int .i64 most, .int .i64 amount] [] (fun _ : Unit => takeV o now span most amount) (fun _ => []) := by
  have cu := dused19_ct (W := W) (o := o) (span := span) hn
  have hub := usedW_le o now span
  obtain ⟨row, hrow⟩ : ∃ x, x = o.getD [] := ⟨_, rfl⟩
  obtain ⟨th, hth⟩ : ∃ x, x = o.isSome := ⟨_, rfl⟩
  rw [← hrow, ← hth] at cu ⊢
  cases h : takeR o now span most amount with
  | none =>
    rw [takeV_none h]
    rcases takeE_none h with ⟨h1, he⟩ | ⟨h1, h2, h3, he⟩ | ⟨h1, h2, h3, h4, he⟩ | ⟨h1, h2, h3, h4, h5, he⟩
    · rw [he]
      by_cases h6 : most < 1
      · have q1 : decide (most < 1) = true := decide_eq_true h6
        refine Ct.enter Tryz.func19 rfl Tryz.ntmps19 (by simp) (fun R => ?_)
        repeat' (first 
    | (refine ek_lss ?_; refine EK_ev (Ev_lssI_q rfl rfl q1) ?_)
    | refine xst ?_
    | (refine xsa ?_; intro _)
    | (refine xsb ?_ ?_ <;> intro _ <;> first | (exfalso; omega) | skip)
    | refine xsc ?_
    | fail)
        all_goals (exact xdn ())
      · have q1 : decide (most < 1) = false := decide_eq_false h6
        have q2 : decide (span < 1) = true := decide_eq_true (by omega)
        refine Ct.enter Tryz.func19 rfl Tryz.ntmps19 (by simp) (fun R => ?_)
        repeat' (first 
    | (refine ek_lss ?_; first | refine EK_ev (Ev_lssI_q rfl rfl q2) ?_ | refine EK_ev (Ev_lssI_q rfl rfl q1) ?_)
    | refine xst ?_
    | (refine xsa ?_; intro _)
    | (refine xsb ?_ ?_ <;> intro _ <;> first | (exfalso; omega) | skip)
    | refine xsc ?_
    | fail)
        all_goals (exact xdn ())
    · rw [he]
      have q1 : decide (most < 1) = false := decide_eq_false h1
      have q2 : decide (span < 1) = false := decide_eq_false h2
      have q3 : decide (now < 0) = true := decide_eq_true h3
      refine Ct.enter Tryz.func19 rfl Tryz.ntmps19 (by simp) (fun R => ?_)
      repeat' (first 
    | (refine ek_lss ?_; first | refine EK_ev (Ev_lssI_q rfl rfl q3) ?_ | refine EK_ev (Ev_lssI_q rfl rfl q2) ?_ | refine EK_ev (Ev_lssI_q rfl rfl q1) ?_)
    | refine xst ?_
    | (refine xsa ?_; intro _)
    | (refine xsb ?_ ?_ <;> intro _ <;> first | (exfalso; omega) | skip)
    | refine xsc ?_
    | fail)
      all_goals (exact xdn ())
    · rw [he]
      have q1 : decide (most < 1) = false := decide_eq_false h1
      have q2 : decide (span < 1) = false := decide_eq_false h2
      have q3 : decide (now < 0) = false := decide_eq_false h3
      have q4 : decide (amount < 0) = true := decide_eq_true h4
      refine Ct.enter Tryz.func19 rfl Tryz.ntmps19 (by simp) (fun R => ?_)
      repeat' (first 
    | (refine ek_lss ?_; first | refine EK_ev (Ev_lssI_q rfl rfl q4) ?_ | refine EK_ev (Ev_lssI_q rfl rfl q3) ?_ | refine EK_ev (Ev_lssI_q rfl rfl q2) ?_ | refine EK_ev (Ev_lssI_q rfl rfl q1) ?_)
    | refine xst ?_
    | (refine xsa ?_; intro _)
    | (refine xsb ?_ ?_ <;> intro _ <;> first | (exfalso; omega) | skip)
    | refine xsc ?_
    | fail)
      all_goals (exact xdn ())
    · rw [he]
      obtain ⟨u, hu⟩ : ∃ u, u = usedW o now span := ⟨_, rfl⟩
      rw [← hu] at cu h5 hub
      have q1 : decide (most < 1) = false := decide_eq_false h1
      have q2 : decide (span < 1) = false := decide_eq_false h2
      have q3 : decide (now < 0) = false := decide_eq_false h3
      have q4 : decide (amount < 0) = false := decide_eq_false h4
      by_cases h6 : most < u
      · have q5 : decide (most < u) = true := decide_eq_true h6
        refine Ct.enter Tryz.func19 rfl Tryz.ntmps19 (by simp) (fun R => ?_)
        repeat' (first 
    | (refine is_call ?_; refine KJ_call xE cu xP rfl (fun _ => ?_))
    | (refine ek_lss ?_; first | refine EK_ev (Ev_lssI_q rfl rfl q4) ?_ | refine EK_ev (Ev_lssI_q rfl rfl q3) ?_ | refine EK_ev (Ev_lssI_q rfl rfl q2) ?_ | refine EK_ev (Ev_lssI_q rfl rfl q1) ?_)
    | (refine ek_gtr ?_; refine EK_ev (Ev_gtrI_q rfl rfl q5) ?_)
    | refine xst ?_
    | (refine xsa ?_; intro _)
    | (refine xsb ?_ ?_ <;> intro _ <;> first | (exfalso; omega) | skip)
    | refine xsc ?_
    | fail)
        all_goals (exact xdn ())
      · have q5 : decide (most < u) = false := decide_eq_false h6
        have q6 : decide (most - u < amount) = true := decide_eq_true (by omega)
        refine Ct.enter Tryz.func19 rfl Tryz.ntmps19 (by simp) (fun R => ?_)
        repeat' (first 
    | (refine is_call ?_; refine KJ_call xE cu xP rfl (fun _ => ?_))
    | (refine ek_sub ?_; refine EK_ev (Ev_subI_v rfl rfl rfl (by omega)) ?_)
    | (refine ek_lss ?_; first | refine EK_ev (Ev_lssI_q rfl rfl q4) ?_ | refine EK_ev (Ev_lssI_q rfl rfl q3) ?_ | refine EK_ev (Ev_lssI_q rfl rfl q2) ?_ | refine EK_ev (Ev_lssI_q rfl rfl q1) ?_)
    | (refine ek_gtr ?_; first | refine EK_ev (Ev_gtrI_q rfl rfl q6) ?_ | refine EK_ev (Ev_gtrI_q rfl rfl q5) ?_)
    | refine xst ?_
    | (refine xsa ?_; intro _)
    | (refine xsb ?_ ?_ <;> intro _ <;> first | (exfalso; omega) | skip)
    | refine xsc ?_
    | fail)
        all_goals (exact xdn ())
  | some val =>
    rw [takeV_some h]
    obtain ⟨h1, h2, h3, h4, h5, h6, hv⟩ := takeR_some h
    obtain ⟨u, hu⟩ : ∃ u, u = usedW o now span := ⟨_, rfl⟩
    rw [← hu] at cu h6 hub hv
    obtain ⟨w, hw⟩ : ∃ w, w = now / span := ⟨_, rfl⟩
    rw [← hw] at hv
    have hw0 : 0 ≤ w ∧ w ≤ now := by
      rw [hw]
      exact ⟨Int.ediv_nonneg (by omega) (by omega), Int.ediv_le_self _ (by omega)⟩
    obtain ⟨v1, hv1⟩ := Int.eq_ofNat_of_zero_le hw0.1
    obtain ⟨v2, hv2⟩ := Int.eq_ofNat_of_zero_le (show 0 ≤ u + amount by omega)
    rw [hv1, hv2, Int.toNat_natCast, Int.toNat_natCast] at hv
    have cr := drow19_ct (W := W) v1 v2 (by omega) (by omega)
    rw [← hv] at cr
    have hq : now / span = ((v1 : Nat) : Int) := by rw [← hw, hv1]
    have q1 : decide (most < 1) = false := decide_eq_false h1
    have q2 : decide (span < 1) = false := decide_eq_false h2
    have q3 : decide (now < 0) = false := decide_eq_false h3
    have q4 : decide (amount < 0) = false := decide_eq_false h4
    have q5 : decide (most < u) = false := decide_eq_false (by omega)
    have q6 : decide (most - u < amount) = false := decide_eq_false (by omega)
    clear hv h hu
    refine Ct.enter Tryz.func19 rfl Tryz.ntmps19 (by simp) (fun R => ?_)
    repeat' (first 
    | (refine is_call ?_; first | (refine KJ_call xE cr xP rfl (fun _ => ?_)) | (refine KJ_call xE cu xP rfl (fun _ => ?_)))
    | (refine ek_add ?_; refine EK_ev (Ev_addI_v (r := ((v2 : Nat) : Int)) rfl rfl hv2 (by omega)) ?_)
    | (refine ek_sub ?_; refine EK_ev (Ev_subI_v rfl rfl rfl (by omega)) ?_)
    | (refine ek_quo ?_; refine EK_ev (Ev_quo_w rfl rfl (by omega) hq) ?_)
    | (refine ek_lss ?_; first | refine EK_ev (Ev_lssI_q rfl rfl q4) ?_ | refine EK_ev (Ev_lssI_q rfl rfl q3) ?_ | refine EK_ev (Ev_lssI_q rfl rfl q2) ?_ | refine EK_ev (Ev_lssI_q rfl rfl q1) ?_)
    | (refine ek_gtr ?_; first | refine EK_ev (Ev_gtrI_q rfl rfl q6) ?_ | refine EK_ev (Ev_gtrI_q rfl rfl q5) ?_)
    | refine xst ?_
    | (refine xsa ?_; intro _)
    | (refine xsb ?_ ?_ <;> intro _ <;> first | (exfalso; omega) | skip)
    | refine xsc ?_
    | fail)
    all_goals (exact xdn ())
end
end Go.Proofs.YtnbgcimalpdfoaaGreatDoor
