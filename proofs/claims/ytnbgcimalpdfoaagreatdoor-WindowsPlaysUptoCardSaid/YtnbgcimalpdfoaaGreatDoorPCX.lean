/-
  WiW2, WiW3.
-/
import Derived.Test.YtnbgcimalpdfoaaGreatDoorPCO
import Derived.Test.YtnbgcimalpdfoaaGreatDoorPCQ
import Derived.Test.YtnbgcimalpdfoaaGreatDoorPCV
/-
  The package windows: Used, Take.
-/
namespace Go.Proofs.YtnbgcimalpdfoaaGreatDoor
open Go Go.RowKit
theorem i64_small {x : Nat} (h : x ≤ 9223372036854775807) : IntKind.i64.wrap ((x : Nat) : Int) = (x : Nat) := i64_wrap _ ⟨by omega, by omega⟩
theorem usedW_some {now span : Int} (h1 : ¬ now < 0) (h2 : ¬ span < 1) (s : List UInt8) : usedW (some s) now span = if s.length ≠ 16 then 0 else if (valB (s.take 8) : Int) ≠ now / span ∨ 9223372036854775808 ≤ valB (s.drop 8) then 0 else (valB (s.drop 8) : Int) := if_neg (by omega)
section
variable {W : World} {F : Nat → Addr} {t : Nat} {T : SP} {acc : List UInt8} {o : Option (List UInt8)} {now span most amount : Int}
set_option maxHeartbeats 2000000 in
theorem wiused_ct (ha : acc.length ≤ 1099511627776) (hn : now ≤ 9223372036854775807) (cg : Ct Tryz.prog W 24 [.pointer (some ⟨t, 0, none⟩), strV (wKey acc)] [T] (fun _ : Unit => .tuple #[strV (o.getD []), .bool o.isSome]) (fun _ => [T])) :
    Ct Tryz.prog W 13 [.pointer (some ⟨t, 0, none⟩), strV acc, .int .i64 now, .int .i64 span] [T] (fun _ : Unit => .int .i64 (usedW o now span)) (fun _ => [T]) := by
  have cr := wirow_ct (W := W) ha cg
  by_cases h1 : now < 0
  · have q1 : decide (now < 0) = true := decide_eq_true h1
    rw [show usedW o now span = 0 from if_pos (.inl h1)]
    refine Ct.enter Tryz.func13 rfl Tryz.ntmps13 (by simp) (fun R => ?_)
    repeat' (first 
    | (refine ek_lss ?_; refine EK_ev (Ev_lssI_q rfl rfl q1) ?_)
    | refine xst ?_
    | (refine xsa ?_; intro _)
    | (refine xsb ?_ ?_ <;> intro _ <;> first | (exfalso; omega) | skip)
    | refine xsc ?_
    | fail)
    all_goals (exact xdn ())
  have q1 : decide (now < 0) = false := decide_eq_false h1
  by_cases h2 : span < 1
  · have q2 : decide (span < 1) = true := decide_eq_true h2
    rw [show usedW o now span = 0 from if_pos (.inr h2)]
    refine Ct.enter Tryz.func13 rfl Tryz.ntmps13 (by simp) (fun R => ?_)
    repeat' (first 
    | (refine ek_lss ?_; first | refine EK_ev (Ev_lssI_q rfl rfl q2) ?_ | refine EK_ev (Ev_lssI_q rfl rfl q1) ?_)
    | refine xst ?_
    | (refine xsa ?_; intro _)
    | (refine xsb ?_ ?_ <;> intro _ <;> first | (exfalso; omega) | skip)
    | refine xsc ?_
    | fail)
    all_goals (exact xdn ())
  have q2 : decide (span < 1) = false := decide_eq_false h2
  cases o with
  | none =>
    rw [usedW_none]
    have cr : Ct Tryz.prog W 58 [.pointer (some ⟨t, 0, none⟩), strV acc] [T] (fun _ : Unit => .tuple #[.int .u64 0, .int .i64 0, .bool false]) (fun _ => [T]) := cr
    refine Ct.enter Tryz.func13 rfl Tryz.ntmps13 (by simp) (fun R => ?_)
    repeat' (first 
    | (refine is_call ?_; refine KJ_call xE cr xP rfl (fun _ => ?_))
    | (refine ek_lss ?_; first | refine EK_ev (Ev_lssI_q rfl rfl q2) ?_ | refine EK_ev (Ev_lssI_q rfl rfl q1) ?_)
    | refine xst ?_
    | (refine xsa ?_; intro _)
    | (refine xsb ?_ ?_ <;> intro _ <;> first | (exfalso; omega) | skip)
    | refine xsc ?_
    | fail)
    all_goals (exact xdn ())
  | some s =>
    rw [usedW_some h1 h2]
    by_cases hs : s.length = 16
    rotate_left
    · have cr : Ct Tryz.prog W 58 [.pointer (some ⟨t, 0, none⟩), strV acc] [T] (fun _ : Unit => .tuple #[.int .u64 0, .int .i64 0, .bool false]) (fun _ => [T]) := by
        rw [show rowV (some s) = .tuple #[.int .u64 0, .int .i64 0, .bool false] from if_pos hs] at cr
        exact cr
      rw [if_pos hs]
      refine Ct.enter Tryz.func13 rfl Tryz.ntmps13 (by simp) (fun R => ?_)
      repeat' (first 
    | (refine is_call ?_; refine KJ_call xE cr xP rfl (fun _ => ?_))
    | (refine ek_lss ?_; first | refine EK_ev (Ev_lssI_q rfl rfl q2) ?_ | refine EK_ev (Ev_lssI_q rfl rfl q1) ?_)
    | refine xst ?_
    | (refine xsa ?_; intro _)
    | (refine xsb ?_ ?_ <;> intro _ <;> first | (exfalso; omega) | skip)
    | refine xsc ?_
    | fail)
      all_goals (exact xdn ())
    rw [show rowV (some s) = .tuple #[.int .u64 (valB (s.take 8) : Nat), .int .i64 (IntKind.i64.wrap (valB (s.drop 8) : Nat)), .bool (decide (((valB (s.drop 8) : Nat) : Int) ≤ 9223372036854775807))] from if_neg (by omega)] at cr
    rw [if_neg (by omega)]
    obtain ⟨v1, hv1⟩ : ∃ v, v = valB (s.take 8) := ⟨_, rfl⟩
    obtain ⟨v2, hv2⟩ : ∃ v, v = valB (s.drop 8) := ⟨_, rfl⟩
    rw [← hv1, ← hv2] at cr ⊢
    clear hv1 hv2
    by_cases h3 : v2 ≤ 9223372036854775807
    rotate_left
    · rw [decide_eq_false (by omega)] at cr
      rw [if_pos (.inr (by omega))]
      obtain ⟨w2, hw2⟩ : ∃ v, v = IntKind.i64.wrap ((v2 : Nat) : Int) := ⟨_, rfl⟩
      rw [← hw2] at cr
      refine Ct.enter Tryz.func13 rfl Tryz.ntmps13 (by simp) (fun R => ?_)
      repeat' (first 
    | (refine is_call ?_; refine KJ_call xE cr xP rfl (fun _ => ?_))
    | (refine ek_lss ?_; first | refine EK_ev (Ev_lssI_q rfl rfl q2) ?_ | refine EK_ev (Ev_lssI_q rfl rfl q1) ?_)
    | refine xst ?_
    | (refine xsa ?_; intro _)
    | (refine xsb ?_ ?_ <;> intro _ <;> first | (exfalso; omega) | skip)
    | refine xsc ?_
    | fail)
      all_goals (exact xdn ())
    rw [decide_eq_true (by omega), i64_small h3] at cr
    obtain ⟨w, hw⟩ : ∃ w, w = now / span := ⟨_, rfl⟩
    have hw0 : 0 ≤ w ∧ w ≤ now := by
      rw [hw]
      exact ⟨Int.ediv_nonneg (by omega) (by omega), Int.ediv_le_self _ (by omega)⟩
    have cw : IntKind.u64.wrap w = w := by
      obtain ⟨m, rfl⟩ := Int.eq_ofNat_of_zero_le hw0.1
      exact u64_wrap _ (by omega)
    rw [← hw]
    by_cases h4 : (v1 : Int) = w
    · have q4 : decide ((v1 : Int) ≠ w) = false := decide_eq_false (by omega)
      rw [if_neg (by omega)]
      refine Ct.enter Tryz.func13 rfl Tryz.ntmps13 (by simp) (fun R => ?_)
      repeat' (first 
    | (refine is_call ?_; refine KJ_call xE cr xP rfl (fun _ => ?_))
    | (refine ek_conv ?_; refine EK_ev (Ev_convI_v rfl cw) ?_)
    | (refine ek_quo ?_; refine EK_ev (Ev_quo_w rfl rfl (by omega) hw.symm) ?_)
    | (refine ek_neq ?_; refine EK_ev (Ev_neqI_q rfl rfl q4) ?_)
    | (refine ek_lss ?_; first | refine EK_ev (Ev_lssI_q rfl rfl q2) ?_ | refine EK_ev (Ev_lssI_q rfl rfl q1) ?_)
    | refine xst ?_
    | (refine xsa ?_; intro _)
    | (refine xsb ?_ ?_ <;> intro _ <;> first | (exfalso; omega) | skip)
    | refine xsc ?_
    | fail)
      all_goals (exact xdn ())
    · have q4 : decide ((v1 : Int) ≠ w) = true := decide_eq_true h4
      rw [if_pos (.inl h4)]
      refine Ct.enter Tryz.func13 rfl Tryz.ntmps13 (by simp) (fun R => ?_)
      repeat' (first 
    | (refine is_call ?_; refine KJ_call xE cr xP rfl (fun _ => ?_))
    | (refine ek_conv ?_; refine EK_ev (Ev_convI_v rfl cw) ?_)
    | (refine ek_quo ?_; refine EK_ev (Ev_quo_w rfl rfl (by omega) hw.symm) ?_)
    | (refine ek_neq ?_; refine EK_ev (Ev_neqI_q rfl rfl q4) ?_)
    | (refine ek_lss ?_; first | refine EK_ev (Ev_lssI_q rfl rfl q2) ?_ | refine EK_ev (Ev_lssI_q rfl rfl q1) ?_)
    | refine xst ?_
    | (refine xsa ?_; intro _)
    | (refine xsb ?_ ?_ <;> intro _ <;> first | (exfalso; omega) | skip)
    | refine xsc ?_
    | fail)
      all_goals (exact xdn ())
end
end Go.Proofs.YtnbgcimalpdfoaaGreatDoor
/-
  The package windows: Take.
-/
namespace Go.Proofs.YtnbgcimalpdfoaaGreatDoor
open Go Go.RowKit
section
variable {W : World} {F : Nat → Addr} {t : Nat} {T : SP} {acc : List UInt8} {o : Option (List UInt8)} {now span most amount : Int}
instance fn_witake : FnIs Tryz.prog 14 := ⟨by kernel_rfl⟩
/-- what Take puts, in bytes -/
theorem takeR_some {o : Option (List UInt8)} {now span most amount : Int} {val : List UInt8} (h : takeR o now span most amount = some val) : ¬ most < 1 ∧ ¬ span < 1 ∧ ¬ now < 0 ∧ ¬ amount < 0 ∧ ¬ most < amount ∧ ¬ most - amount < usedW o now span ∧ val = rowW (now / span).toNat (usedW o now span + amount).toNat := by
  unfold takeR at h
  split at h
  · cases h
  split at h
  · cases h
  split at h
  · cases h
  split at h
  · cases h
  have h := (Option.some.inj h).symm
  exact ⟨by omega, by omega, by omega, by omega, by omega, by omega, h⟩
theorem takeE_none {o : Option (List UInt8)} {now span most amount : Int} (h : takeR o now span most amount = none) :
    ((most < 1 ∨ span < 1) ∧ takeE o now span most amount = 0) ∨ (¬ most < 1 ∧ ¬ span < 1 ∧ now < 0 ∧ takeE o now span most amount = 33) ∨ (¬ most < 1 ∧ ¬ span < 1 ∧ ¬ now < 0 ∧ amount < 0 ∧ takeE o now span most amount = 9) ∨
    (¬ most < 1 ∧ ¬ span < 1 ∧ ¬ now < 0 ∧ ¬ amount < 0 ∧ (most < amount ∨ most - amount < usedW o now span) ∧ takeE o now span most amount = 30) := by
  unfold takeR at h
  unfold takeE
  split at h
  · rename_i h1; rw [if_pos h1]; exact .inl ⟨h1, rfl⟩
  rename_i h1
  rw [if_neg h1]
  split at h
  · rename_i h2; rw [if_pos h2]; exact .inr (.inl ⟨by omega, by omega, h2, rfl⟩)
  rename_i h2
  rw [if_neg h2]
  split at h
  · rename_i h3; rw [if_pos h3]; exact .inr (.inr (.inl ⟨by omega, by omega, h2, h3, rfl⟩))
  rename_i h3
  rw [if_neg h3]
  split at h
  · rename_i h4; rw [if_pos h4]; exact .inr (.inr (.inr ⟨by omega, by omega, h2, h3, h4, rfl⟩))
  · cases h
set_option maxHeartbeats 2000000 in
theorem witake_no (hE : ErrsOn L37 W F) (ha : acc.length ≤ 1099511627776) (hn : now ≤ 9223372036854775807) (hm : most ≤ 9223372036854775807) (cg : Ct Tryz.prog W 24 [.pointer (some ⟨t, 0, none⟩), strV (wKey acc)] [T] (fun _ : Unit => .tuple #[strV (o.getD []), .bool o.isSome]) (fun _ => [T])) (h : takeR o now span most amount = none) :
    Ct Tryz.prog W 14 [.pointer (some ⟨t, 0, none⟩), strV acc, .int .i64 now, .int .i64 span, .int .i64 most, .int .i64 amount] [T] (fun _ : Unit => errV F (takeE o now span most amount)) (fun _ => [T]) := by
  have e9 : W.cell? ⟨1, 0, none⟩ = some (errV F 9) := hE.at_ 9 (by decide)
  have e30 : W.cell? ⟨2, 0, none⟩ = some (errV F 30) := hE.at_ 30 (by decide)
  have e33 : W.cell? ⟨0, 0, none⟩ = some (errV F 33) := hE.at_ 33 (by decide)
  have cu := wiused_ct (W := W) (span := span) ha hn cg
  have hub := usedW_le o now span
  rcases takeE_none h with ⟨h1, he⟩ | ⟨h1, h2, h3, he⟩ | ⟨h1, h2, h3, h4, he⟩ | ⟨h1, h2, h3, h4, h5, he⟩
  · rw [he]
    by_cases h6 : most < 1
    · have q1 : decide (most < 1) = true := decide_eq_true h6
      refine Ct.enter Tryz.func14 rfl Tryz.ntmps14 (by simp) (fun R => ?_)
      repeat' (first 
    | (refine ek_lss ?_; refine EK_ev (Ev_lssI_q rfl rfl q1) ?_)
    | refine xst ?_
    | (refine xsa ?_; intro _)
    | (refine xsb ?_ ?_ <;> intro _ <;> first | (exfalso; omega) | skip)
    | refine xsc ?_
    | fail)
      all_goals (exact xdn ())
    · have q1 : decide (most < 1) = false := decide_eq_false h6
      have q2 : decide (span < 1) = true := decide_eq_true (by omega)
      refine Ct.enter Tryz.func14 rfl Tryz.ntmps14 (by simp) (fun R => ?_)
      repeat' (first 
    | (refine ek_lss ?_; first | refine EK_ev (Ev_lssI_q rfl rfl q2) ?_ | refine EK_ev (Ev_lssI_q rfl rfl q1) ?_)
    | refine xst ?_
    | (refine xsa ?_; intro _)
    | (refine xsb ?_ ?_ <;> intro _ <;> first | (exfalso; omega) | skip)
    | refine xsc ?_
    | fail)
      all_goals (exact xdn ())
  · rw [he]
    have q1 : decide (most < 1) = false := decide_eq_false h1
    have q2 : decide (span < 1) = false := decide_eq_false h2
    have q3 : decide (now < 0) = true := decide_eq_true h3
    refine Ct.enter Tryz.func14 rfl Tryz.ntmps14 (by simp) (fun R => ?_)
    repeat' (first 
    | (refine ek_load ?_; refine EK_ev (Ev_loadOld rfl e33) ?_)
    | (refine ek_lss ?_; first | refine EK_ev (Ev_lssI_q rfl rfl q3) ?_ | refine EK_ev (Ev_lssI_q rfl rfl q2) ?_ | refine EK_ev (Ev_lssI_q rfl rfl q1) ?_)
    | refine xst ?_
    | (refine xsa ?_; intro _)
    | (refine xsb ?_ ?_ <;> intro _ <;> first | (exfalso; omega) | skip)
    | refine xsc ?_
    | fail)
    all_goals (exact xdn ())
  · rw [he]
    have q1 : decide (most < 1) = false := decide_eq_false h1
    have q2 : decide (span < 1) = false := decide_eq_false h2
    have q3 : decide (now < 0) = false := decide_eq_false h3
    have q4 : decide (amount < 0) = true := decide_eq_true h4
    refine Ct.enter Tryz.func14 rfl Tryz.ntmps14 (by simp) (fun R => ?_)
    repeat' (first 
    | (refine ek_load ?_; refine EK_ev (Ev_loadOld rfl e9) ?_)
    | (refine ek_lss ?_; first | refine EK_ev (Ev_lssI_q rfl rfl q4) ?_ | refine EK_ev (Ev_lssI_q rfl rfl q3) ?_ | refine EK_ev (Ev_lssI_q rfl rfl q2) ?_ | refine EK_ev (Ev_lssI_q rfl rfl q1) ?_)
    | refine xst ?_
    | (refine xsa ?_; intro _)
    | (refine xsb ?_ ?_ <;> intro _ <;> first | (exfalso; omega) | skip)
    | refine xsc ?_
    | fail)
    all_goals (exact xdn ())
  · rw [he]
    obtain ⟨u, hu⟩ : ∃ u, u = usedW o now span := ⟨_, rfl⟩
    rw [← hu] at cu h5 hub
    have q1 : decide (most < 1) = false := decide_eq_false h1
    have q2 : decide (span < 1) = false := decide_eq_false h2
    have q3 : decide (now < 0) = false := decide_eq_false h3
    have q4 : decide (amount < 0) = false := decide_eq_false h4
    by_cases h6 : most < amount
    · have q5 : decide (most < amount) = true := decide_eq_true h6
      refine Ct.enter Tryz.func14 rfl Tryz.ntmps14 (by simp) (fun R => ?_)
      repeat' (first 
    | (refine is_call ?_; refine KJ_call xE cu xP rfl (fun _ => ?_))
    | (refine ek_load ?_; refine EK_ev (Ev_loadOld rfl e30) ?_)
    | (refine ek_lss ?_; first | refine EK_ev (Ev_lssI_q rfl rfl q4) ?_ | refine EK_ev (Ev_lssI_q rfl rfl q3) ?_ | refine EK_ev (Ev_lssI_q rfl rfl q2) ?_ | refine EK_ev (Ev_lssI_q rfl rfl q1) ?_)
    | (refine ek_gtr ?_; refine EK_ev (Ev_gtrI_q rfl rfl q5) ?_)
    | refine xst ?_
    | (refine xsa ?_; intro _)
    | (refine xsb ?_ ?_ <;> intro _ <;> first | (exfalso; omega) | skip)
    | refine xsc ?_
    | fail)
      all_goals (exact xdn ())
    · have q5 : decide (most < amount) = false := decide_eq_false h6
      have q6 : decide (most - amount < u) = true := decide_eq_true (by omega)
      refine Ct.enter Tryz.func14 rfl Tryz.ntmps14 (by simp) (fun R => ?_)
      repeat' (first 
    | (refine is_call ?_; refine KJ_call xE cu xP rfl (fun _ => ?_))
    | (refine ek_load ?_; refine EK_ev (Ev_loadOld rfl e30) ?_)
    | (refine ek_lss ?_; first | refine EK_ev (Ev_lssI_q rfl rfl q4) ?_ | refine EK_ev (Ev_lssI_q rfl rfl q3) ?_ | refine EK_ev (Ev_lssI_q rfl rfl q2) ?_ | refine EK_ev (Ev_lssI_q rfl rfl q1) ?_)
    | (refine ek_gtr ?_; first | refine EK_ev (Ev_gtrI_q rfl rfl q6) ?_ | refine EK_ev (Ev_gtrI_q rfl rfl q5) ?_)
    | refine xst ?_
    | (refine xsa ?_; intro _)
    | (refine xsb ?_ ?_ <;> intro _ <;> first | (exfalso; omega) | skip)
    | refine xsc ?_
    | fail)
      all_goals (exact xdn ())
set_option maxHeartbeats 2000000 in
theorem witake_yes {X : Type} {T' : X → SP} {pv : Value} (ha : acc.length ≤ 1099511627776) (hn : now ≤ 9223372036854775807) (hm : most ≤ 9223372036854775807) (cg : Ct Tryz.prog W 24 [.pointer (some ⟨t, 0, none⟩), strV (wKey acc)] [T] (fun _ : Unit => .tuple #[strV (o.getD []), .bool o.isSome]) (fun _ => [T])) {val : List UInt8} (h : takeR o now span most amount = some val)
    (cp : Ct Tryz.prog W 22 [.pointer (some ⟨t, 0, none⟩), strV (wKey acc), strV val] [T] (fun _ : X => pv) (fun x => [T' x])) :
    Ct Tryz.prog W 14 [.pointer (some ⟨t, 0, none⟩), strV acc, .int .i64 now, .int .i64 span, .int .i64 most, .int .i64 amount] [T] (fun _ : X => pv) (fun x => [T' x]) := by
  have cu := wiused_ct (W := W) (span := span) ha hn cg
  have ck := wikey_ct (W := W) acc ha
  have hub := usedW_le o now span
  obtain ⟨h1, h2, h3, h4, h5, h6, hv⟩ := takeR_some h
  obtain ⟨u, hu⟩ : ∃ u, u = usedW o now span := ⟨_, rfl⟩
  rw [← hu] at cu h6 hub hv
  obtain ⟨w, hw⟩ : ∃ w, w = now / span := ⟨_, rfl⟩
  rw [← hw] at hv
  have hw0 : 0 ≤ w ∧ w ≤ now := by
    rw [hw]
    exact ⟨Int.ediv_nonneg (by omega) (by omega), Int.ediv_le_self _ (by omega)⟩
  obtain ⟨v1, hv1⟩ := Int.eq_ofNat_of_zero_le hw0.1
  obtain ⟨v2, hv2⟩ := Int.eq_ofNat_of_zero_le (show 0 ≤ u + amount by omega)
  rw [hv1, hv2, Int.toNat_natCast, Int.toNat_natCast] at hv
  have c1 : IntKind.u64.wrap w = ((v1 : Nat) : Int) := by rw [hv1]; exact u64_wrap _ (by omega)
  have c2 : IntKind.u64.wrap ((v2 : Nat) : Int) = ((v2 : Nat) : Int) := u64_wrap _ (by omega)
  have cn := wnew_ct (W := W)
  have cf1 : ∀ g, Ct Tryz.prog W 60 [.pointer (some ⟨g, 0, none⟩), .int .u64 (v1 : Nat)] [WrP g []] (fun _ : Unit => .tuple #[]) (fun _ => [WrP g (loB 8 v1)]) := fun g => by
    have := wfixed_ct (W := W) (p := g) (l := []) v1 (by simp)
    rw [List.nil_append] at this
    exact this
  have cf2 : ∀ g, Ct Tryz.prog W 60 [.pointer (some ⟨g, 0, none⟩), .int .u64 (v2 : Nat)] [WrP g (loB 8 v1)] (fun _ : Unit => .tuple #[]) (fun _ => [WrP g val]) := fun g => by
    have := wfixed_ct (W := W) (p := g) (l := loB 8 v1) v2 (by rw [loB_len]; omega)
    rw [show loB 8 v1 ++ loB 8 v2 = rowW v1 v2 from rfl, ← hv] at this
    exact this
  have co : ∀ g, Ct Tryz.prog W 61 [.pointer (some ⟨g, 0, none⟩)] [WrP g val] (fun _ : Unit => strV val) (fun _ => [WrP g val]) := fun g => wout_ct (W := W) (by rw [hv, rowW_len]; omega)
  have q1 : decide (most < 1) = false := decide_eq_false h1
  have q2 : decide (span < 1) = false := decide_eq_false h2
  have q3 : decide (now < 0) = false := decide_eq_false h3
  have q4 : decide (amount < 0) = false := decide_eq_false h4
  have q5 : decide (most < amount) = false := decide_eq_false h5
  have q6 : decide (most - amount < u) = false := decide_eq_false h6
  clear hv h hu
  refine Ct.enter Tryz.func14 rfl Tryz.ntmps14 (by simp) (fun R => ?_)
  repeat' (first 
    | (refine is_call ?_; first | (refine KJ_call xE cp xP rfl (fun x => ?_)) | (refine KJ_call xE (co _) xP rfl (fun _ => ?_)) | (refine KJ_call xE (cf2 _) xP rfl (fun _ => ?_)) | (refine KJ_call xE (cf1 _) xP rfl (fun _ => ?_)) | (refine KJ_call xE cn xP rfl (fun g => ?_)) | (refine KJ_call xE ck xP rfl (fun _ => ?_)) | (refine KJ_call xE cu xP rfl (fun _ => ?_)))
    | (refine ek_conv ?_; first | refine EK_ev (Ev_convI_v rfl c2) ?_ | refine EK_ev (Ev_convI_v rfl c1) ?_)
    | (refine ek_add ?_; refine EK_ev (Ev_addI_v rfl rfl hv2 (by omega)) ?_)
    | (refine ek_quo ?_; refine EK_ev (Ev_quo_w rfl rfl (by omega) hw.symm) ?_)
    | (refine ek_lss ?_; first | refine EK_ev (Ev_lssI_q rfl rfl q4) ?_ | refine EK_ev (Ev_lssI_q rfl rfl q3) ?_ | refine EK_ev (Ev_lssI_q rfl rfl q2) ?_ | refine EK_ev (Ev_lssI_q rfl rfl q1) ?_)
    | (refine ek_gtr ?_; first | refine EK_ev (Ev_gtrI_q rfl rfl q6) ?_ | refine EK_ev (Ev_gtrI_q rfl rfl q5) ?_)
    | refine xst ?_
    | (refine xsa ?_; intro _)
    | (refine xsb ?_ ?_ <;> intro _ <;> first | (exfalso; omega) | skip)
    | refine xsc ?_
    | fail)
  all_goals (exact xdn x)
end
end Go.Proofs.YtnbgcimalpdfoaaGreatDoor
