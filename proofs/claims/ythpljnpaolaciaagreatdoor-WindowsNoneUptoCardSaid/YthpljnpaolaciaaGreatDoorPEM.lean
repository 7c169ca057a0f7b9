/-
  WiL3.
-/
import Derived.Test.YthpljnpaolaciaaGreatDoorPEL
/-
  WindowsNone (chapter 19).
-/
namespace Go.Proofs.YthpljnpaolaciaaGreatDoor
open Go Go.RowKit
section
variable {W : World} {F : Nat → Addr}
instance fn_fixed19 : FnIs Tryz.prog 6 := ⟨by kernel_rfl⟩
instance fn_begun : FnIs Tryz.prog 7 := ⟨by kernel_rfl⟩
set_option maxHeartbeats 8000000 in
theorem none19_ct (hE : ErrsAt W F) (hN : NibAt W) (hg : gB ≤ W.heap.size) (acc : List UInt8) (ha : acc.length ≤ 1099511627776) (now span most amount : Int) (hn : now ≤ 9223372036854775807) (hm : most ≤ 9223372036854775807) : Ct Tryz.prog W 4 [strV acc, .int .i64 now, .int .i64 span, .int .i64 most, .int .i64 amount] [] (fun _ : Unit => .bool true) (fun _ => []) := by
  have cF := fixed19_ct hE hN hg
  have cb := begun_ct (W := W) hE hN hg
  have ck := wikey_ct (W := W) acc ha
  have cT := fun t => qtake_ct (W := W) (F := F) (t := t) (m := 0) (r := []) (acc := acc) (now := now) (span := span) (most := most) (amount := amount) hE.all ha hn hm (by simp) (by omega)
  have cN := numA_ct hE hg (takeE (lk [] (wKey acc)) now span most amount) (takeE_le _ _ _ _ _)
  cases hR : takeR (lk [] (wKey acc)) now span most amount with
  | none =>
    have er : takeRows [] acc now span most amount = [] := by unfold takeRows; rw [hR]
    rw [er] at cT
    have cG : ∀ t, Ct Tryz.prog W 12 [.pointer (some ⟨t, 0, none⟩), strV (wKey acc)] [TxQ t [] false 1] (fun _ : Unit => .tuple #[strV [], .bool false]) (fun _ => [TxQ t [] false 1]) := fun t => txgetQ (W := W) (t := t) (m := 1) (r := []) (ended := false) (wKey acc)
    have cU : ∀ t, Ct Tryz.prog W 9 [.pointer (some ⟨t, 0, none⟩), strV acc, .int .i64 now, .int .i64 span] [TxQ t [] false 1] (fun _ : Unit => .int .i64 0) (fun _ => [TxQ t [] false 1]) := fun t => by
      have := qused_ct (W := W) (t := t) (m := 1) (r := []) (ended := false) (acc := acc) (now := now) (span := span) ha hn
      rw [show usedW (lk (seenR [] false) (wKey acc)) now span = 0 from usedW_none now span] at this
      exact this
    rcases takeE_none hR with ⟨h1, he⟩ | ⟨h1, h2, h3, he⟩ | ⟨h1, h2, h3, h4, he⟩ | ⟨h1, h2, h3, h4, h5, he⟩
    · rw [he] at cT cN
      by_cases h6 : most < 1
      · have q1 : decide (most < 1) = true := decide_eq_true h6
        refine Ct.enter Tryz.func4 rfl Tryz.ntmps4 (by simp) (fun R => ?_)
        repeat' (first 
    | (refine is_call ?_; first | (refine KJ_call xE (cT _) xP rfl (fun _ => ?_)) | (refine KJ_call xE (cU _) xP rfl (fun _ => ?_)) | (refine KJ_call xE (cG _) xP rfl (fun _ => ?_)) | (refine KJ_call xE cN xP rfl (fun _ => ?_)) | (refine KJ_call xE ck xP rfl (fun _ => ?_)) | (refine KJ_call xE cb xP rfl (fun t => ?_)) | (refine KJ_call xE cF xP rfl (fun _ => ?_)))
    | (refine ek_eql ?_; refine EK_ev (Ev_eqlI_q (q := true) rfl rfl rfl) ?_)
    | (refine ek_lss ?_; refine EK_ev (Ev_lssI_q rfl rfl q1) ?_)
    | refine xst ?_
    | (refine xsa ?_; intro _)
    | (refine xsb ?_ ?_ <;> intro _ <;> first | (exfalso; omega) | skip)
    | refine xsc ?_
    | fail)
        all_goals (exact xdn ())
      · have q1 : decide (most < 1) = false := decide_eq_false h6
        have q2 : decide (span < 1) = true := decide_eq_true (by omega)
        refine Ct.enter Tryz.func4 rfl Tryz.ntmps4 (by simp) (fun R => ?_)
        repeat' (first 
    | (refine is_call ?_; first | (refine KJ_call xE (cT _) xP rfl (fun _ => ?_)) | (refine KJ_call xE (cU _) xP rfl (fun _ => ?_)) | (refine KJ_call xE (cG _) xP rfl (fun _ => ?_)) | (refine KJ_call xE cN xP rfl (fun _ => ?_)) | (refine KJ_call xE ck xP rfl (fun _ => ?_)) | (refine KJ_call xE cb xP rfl (fun t => ?_)) | (refine KJ_call xE cF xP rfl (fun _ => ?_)))
    | (refine ek_eql ?_; refine EK_ev (Ev_eqlI_q (q := true) rfl rfl rfl) ?_)
    | (refine ek_lss ?_; first | refine EK_ev (Ev_lssI_q rfl rfl q2) ?_ | refine EK_ev (Ev_lssI_q rfl rfl q1) ?_)
    | refine xst ?_
    | (refine xsa ?_; intro _)
    | (refine xsb ?_ ?_ <;> intro _ <;> first | (exfalso; omega) | skip)
    | refine xsc ?_
    | fail)
        all_goals (exact xdn ())
    · rw [he] at cT cN
      have q1 : decide (most < 1) = false := decide_eq_false h1
      have q2 : decide (span < 1) = false := decide_eq_false h2
      have q3 : decide (now < 0) = true := decide_eq_true h3
      refine Ct.enter Tryz.func4 rfl Tryz.ntmps4 (by simp) (fun R => ?_)
      repeat' (first 
    | (refine is_call ?_; first | (refine KJ_call xE (cT _) xP rfl (fun _ => ?_)) | (refine KJ_call xE (cU _) xP rfl (fun _ => ?_)) | (refine KJ_call xE (cG _) xP rfl (fun _ => ?_)) | (refine KJ_call xE cN xP rfl (fun _ => ?_)) | (refine KJ_call xE ck xP rfl (fun _ => ?_)) | (refine KJ_call xE cb xP rfl (fun t => ?_)) | (refine KJ_call xE cF xP rfl (fun _ => ?_)))
    | (refine ek_eql ?_; refine EK_ev (Ev_eqlI_q (q := true) rfl rfl rfl) ?_)
    | (refine ek_lss ?_; first | refine EK_ev (Ev_lssI_q rfl rfl q3) ?_ | refine EK_ev (Ev_lssI_q rfl rfl q2) ?_ | refine EK_ev (Ev_lssI_q rfl rfl q1) ?_)
    | refine xst ?_
    | (refine xsa ?_; intro _)
    | (refine xsb ?_ ?_ <;> intro _ <;> first | (exfalso; omega) | skip)
    | refine xsc ?_
    | fail)
      all_goals (exact xdn ())
    · rw [he] at cT cN
      have q1 : decide (most < 1) = false := decide_eq_false h1
      have q2 : decide (span < 1) = false := decide_eq_false h2
      have q3 : decide (now < 0) = false := decide_eq_false h3
      have q4 : decide (amount < 0) = true := decide_eq_true h4
      refine Ct.enter Tryz.func4 rfl Tryz.ntmps4 (by simp) (fun R => ?_)
      repeat' (first 
    | (refine is_call ?_; first | (refine KJ_call xE (cT _) xP rfl (fun _ => ?_)) | (refine KJ_call xE (cU _) xP rfl (fun _ => ?_)) | (refine KJ_call xE (cG _) xP rfl (fun _ => ?_)) | (refine KJ_call xE cN xP rfl (fun _ => ?_)) | (refine KJ_call xE ck xP rfl (fun _ => ?_)) | (refine KJ_call xE cb xP rfl (fun t => ?_)) | (refine KJ_call xE cF xP rfl (fun _ => ?_)))
    | (refine ek_eql ?_; refine EK_ev (Ev_eqlI_q (q := true) rfl rfl rfl) ?_)
    | (refine ek_lss ?_; first | refine EK_ev (Ev_lssI_q rfl rfl q4) ?_ | refine EK_ev (Ev_lssI_q rfl rfl q3) ?_ | refine EK_ev (Ev_lssI_q rfl rfl q2) ?_ | refine EK_ev (Ev_lssI_q rfl rfl q1) ?_)
    | refine xst ?_
    | (refine xsa ?_; intro _)
    | (refine xsb ?_ ?_ <;> intro _ <;> first | (exfalso; omega) | skip)
    | refine xsc ?_
    | fail)
      all_goals (exact xdn ())
    · rw [he] at cT cN
      have h6 : most < amount := by
        rcases h5 with h5 | h5
        · exact h5
        · have : usedW (lk [] (wKey acc)) now span = 0 := usedW_none now span
          omega
      have q1 : decide (most < 1) = false := decide_eq_false h1
      have q2 : decide (span < 1) = false := decide_eq_false h2
      have q3 : decide (now < 0) = false := decide_eq_false h3
      have q4 : decide (amount < 0) = false := decide_eq_false h4
      have q5 : decide (most < amount) = true := decide_eq_true h6
      refine Ct.enter Tryz.func4 rfl Tryz.ntmps4 (by simp) (fun R => ?_)
      repeat' (first 
    | (refine is_call ?_; first | (refine KJ_call xE (cT _) xP rfl (fun _ => ?_)) | (refine KJ_call xE (cU _) xP rfl (fun _ => ?_)) | (refine KJ_call xE (cG _) xP rfl (fun _ => ?_)) | (refine KJ_call xE cN xP rfl (fun _ => ?_)) | (refine KJ_call xE ck xP rfl (fun _ => ?_)) | (refine KJ_call xE cb xP rfl (fun t => ?_)) | (refine KJ_call xE cF xP rfl (fun _ => ?_)))
    | (refine ek_eql ?_; refine EK_ev (Ev_eqlI_q (q := true) rfl rfl rfl) ?_)
    | (refine ek_lss ?_; first | refine EK_ev (Ev_lssI_q rfl rfl q4) ?_ | refine EK_ev (Ev_lssI_q rfl rfl q3) ?_ | refine EK_ev (Ev_lssI_q rfl rfl q2) ?_ | refine EK_ev (Ev_lssI_q rfl rfl q1) ?_)
    | (refine ek_gtr ?_; refine EK_ev (Ev_gtrI_q rfl rfl q5) ?_)
    | refine xst ?_
    | (refine xsa ?_; intro _)
    | (refine xsb ?_ ?_ <;> intro _ <;> first | (exfalso; omega) | skip)
    | refine xsc ?_
    | fail)
      all_goals (exact xdn ())
  | some val =>
    have er : takeRows [] acc now span most amount = putR [] (wKey acc) val := by unfold takeRows; rw [hR]
    obtain ⟨h1, h2, h3, h4, h5, h6, hv⟩ := takeR_some hR
    rw [show usedW (lk [] (wKey acc)) now span = 0 from usedW_none now span] at hv
    obtain ⟨n0, hn0⟩ := Int.eq_ofNat_of_zero_le (show 0 ≤ now by omega)
    obtain ⟨s0, hs0⟩ := Int.eq_ofNat_of_zero_le (show 0 ≤ span by omega)
    obtain ⟨a0, ha0⟩ := Int.eq_ofNat_of_zero_le (show 0 ≤ amount by omega)
    have e1 : (now / span).toNat = n0 / s0 := by
      rw [hn0, hs0]
      have : ((n0 : Int) / (s0 : Int)) = ((n0 / s0 : Nat) : Int) := by simp
      rw [this, Int.toNat_natCast]
    have e2 : (0 + amount).toNat = a0 := by omega
    rw [e1, e2] at hv
    have hdl : n0 / s0 ≤ n0 := Nat.div_le_self _ _
    obtain ⟨r1, hr1⟩ : ∃ r, r = putR [] (wKey acc) val := ⟨_, rfl⟩
    have l1 : lk r1 (wKey acc) = some val := by rw [hr1]; exact lk_put_self List.Pairwise.nil _ _
    have u1 : usedW (lk r1 (wKey acc)) now span = amount := by
      rw [l1, hv, hn0, hs0, ha0]
      exact (usedW_row (by omega) (by omega) (by omega)).trans (if_pos rfl)
    rw [er, takeE_some hR, ← hr1] at cT
    rw [takeE_some hR] at cN
    have cG : ∀ t, Ct Tryz.prog W 12 [.pointer (some ⟨t, 0, none⟩), strV (wKey acc)] [TxQ t r1 false 1] (fun _ : Unit => .tuple #[strV val, .bool true]) (fun _ => [TxQ t r1 false 1]) := fun t => by
      have := txgetQ (W := W) (t := t) (m := 1) (r := r1) (ended := false) (wKey acc)
      rw [show lk (seenR r1 false) (wKey acc) = some val from l1] at this
      exact this
    have cU : ∀ t, Ct Tryz.prog W 9 [.pointer (some ⟨t, 0, none⟩), strV acc, .int .i64 now, .int .i64 span] [TxQ t r1 false 1] (fun _ : Unit => .int .i64 amount) (fun _ => [TxQ t r1 false 1]) := fun t => by
      have := qused_ct (W := W) (t := t) (m := 1) (r := r1) (ended := false) (acc := acc) (now := now) (span := span) ha hn
      rw [show usedW (lk (seenR r1 false) (wKey acc)) now span = amount from u1] at this
      exact this
    have q1 : decide (most < 1) = false := decide_eq_false h1
    have q2 : decide (span < 1) = false := decide_eq_false h2
    have q3 : decide (now < 0) = false := decide_eq_false h3
    have q4 : decide (amount < 0) = false := decide_eq_false h4
    have q5 : decide (most < amount) = false := decide_eq_false h5
    have q6 : decide (amount = amount) = true := decide_eq_true rfl
    clear hv hR e1 e2 hn0 hs0 ha0 hr1 er
    refine Ct.enter Tryz.func4 rfl Tryz.ntmps4 (by simp) (fun R => ?_)
    repeat' (first 
    | (refine is_call ?_; first | (refine KJ_call xE (cT _) xP rfl (fun _ => ?_)) | (refine KJ_call xE (cU _) xP rfl (fun _ => ?_)) | (refine KJ_call xE (cG _) xP rfl (fun _ => ?_)) | (refine KJ_call xE cN xP rfl (fun _ => ?_)) | (refine KJ_call xE ck xP rfl (fun _ => ?_)) | (refine KJ_call xE cb xP rfl (fun t => ?_)) | (refine KJ_call xE cF xP rfl (fun _ => ?_)))
    | (refine ek_eql ?_; first | refine EK_ev (Ev_eqlI_q rfl rfl q6) ?_ | refine EK_ev (Ev_eqlI_q (q := true) rfl rfl rfl) ?_)
    | (refine ek_lss ?_; first | refine EK_ev (Ev_lssI_q rfl rfl q4) ?_ | refine EK_ev (Ev_lssI_q rfl rfl q3) ?_ | refine EK_ev (Ev_lssI_q rfl rfl q2) ?_ | refine EK_ev (Ev_lssI_q rfl rfl q1) ?_)
    | (refine ek_gtr ?_; refine EK_ev (Ev_gtrI_q rfl rfl q5) ?_)
    | refine xst ?_
    | (refine xsa ?_; intro _)
    | (refine xsb ?_ ?_ <;> intro _ <;> first | (exfalso; omega) | skip)
    | refine xsc ?_
    | fail)
    all_goals (exact xdn ())
end
end Go.Proofs.YthpljnpaolaciaaGreatDoor
