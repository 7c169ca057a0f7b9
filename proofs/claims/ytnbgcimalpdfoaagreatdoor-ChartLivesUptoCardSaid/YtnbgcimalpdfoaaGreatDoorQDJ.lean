/-
  Jou1.
-/
import Derived.Test.YtnbgcimalpdfoaaGreatDoorQDI
import Derived.Test.YtnbgcimalpdfoaaGreatDoorQDD
/-
  The package journal: Cost, Largest, a log's place, Begin, down, Fits, Used: contracts.
-/
namespace Go.Proofs.YtnbgcimalpdfoaaGreatDoor
open Go Go.RowKit
def costI (b : Int) : Int := if b < 0 then 0 else if b ≤ 229 then 1 else 2 + (b - 230) / 233
def stampN (v i : Nat) : Nat := v * 1048576 + i + 1
theorem i64_wrap (x : Int) (h : -9223372036854775808 ≤ x ∧ x ≤ 9223372036854775807) : IntKind.i64.wrap x = x := by
  have : IntKind.i64.wrap x = if x % 18446744073709551616 ≥ 9223372036854775808 then x % 18446744073709551616 - 18446744073709551616 else x % 18446744073709551616 := by
    simp [IntKind.wrap, IntKind.signed, IntKind.bits]
  rw [this]
  split <;> omega
section
variable {W : World} {E : Nat → Addr} {p g : Nat} {D : Dsk}
theorem cost_ct (b : Int) (hb : b ≤ 9223372036854775807) : Ct Tryz.prog W 197 [.int .i64 b] [] (fun _ : Unit => .int .i64 (costI b)) (fun _ => []) := by
  by_cases h1 : b < 0
  · have q1 : decide (b < 0) = true := decide_eq_true h1
    rw [show costI b = 0 from if_pos h1]
    refine Ct.enter Tryz.func197 rfl Tryz.ntmps197 (by simp) (fun R => ?_)
    repeat' (first 
    | (refine ek_lss ?_; refine EK_ev (Ev_lssI_q rfl rfl q1) ?_)
    | refine xst ?_
    | (refine xsa ?_; intro _)
    | (refine xsb ?_ ?_ <;> intro _ <;> first | (exfalso; omega) | skip)
    | refine xsc ?_
    | fail)
    all_goals (exact xdn ())
  have q1 : decide (b < 0) = false := decide_eq_false h1
  by_cases h2 : b ≤ 229
  · have q2 : decide (b ≤ 229) = true := decide_eq_true h2
    rw [show costI b = 1 from (if_neg h1).trans (if_pos h2)]
    refine Ct.enter Tryz.func197 rfl Tryz.ntmps197 (by simp) (fun R => ?_)
    repeat' (first 
    | (refine ek_lss ?_; refine EK_ev (Ev_lssI_q rfl rfl q1) ?_)
    | (refine ek_leq ?_; refine EK_ev (Ev_leqI_q rfl rfl q2) ?_)
    | refine xst ?_
    | (refine xsa ?_; intro _)
    | (refine xsb ?_ ?_ <;> intro _ <;> first | (exfalso; omega) | skip)
    | refine xsc ?_
    | fail)
    all_goals (exact xdn ())
  have q2 : decide (b ≤ 229) = false := decide_eq_false h2
  have e : costI b = 2 + (b - 230) / 233 := (if_neg h1).trans (if_neg h2)
  obtain ⟨q, hq⟩ : ∃ q, q = (b - 230) / 233 := ⟨_, rfl⟩
  have hq1 : (b - 229 - 1) / 233 = q := by rw [hq, show b - 229 - 1 = b - 230 by omega]
  rw [e, ← hq]
  refine Ct.enter Tryz.func197 rfl Tryz.ntmps197 (by simp) (fun R => ?_)
  repeat' (first 
    | (refine ek_add ?_; refine EK_ev (Ev_addI_v (r := 2 + q) rfl rfl rfl (by omega)) ?_)
    | (refine ek_quo ?_; first | refine EK_ev (Ev_quo_w rfl rfl (by omega) hq.symm) ?_ | refine EK_ev (Ev_quo_w rfl rfl (by omega) hq1) ?_)
    | (refine ek_lss ?_; refine EK_ev (Ev_lssI_q rfl rfl q1) ?_)
    | (refine ek_leq ?_; refine EK_ev (Ev_leqI_q rfl rfl q2) ?_)
    | refine xst ?_
    | (refine xsa ?_; intro _)
    | (refine xsb ?_ ?_ <;> intro _ <;> first | (exfalso; omega) | skip)
    | refine xsc ?_
    | fail)
  all_goals (exact xdn ())
set_option maxRecDepth 100000 in
theorem log_ct (v i : Nat) (hv : 1 ≤ v ∧ v ≤ 1099511627776) (hi : i < 65536) : Ct Tryz.prog W 200 [.int .i64 (v : Nat), .int .i64 (i : Nat)] [] (fun _ : Unit => .tuple #[.int .u64 (stampN v i : Nat), .nilIface]) (fun _ => []) := by
  have q1 : decide ((v : Int) < 1) = false := decide_eq_false (by omega)
  have q2 : decide ((1099511627776 : Int) < (v : Int)) = false := decide_eq_false (by omega)
  have q3 : decide ((i : Int) < 0) = false := decide_eq_false (by omega)
  have q4 : decide ((65536 : Int) ≤ (i : Int)) = false := decide_eq_false (by omega)
  have c1 : IntKind.u64.wrap (v : Int) = (v : Int) := u64_of_lt v (by omega)
  have c2 : IntKind.u64.wrap (i : Int) = (i : Int) := u64_of_lt i (by omega)
  have c3 : IntKind.u64.wrap ((v : Int) * 2 ^ (min (20 : Int).toNat IntKind.u64.bits)) = ((v * 1048576 : Nat) : Int) := by
    rw [show (v : Int) * 2 ^ (min (20 : Int).toNat IntKind.u64.bits) = ((v * 1048576 : Nat) : Int) by
      show (v : Int) * 2 ^ 20 = _
      omega]
    exact u64_of_lt _ (by omega)
  have c4 : IntKind.u64.wrap (((v * 1048576 : Nat) : Int) + (i : Int)) = ((v * 1048576 + i : Nat) : Int) := u64_of_lt (v * 1048576 + i) (by omega)
  have c5 : IntKind.u64.wrap (((v * 1048576 + i : Nat) : Int) + 1) = ((stampN v i : Nat) : Int) := u64_of_lt (v * 1048576 + i + 1) (by omega)
  obtain ⟨a2, ha2⟩ : ∃ a2, a2 = v * 1048576 + i := ⟨_, rfl⟩
  obtain ⟨a1, ha1⟩ : ∃ a1, a1 = v * 1048576 := ⟨_, rfl⟩
  obtain ⟨a3, ha3⟩ : ∃ a3, a3 = stampN v i := ⟨_, rfl⟩
  rw [← ha2] at c4 c5
  rw [← ha1] at c3 c4
  rw [← ha3] at c5 ⊢
  clear ha1 ha2 ha3
  refine Ct.enter Tryz.func200 rfl Tryz.ntmps200 (by simp) (fun R => ?_)
  repeat' (first 
    | (refine ek_conv ?_; first | refine EK_ev (Ev_convI_v rfl c2) ?_ | refine EK_ev (Ev_convI_v rfl c1) ?_)
    | (refine ek_add ?_; first | refine EK_ev (Ev_add_w rfl rfl c5) ?_ | refine EK_ev (Ev_add_w rfl rfl c4) ?_)
    | (refine ek_shl ?_; refine EK_ev (Ev_shl_w rfl rfl (by omega) c3) ?_)
    | (refine ek_lss ?_; first | refine EK_ev (Ev_lssI_q rfl rfl q3) ?_ | refine EK_ev (Ev_lssI_q rfl rfl q1) ?_)
    | (refine ek_gtr ?_; refine EK_ev (Ev_gtrI_q rfl rfl q2) ?_)
    | (refine ek_geq ?_; refine EK_ev (Ev_geqI_q rfl rfl q4) ?_)
    | refine xst ?_
    | (refine xsa ?_; intro _)
    | (refine xsb ?_ ?_ <;> intro _ <;> first | (exfalso; omega) | skip)
    | refine xsc ?_
    | (refine KJ_draws (id := 2) (.op 0 (.op 1 (.op 2 .nil))) (by kernel_rfl) (by kernel_rfl) ?_)
    | refine FW_alt ?_ ?_
    | refine FW_efn rfl rfl rfl rfl rfl ?_ ?_
    | refine KJ_flow ?_ ?_
    | exact Rech.nil
    | fail)
  all_goals (exact xdn ())
/-- may a log lie there? -/
def logOk (D : Dsk) (at_ n ver : Int) : Prop := 0 ≤ at_ ∧ 0 ≤ n ∧ at_ ≤ D.n ∧ n ≤ (D.n : Int) - at_ ∧ n ≤ 65536 ∧ 1 ≤ ver ∧ ver ≤ 1099511627776
theorem check_ct (hn : D.n ≤ 65536) (ho : D.off = false) (at_ n ver : Int) (h : logOk D at_ n ver) : Ct Tryz.prog W 210 [.agg #[.pointer (some ⟨p, 0, none⟩), .int .i64 at_, .int .i64 n, .int .i64 ver]] [DiskP p D] (fun _ : Unit => .nilIface) (fun _ => [DiskP p D]) := by
  obtain ⟨h1, h2, h3, h4, h5, h6, h7⟩ := h
  have q1 : decide (at_ < 0) = false := decide_eq_false (by omega)
  have q2 : decide (n < 0) = false := decide_eq_false (by omega)
  have q3 : decide ((D.n : Int) < at_) = false := decide_eq_false (by omega)
  have q4 : decide ((D.n : Int) - at_ < n) = false := decide_eq_false (by omega)
  have q5 : decide (65536 < n) = false := decide_eq_false (by omega)
  have q6 : decide (ver < 1) = false := decide_eq_false (by omega)
  have q7 : decide (1099511627776 < ver) = false := decide_eq_false (by omega)
  have c1 : Ct Tryz.prog W 104 [.pointer (some ⟨p, 0, none⟩)] [DiskP p D] (fun _ : Unit => .int .i64 D.n) (fun _ => [DiskP p D]) := size_ct
  have c2 : Ct Tryz.prog W 105 [.pointer (some ⟨p, 0, none⟩)] [DiskP p D] (fun _ : Unit => .bool false) (fun _ => [DiskP p D]) := by rw [← ho]; exact off_ct
  refine Ct.enter Tryz.func210 rfl Tryz.ntmps210 (by simp) (fun R => ?_)
  repeat' (first 
    | (refine is_box ?_; refine KJ_box rfl xF rfl (fun g1 => ?_))
    | (refine is_call ?_; first | (refine KJ_call xE c2 xP rfl (fun _ => ?_)) | (refine KJ_call xE c1 xP rfl (fun _ => ?_)))
    | (refine ek_lss ?_; first | refine EK_ev (Ev_lssI_q rfl rfl q6) ?_ | refine EK_ev (Ev_lssI_q rfl rfl q2) ?_ | refine EK_ev (Ev_lssI_q rfl rfl q1) ?_)
    | (refine ek_gtr ?_; first | refine EK_ev (Ev_gtrI_q rfl rfl q7) ?_ | refine EK_ev (Ev_gtrI_q rfl rfl q5) ?_ | refine EK_ev (Ev_gtrI_q rfl rfl q4) ?_ | refine EK_ev (Ev_gtrI_q rfl rfl q3) ?_)
    | refine xst ?_
    | (refine xsa ?_; intro _)
    | (refine xsb ?_ ?_ <;> intro _ <;> first | (exfalso; omega) | skip)
    | refine xsc ?_
    | (refine KJ_draws (id := 1) (.op 0 (.op 1 (.op 2 (.op 3 (.op 4 (.op 5 (.op 6 (.op 7 (.op 8 (.op 9 (.op 10 (.op 11 (.op 12 (.ef 13 [10, 9] (.op 14 (.op 15 (.op 16 (.op 17 (.op 18 (.op 19 (.op 20 (.op 22 (.op 23 (.ef 21 [23, 22, 18, 17] (.op 24 (.op 25 (.op 26 (.op 27 (.op 28 (.op 29 (.op 30 (.op 31 (.op 32 (.op 33 (.op 34 (.op 35 (.op 36 (.op 37 (.op 38 (.op 39 (.op 40 (.op 41 .nil)))))))))))))))))))))))))))))))))))))))))) (by kernel_rfl) (by kernel_rfl) ?_)
    | refine FW_alt ?_ ?_
    | refine FW_efn rfl rfl rfl rfl rfl ?_ ?_
    | refine KJ_flow ?_ ?_
    | exact Rech.nil
    | fail)
  all_goals (exact xdn ())
theorem begin_ct (hn : D.n ≤ 65536) (ho : D.off = false) (at_ n ver : Int) (h : logOk D at_ n ver) : Ct Tryz.prog W 164 [.pointer (some ⟨p, 0, none⟩), .int .i64 at_, .int .i64 n, .int .i64 ver] [DiskP p D] (fun g : Nat => .tuple #[.pointer (some ⟨g, 0, none⟩), .nilIface]) (fun g => [DiskP p D, cellsP g [.pointer (some ⟨p, 0, none⟩), .int .i64 at_, .int .i64 n, .int .i64 ver, .int .i64 0, .int .i64 D.life, .bool false] 256]) := by
  have c1 := check_ct (W := W) (p := p) hn ho at_ n ver h
  have c2 : Ct Tryz.prog W 155 [.pointer (some ⟨p, 0, none⟩)] [DiskP p D] (fun _ : Unit => .int .i64 D.life) (fun _ => [DiskP p D]) := life_ct
  refine Ct.enter Tryz.func164 rfl Tryz.ntmps164 (by simp) (fun R => ?_)
  repeat' (first 
    | (refine is_box ?_; refine KJ_box rfl xF rfl (fun g1 => ?_))
    | (refine is_call ?_; first | (refine KJ_call xE c2 xP rfl (fun _ => ?_)) | (refine KJ_call xE c1 xP rfl (fun _ => ?_)))
    | (refine ek_build ?_; refine EK_ev (Ev_build xV xW) ?_)
    | refine xst ?_
    | (refine xsa ?_; intro _)
    | (refine xsb ?_ ?_ <;> intro _ <;> first | (exfalso; omega) | skip)
    | refine xsc ?_
    | (refine KJ_draws (id := 5) (.op 0 (.op 1 (.ef 2 [0] (.op 3 (.ef 4 [] (.op 5 (.op 6 .nil))))))) (by kernel_rfl) (by kernel_rfl) ?_)
    | refine FW_alt ?_ ?_
    | refine FW_efn rfl rfl rfl rfl rfl ?_ ?_
    | refine KJ_flow ?_ ?_
    | exact Rech.nil
    | fail)
  all_goals (exact xdn g1)
end
end Go.Proofs.YtnbgcimalpdfoaaGreatDoor
