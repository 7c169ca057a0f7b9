/-
  RdW4.
-/
import Derived.Test.YtnbgcimalpdfoaaGreatDoorQEB
/-
  The package wire: a text read.
-/
namespace Go.Proofs.YtnbgcimalpdfoaaGreatDoor
open Go Go.RowKit
theorem Ev_sliceStr_t {P : Program} {W : World} {n : Nat} {E : Env} {H : List SP} {t : TypeId} {x y z : Operand} {l r : List UInt8} {i j : Int} {ki kj : IntKind} (hx : Env.ev E x = some (strV l)) (hy : Env.ev E y = some (.int ki i)) (hz : Env.ev E z = some (.int kj j)) [hu : UIs P t .string] (hb : 0 ≤ i ∧ i ≤ j ∧ j ≤ l.length) (h : (l.take j.toNat).drop i.toNat = r) : Ev P W n E H (.slice t x (some y) (some z) none) (strV r) := by
  subst h; exact Ev_sliceStr hx hy hz hb
theorem rtx_cases (most : Nat) (l : List UInt8) : (∃ e, ru l = .bad e ∧ rtx most l = .bad e ∧ txA most l = 0) ∨ (∃ n t, ru l = .ok n t ∧ most < n ∧ rtx most l = .bad 3 ∧ txA most l = 0) ∨ (∃ n t, ru l = .ok n t ∧ ¬ most < n ∧ t.length < n ∧ rtx most l = .bad 1 ∧ txA most l = (vu n).length) ∨ (∃ n t, ru l = .ok n t ∧ ¬ most < n ∧ ¬ t.length < n ∧ rtx most l = .ok (t.take n) (t.drop n) ∧ txA most l = (vu n).length + n) := by
  unfold rtx txA
  cases h : ru l with
  | bad e => exact .inl ⟨e, rfl, rfl, rfl⟩
  | ok n t =>
    dsimp only
    by_cases h1 : most < n
    · rw [if_pos h1, if_pos h1]; exact .inr (.inl ⟨n, t, rfl, h1, rfl, rfl⟩)
    · rw [if_neg h1, if_neg h1]
      by_cases h2 : t.length < n
      · rw [if_pos h2, if_pos h2]; exact .inr (.inr (.inl ⟨n, t, rfl, h1, h2, rfl, rfl⟩))
      · rw [if_neg h2, if_neg h2]; exact .inr (.inr (.inr ⟨n, t, rfl, h1, h2, rfl, rfl⟩))
section
variable {W : World} {F : Nat → Addr} {p : Nat} {s : List UInt8} {a : Nat}
set_option maxHeartbeats 4000000 in
theorem textC_ct (br bm most : Nat) (hm : most ≤ 9223372036854775807) (ha : a ≤ s.length) (hs : s.length ≤ 9223372036854775807) (e1 : W.cell? ⟨14, 0, none⟩ = some (errV F 1)) (e2 : W.cell? ⟨15, 0, none⟩ = some (errV F 2)) (e3 : W.cell? ⟨16, 0, none⟩ = some (errV F 3)) :
    Ct Tryz.prog W 182 [.pointer (some ⟨br, 0, none⟩), .pointer (some ⟨bm, 0, none⟩)] [rdP p s a, cellsP br [.pointer (some ⟨p, 0, none⟩)] 176, cellsP bm [.int .i64 (most : Nat)] 3] (fun _ : Unit => .tuple #[strV (rdS (rtx most (s.drop a))), errV F (rdE (rtx most (s.drop a)))])
      (fun _ => [rdP p s (a + txA most (s.drop a)), cellsP br [.pointer (some ⟨p, 0, none⟩)] 176, cellsP bm [.int .i64 (most : Nat)] 3]) := by
  have cu0 := fun q hq => rupto_ct (W := W) (F := F) (p := p) (s := s) (a := a) most hm ha hs e1 e2 e3 q hq
  rcases rtx_cases most (s.drop a) with ⟨e, h1, h2, h3⟩ | ⟨n, t, h1, h4, h2, h3⟩ | ⟨n, t, h1, h4, h5, h2, h3⟩ | ⟨n, t, h1, h4, h5, h2, h3⟩
  · have cu := cu0 _ h1
    have hne := errNe (F := F) (e := e) (by rcases ru_err h1 with h | h <;> omega)
    rw [show uptL most (.bad e) = 0 from rfl, show uptE most (.bad e) = e from rfl, show uptN most (.bad e) = 0 from rfl, Nat.add_zero] at cu
    rw [h2, h3, Nat.add_zero]
    refine Ct.enter Tryz.func182 rfl Tryz.ntmps182 (by simp) (fun R => ?_)
    repeat' (first 
    | (refine is_call ?_; refine KJ_call xE cu xP rfl (fun _ => ?_))
    | (refine ek_neq ?_; refine EK_ev (Ev_neqNil rfl hne) ?_)
    | refine xst ?_
    | (refine xsa ?_; intro _)
    | (refine xsb ?_ ?_ <;> intro _ <;> first | (exfalso; omega) | skip)
    | refine xsc ?_
    | (refine KJ_draws (id := 5) (.op 0 (.op 1 (.op 2 .nil))) (by kernel_rfl) (by kernel_rfl) ?_)
    | (refine KJ_draws (id := 7) (.op 0 (.op 1 (.op 2 (.op 3 (.op 4 (.op 5 (.op 6 (.op 7 (.op 8 (.op 9 (.op 10 (.op 11 (.op 12 (.op 13 (.op 14 (.op 15 (.op 16 .nil))))))))))))))))) (by kernel_rfl) (by kernel_rfl) ?_)
    | refine FW_alt ?_ ?_
    | refine FW_efn rfl rfl rfl rfl rfl ?_ ?_
    | refine KJ_flow ?_ ?_
    | exact Rech.nil
    | fail)
    all_goals (exact xdn ())
  · have cu := cu0 _ h1
    obtain ⟨k1, k2, k3⟩ := upt_big (t := t) h4
    rw [k1, k2, k3, Nat.add_zero] at cu
    rw [h2, h3, Nat.add_zero]
    refine Ct.enter Tryz.func182 rfl Tryz.ntmps182 (by simp) (fun R => ?_)
    repeat' (first 
    | (refine is_call ?_; refine KJ_call xE cu xP rfl (fun _ => ?_))
    | refine xst ?_
    | (refine xsa ?_; intro _)
    | (refine xsb ?_ ?_ <;> intro _ <;> first | (exfalso; omega) | skip)
    | refine xsc ?_
    | (refine KJ_draws (id := 5) (.op 0 (.op 1 (.op 2 .nil))) (by kernel_rfl) (by kernel_rfl) ?_)
    | (refine KJ_draws (id := 7) (.op 0 (.op 1 (.op 2 (.op 3 (.op 4 (.op 5 (.op 6 (.op 7 (.op 8 (.op 9 (.op 10 (.op 11 (.op 12 (.op 13 (.op 14 (.op 15 (.op 16 .nil))))))))))))))))) (by kernel_rfl) (by kernel_rfl) ?_)
    | refine FW_alt ?_ ?_
    | refine FW_efn rfl rfl rfl rfl rfl ?_ ?_
    | refine KJ_flow ?_ ?_
    | exact Rech.nil
    | fail)
    all_goals (exact xdn ())
  · have cu := cu0 _ h1
    obtain ⟨k1, k2, k3⟩ := upt_ok (t := t) h4
    rw [k1, k2, k3] at cu
    rw [h2, h3]
    have hf := ru_fit h1
    have ht := congrArg List.length (ru_drop h1)
    rw [List.length_drop] at ht
    obtain ⟨a1, ha1⟩ : ∃ a1, a1 = a + (vu n).length := ⟨_, rfl⟩
    rw [← ha1] at cu hf ht ⊢
    have cl := rleft_ct (W := W) (p := p) (s := s) (a := a1) hf (by omega)
    have ql : decide (((s.length - a1 : Nat) : Int) < ((n : Nat) : Int)) = true := decide_eq_true (by omega)
    refine Ct.enter Tryz.func182 rfl Tryz.ntmps182 (by simp) (fun R => ?_)
    repeat' (first 
    | (refine is_call ?_; first | (refine KJ_call xE cl xP rfl (fun _ => ?_)) | (refine KJ_call xE cu xP rfl (fun _ => ?_)))
    | (refine ek_load ?_; refine EK_ev (Ev_loadOld rfl e1) ?_)
    | (refine ek_lss ?_; refine EK_ev (Ev_lssI_q rfl rfl ql) ?_)
    | refine xst ?_
    | (refine xsa ?_; intro _)
    | (refine xsb ?_ ?_ <;> intro _ <;> first | (exfalso; omega) | skip)
    | refine xsc ?_
    | (refine KJ_draws (id := 5) (.op 0 (.op 1 (.op 2 .nil))) (by kernel_rfl) (by kernel_rfl) ?_)
    | (refine KJ_draws (id := 7) (.op 0 (.op 1 (.op 2 (.op 3 (.op 4 (.op 5 (.op 6 (.op 7 (.op 8 (.op 9 (.op 10 (.op 11 (.op 12 (.op 13 (.op 14 (.op 15 (.op 16 .nil))))))))))))))))) (by kernel_rfl) (by kernel_rfl) ?_)
    | refine FW_alt ?_ ?_
    | refine FW_efn rfl rfl rfl rfl rfl ?_ ?_
    | refine KJ_flow ?_ ?_
    | exact Rech.nil
    | fail)
    all_goals (exact xdn ())
  · have cu := cu0 _ h1
    obtain ⟨k1, k2, k3⟩ := upt_ok (t := t) h4
    rw [k1, k2, k3] at cu
    rw [h2, h3, ← Nat.add_assoc]
    have hf := ru_fit h1
    have htd := ru_drop h1
    have ht := congrArg List.length htd
    rw [List.length_drop] at ht
    obtain ⟨a1, ha1⟩ : ∃ a1, a1 = a + (vu n).length := ⟨_, rfl⟩
    rw [← ha1] at cu hf ht htd ⊢
    have cl := rleft_ct (W := W) (p := p) (s := s) (a := a1) hf (by omega)
    have ql : decide (((s.length - a1 : Nat) : Int) < ((n : Nat) : Int)) = false := decide_eq_false (by omega)
    have hsl : (s.take (Int.toNat ((a1 + n : Nat) : Int))).drop (Int.toNat ((a1 : Nat) : Int)) = t.take n := by
      rw [Int.toNat_natCast, Int.toNat_natCast, htd, List.drop_take]
      congr 1; omega
    refine Ct.enter Tryz.func182 rfl Tryz.ntmps182 (by simp) (fun R => ?_)
    repeat' (first 
    | (refine is_call ?_; first | (refine KJ_call xE cl xP rfl (fun _ => ?_)) | (refine KJ_call xE cu xP rfl (fun _ => ?_)))
    | (refine ek_slice ?_; refine EK_ev (Ev_sliceStr_t rfl rfl rfl (by omega) hsl) ?_)
    | (refine ek_add ?_; refine EK_ev (Ev_addI_v (r := ((a1 + n : Nat) : Int)) rfl rfl (by omega) (by omega)) ?_)
    | (refine ek_sub ?_; refine EK_ev (Ev_subI_v (r := ((a1 : Nat) : Int)) rfl rfl (by omega) (by omega)) ?_)
    | (refine ek_lss ?_; refine EK_ev (Ev_lssI_q rfl rfl ql) ?_)
    | refine xst ?_
    | (refine xsa ?_; intro _)
    | (refine xsb ?_ ?_ <;> intro _ <;> first | (exfalso; omega) | skip)
    | refine xsc ?_
    | (refine KJ_draws (id := 5) (.op 0 (.op 1 (.op 2 .nil))) (by kernel_rfl) (by kernel_rfl) ?_)
    | (refine KJ_draws (id := 7) (.op 0 (.op 1 (.op 2 (.op 3 (.op 4 (.op 5 (.op 6 (.op 7 (.op 8 (.op 9 (.op 10 (.op 11 (.op 12 (.op 13 (.op 14 (.op 15 (.op 16 .nil))))))))))))))))) (by kernel_rfl) (by kernel_rfl) ?_)
    | refine FW_alt ?_ ?_
    | refine FW_efn rfl rfl rfl rfl rfl ?_ ?_
    | refine KJ_flow ?_ ?_
    | exact Rech.nil
    | fail)
    all_goals (exact xdn ())
set_option maxHeartbeats 4000000 in
theorem rtext_ct (most : Nat) (hm : most ≤ 9223372036854775807) (ha : a ≤ s.length) (hs : s.length ≤ 9223372036854775807) (e1 : W.cell? ⟨14, 0, none⟩ = some (errV F 1)) (e2 : W.cell? ⟨15, 0, none⟩ = some (errV F 2)) (e3 : W.cell? ⟨16, 0, none⟩ = some (errV F 3)) (q : Rd (List UInt8)) (hq : rtx most (s.drop a) = q) :
    Ct Tryz.prog W 128 [.pointer (some ⟨p, 0, none⟩), .int .i64 (most : Nat)] [rdP p s a] (fun _ : Unit => .tuple #[strV (rdS q), errV F (rdE q)]) (fun _ => [rdP p s (a + rdT q)]) := by
  have cu : ∀ br bm, Ct Tryz.prog W 181 [.pointer (some ⟨p, 0, none⟩), .func (.func 182) #[] #[.pointer (some ⟨br, 0, none⟩), .pointer (some ⟨bm, 0, none⟩)]] [rdP p s a, cellsP br [.pointer (some ⟨p, 0, none⟩)] 176, cellsP bm [.int .i64 (most : Nat)] 3] (fun _ : Unit => .tuple #[strV (rdS q), errV F (rdE q)])
      (fun _ => [rdP p s (a + rdT q), cellsP br [.pointer (some ⟨p, 0, none⟩)] 176, cellsP bm [.int .i64 (most : Nat)] 3]) := fun br bm => by
    have cc := textC_ct (W := W) (F := F) (p := p) (s := s) (a := a) br bm most hm ha hs e1 e2 e3
    cases q with
    | bad e =>
      have hne := errNe (F := F) (e := e) (by rcases rtx_err hq with h | h | h <;> omega)
      rw [hq] at cc
      rw [show rdT (.bad e) = 0 from rfl, Nat.add_zero]
      refine Ct.enter Tryz.func181 rfl Tryz.ntmps181 (by simp) (fun R => ?_)
      repeat' (first 
    | (refine is_callV ?_; refine KJ_callV rfl xE rfl cc xP rfl (fun _ => ?_))
    | (refine ek_neq ?_; refine EK_ev (Ev_neqNil rfl hne) ?_)
    | refine xst ?_
    | (refine xsa ?_; intro _)
    | (refine xsb ?_ ?_ <;> intro _ <;> first | (exfalso; omega) | skip)
    | refine xsc ?_
    | fail)
      all_goals (exact xdn ())
    | ok y t =>
      rw [hq, txA_ok hq] at cc
      refine Ct.enter Tryz.func181 rfl Tryz.ntmps181 (by simp) (fun R => ?_)
      repeat' (first 
    | (refine is_callV ?_; refine KJ_callV rfl xE rfl cc xP rfl (fun _ => ?_))
    | refine xst ?_
    | (refine xsa ?_; intro _)
    | (refine xsb ?_ ?_ <;> intro _ <;> first | (exfalso; omega) | skip)
    | refine xsc ?_
    | fail)
      all_goals (exact xdn ())
  refine Ct.enter Tryz.func128 rfl Tryz.ntmps128 (by simp) (fun R => ?_)
  repeat' (first 
    | (refine is_box ?_; refine KJ_box rfl xF rfl (fun g => ?_))
    | (refine is_call ?_; refine KJ_call xE (cu _ _) xP rfl (fun _ => ?_))
    | (refine ek_mkFunc ?_; refine EK_ev (Ev_mkFunc2 rfl rfl) ?_)
    | refine xst ?_
    | (refine xsa ?_; intro _)
    | (refine xsb ?_ ?_ <;> intro _ <;> first | (exfalso; omega) | skip)
    | refine xsc ?_
    | fail)
  all_goals (exact xdn ())
end
end Go.Proofs.YtnbgcimalpdfoaaGreatDoor
