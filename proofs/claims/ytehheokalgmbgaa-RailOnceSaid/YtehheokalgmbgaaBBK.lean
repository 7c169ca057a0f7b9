/-
  RaL1.
-/
import Derived.Test.YtehheokalgmbgaaBBJ
/-
  The statements of chapter 24: lists compared, the fixed facts, a step; RailPlays.
-/
namespace Go.Proofs.Ytehheokalgmbgaa
open Go Go.RowKit
instance : StIs Try.prog 40 := ⟨by kernel_rfl, by kernel_rfl⟩
instance : StIs Try.prog 45 := ⟨by kernel_rfl, by kernel_rfl⟩
theorem eff_eqF (x y : REff) {fs : Array Field} (hu : Try.prog.underlying 40 = some (.struct fs)) : EqF Try.prog x.cells y.cells fs.toList (decide (x = y)) := by
  have e := Try.underlying40.symm.trans hu
  simp only [Option.some.injEq, TypeDesc.struct.injEq] at e
  subst e
  have e2 : decide (x = y) = (decide (x.token = y.token) && (decide (x.kind = y.kind) && (decide (x.amount = y.amount) && (decide (x.payee = y.payee) && true)))) := by
    rw [Bool.eq_iff_iff]
    cases x; cases y
    simp
  rw [e2]
  refine EqF.cons rfl inferInstance rfl rfl ?_ (EqF.cons rfl inferInstance rfl rfl ?_ (EqF.cons rfl inferInstance rfl rfl ?_ (EqF.cons rfl inferInstance rfl rfl ?_ EqF.nil)))
  all_goals (unfold cellEq; simp)
theorem ans_eqF (a b : Int) (s : List UInt8) {fs : Array Field} (hu : Try.prog.underlying 45 = some (.struct fs)) : EqF Try.prog [.int .i64 a, .int .i64 b, strV s] [.int .i64 a, .int .i64 b, strV s] fs.toList true := by
  have e := Try.underlying45.symm.trans hu
  simp only [Option.some.injEq, TypeDesc.struct.injEq] at e
  subst e
  refine EqF.cons (b := true) (b' := true) rfl inferInstance rfl rfl ?_ (EqF.cons (b := true) (b' := true) rfl inferInstance rfl rfl ?_ (EqF.cons (b := true) (b' := true) rfl inferInstance rfl rfl ?_ EqF.nil))
  all_goals (unfold cellEq; simp)
theorem ans_shape (N k : Int) (tok : List UInt8) : ∃ a b s, ansC N k tok = [.int .i64 a, .int .i64 b, strV s] := by
  unfold ansC
  split
  · exact ⟨0, 0, [], rfl⟩
  · exact ⟨N, k, tok, rfl⟩
theorem take_next {α : Type} {l r : List α} {i : Nat} {x y : α} (hx : l[i]? = some x) (hy : r[i]? = some y) (h : l.take i = r.take i) (e : x = y) : l.take (i + 1) = r.take (i + 1) := by
  rw [List.take_add_one, List.take_add_one, hx, hy, h, e]
section
variable {W : World} {r w : Nat} {N : Int} {hs : RH}
set_option maxHeartbeats 1000000 in
theorem sameEff_ct (l1 l2 : List REff) (a1 a2 : Option Addr) (c1 c2 : Nat) (h1 : l1.length ≤ 4611686018427387904) (h2 : l2.length ≤ 4611686018427387904) : Ct Try.prog W 11 [.slice a1 l1.length c1, .slice a2 l2.length c2] [lsP REff.cells 40 4 (.slice a1 l1.length c1) l1, lsP REff.cells 40 4 (.slice a2 l2.length c2) l2] (fun _ : Unit => .bool (decide (l1 = l2))) (fun _ => [lsP REff.cells 40 4 (.slice a1 l1.length c1) l1, lsP REff.cells 40 4 (.slice a2 l2.length c2) l2]) := by
  by_cases hl : l1.length = l2.length
  rotate_left
  · have q : ((l1.length : Nat) : Int) ≠ (l2.length : Nat) := by omega
    have e : decide (l1 = l2) = false := decide_eq_false (fun h => hl (by rw [h]))
    rw [e]
    refine Ct.enter Try.func11 rfl Try.ntmps11 (by simp) (fun R => ?_)
    repeat' (first 
    | (refine ek_neq ?_; refine EK_ev (Ev_neqI_t rfl rfl q) ?_)
    | refine xst ?_
    | (refine xsa ?_; intro _)
    | (refine xsb ?_ ?_ <;> intro _ <;> first | (exfalso; omega) | skip)
    | refine xsc ?_
    | (refine KJ_draws (id := 6) (.op 0 (.op 1 (.op 2 (.op 3 (.op 4 (.op 5 (.op 6 (.op 7 (.op 8 .nil))))))))) (by kernel_rfl) (by kernel_rfl) ?_)
    | refine FW_alt ?_ ?_
    | refine KJ_flow ?_ ?_
    | exact Rech.nil
    | fail)
    all_goals (exact xdn ())
  have q : ((l1.length : Nat) : Int) = (l2.length : Nat) := by omega
  refine Ct.enter Try.func11 rfl Try.ntmps11 (by simp) (fun R => ?_)
  repeat' (first 
    | (refine ek_neq ?_; refine EK_ev (Ev_neqI_f rfl rfl q) ?_)
    | refine xst ?_
    | (refine xsa ?_; intro _)
    | (refine xsb ?_ ?_ <;> intro _ <;> first | (exfalso; omega) | skip)
    | refine xsc ?_
    | (refine KJ_draws (id := 6) (.op 0 (.op 1 (.op 2 (.op 3 (.op 4 (.op 5 (.op 6 (.op 7 (.op 8 .nil))))))))) (by kernel_rfl) (by kernel_rfl) ?_)
    | refine FW_alt ?_ ?_
    | refine KJ_flow ?_ ?_
    | exact Rech.nil
    | fail)
  refine KJ_loop (fun i : {i : Nat // i ≤ l1.length ∧ l1.take i = l2.take i} => [(0, .slice a1 l1.length c1), (1, .slice a2 l2.length c2), (12, .int .i64 (l1.length : Nat)), (13, .int .i64 (i.1 : Nat))])
    (fun _ => [lsP REff.cells 40 4 (.slice a1 l1.length c1) l1, lsP REff.cells 40 4 (.slice a2 l2.length c2) l2] ++ R) (fun i => l1.length - i.1) ⟨0, Nat.zero_le _, rfl⟩ xB (xN) (fun ⟨i, hi, ht⟩ => ?_)
  dsimp only
  by_cases hlt : i < l1.length
  rotate_left
  · have ql : decide ((i : Int) < (l1.length : Nat)) = false := decide_eq_false (by omega)
    rw [List.take_of_length_le (by omega), List.take_of_length_le (by omega)] at ht
    have e : decide (l1 = l2) = true := decide_eq_true ht
    rw [e]
    repeat' (first 
    | (refine ek_lss ?_; refine EK_ev (Ev_lssI_q rfl rfl ql) ?_)
    | refine xst ?_
    | (refine xsa ?_; intro _)
    | (refine xsb ?_ ?_ <;> intro _ <;> first | (exfalso; omega) | skip)
    | refine xsc ?_
    | (refine KJ_draws (id := 6) (.op 0 (.op 1 (.op 2 (.op 3 (.op 4 (.op 5 (.op 6 (.op 7 (.op 8 .nil))))))))) (by kernel_rfl) (by kernel_rfl) ?_)
    | refine FW_alt ?_ ?_
    | refine KJ_flow ?_ ?_
    | exact Rech.nil
    | fail)
    all_goals (exact xdn ())
  have ql : decide ((i : Int) < (l1.length : Nat)) = true := decide_eq_true (by omega)
  obtain ⟨x, hx⟩ : ∃ s, l1[i]? = some s := ⟨_, List.getElem?_eq_getElem hlt⟩
  obtain ⟨y, hy⟩ : ∃ s, l2[i]? = some s := ⟨_, List.getElem?_eq_getElem (by omega)⟩
  refine KJ.lsSome (l := l1) xS (by omega) (fun g1 e1 => ?_)
  refine KJ.lsSome (l := l2) (a := a2) xS (by omega) (fun g2 e2 => ?_)
  subst e1
  subst e2
  have ho : 0 + Int.toNat (i : Int) * 4 = i * 4 := by simp
  by_cases hxy : x = y
  · have e := take_next hx hy ht hxy
    have hq : (!decide (x = y)) = false := by simp [hxy]
    repeat' (first 
    | (refine ek_load ?_; first | refine EK_ev (Ev_loadLs enc_eff rfl xS rfl ho hx) ?_ | refine EK_ev (Ev_loadLs enc_eff rfl xS rfl ho hy) ?_)
    | (refine ek_add ?_; refine EK_ev (Ev_addI_v (r := ((i + 1 : Nat) : Int)) rfl rfl (by omega) (by omega)) ?_)
    | (refine ek_neq ?_; refine EK_ev (Ev_neqSt rfl rfl (eff_eqF x y Try.underlying40) hq) ?_)
    | (refine ek_lss ?_; refine EK_ev (Ev_lssI_q rfl rfl ql) ?_)
    | refine xst ?_
    | (refine xsa ?_; intro _)
    | (refine xsb ?_ ?_ <;> intro _ <;> first | (exfalso; omega) | skip)
    | refine xsc ?_
    | (refine KJ_draws (id := 6) (.op 0 (.op 1 (.op 2 (.op 3 (.op 4 (.op 5 (.op 6 (.op 7 (.op 8 .nil))))))))) (by kernel_rfl) (by kernel_rfl) ?_)
    | refine FW_alt ?_ ?_
    | refine KJ_flow ?_ ?_
    | exact Rech.nil
    | fail)
    all_goals refine KJ_again ⟨i + 1, hlt, e⟩ (by show l1.length - (i + 1) < l1.length - i; omega) xB (xN)
  · have hne : l1 ≠ l2 := fun h => by rw [h, hy] at hx; cases hx; exact hxy rfl
    have hq : (!decide (x = y)) = true := by simp [hxy]
    rw [decide_eq_false hne]
    repeat' (first 
    | (refine ek_load ?_; first | refine EK_ev (Ev_loadLs enc_eff rfl xS rfl ho hx) ?_ | refine EK_ev (Ev_loadLs enc_eff rfl xS rfl ho hy) ?_)
    | (refine ek_neq ?_; refine EK_ev (Ev_neqSt rfl rfl (eff_eqF x y Try.underlying40) hq) ?_)
    | (refine ek_lss ?_; refine EK_ev (Ev_lssI_q rfl rfl ql) ?_)
    | refine xst ?_
    | (refine xsa ?_; intro _)
    | (refine xsb ?_ ?_ <;> intro _ <;> first | (exfalso; omega) | skip)
    | refine xsc ?_
    | (refine KJ_draws (id := 6) (.op 0 (.op 1 (.op 2 (.op 3 (.op 4 (.op 5 (.op 6 (.op 7 (.op 8 .nil))))))))) (by kernel_rfl) (by kernel_rfl) ?_)
    | refine FW_alt ?_ ?_
    | refine KJ_flow ?_ ?_
    | exact Rech.nil
    | fail)
    all_goals (exact xdn ())
end
end Go.Proofs.Ytehheokalgmbgaa
