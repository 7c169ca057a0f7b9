/-
  RaL5.
-/
import Derived.Test.YtehheokalgmbgaaBBN
/-
  The list of effects is what is told of each.
-/
namespace Go.Proofs.Ytehheokalgmbgaa
open Go Go.RowKit
section
variable {W : World} {r : Nat} {N : Int} {hs : RH}
theorem final24_ct (k : Int) : Ct Try.prog W 17 [.int .i64 k] [] (fun _ : Unit => .bool (finalK k)) (fun _ => []) := by
  by_cases h4 : k = 4
  · rw [show finalK k = true by unfold finalK; simp [h4]]
    refine Ct.enter Try.func17 rfl Try.ntmps17 (by simp) (fun R => ?_)
    repeat' (first 
    | (refine ek_eql ?_; refine EK_ev (Ev_eqlI_t rfl rfl h4) ?_)
    | refine xst ?_
    | (refine xsa ?_; intro _)
    | (refine xsb ?_ ?_ <;> intro _ <;> first | (exfalso; omega) | skip)
    | refine xsc ?_
    | fail)
    all_goals (exact xdn ())
  by_cases h5 : k = 5
  · rw [show finalK k = true by unfold finalK; simp [h5]]
    refine Ct.enter Try.func17 rfl Try.ntmps17 (by simp) (fun R => ?_)
    repeat' (first 
    | (refine ek_eql ?_; first | refine EK_ev (Ev_eqlI_f rfl rfl h4) ?_ | refine EK_ev (Ev_eqlI_t rfl rfl h5) ?_)
    | refine xst ?_
    | (refine xsa ?_; intro _)
    | (refine xsb ?_ ?_ <;> intro _ <;> first | (exfalso; omega) | skip)
    | refine xsc ?_
    | fail)
    all_goals (exact xdn ())
  have e : finalK k = decide (k = 6) := by unfold finalK; simp [h4, h5]
  rw [e]
  refine Ct.enter Try.func17 rfl Try.ntmps17 (by simp) (fun R => ?_)
  repeat' (first 
    | (refine ek_eql ?_; first | refine EK_ev (Ev_eqlI_f rfl rfl h4) ?_ | refine EK_ev (Ev_eqlI_f rfl rfl h5) ?_)
    | refine xst ?_
    | (refine xsa ?_; intro _)
    | (refine xsb ?_ ?_ <;> intro _ <;> first | (exfalso; omega) | skip)
    | refine xsc ?_
    | fail)
  all_goals (exact xdn ())
set_option maxHeartbeats 1000000 in
theorem listed24_ct (hb : hs.length ≤ 4611686018427387904) (a : Option Addr) (c : Nat) : Ct Try.prog W 18 [.slice a (effs hs).length c, .pointer (some ⟨r, 0, none⟩)] [RailH r N hs, lsP REff.cells 40 4 (.slice a (effs hs).length c) (effs hs)] (fun _ : Unit => .bool true) (fun _ => [RailH r N hs]) := by
  have hel := effs_len hs
  have hri := effs_rising hs
  have hme := fun x => (effs_mem hs x).1
  obtain ⟨L, hL⟩ : ∃ L, L = effs hs := ⟨_, rfl⟩
  rw [← hL] at hel hri ⊢
  simp only [← hL] at hme
  refine Ct.enter Try.func18 rfl Try.ntmps18 (by simp) (fun R => ?_)
  repeat' (first 
    | refine xst ?_
    | (refine xsa ?_; intro _)
    | (refine xsb ?_ ?_ <;> intro _ <;> first | (exfalso; omega) | skip)
    | refine xsc ?_
    | (refine KJ_draws (id := 5) (.op 0 (.op 1 (.op 2 (.op 3 (.op 4 (.op 5 (.op 6 (.op 7 (.op 8 (.op 9 (.op 10 (.op 11 (.op 12 (.op 13 (.op 14 (.op 15 (.op 16 (.op 17 (.op 18 (.op 19 (.op 20 (.op 21 (.op 22 (.op 23 (.op 24 (.ef 25 [] (.op 26 (.op 27 .nil)))))))))))))))))))))))))))) (by kernel_rfl) (by kernel_rfl) ?_)
    | refine FW_alt ?_ ?_
    | refine KJ_flow ?_ ?_
    | exact Rech.nil
    | fail)
  refine KJ_loop (fun i : {i : Nat // i ≤ L.length} => [(0, .slice a L.length c), (1, .pointer (some ⟨r, 0, none⟩)), (9, .slice a L.length c), (10, .int .i64 (L.length : Nat)), (11, .int .i64 (i.1 : Nat))])
    (fun _ => [RailH r N hs, lsP REff.cells 40 4 (.slice a L.length c) L] ++ R) (fun i => L.length - i.1) ⟨0, Nat.zero_le _⟩ xB (xN) (fun ⟨i, hi⟩ => ?_)
  dsimp only
  by_cases hlt : i < L.length
  rotate_left
  · have ql : decide ((i : Int) < (L.length : Nat)) = false := decide_eq_false (by omega)
    repeat' (first 
    | (refine ek_lss ?_; refine EK_ev (Ev_lssI_q rfl rfl ql) ?_)
    | refine xst ?_
    | (refine xsa ?_; intro _)
    | (refine xsb ?_ ?_ <;> intro _ <;> first | (exfalso; omega) | skip)
    | refine xsc ?_
    | (refine KJ_draws (id := 5) (.op 0 (.op 1 (.op 2 (.op 3 (.op 4 (.op 5 (.op 6 (.op 7 (.op 8 (.op 9 (.op 10 (.op 11 (.op 12 (.op 13 (.op 14 (.op 15 (.op 16 (.op 17 (.op 18 (.op 19 (.op 20 (.op 21 (.op 22 (.op 23 (.op 24 (.ef 25 [] (.op 26 (.op 27 .nil)))))))))))))))))))))))))))) (by kernel_rfl) (by kernel_rfl) ?_)
    | refine FW_alt ?_ ?_
    | refine KJ_flow ?_ ?_
    | exact Rech.nil
    | fail)
    all_goals (exact xdn ())
  have ql : decide ((i : Int) < (L.length : Nat)) = true := decide_eq_true (by omega)
  obtain ⟨x, hx⟩ : ∃ s, L[i]? = some s := ⟨_, List.getElem?_eq_getElem hlt⟩
  have hex := hme x (List.mem_of_getElem? hx)
  refine KJ.lsSome (l := L) xS (by omega) (fun g1 e1 => ?_)
  subst e1
  have ho : 0 + Int.toNat (i : Int) * 4 = i * 4 := by simp
  have ce := railEffect_ct (W := W) (r := r) (N := N) (hs := hs) x.token
  rw [hex] at ce
  have cf := final24_ct (W := W) x.kind
  rw [final_effect hex] at cf
  have hq : (!decide (x = x)) = false := by simp
  by_cases h0 : i = 0
  · have q0 : decide ((0 : Int) < (i : Nat)) = false := decide_eq_false (by omega)
    repeat' (first 
    | (refine is_call ?_; refine KJ_call xE ce xP rfl (fun _ => ?_))
    | (refine ek_load ?_; refine EK_ev (Ev_loadLs (l := L) enc_eff rfl xS rfl ho hx) ?_)
    | (refine ek_add ?_; refine EK_ev (Ev_addI_v (r := ((i + 1 : Nat) : Int)) rfl rfl (by omega) (by omega)) ?_)
    | (refine ek_neq ?_; refine EK_ev (Ev_neqSt rfl rfl (eff_eqF x x Try.underlying40) hq) ?_)
    | (refine ek_lss ?_; refine EK_ev (Ev_lssI_q rfl rfl ql) ?_)
    | (refine ek_gtr ?_; refine EK_ev (Ev_gtrI_q rfl rfl q0) ?_)
    | (refine is_fo ?_; (refine FO_callg (X := Unit) rfl rfl xE cf xP rfl ?_))
    | (refine is_ro ?_; (refine FO_callg (X := Unit) rfl rfl xE cf xP rfl ?_))
    | refine xst ?_
    | (refine xsa ?_; intro _)
    | (refine xsb ?_ ?_ <;> intro _ <;> first | (exfalso; omega) | skip)
    | refine xsc ?_
    | (refine KJ_draws (id := 5) (.op 0 (.op 1 (.op 2 (.op 3 (.op 4 (.op 5 (.op 6 (.op 7 (.op 8 (.op 9 (.op 10 (.op 11 (.op 12 (.op 13 (.op 14 (.op 15 (.op 16 (.op 17 (.op 18 (.op 19 (.op 20 (.op 21 (.op 22 (.op 23 (.op 24 (.op 25 (.op 26 (.op 27 .nil)))))))))))))))))))))))))))) (by kernel_rfl) (by kernel_rfl) ?_)
    | refine FW_alt ?_ ?_
    | refine KJ_flow ?_ ?_
    | exact Rech.nil
    | fail)
    all_goals refine KJ_again ⟨i + 1, hlt⟩ (by show L.length - (i + 1) < L.length - i; omega) xB (xN)
  · have q0 : decide ((0 : Int) < (i : Nat)) = true := decide_eq_true (by omega)
    obtain ⟨y, hy⟩ : ∃ s, L[i - 1]? = some s := ⟨_, List.getElem?_eq_getElem (by omega)⟩
    have hyx : Op.bytesLess y.token x.token = true := by
      obtain ⟨h1, h2⟩ := List.getElem?_eq_some_iff.1 hx
      obtain ⟨h3, h4⟩ := List.getElem?_eq_some_iff.1 hy
      have := List.pairwise_iff_getElem.1 hri (i - 1) i h3 h1 (by omega)
      rw [h2, h4] at this
      exact this
    have q3 : (Op.bytesLess x.token y.token || decide (x.token = y.token)) = false := by
      have h1 := tl_asym hyx
      have h2 : x.token ≠ y.token := fun e => by rw [e, tl_irr] at hyx; cases hyx
      simp [h1, h2]
    have ho2 : 0 + Int.toNat ((i - 1 : Nat) : Int) * 4 + 0 = (i - 1) * 4 + 0 := by simp
    repeat' (first 
    | (refine is_call ?_; refine KJ_call xE ce xP rfl (fun _ => ?_))
    | (refine ek_load ?_; first | refine EK_ev (Ev_loadLs (l := L) enc_eff rfl xS rfl ho hx) ?_ | refine EK_ev (Ev_loadLsF (l := L) enc_eff rfl xS rfl ho2 hy rfl) ?_)
    | (refine ek_add ?_; refine EK_ev (Ev_addI_v (r := ((i + 1 : Nat) : Int)) rfl rfl (by omega) (by omega)) ?_)
    | (refine ek_sub ?_; refine EK_ev (Ev_subI_v (r := ((i - 1 : Nat) : Int)) rfl rfl (by omega) (by omega)) ?_)
    | (refine ek_neq ?_; refine EK_ev (Ev_neqSt rfl rfl (eff_eqF x x Try.underlying40) hq) ?_)
    | (refine ek_lss ?_; refine EK_ev (Ev_lssI_q rfl rfl ql) ?_)
    | (refine ek_leq ?_; refine EK_ev (Ev_leqS_q rfl rfl q3) ?_)
    | (refine ek_gtr ?_; refine EK_ev (Ev_gtrI_q rfl rfl q0) ?_)
    | (refine is_fo ?_; (refine FO_callg (X := Unit) rfl rfl xE cf xP rfl ?_))
    | (refine is_ro ?_; (refine FO_callg (X := Unit) rfl rfl xE cf xP rfl ?_))
    | refine xst ?_
    | (refine xsa ?_; intro _)
    | (refine xsb ?_ ?_ <;> intro _ <;> first | (exfalso; omega) | skip)
    | refine xsc ?_
    | (refine KJ_draws (id := 5) (.op 0 (.op 1 (.op 2 (.op 3 (.op 4 (.op 5 (.op 6 (.op 7 (.op 8 (.op 9 (.op 10 (.op 11 (.op 12 (.op 13 (.op 14 (.op 15 (.op 16 (.op 17 (.op 18 (.op 19 (.op 20 (.op 21 (.op 22 (.op 23 (.op 24 (.op 25 (.op 26 (.op 27 .nil)))))))))))))))))))))))))))) (by kernel_rfl) (by kernel_rfl) ?_)
    | refine FW_alt ?_ ?_
    | refine KJ_flow ?_ ?_
    | exact Rech.nil
    | fail)
    all_goals refine KJ_again ⟨i + 1, hlt⟩ (by show L.length - (i + 1) < L.length - i; omega) xB (xN)
end
end Go.Proofs.Ytehheokalgmbgaa
