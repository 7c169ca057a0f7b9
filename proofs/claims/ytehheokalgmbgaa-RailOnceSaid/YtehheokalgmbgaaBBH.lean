/-
  RaR1.
-/
import Derived.Test.YtehheokalgmbgaaBBG
/-
  The document's rail: Effect, Asked, Handle by what was handled.
-/
namespace Go.Proofs.Ytehheokalgmbgaa
open Go Go.RowKit
def hrdC (h : RMsg × Int) : List Value := [.int .i64 h.1.rail, .int .i64 h.1.kind, strV h.1.token, .int .i64 h.1.attempt, .int .i64 h.1.amount, strV h.1.currency, strV h.1.payee, .int .i64 h.2]
theorem enc_hrd : EncOk hrdC 8 := ⟨fun _ => rfl, fun x => by unfold hrdC; exact xO, by omega⟩
/-- the document's rail that has heard hs -/
def refF (w : Nat) (N : Int) (hs : RH) (x : Option Addr × Nat) : List SP := [cellsP w [.int .i64 N, .slice x.1 hs.length x.2] 29, lsP hrdC 66 8 (.slice x.1 hs.length x.2) hs]
def RefH (w : Nat) (N : Int) (hs : RH) : SP := packP 41 w (refF w N hs)
theorem effect_take {hs : RH} {tok : List UInt8} {i : Nat} {m : RMsg} {v : Int} (h : hs[i]? = some (m, v)) : effect (hs.take (i + 1)) tok = (effect (hs.take i) tok).or (if m.token = tok then effOf m v else none) := by
  have hl := (List.getElem?_eq_some_iff.1 h)
  obtain ⟨hl, he⟩ := hl
  rw [List.take_add_one, h]
  exact effect_append _ _ _ _
theorem effect_pre {hs : RH} {tok : List UInt8} {i : Nat} {x : REff} (h : effect (hs.take i) tok = some x) : effect hs tok = some x := by
  have e := List.take_append_drop i hs
  rw [← e]
  unfold effect at h ⊢
  rw [List.findSome?_append, h]
  rfl
section
variable {W : World} {w : Nat} {N : Int} {hs : RH}
set_option maxHeartbeats 1000000 in
theorem refEffF_ct (hl : hs.length ≤ 4611686018427387904) (tok : List UInt8) (a : Option Addr) (c : Nat) : Ct Try.prog W 25 [.pointer (some ⟨w, 0, none⟩), strV tok] (refF w N hs (a, c)) (fun _ : Unit => effO (effect hs tok)) (fun _ => refF w N hs (a, c)) := by
  obtain ⟨res, hres⟩ : ∃ res, res = effect hs tok := ⟨_, rfl⟩
  rw [← hres]
  dsimp only [refF]
  refine Ct.enter Try.func25 rfl Try.ntmps25 (by simp) (fun R => ?_)
  repeat' (first 
    | (refine is_alloc ?_; refine KJ_alloc rfl (fun g4 => ?_))
    | refine xst ?_
    | (refine xsa ?_; intro _)
    | (refine xsb ?_ ?_ <;> intro _ <;> first | (exfalso; omega) | skip)
    | refine xsc ?_
    | fail)
  refine KJ_loop (fun i : {i : Nat // i ≤ hs.length ∧ effect (hs.take i) tok = none} => [(0, .pointer (some ⟨w, 0, none⟩)), (1, strV tok), (4, .pointer (some ⟨g4, 0, none⟩)), (11, .slice a hs.length c), (12, .int .i64 (hs.length : Nat)), (13, .int .i64 (i.1 : Nat))])
    (fun _ => [cellsP g4 [strV [], .int .i64 0, .int .i64 0, strV []] 40, cellsP w [.int .i64 N, .slice a hs.length c] 29, lsP hrdC 66 8 (.slice a hs.length c) hs] ++ R) (fun i => hs.length - i.1) ⟨0, Nat.zero_le _, rfl⟩ xB (xN) (fun ⟨i, hi, hne⟩ => ?_)
  dsimp only
  by_cases hlt : i < hs.length
  rotate_left
  · have ql : decide ((i : Int) < (hs.length : Nat)) = false := decide_eq_false (by omega)
    rw [List.take_of_length_le (by omega)] at hne
    rw [hne] at hres
    subst hres
    repeat' (first 
    | (refine ek_build ?_; refine EK_ev (Ev_build xV xW) ?_)
    | (refine ek_lss ?_; refine EK_ev (Ev_lssI_q rfl rfl ql) ?_)
    | refine xst ?_
    | (refine xsa ?_; intro _)
    | (refine xsb ?_ ?_ <;> intro _ <;> first | (exfalso; omega) | skip)
    | refine xsc ?_
    | fail)
    all_goals (refine is_ex ?_; exact KJ_done (by first | exact Or.inl rfl | exact Or.inr rfl) rfl (Rvs.agg (T := 40) rfl inferInstance inferInstance xS xC (Rvs.tmp rfl Rvs.nil)) () (by rfl) (xN))
  have ql : decide ((i : Int) < (hs.length : Nat)) = true := decide_eq_true (by omega)
  obtain ⟨⟨m, v⟩, hx⟩ : ∃ s, hs[i]? = some s := ⟨_, List.getElem?_eq_getElem hlt⟩
  refine KJ.lsSome xS (by omega) (fun g hg => ?_)
  subst hg
  have hst : effect (hs.take (i + 1)) tok = if m.token = tok then effOf m v else none := by rw [effect_take hx, hne]; rfl
  have ho : 0 + Int.toNat (i : Int) * 8 = i * 8 := by simp
  by_cases h1 : m.token = tok
  rotate_left
  · rw [if_neg h1] at hst
    repeat' (first 
    | (refine is_alloc ?_; refine KJ_alloc rfl (fun g7 => ?_))
    | (refine ek_load ?_; refine EK_ev (Ev_loadLs enc_hrd rfl xS rfl ho hx) ?_)
    | (refine ek_add ?_; refine EK_ev (Ev_addI_v (r := ((i + 1 : Nat) : Int)) rfl rfl (by omega) (by omega)) ?_)
    | (refine ek_neq ?_; refine EK_ev (Ev_neqS_t rfl rfl h1) ?_)
    | (refine ek_lss ?_; refine EK_ev (Ev_lssI_q rfl rfl ql) ?_)
    | refine xst ?_
    | (refine xsa ?_; intro _)
    | (refine xsb ?_ ?_ <;> intro _ <;> first | (exfalso; omega) | skip)
    | refine xsc ?_
    | fail)
    all_goals refine KJ_again ⟨i + 1, hlt, hst⟩ (by show hs.length - (i + 1) < hs.length - i; omega) xB (xN)
  rw [if_pos h1] at hst
  by_cases h3 : m.kind = 3
  · have he : effOf m v = some ⟨m.token, 6, 0, []⟩ := by unfold effOf; rw [if_pos h3]
    rw [he] at hst
    rw [effect_pre hst] at hres
    subst hres
    rw [h1]
    repeat' (first 
    | (refine is_alloc ?_; refine KJ_alloc rfl (fun g7 => ?_))
    | (refine ek_load ?_; refine EK_ev (Ev_loadLs enc_hrd rfl xS rfl ho hx) ?_)
    | (refine ek_build ?_; refine EK_ev (Ev_build xV xW) ?_)
    | (refine ek_eql ?_; refine EK_ev (Ev_eqlI_t rfl rfl h3) ?_)
    | (refine ek_neq ?_; refine EK_ev (Ev_neqS_f rfl rfl h1) ?_)
    | (refine ek_lss ?_; refine EK_ev (Ev_lssI_q rfl rfl ql) ?_)
    | refine xst ?_
    | (refine xsa ?_; intro _)
    | (refine xsb ?_ ?_ <;> intro _ <;> first | (exfalso; omega) | skip)
    | refine xsc ?_
    | fail)
    all_goals (refine is_ex ?_; exact KJ_done (by first | exact Or.inl rfl | exact Or.inr rfl) rfl (Rvs.agg (T := 40) rfl inferInstance inferInstance xS xC (Rvs.tmp rfl Rvs.nil)) () (by rfl) (xN))
  by_cases h4 : m.kind = 1
  rotate_left
  · have he : effOf m v = none := by unfold effOf; simp [h3, h4]
    rw [he] at hst
    repeat' (first 
    | (refine is_alloc ?_; refine KJ_alloc rfl (fun g7 => ?_))
    | (refine ek_load ?_; refine EK_ev (Ev_loadLs enc_hrd rfl xS rfl ho hx) ?_)
    | (refine ek_add ?_; refine EK_ev (Ev_addI_v (r := ((i + 1 : Nat) : Int)) rfl rfl (by omega) (by omega)) ?_)
    | (refine ek_eql ?_; first | refine EK_ev (Ev_eqlI_f rfl rfl h4) ?_ | refine EK_ev (Ev_eqlI_f rfl rfl h3) ?_)
    | (refine ek_neq ?_; refine EK_ev (Ev_neqS_f rfl rfl h1) ?_)
    | (refine ek_lss ?_; refine EK_ev (Ev_lssI_q rfl rfl ql) ?_)
    | refine xst ?_
    | (refine xsa ?_; intro _)
    | (refine xsb ?_ ?_ <;> intro _ <;> first | (exfalso; omega) | skip)
    | refine xsc ?_
    | fail)
    all_goals refine KJ_again ⟨i + 1, hlt, hst⟩ (by show hs.length - (i + 1) < hs.length - i; omega) xB (xN)
  by_cases h5 : v = 0
  · have he : effOf m v = some ⟨m.token, 4, m.amount, m.payee⟩ := by unfold effOf; simp [h4, h5]
    rw [he] at hst
    rw [effect_pre hst] at hres
    subst hres
    rw [h1]
    repeat' (first 
    | (refine is_alloc ?_; refine KJ_alloc rfl (fun g7 => ?_))
    | (refine ek_load ?_; refine EK_ev (Ev_loadLs enc_hrd rfl xS rfl ho hx) ?_)
    | (refine ek_build ?_; refine EK_ev (Ev_build xV xW) ?_)
    | (refine ek_eql ?_; first | refine EK_ev (Ev_eqlI_t rfl rfl h5) ?_ | refine EK_ev (Ev_eqlI_t rfl rfl h4) ?_ | refine EK_ev (Ev_eqlI_f rfl rfl h3) ?_)
    | (refine ek_neq ?_; refine EK_ev (Ev_neqS_f rfl rfl h1) ?_)
    | (refine ek_lss ?_; refine EK_ev (Ev_lssI_q rfl rfl ql) ?_)
    | refine xst ?_
    | (refine xsa ?_; intro _)
    | (refine xsb ?_ ?_ <;> intro _ <;> first | (exfalso; omega) | skip)
    | refine xsc ?_
    | fail)
    all_goals (refine is_ex ?_; exact KJ_done (by first | exact Or.inl rfl | exact Or.inr rfl) rfl (Rvs.agg (T := 40) rfl inferInstance inferInstance xS xC (Rvs.tmp rfl Rvs.nil)) () (by rfl) (xN))
  by_cases h6 : v = 1
  · have he : effOf m v = some ⟨m.token, 5, m.amount, m.payee⟩ := by unfold effOf; simp [h4, h6]
    rw [he] at hst
    rw [effect_pre hst] at hres
    subst hres
    rw [h1]
    repeat' (first 
    | (refine is_alloc ?_; refine KJ_alloc rfl (fun g7 => ?_))
    | (refine ek_load ?_; refine EK_ev (Ev_loadLs enc_hrd rfl xS rfl ho hx) ?_)
    | (refine ek_build ?_; refine EK_ev (Ev_build xV xW) ?_)
    | (refine ek_eql ?_; first | refine EK_ev (Ev_eqlI_t rfl rfl h6) ?_ | refine EK_ev (Ev_eqlI_f rfl rfl h5) ?_ | refine EK_ev (Ev_eqlI_t rfl rfl h4) ?_ | refine EK_ev (Ev_eqlI_f rfl rfl h3) ?_)
    | (refine ek_neq ?_; refine EK_ev (Ev_neqS_f rfl rfl h1) ?_)
    | (refine ek_lss ?_; refine EK_ev (Ev_lssI_q rfl rfl ql) ?_)
    | refine xst ?_
    | (refine xsa ?_; intro _)
    | (refine xsb ?_ ?_ <;> intro _ <;> first | (exfalso; omega) | skip)
    | refine xsc ?_
    | fail)
    all_goals (refine is_ex ?_; exact KJ_done (by first | exact Or.inl rfl | exact Or.inr rfl) rfl (Rvs.agg (T := 40) rfl inferInstance inferInstance xS xC (Rvs.tmp rfl Rvs.nil)) () (by rfl) (xN))
  · have he : effOf m v = none := by unfold effOf; simp [h4, h5, h6]
    rw [he] at hst
    repeat' (first 
    | (refine is_alloc ?_; refine KJ_alloc rfl (fun g7 => ?_))
    | (refine ek_load ?_; refine EK_ev (Ev_loadLs enc_hrd rfl xS rfl ho hx) ?_)
    | (refine ek_add ?_; refine EK_ev (Ev_addI_v (r := ((i + 1 : Nat) : Int)) rfl rfl (by omega) (by omega)) ?_)
    | (refine ek_eql ?_; first | refine EK_ev (Ev_eqlI_f rfl rfl h6) ?_ | refine EK_ev (Ev_eqlI_f rfl rfl h5) ?_ | refine EK_ev (Ev_eqlI_t rfl rfl h4) ?_ | refine EK_ev (Ev_eqlI_f rfl rfl h3) ?_)
    | (refine ek_neq ?_; refine EK_ev (Ev_neqS_f rfl rfl h1) ?_)
    | (refine ek_lss ?_; refine EK_ev (Ev_lssI_q rfl rfl ql) ?_)
    | refine xst ?_
    | (refine xsa ?_; intro _)
    | (refine xsb ?_ ?_ <;> intro _ <;> first | (exfalso; omega) | skip)
    | refine xsc ?_
    | fail)
    all_goals refine KJ_again ⟨i + 1, hlt, hst⟩ (by show hs.length - (i + 1) < hs.length - i; omega) xB (xN)
theorem refEffect_ct (hl : hs.length ≤ 4611686018427387904) (tok : List UInt8) : Ct Try.prog W 25 [.pointer (some ⟨w, 0, none⟩), strV tok] [RefH w N hs] (fun _ : Unit => effO (effect hs tok)) (fun _ => [RefH w N hs]) := by
  refine Ct_unpack (Hs := []) fun x => ?_
  refine Ct_packs (F := fun _ : Unit => refF w N hs) (fun _ => x) ?_
  rw [List.append_nil]
  exact refEffF_ct hl tok x.1 x.2
end
end Go.Proofs.Ytehheokalgmbgaa
