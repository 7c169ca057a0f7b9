/-
  RaW2.
-/
import Derived.Test.YtehheokalgmbgaaBBA
import Derived.Test.YtehheokalgmbgaaBBB
/-
  The package rail: New, Handle, Effect, Asked by what was handled.
-/
namespace Go.Proofs.Ytehheokalgmbgaa
open Go Go.RowKit
/-- a rail that has handled hs -/
def railF (r : Nat) (N : Int) (hs : RH) (x : {x : (Nat × Nat) × RTab × RCnt // TabOk hs x.2.1 ∧ CntOk hs x.2.2}) : List SP := RailL r N x.1.1.1 x.1.1.2 x.1.2.1 x.1.2.2
def RailH (r : Nat) (N : Int) (hs : RH) : SP := packP 40 r (railF r N hs)
def ansC (N k : Int) (tok : List UInt8) : List Value := if k = 0 then [.int .i64 0, .int .i64 0, strV []] else [.int .i64 N, .int .i64 k, strV tok]
/-- an answer of the kind k; 0: none -/
def ansV (N k : Int) (tok : List UInt8) : Value := .tuple #[.agg (ansC N k tok).toArray, .bool (decide (k ≠ 0))]
def effO (o : Option REff) : Value := .tuple #[effV (o.getD eff0), .bool o.isSome]

theorem act_answer {N : Int} {hs : RH} {tab : RTab} (h : TabOk hs tab) {m : RMsg} {v : Int} (hh : handled N m = true) : actK tab m v = answer N hs m v := by
  rw [answer_yes hh, effect_append]
  unfold actK
  rw [h.2]
  cases effect hs m.token with
  | some x => cases effOf m v <;> rfl
  | none =>
    rw [if_pos rfl]
    cases effOf m v <;> rfl
theorem act_tab {hs : RH} {tab : RTab} (h : TabOk hs tab) (m : RMsg) (v : Int) : TabOk (hs ++ [(m, v)]) (actT tab m v) := by
  unfold actT
  split
  · rename_i h1 h2
    exact h.put h1 h2
  · rename_i hno
    refine h.known ?_
    cases h1 : lk tab m.token with
    | some x => exact .inl rfl
    | none =>
      cases h2 : effOf m v with
      | none => exact .inr rfl
      | some x => exact (hno x h1 h2).elim
theorem tab_nz {hs : RH} {tab : RTab} (h : TabOk hs tab) (tok : List UInt8) : ∀ x, lk tab tok = some x → x.kind ≠ 0 := fun x hx => by
  rw [h.2] at hx; exact effect_nz hx

section
variable {W : World} {r eb cb : Nat} {N : Int} {tab : RTab} {cnt : RCnt} {hs : RH}
theorem handlers_ct : Ct Try.prog W 29 [] [] (fun _ : Unit => .agg #[.nilFunc, .func (.func 41) #[] #[], .func (.func 42) #[] #[], .func (.func 43) #[] #[]]) (fun _ => []) := by
  refine Ct.enter Try.func29 rfl Try.ntmps29 (by simp) (fun R => ?_)
  repeat' (first 
    | (refine ek_build ?_; refine EK_ev (Ev_buildA (vs := [.nilFunc, .func (.func 41) #[] #[], .func (.func 42) #[] #[], .func (.func 43) #[] #[]]) xV (by kernel_rfl)) ?_)
    | refine xst ?_
    | (refine xsa ?_; intro _)
    | (refine xsb ?_ ?_ <;> intro _ <;> first | (exfalso; omega) | skip)
    | refine xsc ?_
    | fail)
  all_goals (refine KJ_done (.inl rfl) rfl (Rvs.agg rfl inferInstance inferInstance xS xC Rvs.nil) () rfl (xN))
set_option maxHeartbeats 2000000 in
theorem handle_in (m : RMsg) (v : Int) (f : FuncId) [FnIs Try.prog f] (hm : m.rail = N) (h1 : 1 ≤ m.kind) (h3 : m.kind ≤ 3) (hcn : ((lk cnt (m.token, m.kind)).getD 0) + 1 ≤ 9223372036854775807 ∧ 0 ≤ (lk cnt (m.token, m.kind)).getD 0)
    (hf : [Value.nilFunc, .func (.func 41) #[] #[], .func (.func 42) #[] #[], .func (.func 43) #[] #[]][m.kind.toNat]? = some (.func (.func f) #[] #[]))
    (ch : ∀ cnt, Ct Try.prog W f [.pointer (some ⟨r, 0, none⟩), .agg m.cells.toArray, .int .i64 v] (RailL r N eb cb tab cnt) (fun _ : Unit => .int .i64 (actK tab m v)) (fun _ => RailL r N eb cb (actT tab m v) cnt)) :
    Ct Try.prog W 16 [.pointer (some ⟨r, 0, none⟩), .agg m.cells.toArray, .int .i64 v] (RailL r N eb cb tab cnt) (fun _ : Unit => ansV N (actK tab m v) m.token)
      (fun _ => RailL r N eb cb (actT tab m v) (mput (mput cnt (m.token, m.kind) ((lk cnt (m.token, m.kind)).getD 0)) (m.token, m.kind) ((lk cnt (m.token, m.kind)).getD 0 + 1))) := by
  have ch' := ch (mput (mput cnt (m.token, m.kind) ((lk cnt (m.token, m.kind)).getD 0)) (m.token, m.kind) ((lk cnt (m.token, m.kind)).getD 0 + 1))
  have q1 : decide (m.kind < 1) = false := decide_eq_false (by omega)
  have q2 : decide (3 < m.kind) = false := decide_eq_false (by omega)
  have hc : (lk cnt (m.token, m.kind)).elim (intV 0) intV = intV ((lk cnt (m.token, m.kind)).getD 0) := by cases lk cnt (m.token, m.kind) <;> rfl
  have hc2 : (lk (mput cnt (m.token, m.kind) ((lk cnt (m.token, m.kind)).getD 0)) (m.token, m.kind)).elim (intV 0) intV = intV ((lk cnt (m.token, m.kind)).getD 0) := by rw [lk_put, if_pos rfl]; rfl
  have chs := handlers_ct (W := W)
  obtain ⟨K, hK⟩ : ∃ K, K = actK tab m v := ⟨_, rfl⟩
  rw [← hK] at ch' ⊢
  clear hK ch
  by_cases h0 : K = 0
  · have e : ansV N K m.token = .tuple #[.agg #[.int .i64 0, .int .i64 0, strV []], .bool false] := by unfold ansV ansC; simp [h0]
    rw [e]
    refine Ct.enter Try.func16 rfl Try.ntmps16 (by simp) (fun R => ?_)
    repeat' (first 
    | (refine is_box ?_; refine KJ_box rfl xF rfl (fun g => ?_))
    | (refine is_call ?_; refine KJ_call xE chs xP rfl (fun _ => ?_))
    | (refine is_mapEntry ?_; refine KJ_mapEntry (a := (m.token, m.kind)) (v0 := (0 : Int)) ky_ask rfl rfl xS rfl (fun st => ?_))
    | (refine is_entryStore ?_; refine KJ_entryStore (a := (m.token, m.kind)) (v := (lk cnt (m.token, m.kind)).getD 0 + 1) ky_ask rfl rfl rfl xS ?_)
    | (refine is_callV ?_; refine KJ_callF rfl xE ch' xP rfl (fun _ => ?_))
    | (refine ek_index ?_; refine EK_ev (Ev_indexAgg rfl rfl (by omega) hf) ?_)
    | (refine ek_lookup ?_; first | refine EK_ev (Ev_lookupE (a := (m.token, m.kind)) ky_ask rfl rfl xS hc2) ?_ | refine EK_ev (Ev_lookup (a := (m.token, m.kind)) ky_ask rfl rfl xS hc) ?_)
    | (refine ek_build ?_; refine EK_ev (Ev_build xV xW) ?_)
    | (refine ek_add ?_; refine EK_ev (Ev_addI rfl rfl ⟨by omega, by omega⟩) ?_)
    | (refine ek_eql ?_; refine EK_ev (Ev_eqlI_t rfl rfl h0) ?_)
    | (refine ek_neq ?_; refine EK_ev (Ev_neqI_f rfl rfl hm) ?_)
    | (refine ek_lss ?_; refine EK_ev (Ev_lssI_q rfl rfl q1) ?_)
    | (refine ek_gtr ?_; refine EK_ev (Ev_gtrI_q rfl rfl q2) ?_)
    | refine xst ?_
    | (refine xsa ?_; intro _)
    | (refine xsb ?_ ?_ <;> intro _ <;> first | (exfalso; omega) | skip)
    | refine xsc ?_
    | (refine KJ_draws (id := 1) (.op 0 (.op 1 (.op 2 (.op 3 (.op 4 (.op 5 (.op 6 (.op 7 (.op 8 (.op 9 (.op 10 (.op 11 (.op 12 (.op 13 (.op 14 (.op 15 (.op 16 .nil))))))))))))))))) (by kernel_rfl) (by kernel_rfl) ?_)
    | (refine KJ_draws (id := 3) (.op 0 (.op 1 (.op 2 (.op 3 (.op 4 (.op 5 (.op 6 (.op 7 (.op 8 (.op 9 (.op 10 (.ef 11 [10, 9] (.op 12 (.ef 13 [] .nil)))))))))))))) (by kernel_rfl) (by kernel_rfl) ?_)
    | (refine KJ_draws (id := 4) (.op 1 (.op 2 (.op 4 (.op 5 (.op 6 (.ef 0 [6, 5, 4, 2, 1] (.op 3 (.ef 7 [] (.op 8 .nil))))))))) (by kernel_rfl) (by kernel_rfl) ?_)
    | (refine KJ_draws (id := 7) (.op 0 (.op 1 (.op 2 (.op 3 (.op 4 (.op 5 (.op 6 (.op 7 (.ef 8 [] (.op 9 .nil)))))))))) (by kernel_rfl) (by kernel_rfl) ?_)
    | refine FW_alt ?_ ?_
    | refine KJ_flow ?_ ?_
    | exact Rech.nil
    | fail)
    all_goals (refine is_ex ?_; exact KJ_done (by first | exact Or.inl rfl | exact Or.inr rfl) rfl (Rvs.agg (T := 45) rfl inferInstance inferInstance xS xC (Rvs.tmp rfl Rvs.nil)) () (by rfl) (xN))
  · have e : ansV N K m.token = .tuple #[.agg #[.int .i64 N, .int .i64 K, strV m.token], .bool true] := by unfold ansV ansC; simp [h0]
    rw [e]
    refine Ct.enter Try.func16 rfl Try.ntmps16 (by simp) (fun R => ?_)
    repeat' (first 
    | (refine is_box ?_; refine KJ_box rfl xF rfl (fun g => ?_))
    | (refine is_call ?_; refine KJ_call xE chs xP rfl (fun _ => ?_))
    | (refine is_mapEntry ?_; refine KJ_mapEntry (a := (m.token, m.kind)) (v0 := (0 : Int)) ky_ask rfl rfl xS rfl (fun st => ?_))
    | (refine is_entryStore ?_; refine KJ_entryStore (a := (m.token, m.kind)) (v := (lk cnt (m.token, m.kind)).getD 0 + 1) ky_ask rfl rfl rfl xS ?_)
    | (refine is_callV ?_; refine KJ_callF rfl xE ch' xP rfl (fun _ => ?_))
    | (refine ek_index ?_; refine EK_ev (Ev_indexAgg rfl rfl (by omega) hf) ?_)
    | (refine ek_lookup ?_; first | refine EK_ev (Ev_lookupE (a := (m.token, m.kind)) ky_ask rfl rfl xS hc2) ?_ | refine EK_ev (Ev_lookup (a := (m.token, m.kind)) ky_ask rfl rfl xS hc) ?_)
    | (refine ek_build ?_; refine EK_ev (Ev_build xV xW) ?_)
    | (refine ek_add ?_; refine EK_ev (Ev_addI rfl rfl ⟨by omega, by omega⟩) ?_)
    | (refine ek_eql ?_; refine EK_ev (Ev_eqlI_f rfl rfl h0) ?_)
    | (refine ek_neq ?_; refine EK_ev (Ev_neqI_f rfl rfl hm) ?_)
    | (refine ek_lss ?_; refine EK_ev (Ev_lssI_q rfl rfl q1) ?_)
    | (refine ek_gtr ?_; refine EK_ev (Ev_gtrI_q rfl rfl q2) ?_)
    | refine xst ?_
    | (refine xsa ?_; intro _)
    | (refine xsb ?_ ?_ <;> intro _ <;> first | (exfalso; omega) | skip)
    | refine xsc ?_
    | (refine KJ_draws (id := 1) (.op 0 (.op 1 (.op 2 (.op 3 (.op 4 (.op 5 (.op 6 (.op 7 (.op 8 (.op 9 (.op 10 (.op 11 (.op 12 (.op 13 (.op 14 (.op 15 (.op 16 .nil))))))))))))))))) (by kernel_rfl) (by kernel_rfl) ?_)
    | (refine KJ_draws (id := 3) (.op 0 (.op 1 (.op 2 (.op 3 (.op 4 (.op 5 (.op 6 (.op 7 (.op 8 (.op 9 (.op 10 (.ef 11 [10, 9] (.op 12 (.ef 13 [] .nil)))))))))))))) (by kernel_rfl) (by kernel_rfl) ?_)
    | (refine KJ_draws (id := 4) (.op 1 (.op 2 (.op 4 (.op 5 (.op 6 (.ef 0 [6, 5, 4, 2, 1] (.op 3 (.ef 7 [] (.op 8 .nil))))))))) (by kernel_rfl) (by kernel_rfl) ?_)
    | (refine KJ_draws (id := 7) (.op 0 (.op 1 (.op 2 (.op 3 (.op 4 (.op 5 (.op 6 (.op 7 (.ef 8 [] (.op 9 .nil)))))))))) (by kernel_rfl) (by kernel_rfl) ?_)
    | refine FW_alt ?_ ?_
    | refine KJ_flow ?_ ?_
    | exact Rech.nil
    | fail)
    all_goals (refine is_ex ?_; exact KJ_done (by first | exact Or.inl rfl | exact Or.inr rfl) rfl (Rvs.agg (T := 45) rfl inferInstance inferInstance xS xC (Rvs.tmp rfl Rvs.nil)) () (by rfl) (xN))
end
end Go.Proofs.Ytehheokalgmbgaa
