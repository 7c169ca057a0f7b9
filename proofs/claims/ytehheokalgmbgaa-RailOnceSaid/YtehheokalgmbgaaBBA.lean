/-
  RaW1.
-/
import Derived.Test.YtehheokalgmbgaaBAQ
import Derived.Test.YtehheokalgmbgaaBAU
import Derived.Test.YtehheokalgmbgaaBAV
import Derived.Test.YtehheokalgmbgaaBAY
import Derived.Test.YtehheokalgmbgaaBAZ
/-
  The package rail: contracts of its functions over the plain table.
-/
namespace Go.Proofs.Ytehheokalgmbgaa
open Go Go.RowKit
def RMsg.cells (m : RMsg) : List Value := [.int .i64 m.rail, .int .i64 m.kind, strV m.token, .int .i64 m.attempt, .int .i64 m.amount, strV m.currency, strV m.payee]
def REff.cells (x : REff) : List Value := [strV x.token, .int .i64 x.kind, .int .i64 x.amount, strV x.payee]
def effV (x : REff) : Value := .agg x.cells.toArray
def eff0 : REff := ⟨[], 0, 0, []⟩
def askV (a : List UInt8 × Int) : Value := .agg #[strV a.1, .int .i64 a.2]
def intV (i : Int) : Value := .int .i64 i
theorem ky_ask : KyOk Try.prog 68 askV := ky_pair (f0 := _) (f1 := _) Try.underlying68 (by kernel_rfl) rfl rfl rfl rfl (by decide) (by decide) Try.underlying9 Try.underlying3
theorem ky_tok : KyOk Try.prog 9 strV := ky_str Try.underlying9
instance : ZvIs Try.prog 40 (effV eff0) := ⟨by kernel_rfl⟩
instance : ZvIs Try.prog 3 (intV 0) := ⟨by kernel_rfl⟩
abbrev RTab := List (List UInt8 × REff)
abbrev RCnt := List ((List UInt8 × Int) × Int)
/-- a rail: its number, its table, its counts -/
abbrev RailL (r : Nat) (N : Int) (eb cb : Nat) (tab : RTab) (cnt : RCnt) : List SP := [cellsP r [.int .i64 N, .map (some eb), .map (some cb)] 62, mapP strV effV eb tab, mapP askV intV cb cnt]
/-- what a message makes of the table, and the kind of its answer -/
def actT (tab : RTab) (m : RMsg) (v : Int) : RTab := match lk tab m.token, effOf m v with
  | none, some x => mput tab m.token x
  | _, _ => tab
def actK (tab : RTab) (m : RMsg) (v : Int) : Int := match lk tab m.token, effOf m v with
  | some x, _ => x.kind
  | none, some x => x.kind
  | none, none => if m.kind = 2 then 7 else if v = 2 then 8 else 0

section
variable {W : World} {r eb cb : Nat} {N : Int} {tab : RTab} {cnt : RCnt}
theorem rnew_ct (N : Int) : Ct Try.prog W 9 [.int .i64 N] [] (fun x : Nat × Nat × Nat => .pointer (some ⟨x.1, 0, none⟩)) (fun x => RailL x.1 N x.2.1 x.2.2 [] []) := by
  refine Ct.enter Try.func9 rfl Try.ntmps9 (by simp) (fun R => ?_)
  repeat' (first 
    | (refine is_box ?_; refine KJ_box rfl xF rfl (fun r => ?_))
    | (refine is_mkMap ?_; first | (refine KJ_makeMap (t := 60) askV intV rfl (fun cb => ?_)) | (refine KJ_makeMap (t := 59) strV effV rfl (fun eb => ?_)))
    | (refine ek_build ?_; refine EK_ev (Ev_build xV xW) ?_)
    | refine xst ?_
    | (refine xsa ?_; intro _)
    | (refine xsb ?_ ?_ <;> intro _ <;> first | (exfalso; omega) | skip)
    | refine xsc ?_
    | fail)
  (exact xdn (r, eb, cb))
theorem known_ct (m : RMsg) : Ct Try.prog W 66 [.pointer (some ⟨r, 0, none⟩), .agg m.cells.toArray] (RailL r N eb cb tab cnt) (fun _ : Unit => .int .i64 ((lk tab m.token).elim 0 REff.kind)) (fun _ => RailL r N eb cb tab cnt) := by
  obtain ⟨x, hx⟩ : ∃ x, x = (lk tab m.token).getD eff0 := ⟨_, rfl⟩
  have h1 : (lk tab m.token).elim 0 REff.kind = x.kind := by rw [hx]; cases lk tab m.token <;> rfl
  have h2 : (lk tab m.token).elim (effV eff0) effV = effV x := by rw [hx]; cases lk tab m.token <;> rfl
  rw [h1]
  refine Ct.enter Try.func66 rfl Try.ntmps66 (by simp) (fun R => ?_)
  repeat' (first 
    | (refine is_box ?_; refine KJ_box rfl xF rfl (fun g => ?_))
    | (refine ek_lookup ?_; refine EK_ev (Ev_lookup ky_tok rfl rfl xS h2) ?_)
    | refine xst ?_
    | (refine xsa ?_; intro _)
    | (refine xsb ?_ ?_ <;> intro _ <;> first | (exfalso; omega) | skip)
    | refine xsc ?_
    | (refine KJ_draws (id := 1) (.op 0 (.op 1 (.op 2 (.op 3 (.op 4 (.op 5 (.op 6 (.op 7 (.op 8 .nil))))))))) (by kernel_rfl) (by kernel_rfl) ?_)
    | refine FW_alt ?_ ?_
    | refine KJ_flow ?_ ?_
    | exact Rech.nil
    | fail)
  all_goals (exact xdn ())
theorem query_ct (m : RMsg) (v : Int) (hk : m.kind = 2) (h0 : ∀ x, lk tab m.token = some x → x.kind ≠ 0) : Ct Try.prog W 42 [.pointer (some ⟨r, 0, none⟩), .agg m.cells.toArray, .int .i64 v] (RailL r N eb cb tab cnt) (fun _ : Unit => .int .i64 (actK tab m v)) (fun _ => RailL r N eb cb (actT tab m v) cnt) := by
  have c1 := known_ct (W := W) (r := r) (N := N) (eb := eb) (cb := cb) (tab := tab) (cnt := cnt) m
  have he : effOf m v = none := by unfold effOf; simp [hk]
  cases hl : lk tab m.token with
  | some x =>
    have e1 : actT tab m v = tab := by unfold actT; rw [hl]
    have e2 : actK tab m v = x.kind := by unfold actK; rw [hl]
    have q1 : decide (x.kind ≠ 0) = true := decide_eq_true (h0 x hl)
    rw [hl] at c1
    rw [e1, e2]
    refine Ct.enter Try.func42 rfl Try.ntmps42 (by simp) (fun R => ?_)
    repeat' (first 
    | (refine is_box ?_; refine KJ_box rfl xF rfl (fun g => ?_))
    | (refine is_call ?_; refine KJ_call xE c1 xP rfl (fun _ => ?_))
    | (refine ek_neq ?_; refine EK_ev (Ev_neqI_t rfl rfl (h0 x hl)) ?_)
    | refine xst ?_
    | (refine xsa ?_; intro _)
    | (refine xsb ?_ ?_ <;> intro _ <;> first | (exfalso; omega) | skip)
    | refine xsc ?_
    | fail)
    all_goals (exact xdn ())
  | none =>
    have e1 : actT tab m v = tab := by unfold actT; rw [hl, he]
    have e2 : actK tab m v = 7 := by unfold actK; rw [hl, he]; simp [hk]
    rw [hl] at c1
    rw [e1, e2]
    refine Ct.enter Try.func42 rfl Try.ntmps42 (by simp) (fun R => ?_)
    repeat' (first 
    | (refine is_box ?_; refine KJ_box rfl xF rfl (fun g => ?_))
    | (refine is_call ?_; refine KJ_call xE c1 xP rfl (fun _ => ?_))
    | (refine ek_neq ?_; refine EK_ev (Ev_neqI_f rfl rfl rfl) ?_)
    | refine xst ?_
    | (refine xsa ?_; intro _)
    | (refine xsb ?_ ?_ <;> intro _ <;> first | (exfalso; omega) | skip)
    | refine xsc ?_
    | fail)
    all_goals (exact xdn ())
theorem void_ct (m : RMsg) (v : Int) (hk : m.kind = 3) (h0 : ∀ x, lk tab m.token = some x → x.kind ≠ 0) : Ct Try.prog W 43 [.pointer (some ⟨r, 0, none⟩), .agg m.cells.toArray, .int .i64 v] (RailL r N eb cb tab cnt) (fun _ : Unit => .int .i64 (actK tab m v)) (fun _ => RailL r N eb cb (actT tab m v) cnt) := by
  have c1 := known_ct (W := W) (r := r) (N := N) (eb := eb) (cb := cb) (tab := tab) (cnt := cnt) m
  have he : effOf m v = some ⟨m.token, 6, 0, []⟩ := by unfold effOf; rw [if_pos hk]
  cases hl : lk tab m.token with
  | some x =>
    have e1 : actT tab m v = tab := by unfold actT; rw [hl]
    have e2 : actK tab m v = x.kind := by unfold actK; rw [hl]
    rw [hl] at c1
    rw [e1, e2]
    refine Ct.enter Try.func43 rfl Try.ntmps43 (by simp) (fun R => ?_)
    repeat' (first 
    | (refine is_box ?_; refine KJ_box rfl xF rfl (fun g => ?_))
    | (refine is_call ?_; refine KJ_call xE c1 xP rfl (fun _ => ?_))
    | (refine ek_neq ?_; refine EK_ev (Ev_neqI_t rfl rfl (h0 x hl)) ?_)
    | refine xst ?_
    | (refine xsa ?_; intro _)
    | (refine xsb ?_ ?_ <;> intro _ <;> first | (exfalso; omega) | skip)
    | refine xsc ?_
    | (refine KJ_draws (id := 4) (.op 0 (.op 1 (.op 2 (.op 3 (.op 4 (.op 5 (.op 6 (.op 7 (.op 8 (.ef 9 [] .nil)))))))))) (by kernel_rfl) (by kernel_rfl) ?_)
    | refine FW_alt ?_ ?_
    | refine KJ_flow ?_ ?_
    | exact Rech.nil
    | fail)
    all_goals (exact xdn ())
  | none =>
    have e1 : actT tab m v = mput tab m.token ⟨m.token, 6, 0, []⟩ := by unfold actT; rw [hl, he]
    have e2 : actK tab m v = 6 := by unfold actK; rw [hl, he]
    rw [hl] at c1
    rw [e1, e2]
    refine Ct.enter Try.func43 rfl Try.ntmps43 (by simp) (fun R => ?_)
    repeat' (first 
    | (refine is_box ?_; refine KJ_box rfl xF rfl (fun g => ?_))
    | (refine is_call ?_; refine KJ_call xE c1 xP rfl (fun _ => ?_))
    | (refine is_mapUpdate ?_; refine KJ_mapUpdate (v := (⟨m.token, 6, 0, []⟩ : REff)) ky_tok rfl rfl rfl xS ?_)
    | (refine ek_build ?_; refine EK_ev (Ev_build xV xW) ?_)
    | (refine ek_neq ?_; refine EK_ev (Ev_neqI_f rfl rfl rfl) ?_)
    | refine xst ?_
    | (refine xsa ?_; intro _)
    | (refine xsb ?_ ?_ <;> intro _ <;> first | (exfalso; omega) | skip)
    | refine xsc ?_
    | (refine KJ_draws (id := 4) (.op 0 (.op 1 (.op 2 (.op 3 (.op 4 (.op 5 (.op 6 (.op 7 (.op 8 (.ef 9 [] .nil)))))))))) (by kernel_rfl) (by kernel_rfl) ?_)
    | refine FW_alt ?_ ?_
    | refine KJ_flow ?_ ?_
    | exact Rech.nil
    | fail)
    all_goals (exact xdn ())
theorem exec_ct (m : RMsg) (v : Int) (hk : m.kind = 1) (h0 : ∀ x, lk tab m.token = some x → x.kind ≠ 0) : Ct Try.prog W 41 [.pointer (some ⟨r, 0, none⟩), .agg m.cells.toArray, .int .i64 v] (RailL r N eb cb tab cnt) (fun _ : Unit => .int .i64 (actK tab m v)) (fun _ => RailL r N eb cb (actT tab m v) cnt) := by
  have c1 := known_ct (W := W) (r := r) (N := N) (eb := eb) (cb := cb) (tab := tab) (cnt := cnt) m
  cases hl : lk tab m.token with
  | some x =>
    have e1 : actT tab m v = tab := by unfold actT; rw [hl]
    have e2 : actK tab m v = x.kind := by unfold actK; rw [hl]
    rw [hl] at c1
    rw [e1, e2]
    refine Ct.enter Try.func41 rfl Try.ntmps41 (by simp) (fun R => ?_)
    repeat' (first 
    | (refine is_box ?_; refine KJ_box rfl xF rfl (fun g => ?_))
    | (refine is_call ?_; refine KJ_call xE c1 xP rfl (fun _ => ?_))
    | (refine ek_neq ?_; refine EK_ev (Ev_neqI_t rfl rfl (h0 x hl)) ?_)
    | refine xst ?_
    | (refine xsa ?_; intro _)
    | (refine xsb ?_ ?_ <;> intro _ <;> first | (exfalso; omega) | skip)
    | refine xsc ?_
    | (refine KJ_draws (id := 13) (.op 0 (.op 1 (.op 2 (.op 3 (.op 4 (.op 5 (.op 6 (.ef 7 [] .nil)))))))) (by kernel_rfl) (by kernel_rfl) ?_)
    | refine FW_alt ?_ ?_
    | refine KJ_flow ?_ ?_
    | exact Rech.nil
    | fail)
    all_goals (exact xdn ())
  | none =>
    rw [hl] at c1
    by_cases h4 : v = 0
    · have he : effOf m v = some ⟨m.token, 4, m.amount, m.payee⟩ := by unfold effOf; simp [hk, h4]
      have e1 : actT tab m v = mput tab m.token ⟨m.token, 4, m.amount, m.payee⟩ := by unfold actT; rw [hl, he]
      have e2 : actK tab m v = 4 := by unfold actK; rw [hl, he]
      rw [e1, e2]
      refine Ct.enter Try.func41 rfl Try.ntmps41 (by simp) (fun R => ?_)
      repeat' (first 
    | (refine is_box ?_; refine KJ_box rfl xF rfl (fun g => ?_))
    | (refine is_call ?_; refine KJ_call xE c1 xP rfl (fun _ => ?_))
    | (refine is_mapUpdate ?_; refine KJ_mapUpdate (v := (⟨m.token, 4, m.amount, m.payee⟩ : REff)) ky_tok rfl rfl rfl xS ?_)
    | (refine ek_build ?_; refine EK_ev (Ev_build xV xW) ?_)
    | (refine ek_eql ?_; refine EK_ev (Ev_eqlI_t rfl rfl h4) ?_)
    | (refine ek_neq ?_; refine EK_ev (Ev_neqI_f rfl rfl rfl) ?_)
    | refine xst ?_
    | (refine xsa ?_; intro _)
    | (refine xsb ?_ ?_ <;> intro _ <;> first | (exfalso; omega) | skip)
    | refine xsc ?_
    | (refine KJ_draws (id := 13) (.op 0 (.op 1 (.op 2 (.op 3 (.op 4 (.op 5 (.op 6 (.ef 7 [] .nil)))))))) (by kernel_rfl) (by kernel_rfl) ?_)
    | refine FW_alt ?_ ?_
    | refine KJ_flow ?_ ?_
    | exact Rech.nil
    | fail)
      all_goals (exact xdn ())
    by_cases h5 : v = 1
    · have he : effOf m v = some ⟨m.token, 5, m.amount, m.payee⟩ := by unfold effOf; simp [hk, h5]
      have e1 : actT tab m v = mput tab m.token ⟨m.token, 5, m.amount, m.payee⟩ := by unfold actT; rw [hl, he]
      have e2 : actK tab m v = 5 := by unfold actK; rw [hl, he]
      rw [e1, e2]
      refine Ct.enter Try.func41 rfl Try.ntmps41 (by simp) (fun R => ?_)
      repeat' (first 
    | (refine is_box ?_; refine KJ_box rfl xF rfl (fun g => ?_))
    | (refine is_call ?_; refine KJ_call xE c1 xP rfl (fun _ => ?_))
    | (refine is_mapUpdate ?_; refine KJ_mapUpdate (v := (⟨m.token, 5, m.amount, m.payee⟩ : REff)) ky_tok rfl rfl rfl xS ?_)
    | (refine ek_build ?_; refine EK_ev (Ev_build xV xW) ?_)
    | (refine ek_eql ?_; first | refine EK_ev (Ev_eqlI_f rfl rfl h4) ?_ | refine EK_ev (Ev_eqlI_t rfl rfl h5) ?_)
    | (refine ek_neq ?_; refine EK_ev (Ev_neqI_f rfl rfl rfl) ?_)
    | refine xst ?_
    | (refine xsa ?_; intro _)
    | (refine xsb ?_ ?_ <;> intro _ <;> first | (exfalso; omega) | skip)
    | refine xsc ?_
    | (refine KJ_draws (id := 13) (.op 0 (.op 1 (.op 2 (.op 3 (.op 4 (.op 5 (.op 6 (.ef 7 [] .nil)))))))) (by kernel_rfl) (by kernel_rfl) ?_)
    | refine FW_alt ?_ ?_
    | refine KJ_flow ?_ ?_
    | exact Rech.nil
    | fail)
      all_goals (exact xdn ())
    have he : effOf m v = none := by unfold effOf; simp [hk, h4, h5]
    have e1 : actT tab m v = tab := by unfold actT; rw [hl, he]
    rw [e1]
    by_cases h6 : v = 2
    · have e2 : actK tab m v = 8 := by unfold actK; rw [hl, he]; simp [hk, h6]
      rw [e2]
      refine Ct.enter Try.func41 rfl Try.ntmps41 (by simp) (fun R => ?_)
      repeat' (first 
    | (refine is_box ?_; refine KJ_box rfl xF rfl (fun g => ?_))
    | (refine is_call ?_; refine KJ_call xE c1 xP rfl (fun _ => ?_))
    | (refine ek_build ?_; refine EK_ev (Ev_build xV xW) ?_)
    | (refine ek_eql ?_; first | refine EK_ev (Ev_eqlI_f rfl rfl h4) ?_ | refine EK_ev (Ev_eqlI_f rfl rfl h5) ?_ | refine EK_ev (Ev_eqlI_t rfl rfl h6) ?_)
    | (refine ek_neq ?_; refine EK_ev (Ev_neqI_f rfl rfl rfl) ?_)
    | refine xst ?_
    | (refine xsa ?_; intro _)
    | (refine xsb ?_ ?_ <;> intro _ <;> first | (exfalso; omega) | skip)
    | refine xsc ?_
    | (refine KJ_draws (id := 13) (.op 0 (.op 1 (.op 2 (.op 3 (.op 4 (.op 5 (.op 6 (.ef 7 [] .nil)))))))) (by kernel_rfl) (by kernel_rfl) ?_)
    | refine FW_alt ?_ ?_
    | refine KJ_flow ?_ ?_
    | exact Rech.nil
    | fail)
      all_goals (exact xdn ())
    · have e2 : actK tab m v = 0 := by unfold actK; rw [hl, he]; simp [hk, h6]
      rw [e2]
      refine Ct.enter Try.func41 rfl Try.ntmps41 (by simp) (fun R => ?_)
      repeat' (first 
    | (refine is_box ?_; refine KJ_box rfl xF rfl (fun g => ?_))
    | (refine is_call ?_; refine KJ_call xE c1 xP rfl (fun _ => ?_))
    | (refine ek_build ?_; refine EK_ev (Ev_build xV xW) ?_)
    | (refine ek_eql ?_; first | refine EK_ev (Ev_eqlI_f rfl rfl h4) ?_ | refine EK_ev (Ev_eqlI_f rfl rfl h5) ?_ | refine EK_ev (Ev_eqlI_f rfl rfl h6) ?_)
    | (refine ek_neq ?_; refine EK_ev (Ev_neqI_f rfl rfl rfl) ?_)
    | refine xst ?_
    | (refine xsa ?_; intro _)
    | (refine xsb ?_ ?_ <;> intro _ <;> first | (exfalso; omega) | skip)
    | refine xsc ?_
    | (refine KJ_draws (id := 13) (.op 0 (.op 1 (.op 2 (.op 3 (.op 4 (.op 5 (.op 6 (.ef 7 [] .nil)))))))) (by kernel_rfl) (by kernel_rfl) ?_)
    | refine FW_alt ?_ ?_
    | refine KJ_flow ?_ ?_
    | exact Rech.nil
    | fail)
      all_goals (exact xdn ())
end
end Go.Proofs.Ytehheokalgmbgaa
