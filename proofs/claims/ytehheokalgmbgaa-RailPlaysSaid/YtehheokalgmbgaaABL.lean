/-
  RaL2.
-/
import Derived.Test.YtehheokalgmbgaaABK
/-
  The statements of chapter 24: the fixed facts, a step, RailPlays.
-/
namespace Go.Proofs.Ytehheokalgmbgaa
open Go Go.RowKit
/-- a message of a script -/
structure ROp where
  m : RMsg
  v : Int
  ask : Bool
instance : Inhabited RMsg := ⟨⟨0, 0, [], 0, 0, [], []⟩⟩
instance : Inhabited ROp := ⟨⟨default, 0, false⟩⟩
def ROp.cells (o : ROp) : List Value := [.int .i64 o.m.rail, .int .i64 o.m.kind, strV o.m.token, .int .i64 o.m.attempt, .int .i64 o.m.amount, strV o.m.currency, strV o.m.payee, .int .i64 o.v, .bool o.ask]
def LM : RMsg := ⟨1, 1, [84], 0, 500, [], [80]⟩
theorem LM_a : answer 1 [] LM 0 = 4 := by decide
theorem LM_h : hear 1 [] LM 0 = [(LM, 0)] := by unfold hear; rw [if_pos (by decide)]; rfl
theorem LM_e : effect [(LM, 0)] [84] = some ⟨[84], 4, 500, [80]⟩ := by decide
theorem LM_n : asked [(LM, 0)] [84] 1 = 1 := by decide
theorem effsUp_len (hs : RH) : ∀ (r : RH) (l : List REff), (effsUp hs r l).length ≤ l.length + r.length
  | [], l => Nat.le_refl _
  | h :: r, l => by
    unfold effsUp
    cases effect hs h.1.token with
    | none => have := effsUp_len hs r l; simp only [List.length_cons]; omega
    | some x => have := effsUp_len hs r (ins l x); have := ins_len l x; simp only [List.length_cons]; omega
theorem effs_len (hs : RH) : (effs hs).length ≤ hs.length := by
  have := effsUp_len hs hs []
  rw [List.length_nil, Nat.zero_add] at this
  exact this
section
variable {W : World} {r w : Nat} {N : Int} {hs : RH}
theorem lives24_ct : Ct Try.prog W 8 [] [] (fun _ : Unit => .bool true) (fun _ => []) := by
  have c1 := railNew_ct (W := W) 1
  have c2 : ∀ r, Ct Try.prog W 16 [.pointer (some ⟨r, 0, none⟩), .agg #[.int .i64 1, .int .i64 1, strV [84], .int .i64 0, .int .i64 500, strV [], strV [80]], .int .i64 0] [RailH r 1 []] (fun _ : Unit => .tuple #[.agg #[.int .i64 1, .int .i64 4, strV [84]], .bool true]) (fun _ => [RailH r 1 [(LM, 0)]]) := fun r => by
    have h := railHandle_ct (W := W) (r := r) (N := 1) (hs := []) (by simp) LM 0
    rw [LM_a, LM_h] at h
    exact h
  have c3 : ∀ r, Ct Try.prog W 14 [.pointer (some ⟨r, 0, none⟩), strV [84]] [RailH r 1 [(LM, 0)]] (fun _ : Unit => .tuple #[.agg #[strV [84], .int .i64 4, .int .i64 500, strV [80]], .bool true]) (fun _ => [RailH r 1 [(LM, 0)]]) := fun r => by
    have h := railEffect_ct (W := W) (r := r) (N := 1) (hs := [(LM, 0)]) [84]
    rw [LM_e] at h
    exact h
  have c4 : ∀ r, Ct Try.prog W 15 [.pointer (some ⟨r, 0, none⟩), strV [84], .int .i64 1] [RailH r 1 [(LM, 0)]] (fun _ : Unit => .int .i64 1) (fun _ => [RailH r 1 [(LM, 0)]]) := fun r => by
    have h := railAsked_ct (W := W) (r := r) (N := 1) (hs := [(LM, 0)]) [84] 1
    rw [LM_n] at h
    exact h
  have e1 : decide (({ token := [84], kind := 4, amount := 500, payee := [80] } : REff) = { token := [84], kind := 4, amount := 500, payee := [80] }) = true := decide_eq_true rfl
  refine Ct.enter Try.func8 rfl Try.ntmps8 (by simp) (fun R => ?_)
  repeat' (first 
    | (refine is_call ?_; first | (refine KJ_call xE (c4 _) xP rfl (fun _ => ?_)) | (refine KJ_call xE (c3 _) xP rfl (fun _ => ?_)) | (refine KJ_call xE (c2 _) xP rfl (fun _ => ?_)) | (refine KJ_call xE c1 xP rfl (fun r => ?_)))
    | (refine ek_build ?_; refine EK_ev (Ev_build xV xW) ?_)
    | (refine ek_eql ?_; first | refine EK_ev (Ev_eqlSt rfl rfl (eff_eqF ⟨[84], 4, 500, [80]⟩ ⟨[84], 4, 500, [80]⟩ Try.underlying40) e1) ?_ | refine EK_ev (Ev_eqlSt rfl rfl (ans_eqF 1 4 [84] Try.underlying45) rfl) ?_ | refine EK_ev (Ev_eqlI_t rfl rfl rfl) ?_)
    | refine xst ?_
    | (refine xsa ?_; intro _)
    | (refine xsb ?_ ?_ <;> intro _ <;> first | (exfalso; omega) | skip)
    | refine xsc ?_
    | fail)
  all_goals (exact xdn ())
/-- behind a step -/
def ROp.next (N : Int) (hs : RH) (o : ROp) : RH := if o.ask then hs else hear N hs o.m o.v
set_option maxHeartbeats 1000000 in
theorem step24_ct (hl : (hs.length + 1) * 88 ≤ 140737488355328) (o : ROp) : Ct Try.prog W 10 [.pointer (some ⟨r, 0, none⟩), .pointer (some ⟨w, 0, none⟩), .agg o.cells.toArray] [RailH r N hs, RefH w N hs] (fun _ : Unit => .bool true) (fun _ => [RailH r N (o.next N hs), RefH w N (o.next N hs)]) := by
  obtain ⟨m, v, ask⟩ := o
  cases ask with
  | false =>
    have c1 := railHandle_ct (W := W) (r := r) (N := N) (hs := hs) (by omega) m v
    have c2 := refHandle_ct (W := W) (w := w) (N := N) (hs := hs) hl m v
    show Ct _ _ _ _ _ _ (fun _ => [RailH r N (hear N hs m v), RefH w N (hear N hs m v)])
    obtain ⟨ka, kb, ks, hk⟩ := ans_shape N (answer N hs m v) m.token
    obtain ⟨b, hb⟩ : ∃ b, b = decide (answer N hs m v ≠ 0) := ⟨_, rfl⟩
    unfold ansV at c1 c2
    rw [hk, ← hb] at c1 c2
    have hbb : (b == b) = true := by simp
    refine Ct.enter Try.func10 rfl Try.ntmps10 (by simp) (fun R => ?_)
    repeat' (first 
    | (refine is_box ?_; refine KJ_box rfl xF rfl (fun g5 => ?_))
    | (refine is_call ?_; first | (refine KJ_call xE c2 xP rfl (fun _ => ?_)) | (refine KJ_call xE c1 xP rfl (fun _ => ?_)))
    | (refine ek_eql ?_; first | refine EK_ev (Ev_eqlSt rfl rfl (ans_eqF ka kb ks Try.underlying45) rfl) ?_ | refine EK_ev (Ev_eqlBw rfl rfl hbb) ?_)
    | refine xst ?_
    | (refine xsa ?_; intro _)
    | (refine xsb ?_ ?_ <;> intro _ <;> first | (exfalso; omega) | skip)
    | refine xsc ?_
    | (refine KJ_draws (id := 7) (.op 0 (.op 1 (.op 2 (.op 3 (.op 4 (.op 5 (.op 6 (.op 7 (.op 8 (.op 9 (.op 10 (.op 11 (.op 12 (.op 13 (.op 14 (.op 15 (.op 17 (.op 18 (.op 19 (.op 20 (.op 21 (.op 22 (.op 23 (.ef 16 [23, 22, 21, 20, 19, 18, 17] (.ef 24 [] (.op 25 (.op 26 (.op 27 (.op 28 (.op 30 (.ef 29 [30] (.ef 31 [] (.ef 32 [] (.op 33 (.op 34 .nil))))))))))))))))))))))))))))))))))) (by kernel_rfl) (by kernel_rfl) ?_)
    | refine FW_alt ?_ ?_
    | refine KJ_flow ?_ ?_
    | exact Rech.nil
    | fail)
    all_goals (exact xdn ())
  | true =>
    have c1 := railEffect_ct (W := W) (r := r) (N := N) (hs := hs) m.token
    have c2 := refEffect_ct (W := W) (w := w) (N := N) (hs := hs) (by omega) m.token
    have c3 := railAsked_ct (W := W) (r := r) (N := N) (hs := hs) m.token m.kind
    have c4 := refAsked_ct (W := W) (w := w) (N := N) (hs := hs) (by omega) m.token m.kind
    have c5 := railEffects_ct (W := W) (r := r) (N := N) (hs := hs) (by omega)
    have c6 := refEffects_ct (W := W) (w := w) (N := N) (hs := hs) (by omega)
    have hel : (effs hs).length ≤ 4611686018427387904 := by have := effs_len hs; omega
    have c7 := fun a1 a2 b1 b2 => sameEff_ct (W := W) (effs hs) (effs hs) a1 a2 b1 b2 hel hel
    rw [decide_eq_true rfl] at c7
    show Ct _ _ _ _ _ _ (fun _ => [RailH r N hs, RefH w N hs])
    obtain ⟨x, hx⟩ : ∃ x, x = (effect hs m.token).getD eff0 := ⟨_, rfl⟩
    obtain ⟨b, hb⟩ : ∃ b, b = (effect hs m.token).isSome := ⟨_, rfl⟩
    unfold effO at c1 c2
    rw [← hx, ← hb] at c1 c2
    have hbb : (b == b) = true := by simp
    have hxx : decide (x = x) = true := decide_eq_true rfl
    refine Ct.enter Try.func10 rfl Try.ntmps10 (by simp) (fun R => ?_)
    repeat' (first 
    | (refine is_box ?_; refine KJ_box rfl xF rfl (fun g5 => ?_))
    | (refine is_call ?_; first | (refine KJ_call xE (c7 _ _ _ _) xP rfl (fun _ => ?_)) | (refine KJ_call xE c6 xP rfl (fun y2 => ?_)) | (refine KJ_call xE c5 xP rfl (fun y1 => ?_)) | (refine KJ_call xE c2 xP rfl (fun _ => ?_)) | (refine KJ_call xE c1 xP rfl (fun _ => ?_)))
    | (refine ek_eql ?_; first | refine EK_ev (Ev_eqlSt rfl rfl (eff_eqF x x Try.underlying40) hxx) ?_ | refine EK_ev (Ev_eqlBw rfl rfl hbb) ?_ | refine EK_ev (Ev_eqlI_t rfl rfl rfl) ?_)
    | (refine is_fo ?_; (refine FO_callg (X := Unit) rfl rfl xE c3 xP rfl ?_))
    | (refine is_ro ?_; (refine FO_callg (X := Unit) rfl rfl xE c3 xP rfl ?_))
    | (refine is_fo ?_; (refine FO_callg (X := Unit) rfl rfl xE c4 xP rfl ?_))
    | (refine is_ro ?_; (refine FO_callg (X := Unit) rfl rfl xE c4 xP rfl ?_))
    | refine xst ?_
    | (refine xsa ?_; intro _)
    | (refine xsb ?_ ?_ <;> intro _ <;> first | (exfalso; omega) | skip)
    | refine xsc ?_
    | (refine KJ_draws (id := 7) (.op 0 (.op 1 (.op 2 (.op 3 (.op 4 (.op 5 (.op 6 (.op 7 (.op 8 (.op 9 (.op 10 (.op 11 (.op 12 (.op 13 (.op 14 (.op 15 (.op 16 (.op 17 (.op 18 (.op 19 (.op 20 (.op 21 (.op 22 (.op 23 (.op 24 (.op 25 (.op 26 (.op 27 (.op 28 (.op 30 (.ef 29 [30] (.ef 31 [] (.ef 32 [] (.op 33 (.op 34 .nil))))))))))))))))))))))))))))))))))) (by kernel_rfl) (by kernel_rfl) ?_)
    | refine FW_alt ?_ ?_
    | refine KJ_flow ?_ ?_
    | exact Rech.nil
    | fail)
    all_goals (exact xdn ())
end
end Go.Proofs.Ytehheokalgmbgaa
