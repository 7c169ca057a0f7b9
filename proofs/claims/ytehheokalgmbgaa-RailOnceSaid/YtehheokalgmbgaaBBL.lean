/-
  RaL2.
-/
import Derived.Test.YtehheokalgmbgaaBBK
/-
  The statements of chapter 24: the fixed facts, a step, RailPlays.
-/
namespace Go.Proofs.Ytehheokalgmbgaa
open Go Go.RowKit
/-- a message of a script -/
structure ROp where
  m : RMsg
  v : Int
  ask : Bool
instance : Inhabited RMsg := ⟨⟨0, 0, [], 0, 0, [], []⟩⟩
instance : Inhabited ROp := ⟨⟨default, 0, false⟩⟩
def ROp.cells (o : ROp) : List Value := [.int .i64 o.m.rail, .int .i64 o.m.kind, strV o.m.token, .int .i64 o.m.attempt, .int .i64 o.m.amount, strV o.m.currency, strV o.m.payee, .int .i64 o.v, .bool o.ask]
def LM : RMsg := ⟨1, 1, [84], 0, 500, [], [80]⟩
theorem LM_a : answer 1 [] LM 0 = 4 := by decide
theorem LM_h : hear 1 [] LM 0 = [(LM, 0)] := by unfold hear; rw [if_pos (by decide)]; rfl
theorem LM_e : effect [(LM, 0)] [84] = some ⟨[84], 4, 500, [80]⟩ := by decide
theorem LM_n : asked [(LM, 0)] [84] 1 = 1 := by decide
theorem effsUp_len (hs : RH) : ∀ (r : RH) (l : List REff), (effsUp hs r l).length ≤ l.length + r.length
  | [], l => Nat.le_refl _
  | h :: r, l => by
    unfold effsUp
    cases effect hs h.1.token with
    | none => have := effsUp_len hs r l; simp only [List.length_cons]; omega
    | some x => have := effsUp_len hs r (ins l x); have := ins_len l x; simp only [List.length_cons]; omega
theorem effs_len (hs : RH) : (effs hs).length ≤ hs.length := by
  have := effsUp_len hs hs []
  rw [List.length_nil, Nat.zero_add] at this
  exact this
section
variable {W : World} {r w : Nat} {N : Int} {hs : RH}
theorem lives24_ct : Ct Try.prog W 8 [] [] (fun _ : Unit => .bool true) (fun _ => []) := by
  have c1 := railNew_ct (W := W) 1
  have c2 : ∀ r, Ct Try.prog W 16 [.pointer (some ⟨r, 0, none⟩), .agg #[.int .i64 1, .int .i64 1, strV [84], .int .i64 0, .int .i64 500, strV [], strV [80]], .int .i64 0] [RailH r 1 []] (fun _ : Unit => .tuple #[.agg #[.int .i64 1, .int .i64 4, strV [84]], .bool true]) (fun _ => [RailH r 1 [(LM, 0)]]) := fun r => by
    have h := railHandle_ct (W := W) (r := r) (N := 1) (hs := []) (by simp) LM 0
    rw [LM_a, LM_h] at h
    exact h
  have c3 : ∀ r, Ct Try.prog W 14 [.pointer (some ⟨r, 0, none⟩), strV [84]] [RailH r 1 [(LM, 0)]] (fun _ : Unit => .tuple #[.agg #[strV [84], .int .i64 4, .int .i64 500, strV [80]], .bool true]) (fun _ => [RailH r 1 [(LM, 0)]]) := fun r => by
    have h := railEffect_ct (W := W) (r := r) (N := 1) (hs := [(LM, 0)]) [84]
    rw [LM_e] at h
    exact h
  have c4 : ∀ r, Ct Try.prog W 15 [.pointer (some ⟨r, 0, none⟩), strV [84], .int .i64 1] [RailH r 1 [(LM, 0)]] (fun _ : Unit => .int .i64 1) (fun _ => [RailH r 1 [(LM, 0)]]) := fun r => by
    have h := railAsked_ct (W := W) (r := r) (N := 1) (hs := [(LM, 0)]) [84] 1
    rw [LM_n] at h
    exact h
  have e1 : decide (({ token := [84], kind := 4, amount := 500, payee := [80] } : REff) = { token := [84], kind := 4, amount := 500, payee := [80] }) = true := decide_eq_true rfl
  refine Ct.enter Try.func8 rfl Try.ntmps8 (by simp) (fun R => ?_)
  repeat' (first 
    | (refine is_call ?_; first | (refine KJ_call xE (c4 _) xP rfl (fun _ => ?_)) | (refine KJ_call xE (c3 _) xP rfl (fun _ => ?_)) | (refine KJ_call xE (c2 _) xP rfl (fun _ => ?_)) | (refine KJ_call xE c1 xP rfl (fun r => ?_)))
    | (refine ek_build ?_; refine EK_ev (Ev_build xV xW) ?_)
    | (refine ek_eql ?_; first | refine EK_ev (Ev_eqlSt rfl rfl (eff_eqF ⟨[84], 4, 500, [80]⟩ ⟨[84], 4, 500, [80]⟩ Try.underlying40) e1) ?_ | refine EK_ev (Ev_eqlSt rfl rfl (ans_eqF 1 4 [84] Try.underlying45) rfl) ?_ | refine EK_ev (Ev_eqlI_t rfl rfl rfl) ?_)
    | refine xst ?_
    | (refine xsa ?_; intro _)
    | (refine xsb ?_ ?_ <;> intro _ <;> first | (exfalso; omega) | skip)
    | refine xsc ?_
    | fail)
  all_goals (exact xdn ())
/-- behind a step -/
def ROp.next (N : Int) (hs : RH) (o : ROp) : RH := if o.ask then hs else hear N hs o.m o.v
end
end Go.Proofs.Ytehheokalgmbgaa
