/-
  RaL3.
-/
import Derived.Test.YtehheokalgmbgaaABL
/-
  RailPlays.
-/
namespace Go.Proofs.Ytehheokalgmbgaa
open Go Go.RowKit
section
variable {W : World} {N : Int}
theorem hear_len (N : Int) (hs : RH) (m : RMsg) (v : Int) : (hear N hs m v).length ≤ hs.length + 1 := by unfold hear; split <;> simp
theorem next_len (N : Int) (hs : RH) (o : ROp) : (o.next N hs).length ≤ hs.length + 1 := by
  unfold ROp.next
  split
  · omega
  · exact hear_len _ _ _ _
set_option maxHeartbeats 1000000 in
theorem plays24_ct (N : Int) (v : Value) (ops : List ROp) (hs : LsAt W ROp.cells 9 v ops) (hb : ops.length * 96 ≤ 140737488355328) : Ct Try.prog W 3 [.int .i64 N, v] [] (fun _ : Unit => .bool true) (fun _ => []) := by
  obtain ⟨a, c, rfl, hx⟩ := hs
  have cl := lives24_ct (W := W)
  have c1 := railNew_ct (W := W) N
  refine Ct.enter Try.func3 rfl Try.ntmps3 (by simp) (fun R => ?_)
  repeat' (first 
    | (refine at_seq_region (id := 5) ?_; refine hold ?_)
    | (refine is_box ?_; refine KJ_box rfl xF rfl (fun w => ?_))
    | (refine is_call ?_; first | (refine KJ_call xE c1 xP rfl (fun r => ?_)) | (refine KJ_call xE cl xP rfl (fun _ => ?_)))
    | (refine ek_build ?_; refine EK_ev (Ev_build xV xW) ?_)
    | refine xst ?_
    | (refine xsa ?_; intro _)
    | (refine xsb ?_ ?_ <;> intro _ <;> first | (exfalso; omega) | skip)
    | refine xsc ?_
    | fail)
  refine Hold.mk ?_
  refine KJ.nilrow 66 8 ?_
  refine KJ.packs (tag := 41) (key := w) (F := refF w N []) (none, 0) (by dsimp only [refF]; exact xP) ?_
  repeat' (first 
    | refine xst ?_
    | (refine xsa ?_; intro _)
    | (refine xsb ?_ ?_ <;> intro _ <;> first | (exfalso; omega) | skip)
    | refine xsc ?_
    | fail)
  refine KJ_loop (fun i : {i : Nat × RH // i.1 ≤ ops.length ∧ i.2.length ≤ i.1} => [(1, .slice a ops.length c), (5, .pointer (some ⟨r, 0, none⟩)), (6, .pointer (some ⟨w, 0, none⟩)), (22, .slice a ops.length c), (23, .int .i64 (ops.length : Nat)), (24, .int .i64 (i.1.1 : Nat))])
    (fun i => [RailH r N i.1.2, RefH w N i.1.2] ++ R) (fun i => ops.length - i.1.1) ⟨(0, []), Nat.zero_le _, Nat.le_refl _⟩ xB (xN) (fun ⟨(i, hs), hi, hle⟩ => ?_)
  dsimp only at hi hle ⊢
  by_cases hlt : i < ops.length
  · have ql : decide ((i : Int) < (ops.length : Nat)) = true := decide_eq_true (by omega)
    obtain ⟨o, ho⟩ : ∃ s, ops[i]? = some s := ⟨_, List.getElem?_eq_getElem hlt⟩
    obtain ⟨b, of, rfl, -, hr⟩ := hx (by intro e; rw [e] at hlt; simp at hlt)
    have Hr : W.rangeAt b (of + Int.toNat (i : Int) * 9) o.cells := by
      rw [Int.toNat_natCast, Nat.mul_comm i 9]; exact hr i o ho
    have cs := step24_ct (W := W) (r := r) (w := w) (N := N) (hs := hs) (by omega) o
    have hn := next_len N hs o
    repeat' (first 
    | (refine is_alloc ?_; refine KJ_alloc rfl (fun g8 => ?_))
    | (refine is_call ?_; refine KJ_call xE cs xP rfl (fun _ => ?_))
    | (refine ek_load ?_; refine EK_ev (Ev_loadAggOld rfl Hr) ?_)
    | (refine ek_add ?_; refine EK_ev (Ev_addI_v (r := ((i + 1 : Nat) : Int)) rfl rfl (by omega) (by omega)) ?_)
    | (refine ek_lss ?_; refine EK_ev (Ev_lssI_q rfl rfl ql) ?_)
    | refine xst ?_
    | (refine xsa ?_; intro _)
    | (refine xsb ?_ ?_ <;> intro _ <;> first | (exfalso; omega) | skip)
    | refine xsc ?_
    | fail)
    all_goals refine KJ_again ⟨(i + 1, o.next N hs), hlt, Nat.le_trans hn (Nat.succ_le_succ hle)⟩ (by show ops.length - (i + 1) < ops.length - i; omega) xB (xN)
  have ql : decide ((i : Int) < (ops.length : Nat)) = false := decide_eq_false (by omega)
  repeat' (first 
    | (refine ek_lss ?_; refine EK_ev (Ev_lssI_q rfl rfl ql) ?_)
    | refine xst ?_
    | (refine xsa ?_; intro _)
    | (refine xsb ?_ ?_ <;> intro _ <;> first | (exfalso; omega) | skip)
    | refine xsc ?_
    | fail)
  refine KJ_loop (fun j : {j : Nat // j ≤ ops.length} => [(5, .pointer (some ⟨r, 0, none⟩)), (6, .pointer (some ⟨w, 0, none⟩)), (35, .slice a ops.length c), (36, .int .i64 (ops.length : Nat)), (37, .int .i64 (j.1 : Nat))])
    (fun _ => [RailH r N hs, RefH w N hs] ++ R) (fun j => ops.length - j.1) ⟨0, Nat.zero_le _⟩ xB (xN) (fun ⟨j, hj⟩ => ?_)
  dsimp only
  by_cases hlt2 : j < ops.length
  · have ql2 : decide ((j : Int) < (ops.length : Nat)) = true := decide_eq_true (by omega)
    obtain ⟨o, ho⟩ : ∃ s, ops[j]? = some s := ⟨_, List.getElem?_eq_getElem hlt2⟩
    obtain ⟨b, of, rfl, -, hr⟩ := hx (by intro e; rw [e] at hlt2; simp at hlt2)
    have Hr : W.rangeAt b (of + Int.toNat (j : Int) * 9) o.cells := by
      rw [Int.toNat_natCast, Nat.mul_comm j 9]; exact hr j o ho
    have cs : Ct Try.prog W 10 [.pointer (some ⟨r, 0, none⟩), .pointer (some ⟨w, 0, none⟩), .agg #[.int .i64 o.m.rail, .int .i64 o.m.kind, strV o.m.token, .int .i64 o.m.attempt, .int .i64 o.m.amount, strV o.m.currency, strV o.m.payee, .int .i64 0, .bool true]] [RailH r N hs, RefH w N hs] (fun _ : Unit => .bool true) (fun _ => [RailH r N hs, RefH w N hs]) := by
      have h := step24_ct (W := W) (r := r) (w := w) (N := N) (hs := hs) (by omega) ⟨o.m, 0, true⟩
      exact h
    repeat' (first 
    | (refine is_alloc ?_; refine KJ_alloc rfl (fun g11 => ?_))
    | (refine is_call ?_; refine KJ_call xE cs xP rfl (fun _ => ?_))
    | (refine ek_load ?_; refine EK_ev (Ev_loadAggOld rfl Hr) ?_)
    | (refine ek_build ?_; refine EK_ev (Ev_build xV xW) ?_)
    | (refine ek_add ?_; refine EK_ev (Ev_addI_v (r := ((j + 1 : Nat) : Int)) rfl rfl (by omega) (by omega)) ?_)
    | (refine ek_lss ?_; refine EK_ev (Ev_lssI_q rfl rfl ql2) ?_)
    | refine xst ?_
    | (refine xsa ?_; intro _)
    | (refine xsb ?_ ?_ <;> intro _ <;> first | (exfalso; omega) | skip)
    | refine xsc ?_
    | fail)
    all_goals refine KJ_again ⟨j + 1, hlt2⟩ (by show ops.length - (j + 1) < ops.length - j; omega) xB (xN)
  have ql2 : decide ((j : Int) < (ops.length : Nat)) = false := decide_eq_false (by omega)
  have c5 := railEffects_ct (W := W) (r := r) (N := N) (hs := hs) (by omega)
  have c6 := refEffects_ct (W := W) (w := w) (N := N) (hs := hs) (by omega)
  have hel : (effs hs).length ≤ 4611686018427387904 := by have := effs_len hs; omega
  have c7 := fun a1 a2 b1 b2 => sameEff_ct (W := W) (effs hs) (effs hs) a1 a2 b1 b2 hel hel
  rw [decide_eq_true rfl] at c7
  repeat' (first 
    | (refine is_call ?_; first | (refine KJ_call xE (c7 _ _ _ _) xP rfl (fun _ => ?_)) | (refine KJ_call xE c6 xP rfl (fun y2 => ?_)) | (refine KJ_call xE c5 xP rfl (fun y1 => ?_)))
    | (refine ek_lss ?_; refine EK_ev (Ev_lssI_q rfl rfl ql2) ?_)
    | refine xst ?_
    | (refine xsa ?_; intro _)
    | (refine xsb ?_ ?_ <;> intro _ <;> first | (exfalso; omega) | skip)
    | refine xsc ?_
    | fail)
  all_goals (exact xdn ())
end
end Go.Proofs.Ytehheokalgmbgaa
