/-
  BaR1.
-/
import Derived.Test.YtehheokalgmbgaaDoorEBI
import Derived.Test.YtehheokalgmbgaaDoorEBJ
/-
  The document's answer for chapter 12: place, number.
-/
namespace Go.Proofs.YtehheokalgmbgaaDoor
open Go Go.RowKit
def rC (r : List UInt8 × List UInt8) : List Value := [strV r.1, strV r.2]
instance : ZvIs Tryd.prog 65 (.agg (rC ([], [])).toArray) := ⟨by kernel_rfl⟩
section
variable {W : World}
set_option maxHeartbeats 1000000 in
theorem rnumber_ct (x : Nat) (hx : x ≤ 9223372036854775807) : Ct Tryd.prog W 38 [.int .i64 (x : Nat)] [] (fun y : Nat × Nat => .slice (some ⟨y.1, 0, none⟩) (vu x).length y.2) (fun y => [byP (.slice (some ⟨y.1, 0, none⟩) (vu x).length y.2) (vu x)]) := by
  refine Ct.enter Tryd.func38 rfl Tryd.ntmps38 (by simp) (fun R => ?_)
  repeat' (first 
    | (refine is_bslice ?_; refine KJ_bslice0 rfl (fun g0 => ?_))
    | refine xst ?_
    | (refine xsa ?_; intro _)
    | (refine xsb ?_ ?_ <;> intro _ <;> first | (exfalso; omega) | skip)
    | refine xsc ?_
    | fail)
  refine KJ_loop (fun i : {i : (List UInt8 × Nat × Nat) × (Option Addr × Nat) // VuI [] x i.1} => [(0, .int .i64 (i.1.1.2.1 : Nat)), (3, .slice i.1.2.1 i.1.1.1.length i.1.2.2)])
    (fun i => [byP (.slice i.1.2.1 i.1.1.1.length i.1.2.2) i.1.1.1] ++ R) (fun i => i.1.1.2.2) ⟨(([], x, 9), (some ⟨g0, 0, none⟩, 0)), VuI.start [] (by omega)⟩ xB (xN) (fun ⟨((l, y, f), (a, c)), hi⟩ => ?_)
  dsimp only at hi ⊢
  have hlen := hi.len
  have hv := vu_len x
  have hyx := hi.2.2.1
  dsimp only [List.length_nil] at hlen hyx
  have b1 : (l.length + 1) * 1 ≤ 140737488355328 := by omega
  have b2 : l.length + 1 ≤ 9223372036854775807 := by omega
  by_cases hlt : y < 128
  · have ql : decide ((128 : Int) ≤ (y : Nat)) = false := decide_eq_false (by omega)
    have e1 : IntKind.u8.wrap ((y : Nat) : Int) = ((UInt8.ofNat y).toNat : Int) := by rw [u8_wrap, u8_nat]
    have hlast := hi.last hlt
    rw [List.nil_append] at hlast
    repeat' (first 
    | (refine is_append ?_; refine KJ_appOne (a := UInt8.ofNat y) byC_ok rfl rfl rfl xS xS b1 b2 rfl (fun g' c' => ?_))
    | (refine is_bslice ?_; refine KJ_bslice1 rfl xF (by rfl) (by omega) rfl (fun gb => ?_))
    | (refine ek_conv ?_; refine EK_ev (Ev_convI_v rfl e1) ?_)
    | (refine ek_geq ?_; refine EK_ev (Ev_geqI_q rfl rfl ql) ?_)
    | refine xst ?_
    | (refine xsa ?_; intro _)
    | (refine xsb ?_ ?_ <;> intro _ <;> first | (exfalso; omega) | skip)
    | refine xsc ?_
    | fail)
    all_goals rw [hlast]
    all_goals (exact xdn (g', c'))
  · have ql : decide ((128 : Int) ≤ (y : Nat)) = true := decide_eq_true (by omega)
    obtain ⟨f', rfl, hn⟩ := hi.next hlt
    have e1 : IntKind.u8.wrap ((y % 128 + 128 : Nat) : Int) = ((UInt8.ofNat (y % 128 + 128)).toNat : Int) := by rw [u8_wrap, u8_nat]
    repeat' (first 
    | (refine is_append ?_; refine KJ_appOne (a := UInt8.ofNat (y % 128 + 128)) byC_ok rfl rfl rfl xS xS b1 b2 rfl (fun g' c' => ?_))
    | (refine is_bslice ?_; refine KJ_bslice1 rfl xF (by rfl) (by omega) rfl (fun gb => ?_))
    | (refine ek_conv ?_; refine EK_ev (Ev_convI_v rfl e1) ?_)
    | (refine ek_add ?_; refine EK_ev (Ev_addI_v (r := ((y % 128 + 128 : Nat) : Int)) rfl rfl (by omega) (by omega)) ?_)
    | (refine ek_quo ?_; refine EK_ev (Ev_quo_w (r := ((y / 128 : Nat) : Int)) rfl rfl (by omega) (by omega)) ?_)
    | (refine ek_rem ?_; refine EK_ev (Ev_rem_w (r := ((y % 128 : Nat) : Int)) rfl rfl (by omega) (by omega)) ?_)
    | (refine ek_geq ?_; refine EK_ev (Ev_geqI_q rfl rfl ql) ?_)
    | refine xst ?_
    | (refine xsa ?_; intro _)
    | (refine xsb ?_ ?_ <;> intro _ <;> first | (exfalso; omega) | skip)
    | refine xsc ?_
    | fail)
    all_goals refine KJ_again ⟨((l ++ [UInt8.ofNat (y % 128 + 128)], y / 128, f'), (some ⟨g', 0, none⟩, c')), hn⟩ (by show f' < f' + 1; omega) xB (xN)
end
end Go.Proofs.YtehheokalgmbgaaDoor
