/-
  PoD7.
-/
import Derived.Test.YtdbfemdpdpaffaaGreatDoorPBI
import Derived.Test.YtdbfemdpdpaffaaGreatDoorPCK
import Derived.Test.YtdbfemdpdpaffaaGreatDoorPBX
import Derived.Test.YtdbfemdpdpaffaaGreatDoorPCT
/-
  The document's whole numbers (chapter 4): whole, plus, fits, Sum.
-/
namespace Go.Proofs.YtdbfemdpdpaffaaGreatDoor
open Go Go.RowKit Go.MapKept
def i64C (x : Int) : List Value := [.int .i64 x]
theorem i64C_ok : EncOk i64C 1 := ⟨fun _ => rfl, fun x => by unfold i64C; exact xO, by omega⟩
section
variable {W : World}
set_option maxHeartbeats 1000000 in
theorem dwhole_ct (x : Int) : Ct Tryz.prog W 64 [.int .i64 x] [] (fun _ : Unit => .agg #[.int .i64 (wholeW x).hi, .int .u64 (wholeW x).lo]) (fun _ => []) := by
  have w1 : IntKind.u64.wrap x = x % 18446744073709551616 := by
    simp only [IntKind.wrap, IntKind.signed, IntKind.bits]
    simp
  unfold wholeW
  by_cases hx : x < 0
  · have q : decide (x < 0) = true := decide_eq_true hx
    rw [if_pos hx]
    refine Ct.enter Tryz.func64 rfl Tryz.ntmps64 (by simp) (fun R => ?_)
    repeat' (first 
    | (refine is_alloc ?_; refine KJ_alloc rfl (fun g => ?_))
    | (refine ek_conv ?_; refine EK_ev (Ev_convI_v rfl w1) ?_)
    | (refine ek_build ?_; refine EK_ev (Ev_build xV xW) ?_)
    | (refine ek_lss ?_; refine EK_ev (Ev_lssI_q rfl rfl q) ?_)
    | refine xst ?_
    | (refine xsa ?_; intro _)
    | (refine xsb ?_ ?_ <;> intro _ <;> first | (exfalso; omega) | skip)
    | refine xsc ?_
    | fail)
    all_goals (refine is_ex ?_; exact KJ_done (by first | exact Or.inl rfl | exact Or.inr rfl) rfl (Rvs.agg (T := 110) rfl inferInstance inferInstance xS xC Rvs.nil) () (by rfl) (xN))
  · have q : decide (x < 0) = false := decide_eq_false hx
    rw [if_neg hx]
    refine Ct.enter Tryz.func64 rfl Tryz.ntmps64 (by simp) (fun R => ?_)
    repeat' (first 
    | (refine is_alloc ?_; refine KJ_alloc rfl (fun g => ?_))
    | (refine ek_conv ?_; refine EK_ev (Ev_convI_v rfl w1) ?_)
    | (refine ek_build ?_; refine EK_ev (Ev_build xV xW) ?_)
    | (refine ek_lss ?_; refine EK_ev (Ev_lssI_q rfl rfl q) ?_)
    | refine xst ?_
    | (refine xsa ?_; intro _)
    | (refine xsb ?_ ?_ <;> intro _ <;> first | (exfalso; omega) | skip)
    | refine xsc ?_
    | fail)
    all_goals (refine is_ex ?_; exact KJ_done (by first | exact Or.inl rfl | exact Or.inr rfl) rfl (Rvs.agg (T := 110) rfl inferInstance inferInstance xS xC Rvs.nil) () (by rfl) (xN))
set_option maxHeartbeats 2000000 in
theorem dplus_ct (a b : Wh) {u v c d : Int} (ha : WhOk a u c) (hb : WhOk b v d) (hc : c + d + 1 ≤ 9223372036854775807) (hc0 : 0 ≤ c) (hd0 : 0 ≤ d) :
    Ct Tryz.prog W 63 [.agg #[.int .i64 a.hi, .int .u64 a.lo], .agg #[.int .i64 b.hi, .int .u64 b.lo]] [] (fun _ : Unit => .agg #[.int .i64 (plusW a b).hi, .int .u64 (plusW a b).lo]) (fun _ => []) := by
  have hcr := carry_iff ha.l0 ha.l1 hb.l0 hb.l1
  have a4 := ha.h0; have a5 := ha.h1; have b4 := hb.h0; have b5 := hb.h1
  obtain ⟨ah, al⟩ := a
  obtain ⟨bh, bl⟩ := b
  dsimp only at hcr a4 a5 b4 b5
  unfold plusW
  dsimp only
  have w1 : IntKind.u64.wrap (al + bl) = (al + bl) % 18446744073709551616 := by
    simp only [IntKind.wrap, IntKind.signed, IntKind.bits]
    simp
  by_cases h : 18446744073709551616 ≤ al + bl
  · rw [decide_eq_true h] at hcr
    rw [if_pos h]
    obtain ⟨l, hl⟩ : ∃ l, l = (al + bl) % 18446744073709551616 := ⟨_, rfl⟩
    rw [← hl] at w1 hcr ⊢
    refine Ct.enter Tryz.func63 rfl Tryz.ntmps63 (by simp) (fun R => ?_)
    repeat' (first 
    | (refine is_alloc ?_; refine KJ_alloc rfl (fun g => ?_))
    | (refine is_box ?_; refine KJ_box rfl xF rfl (fun g => ?_))
    | (refine ek_build ?_; refine EK_ev (Ev_build xV xW) ?_)
    | (refine ek_add ?_; first | refine EK_ev (Ev_addI_v (r := ah + bh) rfl rfl rfl (by omega)) ?_ | refine EK_ev (Ev_addI_v (r := ah + bh + 1) rfl rfl rfl (by omega)) ?_ | refine EK_ev (Ev_add_w rfl rfl w1) ?_)
    | (refine ek_lss ?_; refine EK_ev (Ev_lssI_q rfl rfl hcr) ?_)
    | refine xst ?_
    | (refine xsa ?_; intro _)
    | (refine xsb ?_ ?_ <;> intro _ <;> first | (exfalso; omega) | skip)
    | refine xsc ?_
    | fail)
    all_goals (refine is_ex ?_; exact KJ_done (by first | exact Or.inl rfl | exact Or.inr rfl) rfl (Rvs.agg (T := 110) rfl inferInstance inferInstance xS xC Rvs.nil) () (by rfl) (xN))
  · rw [decide_eq_false h] at hcr
    rw [if_neg h]
    obtain ⟨l, hl⟩ : ∃ l, l = (al + bl) % 18446744073709551616 := ⟨_, rfl⟩
    rw [← hl] at w1 hcr ⊢
    refine Ct.enter Tryz.func63 rfl Tryz.ntmps63 (by simp) (fun R => ?_)
    repeat' (first 
    | (refine is_alloc ?_; refine KJ_alloc rfl (fun g => ?_))
    | (refine is_box ?_; refine KJ_box rfl xF rfl (fun g => ?_))
    | (refine ek_build ?_; refine EK_ev (Ev_build xV xW) ?_)
    | (refine ek_add ?_; first | refine EK_ev (Ev_addI_v (r := ah + bh) rfl rfl rfl (by omega)) ?_ | refine EK_ev (Ev_add_w rfl rfl w1) ?_)
    | (refine ek_lss ?_; refine EK_ev (Ev_lssI_q rfl rfl hcr) ?_)
    | refine xst ?_
    | (refine xsa ?_; intro _)
    | (refine xsb ?_ ?_ <;> intro _ <;> first | (exfalso; omega) | skip)
    | refine xsc ?_
    | fail)
    all_goals (refine is_ex ?_; exact KJ_done (by first | exact Or.inl rfl | exact Or.inr rfl) rfl (Rvs.agg (T := 110) rfl inferInstance inferInstance xS xC Rvs.nil) () (by rfl) (xN))
def fitV (v : Int) : Int := if fitsI v = true then v else 0
def fitE (v : Int) : Nat := if fitsI v = true then 0 else 10
set_option maxHeartbeats 2000000 in
theorem dfits_ct (a : Wh) {v c : Int} (ha : WhOk a v c) :
    Ct Tryz.prog W 65 [.agg #[.int .i64 a.hi, .int .u64 a.lo]] [] (fun _ : Unit => .tuple #[.int .i64 (fitV v), .int .i64 (fitE v : Nat)]) (fun _ => []) := by
  have hf := whFits ha
  have v0 := whVal0 ha
  have v1 := whVal1 ha
  have l0 := ha.l0
  have l1 := ha.l1
  obtain ⟨ah, al⟩ := a
  dsimp only at hf v0 v1 l0 l1
  unfold fitV fitE
  rw [← hf]
  cases g1 : decide (ah = 0) <;> cases g2 : decide (al < 9223372036854775808) <;> cases g3 : decide (ah = -1) <;> cases g4 : decide (9223372036854775808 ≤ al)
  all_goals try (exfalso; simp only [decide_eq_true_eq, decide_eq_false_iff_not] at g1 g2 g3 g4; omega)
  case true.true.false.false =>
    have hv := v0 (of_decide_eq_true g1)
    have w : IntKind.i64.wrap al = v := by rw [i64_wrap _ (by have := of_decide_eq_true g2; omega), hv]
    refine Ct.enter Tryz.func65 rfl Tryz.ntmps65 (by simp) (fun R => ?_)
    repeat' (first 
    | (refine is_box ?_; refine KJ_box rfl xF rfl (fun g => ?_))
    | (refine ek_conv ?_; refine EK_ev (Ev_convI_v rfl w) ?_)
    | (refine ek_eql ?_; first | refine EK_ev (Ev_eqlI_q rfl rfl g3) ?_ | refine EK_ev (Ev_eqlI_q rfl rfl g1) ?_)
    | (refine ek_lss ?_; refine EK_ev (Ev_lssI_q rfl rfl g2) ?_)
    | (refine ek_geq ?_; refine EK_ev (Ev_geqI_q rfl rfl g4) ?_)
    | refine xst ?_
    | (refine xsa ?_; intro _)
    | (refine xsb ?_ ?_ <;> intro _ <;> first | (exfalso; omega) | skip)
    | refine xsc ?_
    | fail)
    all_goals (exact xdn ())
  case false.false.true.true =>
    have hv := v1 (of_decide_eq_true g3)
    have w : IntKind.i64.wrap al = v := by
      have := of_decide_eq_true g4
      rw [hv]
      simp only [IntKind.wrap, IntKind.signed, IntKind.bits]
      simp
      split <;> omega
    refine Ct.enter Tryz.func65 rfl Tryz.ntmps65 (by simp) (fun R => ?_)
    repeat' (first 
    | (refine is_box ?_; refine KJ_box rfl xF rfl (fun g => ?_))
    | (refine ek_conv ?_; refine EK_ev (Ev_convI_v rfl w) ?_)
    | (refine ek_eql ?_; first | refine EK_ev (Ev_eqlI_q rfl rfl g3) ?_ | refine EK_ev (Ev_eqlI_q rfl rfl g1) ?_)
    | (refine ek_lss ?_; refine EK_ev (Ev_lssI_q rfl rfl g2) ?_)
    | (refine ek_geq ?_; refine EK_ev (Ev_geqI_q rfl rfl g4) ?_)
    | refine xst ?_
    | (refine xsa ?_; intro _)
    | (refine xsb ?_ ?_ <;> intro _ <;> first | (exfalso; omega) | skip)
    | refine xsc ?_
    | fail)
    all_goals (exact xdn ())
  all_goals refine Ct.enter Tryz.func65 rfl Tryz.ntmps65 (by simp) (fun R => ?_)
  all_goals repeat' (first 
    | (refine is_box ?_; refine KJ_box rfl xF rfl (fun g => ?_))
    | (refine ek_eql ?_; first | refine EK_ev (Ev_eqlI_q rfl rfl g3) ?_ | refine EK_ev (Ev_eqlI_q rfl rfl g1) ?_)
    | (refine ek_lss ?_; refine EK_ev (Ev_lssI_q rfl rfl g2) ?_)
    | (refine ek_geq ?_; refine EK_ev (Ev_geqI_q rfl rfl g4) ?_)
    | refine xst ?_
    | (refine xsa ?_; intro _)
    | (refine xsb ?_ ?_ <;> intro _ <;> first | (exfalso; omega) | skip)
    | refine xsc ?_
    | fail)
  all_goals (exact xdn ())
theorem sum_take {l : List Int} {i : Nat} {x : Int} (hx : l[i]? = some x) : (l.take (i + 1)).sum = (l.take i).sum + x := by
  rw [List.take_add_one, hx, List.sum_append]
  simp
set_option maxHeartbeats 2000000 in
theorem dsum_ct (A : SP) (a : Option Addr) (c : Nat) (l : List Int) (hL : Lv W i64C 1 A a l) (hl : l.length ≤ 140737488355328) (hx : ∀ x ∈ l, -9223372036854775808 ≤ x ∧ x ≤ 9223372036854775807) :
    Ct Tryz.prog W 35 [.slice a l.length c] [A] (fun _ : Unit => .tuple #[.int .i64 (fitV l.sum), .int .i64 (fitE l.sum : Nat)]) (fun _ => [A]) := by
  refine Ct.enter Tryz.func35 rfl Tryz.ntmps35 (by simp) (fun R => ?_)
  repeat' (first 
    | (refine is_alloc ?_; refine KJ_alloc rfl (fun g => ?_))
    | (refine ek_build ?_; refine EK_ev (Ev_build xV xW) ?_)
    | refine xst ?_
    | (refine xsa ?_; intro _)
    | (refine xsb ?_ ?_ <;> intro _ <;> first | (exfalso; omega) | skip)
    | refine xsc ?_
    | (refine KJ_draws (id := 5) (.op 0 (.op 1 (.op 2 (.op 3 (.op 4 (.ef 5 [0] (.ef 6 [] (.ef 7 [] .nil)))))))) (by kernel_rfl) (by kernel_rfl) ?_)
    | refine FW_alt ?_ ?_
    | refine FW_efn rfl rfl rfl rfl rfl ?_ ?_
    | refine KJ_flow ?_ ?_
    | exact Rech.nil
    | fail)
  refine KJ_loop (fun x : {x : Nat × Wh // x.1 ≤ l.length ∧ WhOk x.2 (l.take x.1).sum (2 * x.1)} => [(0, .slice a l.length c), (4, .pointer (some ⟨g, 0, none⟩)), (5, .int .i64 (x.1.1 : Nat))])
    (fun x => [A, cellsP g [.int .i64 x.1.2.hi, .int .u64 x.1.2.lo] 110] ++ R) (fun x => l.length - x.1.1) ⟨(0, ⟨0, 0⟩), by omega, ⟨by decide, by decide, by simp, by decide, by decide⟩⟩ xB (xN) (fun ⟨(i, w), hi, hw⟩ => ?_)
  dsimp only at hi hw ⊢
  by_cases hlt : i < l.length
  · have ql : decide ((i : Int) < (l.length : Nat)) = true := decide_eq_true (by omega)
    obtain ⟨x, hxi⟩ : ∃ s, l[i]? = some s := ⟨_, List.getElem?_eq_getElem hlt⟩
    refine KJ.lvSome hL xS (by omega) (fun b0 of hab => ?_)
    subst hab
    have hoff : of + Int.toNat (i : Int) * 1 = of + i * 1 + 0 := by simp
    have kx : (i64C x)[0]? = some (.int .i64 x) := rfl
    have cw := dwhole_ct (W := W) x
    have hwx := wholeW_ok (hx x (List.mem_of_getElem? hxi))
    have hnx := plusW_ok hw hwx
    have cp := dplus_ct (W := W) w (wholeW x) hw hwx (by omega) (by omega) (by omega)
    rw [← sum_take hxi] at hnx
    have hb2 : 2 * (i : Int) + 1 + 1 = 2 * ((i + 1 : Nat) : Int) := by omega
    rw [hb2] at hnx
    obtain ⟨y, hy⟩ : ∃ y, y = wholeW x := ⟨_, rfl⟩
    rw [← hy] at cw cp hnx
    obtain ⟨z, hz⟩ : ∃ z, z = plusW w y := ⟨_, rfl⟩
    rw [← hz] at cp hnx
    obtain ⟨wh, wl⟩ := w
    obtain ⟨yh, yl⟩ := y
    dsimp only at cw cp ⊢
    repeat' (first 
    | (refine is_call ?_; first | (refine KJ_call xE cp xP rfl (fun _ => ?_)) | (refine KJ_call xE cw xP rfl (fun _ => ?_)))
    | (refine ek_load ?_; refine EK_ev (Ev_loadLvF i64C_ok hL rfl rfl xS hoff hxi kx) ?_)
    | (refine ek_add ?_; refine EK_ev (Ev_addI_v (r := ((i + 1 : Nat) : Int)) rfl rfl (by omega) (by omega)) ?_)
    | (refine ek_lss ?_; refine EK_ev (Ev_lssI_q rfl rfl ql) ?_)
    | refine xst ?_
    | (refine xsa ?_; intro _)
    | (refine xsb ?_ ?_ <;> intro _ <;> first | (exfalso; omega) | skip)
    | refine xsc ?_
    | (refine KJ_draws (id := 5) (.op 0 (.op 1 (.op 2 (.op 3 (.op 4 (.ef 5 [0] (.ef 6 [] (.ef 7 [] .nil)))))))) (by kernel_rfl) (by kernel_rfl) ?_)
    | refine FW_alt ?_ ?_
    | refine FW_efn rfl rfl rfl rfl rfl ?_ ?_
    | refine KJ_flow ?_ ?_
    | exact Rech.nil
    | fail)
    all_goals refine KJ_again ⟨(i + 1, z), hlt, hnx⟩ (by show l.length - (i + 1) < l.length - i; omega) xB (xN)
  have ql : decide ((i : Int) < (l.length : Nat)) = false := decide_eq_false (by omega)
  have ei : i = l.length := by omega
  subst ei
  rw [List.take_length] at hw
  have cf := dfits_ct (W := W) w hw
  obtain ⟨wh, wl⟩ := w
  dsimp only at cf ⊢
  repeat' (first 
    | (refine is_call ?_; refine KJ_call xE cf xP rfl (fun _ => ?_))
    | (refine ek_lss ?_; refine EK_ev (Ev_lssI_q rfl rfl ql) ?_)
    | refine xst ?_
    | (refine xsa ?_; intro _)
    | (refine xsb ?_ ?_ <;> intro _ <;> first | (exfalso; omega) | skip)
    | refine xsc ?_
    | (refine KJ_draws (id := 5) (.op 0 (.op 1 (.op 2 (.op 3 (.op 4 (.ef 5 [0] (.ef 6 [] (.ef 7 [] .nil)))))))) (by kernel_rfl) (by kernel_rfl) ?_)
    | refine FW_alt ?_ ?_
    | refine FW_efn rfl rfl rfl rfl rfl ?_ ?_
    | refine KJ_flow ?_ ?_
    | exact Rech.nil
    | fail)
  all_goals (exact xdn ())
end
end Go.Proofs.YtdbfemdpdpaffaaGreatDoor
