/-
  BaR1.
-/
import Derived.Test.YtehheokalgmbgaaDoorHBI
import Derived.Test.YtehheokalgmbgaaDoorHBJ
/-
  The document's answer for chapter 12: place, number.
-/
namespace Go.Proofs.YtehheokalgmbgaaDoor
open Go Go.RowKit
def rC (r : List UInt8 × List UInt8) : List Value := [strV r.1, strV r.2]
theorem rC_ok : EncOk rC 2 := ⟨fun _ => rfl, fun x => by unfold rC; exact xO, by omega⟩
instance : ZvIs Tryd.prog 65 (.agg (rC ([], [])).toArray) := ⟨by kernel_rfl⟩
section
variable {W : World}
set_option maxHeartbeats 1000000 in
theorem rplace_ct (a : Option Addr) (c : Nat) (l : Rows) (hr : RisR l) (k : List UInt8) (hl : l.length ≤ 140737488355328) :
    Ct Tryd.prog W 32 [.slice a l.length c, strV k] [lsP rC 65 2 (.slice a l.length c) l] (fun _ : Unit => .tuple #[.int .i64 (atB Prod.fst l k : Nat), .bool (hasB Prod.fst l k)]) (fun _ => [lsP rC 65 2 (.slice a l.length c) l]) := by
  have hat := atB_le (f := Prod.fst) l k
  refine Ct.enter Tryd.func32 rfl Tryd.ntmps32 (by simp) (fun R => ?_)
  repeat' (first 
    | refine xst ?_
    | (refine xsa ?_; intro _)
    | (refine xsb ?_ ?_ <;> intro _ <;> first | (exfalso; omega) | skip)
    | refine xsc ?_
    | (refine KJ_draws (id := 7) (.op 0 (.op 1 (.op 2 (.op 3 (.op 4 (.op 5 (.op 6 (.op 7 (.op 8 (.op 9 (.op 10 (.op 11 (.op 12 (.op 13 (.op 14 (.op 15 .nil)))))))))))))))) (by kernel_rfl) (by kernel_rfl) ?_)
    | refine FW_alt ?_ ?_
    | refine FW_efn rfl rfl rfl rfl rfl ?_ ?_
    | refine KJ_flow ?_ ?_
    | exact Rech.nil
    | fail)
  refine KJ_loop (fun i : {i : Nat × Nat // i.1 ≤ atB Prod.fst l k ∧ atB Prod.fst l k ≤ i.2 ∧ i.2 ≤ l.length} => [(0, .slice a l.length c), (1, strV k), (6, .int .i64 (i.1.1 : Nat)), (7, .int .i64 (i.1.2 : Nat))])
    (fun i => [lsP rC 65 2 (.slice a l.length c) l] ++ R) (fun i => i.1.2 - i.1.1) ⟨(0, l.length), Nat.zero_le _, hat, Nat.le_refl _⟩ xB (xN) (fun ⟨(lo, hi), h1, h2, h3⟩ => ?_)
  dsimp only at h1 h2 h3 ⊢
  by_cases hlt : lo < hi
  · have ql : decide ((lo : Int) < (hi : Nat)) = true := decide_eq_true (by omega)
    have hm : (lo + hi) / 2 < l.length := by omega
    obtain ⟨x, hx⟩ : ∃ s, l[(lo + hi) / 2]? = some s := ⟨_, List.getElem?_eq_getElem hm⟩
    have hiff := atB_iff hr k _ x hx
    refine KJ.lsSome xS (by omega) (fun g hg => ?_)
    subst hg
    have ho : 0 + Int.toNat (((lo + hi) / 2 : Nat) : Int) * 2 + 0 = (lo + hi) / 2 * 2 + 0 := by rw [Int.toNat_natCast]; omega
    have kx : (rC x)[0]? = some (strV x.1) := rfl
    cases hb : Op.bytesLess x.1 k with
    | true =>
      have := hiff.1 hb
      repeat' (first 
    | (refine ek_load ?_; refine EK_ev (Ev_loadLsF rC_ok rfl xS rfl ho hx kx) ?_)
    | (refine ek_add ?_; first | refine EK_ev (Ev_addI_v (r := (((lo + hi) / 2 + 1 : Nat) : Int)) rfl rfl (by omega) (by omega)) ?_ | refine EK_ev (Ev_addI_v (r := ((lo + hi : Nat) : Int)) rfl rfl (by omega) (by omega)) ?_)
    | (refine ek_quo ?_; refine EK_ev (Ev_quo_w (r := (((lo + hi) / 2 : Nat) : Int)) rfl rfl (by omega) (by omega)) ?_)
    | (refine ek_lss ?_; first | refine EK_ev (Ev_lssS_q rfl rfl hb) ?_ | refine EK_ev (Ev_lssI_q rfl rfl ql) ?_)
    | refine xst ?_
    | (refine xsa ?_; intro _)
    | (refine xsb ?_ ?_ <;> intro _ <;> first | (exfalso; omega) | skip)
    | refine xsc ?_
    | (refine KJ_draws (id := 7) (.op 0 (.op 1 (.op 2 (.op 3 (.op 4 (.op 5 (.op 6 (.op 7 (.op 8 (.op 9 (.op 10 (.op 11 (.op 12 (.op 13 (.op 14 (.op 15 .nil)))))))))))))))) (by kernel_rfl) (by kernel_rfl) ?_)
    | refine FW_alt ?_ ?_
    | refine FW_efn rfl rfl rfl rfl rfl ?_ ?_
    | refine KJ_flow ?_ ?_
    | exact Rech.nil
    | fail)
      all_goals refine KJ_again ⟨((lo + hi) / 2 + 1, hi), by dsimp only; omega, h2, h3⟩ (by show hi - ((lo + hi) / 2 + 1) < hi - lo; omega) xB (xN)
    | false =>
      have : ¬ (lo + hi) / 2 < atB Prod.fst l k := fun h => by rw [hiff.2 h] at hb; cases hb
      repeat' (first 
    | (refine ek_load ?_; refine EK_ev (Ev_loadLsF rC_ok rfl xS rfl ho hx kx) ?_)
    | (refine ek_add ?_; refine EK_ev (Ev_addI_v (r := ((lo + hi : Nat) : Int)) rfl rfl (by omega) (by omega)) ?_)
    | (refine ek_quo ?_; refine EK_ev (Ev_quo_w (r := (((lo + hi) / 2 : Nat) : Int)) rfl rfl (by omega) (by omega)) ?_)
    | (refine ek_lss ?_; first | refine EK_ev (Ev_lssS_q rfl rfl hb) ?_ | refine EK_ev (Ev_lssI_q rfl rfl ql) ?_)
    | refine xst ?_
    | (refine xsa ?_; intro _)
    | (refine xsb ?_ ?_ <;> intro _ <;> first | (exfalso; omega) | skip)
    | refine xsc ?_
    | (refine KJ_draws (id := 7) (.op 0 (.op 1 (.op 2 (.op 3 (.op 4 (.op 5 (.op 6 (.op 7 (.op 8 (.op 9 (.op 10 (.op 11 (.op 12 (.op 13 (.op 14 (.op 15 .nil)))))))))))))))) (by kernel_rfl) (by kernel_rfl) ?_)
    | refine FW_alt ?_ ?_
    | refine FW_efn rfl rfl rfl rfl rfl ?_ ?_
    | refine KJ_flow ?_ ?_
    | exact Rech.nil
    | fail)
      all_goals refine KJ_again ⟨(lo, (lo + hi) / 2), h1, by dsimp only; omega, by dsimp only; omega⟩ (by show (lo + hi) / 2 - lo < hi - lo; omega) xB (xN)
  have ql : decide ((lo : Int) < (hi : Nat)) = false := decide_eq_false (by omega)
  obtain rfl : lo = atB Prod.fst l k := by omega
  by_cases hin : atB Prod.fst l k < l.length
  · have q2 : decide ((atB Prod.fst l k : Int) < (l.length : Nat)) = true := decide_eq_true (by omega)
    obtain ⟨x, hx⟩ : ∃ s, l[atB Prod.fst l k]? = some s := ⟨_, List.getElem?_eq_getElem hin⟩
    have hh : decide (x.1 = k) = hasB Prod.fst l k := by
      cases e : hasB Prod.fst l k with
      | true =>
        obtain ⟨y, hy, ey⟩ := (atB_has hr k).1 e
        rw [hx] at hy; cases hy; exact decide_eq_true ey
      | false => exact decide_eq_false fun q => by rw [(atB_has hr k).2 ⟨x, hx, q⟩] at e; cases e
    refine KJ.lsSome xS (by omega) (fun g hg => ?_)
    subst hg
    have ho : 0 + Int.toNat ((atB Prod.fst l k : Nat) : Int) * 2 + 0 = atB Prod.fst l k * 2 + 0 := by simp
    have kx : (rC x)[0]? = some (strV x.1) := rfl
    repeat' (first 
    | (refine ek_load ?_; refine EK_ev (Ev_loadLsF rC_ok rfl xS rfl ho hx kx) ?_)
    | (refine ek_lss ?_; first | refine EK_ev (Ev_lssI_q rfl rfl ql) ?_ | refine EK_ev (Ev_lssI_q rfl rfl q2) ?_)
    | refine xst ?_
    | (refine xsa ?_; intro _)
    | (refine xsb ?_ ?_ <;> intro _ <;> first | (exfalso; omega) | skip)
    | refine xsc ?_
    | (refine KJ_draws (id := 7) (.op 0 (.op 1 (.op 2 (.op 3 (.op 4 (.op 5 (.op 6 (.op 7 (.op 8 (.op 9 (.op 10 (.op 11 (.op 12 (.op 13 (.op 14 (.op 15 .nil)))))))))))))))) (by kernel_rfl) (by kernel_rfl) ?_)
    | refine FW_alt ?_ ?_
    | refine FW_efn rfl rfl rfl rfl rfl ?_ ?_
    | refine KJ_flow ?_ ?_
    | exact Rech.nil
    | fail)
    all_goals exact xdn () (hc := by rw [← hh]; rfl)
  · have q2 : decide ((atB Prod.fst l k : Int) < (l.length : Nat)) = false := decide_eq_false (by omega)
    have hh : hasB Prod.fst l k = false := by
      cases e : hasB Prod.fst l k with
      | false => rfl
      | true =>
        obtain ⟨y, hy, -⟩ := (atB_has hr k).1 e
        exact absurd (List.getElem?_eq_some_iff.1 hy).1 hin
    repeat' (first 
    | (refine ek_lss ?_; first | refine EK_ev (Ev_lssI_q rfl rfl ql) ?_ | refine EK_ev (Ev_lssI_q rfl rfl q2) ?_)
    | refine xst ?_
    | (refine xsa ?_; intro _)
    | (refine xsb ?_ ?_ <;> intro _ <;> first | (exfalso; omega) | skip)
    | refine xsc ?_
    | (refine KJ_draws (id := 7) (.op 0 (.op 1 (.op 2 (.op 3 (.op 4 (.op 5 (.op 6 (.op 7 (.op 8 (.op 9 (.op 10 (.op 11 (.op 12 (.op 13 (.op 14 (.op 15 .nil)))))))))))))))) (by kernel_rfl) (by kernel_rfl) ?_)
    | refine FW_alt ?_ ?_
    | refine FW_efn rfl rfl rfl rfl rfl ?_ ?_
    | refine KJ_flow ?_ ?_
    | exact Rech.nil
    | fail)
    all_goals exact xdn () (hc := by rw [hh]; rfl)
end
end Go.Proofs.YtehheokalgmbgaaDoor
