/-
  BaR3.
-/
import Derived.Test.YtehheokalgmbgaaDoorEBK
import Derived.Test.YtehheokalgmbgaaDoorEBM
/-
  The document's answer for chapter 12: Encode.
-/
namespace Go.Proofs.YtehheokalgmbgaaDoor
open Go Go.RowKit
section
variable {W : World}
set_option maxHeartbeats 4000000 in
theorem rencode_ct (A : SP) (a : Option Addr) (c : Nat) (ops : List BOp) (hL : Lv W opC 3 A a ops) (hlen : (encAll ops).length + 64 ≤ 140737488355328) (h63 : ops.length ≤ 140737488355328) :
    Ct Tryd.prog W 17 [.slice a ops.length c] [A] (fun _ : Unit => .tuple #[strV (encode ops).1, .int .i64 ((encode ops).2 : Nat)]) (fun _ => [A]) := by
  have cn := rnumber_ct (W := W) ops.length (by omega)
  refine Ct.enter Tryd.func17 rfl Tryd.ntmps17 (by simp) (fun R => ?_)
  repeat' (first 
    | refine xst ?_
    | (refine xsa ?_; intro _)
    | (refine xsb ?_ ?_ <;> intro _ <;> first | (exfalso; omega) | skip)
    | refine xsc ?_
    | (refine KJ_draws (id := 4) (.op 0 (.op 1 (.op 2 (.op 3 (.op 4 (.op 5 (.op 6 (.op 7 (.op 8 (.op 9 (.op 10 (.op 11 .nil)))))))))))) (by kernel_rfl) (by kernel_rfl) ?_)
    | refine FW_alt ?_ ?_
    | refine KJ_flow ?_ ?_
    | exact Rech.nil
    | fail)
  refine KJ_loop (fun i : {i : Nat // (i = 0 ∨ i < ops.length) ∧ AdjTo ops (i + 1)} => [(0, .slice a ops.length c), (4, .int .i64 ((i.1 + 1 : Nat) : Int))])
    (fun i => [A] ++ R) (fun i => ops.length - i.1) ⟨0, .inl rfl, AdjTo.one ops⟩ xB (xN) (fun ⟨i, hi, hadj⟩ => ?_)
  dsimp only
  by_cases hlt : i + 1 < ops.length
  · have ql : decide (((i + 1 : Nat) : Int) < (ops.length : Nat)) = true := decide_eq_true (by omega)
    obtain ⟨x, hx⟩ : ∃ s, ops[i]? = some s := ⟨_, List.getElem?_eq_getElem (by omega)⟩
    obtain ⟨y, hy⟩ : ∃ s, ops[i + 1]? = some s := ⟨_, List.getElem?_eq_getElem hlt⟩
    refine KJ.lvSome hL xS (by omega) (fun b of hab => ?_)
    subst hab
    have ho1 : of + Int.toNat ((i + 1 : Nat) : Int) * 3 + 1 = of + (i + 1) * 3 + 1 := by simp
    have ho0 : of + Int.toNat ((i : Nat) : Int) * 3 + 1 = of + i * 3 + 1 := by simp
    have kx : (opC x)[1]? = some (strV x.key) := rfl
    have ky : (opC y)[1]? = some (strV y.key) := rfl
    have hle := leq_not y.key x.key
    cases hl : Op.bytesLess x.key y.key with
    | true =>
      rw [hl, Bool.not_true] at hle
      repeat' (first 
    | (refine ek_load ?_; first | refine EK_ev (Ev_loadLvF enc_op hL rfl rfl xS ho0 hx kx) ?_ | refine EK_ev (Ev_loadLvF enc_op hL rfl rfl xS ho1 hy ky) ?_)
    | (refine ek_add ?_; refine EK_ev (Ev_addI_v (r := ((i + 1 + 1 : Nat) : Int)) rfl rfl (by omega) (by omega)) ?_)
    | (refine ek_sub ?_; refine EK_ev (Ev_subI_v (r := ((i : Nat) : Int)) rfl rfl (by omega) (by omega)) ?_)
    | (refine ek_lss ?_; refine EK_ev (Ev_lssI_q rfl rfl ql) ?_)
    | (refine ek_leq ?_; refine EK_ev (Ev_leqS_q rfl rfl hle) ?_)
    | refine xst ?_
    | (refine xsa ?_; intro _)
    | (refine xsb ?_ ?_ <;> intro _ <;> first | (exfalso; omega) | skip)
    | refine xsc ?_
    | (refine KJ_draws (id := 4) (.op 0 (.op 1 (.op 2 (.op 3 (.op 4 (.op 5 (.op 6 (.op 7 (.op 8 (.op 9 (.op 10 (.op 11 .nil)))))))))))) (by kernel_rfl) (by kernel_rfl) ?_)
    | refine FW_alt ?_ ?_
    | refine KJ_flow ?_ ?_
    | exact Rech.nil
    | fail)
      all_goals refine KJ_again ⟨i + 1, .inr hlt, hadj.next hx hy hl⟩ (by show ops.length - (i + 1) < ops.length - i; omega) xB (xN)
    | false =>
      rw [hl, Bool.not_false] at hle
      have he := encode_order (rises_not hx hy hl)
      repeat' (first 
    | (refine ek_load ?_; first | refine EK_ev (Ev_loadLvF enc_op hL rfl rfl xS ho0 hx kx) ?_ | refine EK_ev (Ev_loadLvF enc_op hL rfl rfl xS ho1 hy ky) ?_)
    | (refine ek_sub ?_; refine EK_ev (Ev_subI_v (r := ((i : Nat) : Int)) rfl rfl (by omega) (by omega)) ?_)
    | (refine ek_lss ?_; refine EK_ev (Ev_lssI_q rfl rfl ql) ?_)
    | (refine ek_leq ?_; refine EK_ev (Ev_leqS_q rfl rfl hle) ?_)
    | refine xst ?_
    | (refine xsa ?_; intro _)
    | (refine xsb ?_ ?_ <;> intro _ <;> first | (exfalso; omega) | skip)
    | refine xsc ?_
    | (refine KJ_draws (id := 4) (.op 0 (.op 1 (.op 2 (.op 3 (.op 4 (.op 5 (.op 6 (.op 7 (.op 8 (.op 9 (.op 10 (.op 11 .nil)))))))))))) (by kernel_rfl) (by kernel_rfl) ?_)
    | refine FW_alt ?_ ?_
    | refine KJ_flow ?_ ?_
    | exact Rech.nil
    | fail)
      all_goals exact xdn () (hc := by rw [he]; rfl)
  have ql : decide (((i + 1 : Nat) : Int) < (ops.length : Nat)) = false := decide_eq_false (by omega)
  have hr : risesB ops = true := AdjTo.rises (ops := ops) fun j x y hj hx hy => hadj j x y (by omega) hx hy
  repeat' (first 
    | (refine is_call ?_; refine KJ_call xE cn xP rfl (fun x => ?_); obtain ⟨gn, cp⟩ := x)
    | (refine ek_lss ?_; refine EK_ev (Ev_lssI_q rfl rfl ql) ?_)
    | refine xst ?_
    | (refine xsa ?_; intro _)
    | (refine xsb ?_ ?_ <;> intro _ <;> first | (exfalso; omega) | skip)
    | refine xsc ?_
    | (refine KJ_draws (id := 4) (.op 0 (.op 1 (.op 2 (.op 3 (.op 4 (.op 5 (.op 6 (.op 7 (.op 8 (.op 9 (.op 10 (.op 11 .nil)))))))))))) (by kernel_rfl) (by kernel_rfl) ?_)
    | refine FW_alt ?_ ?_
    | refine KJ_flow ?_ ?_
    | exact Rech.nil
    | fail)
  refine KJ_loop (fun x : {x : Nat × List UInt8 × Nat × Nat // x.1 ≤ ops.length ∧ x.2.1 = encTo ops x.1 ∧ ∀ j o, ops[j]? = some o → j < x.1 → formB o = true} => [(5, .slice (some ⟨x.1.2.2.1, 0, none⟩) x.1.2.1.length x.1.2.2.2), (30, .slice a ops.length c), (31, .int .i64 (ops.length : Nat)), (32, .int .i64 (x.1.1 : Nat))])
    (fun x => [byP (.slice (some ⟨x.1.2.2.1, 0, none⟩) x.1.2.1.length x.1.2.2.2) x.1.2.1, A] ++ R) (fun x => ops.length - x.1.1) ⟨(0, vu ops.length, gn, cp), Nat.zero_le _, (encTo_zero ops).symm, fun _ _ _ h => absurd h (Nat.not_lt_zero _)⟩ xB (xN) (fun ⟨(i, X, g, cc), hi, hX, hf⟩ => ?_)
  dsimp only at hi hX hf ⊢
  by_cases hlt : i < ops.length
  · have ql : decide ((i : Int) < (ops.length : Nat)) = true := decide_eq_true (by omega)
    obtain ⟨o, ho⟩ : ∃ s, ops[i]? = some s := ⟨_, List.getElem?_eq_getElem hlt⟩
    refine KJ.lvSome hL xS (by omega) (fun b of hab => ?_)
    subst hab
    have hoff : of + Int.toNat (i : Int) * 3 = of + i * 3 := by simp
    have htot := encTo_len ho
    have hnx := encTo_next ho
    have hfn : formB o = true → ∀ j o', ops[j]? = some o' → j < i + 1 → formB o' = true := fun hfo j o' h1 h2 => by
      by_cases e : j = i
      · subst e; rw [ho] at h1; cases h1; exact hfo
      · exact hf j o' h1 (by omega)
    rw [← hX] at htot hnx
    obtain ⟨del, key, val⟩ := o
    have tk : (tx key).length = (vu key.length).length + key.length := by unfold tx; simp
    have tv : (tx val).length = (vu val.length).length + val.length := by unfold tx; simp
    cases del with
    | false =>
      rw [encOp_put] at htot hnx
      simp only [List.length_cons, List.length_append] at htot
      have ctk := rnumber_ct (W := W) key.length (by omega)
      have ctv := rnumber_ct (W := W) val.length (by omega)
      have b1 : (X.length + 1) * 1 ≤ 140737488355328 := by omega
      have b2 : X.length + 1 ≤ 9223372036854775807 := by omega
      have b3 : ((X ++ [(0 : UInt8)]).length + (vu key.length).length) * 1 ≤ 140737488355328 := by simp only [List.length_append, List.length_singleton]; omega
      have b4 : (X ++ [(0 : UInt8)]).length + (vu key.length).length ≤ 9223372036854775807 := by omega
      have b5 : (X ++ [(0 : UInt8)] ++ vu key.length).length + key.length ≤ 140737488355328 := by simp only [List.length_append, List.length_singleton]; omega
      have b6 : ((X ++ [(0 : UInt8)] ++ vu key.length ++ key).length + (vu val.length).length) * 1 ≤ 140737488355328 := by simp only [List.length_append, List.length_singleton]; omega
      have b7 : (X ++ [(0 : UInt8)] ++ vu key.length ++ key).length + (vu val.length).length ≤ 9223372036854775807 := by omega
      have b8 : (X ++ [(0 : UInt8)] ++ vu key.length ++ key ++ vu val.length).length + val.length ≤ 140737488355328 := by simp only [List.length_append, List.length_singleton]; omega
      have p2 : 0 < (X ++ [(0 : UInt8)] ++ vu key.length ++ key ++ vu val.length).length := by simp only [List.length_append, List.length_singleton]; omega
      have hend : X ++ [(0 : UInt8)] ++ vu key.length ++ key ++ vu val.length ++ val = encTo ops (i + 1) := by rw [hnx]; unfold tx; simp
      have p1 : 0 < (X ++ [(0 : UInt8)] ++ vu key.length).length := by simp only [List.length_append, List.length_singleton]; omega
      repeat' (first 
    | (refine is_alloc ?_; refine KJ_alloc rfl (fun g5 => ?_))
    | (refine is_call ?_; first | (refine KJ_call xE ctv xP rfl (fun x => ?_); obtain ⟨gv, cv⟩ := x) | (refine KJ_call xE ctk xP rfl (fun x => ?_); obtain ⟨gk, ck⟩ := x))
    | (refine is_append ?_; first | (refine KJ_appStrB (l := X ++ [(0 : UInt8)] ++ vu key.length ++ key ++ vu val.length) (m := val) rfl rfl xS (.inr rfl) b8 rfl (fun g6 c6 => ?_)) | (refine KJ_appAll (l := X ++ [(0 : UInt8)] ++ vu key.length ++ key) (l2 := vu val.length) byC_ok rfl rfl rfl rfl xS (Src.lv (Lv.own (c := cv) byC_ok rfl) (fun _ => rfl) xS) b6 b7 rfl (fun a4 c4 => ?_); refine KJ.lsSome xS p2 (fun g4 hg4 => ?_); subst hg4) | (refine KJ_appStrB (l := X ++ [(0 : UInt8)] ++ vu key.length) (m := key) rfl rfl xS (.inr rfl) b5 rfl (fun g3 c3 => ?_)) | (refine KJ_appAll (l := X ++ [(0 : UInt8)]) (l2 := vu key.length) byC_ok rfl rfl rfl rfl xS (Src.lv (Lv.own (c := ck) byC_ok rfl) (fun _ => rfl) xS) b3 b4 rfl (fun a2 c2 => ?_); refine KJ.lsSome xS p1 (fun g2 hg2 => ?_); subst hg2) | (refine KJ_appOne (a := (0 : UInt8)) byC_ok rfl rfl rfl xS xS b1 b2 rfl (fun g1 c1 => ?_)))
    | (refine is_bslice ?_; refine KJ_bslice1 rfl xF (by rfl) (by omega) rfl (fun gb => ?_))
    | (refine ek_load ?_; refine EK_ev (Ev_loadLv enc_op hL rfl rfl xS hoff ho) ?_)
    | (refine ek_add ?_; refine EK_ev (Ev_addI_v (r := ((i + 1 : Nat) : Int)) rfl rfl (by omega) (by omega)) ?_)
    | (refine ek_lss ?_; refine EK_ev (Ev_lssI_q rfl rfl ql) ?_)
    | refine xst ?_
    | (refine xsa ?_; intro _)
    | (refine xsb ?_ ?_ <;> intro _ <;> first | (exfalso; omega) | skip)
    | refine xsc ?_
    | (refine KJ_draws (id := 4) (.op 0 (.op 1 (.op 2 (.op 3 (.op 4 (.op 5 (.op 6 (.op 7 (.op 8 (.op 9 (.op 10 (.op 11 .nil)))))))))))) (by kernel_rfl) (by kernel_rfl) ?_)
    | refine FW_alt ?_ ?_
    | refine KJ_flow ?_ ?_
    | exact Rech.nil
    | fail)
      all_goals refine KJ_again ⟨(i + 1, X ++ [(0 : UInt8)] ++ vu key.length ++ key ++ vu val.length ++ val, g6, c6), hlt, hend, hfn rfl⟩ (by show ops.length - (i + 1) < ops.length - i; omega) xB (xN)
    | true =>
      by_cases hv : val = []
      · subst hv
        rw [encOp_del] at htot hnx
        simp only [List.length_cons] at htot
        have ctk := rnumber_ct (W := W) key.length (by omega)
        have b1 : (X.length + 1) * 1 ≤ 140737488355328 := by omega
        have b2 : X.length + 1 ≤ 9223372036854775807 := by omega
        have b3 : ((X ++ [(1 : UInt8)]).length + (vu key.length).length) * 1 ≤ 140737488355328 := by simp only [List.length_append, List.length_singleton]; omega
        have b4 : (X ++ [(1 : UInt8)]).length + (vu key.length).length ≤ 9223372036854775807 := by omega
        have b5 : (X ++ [(1 : UInt8)] ++ vu key.length).length + key.length ≤ 140737488355328 := by simp only [List.length_append, List.length_singleton]; omega
        have hend : X ++ [(1 : UInt8)] ++ vu key.length ++ key = encTo ops (i + 1) := by rw [hnx]; unfold tx; simp
        have p1 : 0 < (X ++ [(1 : UInt8)] ++ vu key.length).length := by simp only [List.length_append, List.length_singleton]; omega
        repeat' (first 
    | (refine is_alloc ?_; refine KJ_alloc rfl (fun g5 => ?_))
    | (refine is_call ?_; refine KJ_call xE ctk xP rfl (fun x => ?_); obtain ⟨gk, ck⟩ := x)
    | (refine is_append ?_; first | (refine KJ_appStrB (l := X ++ [(1 : UInt8)] ++ vu key.length) (m := key) rfl rfl xS (.inr rfl) b5 rfl (fun g3 c3 => ?_)) | (refine KJ_appAll (l := X ++ [(1 : UInt8)]) (l2 := vu key.length) byC_ok rfl rfl rfl rfl xS (Src.lv (Lv.own (c := ck) byC_ok rfl) (fun _ => rfl) xS) b3 b4 rfl (fun a2 c2 => ?_); refine KJ.lsSome xS p1 (fun g2 hg2 => ?_); subst hg2) | (refine KJ_appOne (a := (1 : UInt8)) byC_ok rfl rfl rfl xS xS b1 b2 rfl (fun g1 c1 => ?_)))
    | (refine is_bslice ?_; refine KJ_bslice1 rfl xF (by rfl) (by omega) rfl (fun gb => ?_))
    | (refine ek_load ?_; refine EK_ev (Ev_loadLv enc_op hL rfl rfl xS hoff ho) ?_)
    | (refine ek_add ?_; refine EK_ev (Ev_addI_v (r := ((i + 1 : Nat) : Int)) rfl rfl (by omega) (by omega)) ?_)
    | (refine ek_neq ?_; refine EK_ev (Ev_neqS_f rfl rfl rfl) ?_)
    | (refine ek_lss ?_; refine EK_ev (Ev_lssI_q rfl rfl ql) ?_)
    | refine xst ?_
    | (refine xsa ?_; intro _)
    | (refine xsb ?_ ?_ <;> intro _ <;> first | (exfalso; omega) | skip)
    | refine xsc ?_
    | (refine KJ_draws (id := 4) (.op 0 (.op 1 (.op 2 (.op 3 (.op 4 (.op 5 (.op 6 (.op 7 (.op 8 (.op 9 (.op 10 (.op 11 .nil)))))))))))) (by kernel_rfl) (by kernel_rfl) ?_)
    | refine FW_alt ?_ ?_
    | refine KJ_flow ?_ ?_
    | exact Rech.nil
    | fail)
        all_goals refine KJ_again ⟨(i + 1, X ++ [(1 : UInt8)] ++ vu key.length ++ key, g3, c3), hlt, hend, hfn rfl⟩ (by show ops.length - (i + 1) < ops.length - i; omega) xB (xN)
      · have he := encode_form hr ho (by unfold formB; simp [hv])
        repeat' (first 
    | (refine is_alloc ?_; refine KJ_alloc rfl (fun g5 => ?_))
    | (refine ek_load ?_; refine EK_ev (Ev_loadLv enc_op hL rfl rfl xS hoff ho) ?_)
    | (refine ek_neq ?_; refine EK_ev (Ev_neqS_t rfl rfl hv) ?_)
    | (refine ek_lss ?_; refine EK_ev (Ev_lssI_q rfl rfl ql) ?_)
    | refine xst ?_
    | (refine xsa ?_; intro _)
    | (refine xsb ?_ ?_ <;> intro _ <;> first | (exfalso; omega) | skip)
    | refine xsc ?_
    | (refine KJ_draws (id := 4) (.op 0 (.op 1 (.op 2 (.op 3 (.op 4 (.op 5 (.op 6 (.op 7 (.op 8 (.op 9 (.op 10 (.op 11 .nil)))))))))))) (by kernel_rfl) (by kernel_rfl) ?_)
    | refine FW_alt ?_ ?_
    | refine KJ_flow ?_ ?_
    | exact Rech.nil
    | fail)
        all_goals exact xdn () (hc := by rw [he]; rfl)
  have ql : decide ((i : Int) < (ops.length : Nat)) = false := decide_eq_false (by omega)
  obtain rfl : i = ops.length := by omega
  have he := encode_ok hr (fun j o h1 h2 => hf j o h1 h2)
  rw [encTo_all] at hX
  repeat' (first 
    | (refine ek_conv ?_; refine EK_ev (Ev_bytesB rfl xS rfl) ?_)
    | (refine ek_lss ?_; refine EK_ev (Ev_lssI_q rfl rfl ql) ?_)
    | refine xst ?_
    | (refine xsa ?_; intro _)
    | (refine xsb ?_ ?_ <;> intro _ <;> first | (exfalso; omega) | skip)
    | refine xsc ?_
    | (refine KJ_draws (id := 4) (.op 0 (.op 1 (.op 2 (.op 3 (.op 4 (.op 5 (.op 6 (.op 7 (.op 8 (.op 9 (.op 10 (.op 11 .nil)))))))))))) (by kernel_rfl) (by kernel_rfl) ?_)
    | refine FW_alt ?_ ?_
    | refine KJ_flow ?_ ?_
    | exact Rech.nil
    | fail)
  all_goals exact xdn () (hc := by rw [he, hX]; rfl)
end
end Go.Proofs.YtehheokalgmbgaaDoor
