/-
  BaW4.
-/
import Derived.Test.YtehheokalgmbgaaDoorHBI
import Derived.Test.YtehheokalgmbgaaDoorHBJ
/-
  batch.Encode.
-/
namespace Go.Proofs.YtehheokalgmbgaaDoor
open Go Go.RowKit
section
variable {W : World} {F : Nat → Addr}
set_option maxHeartbeats 2000000 in
theorem bencode_ct (A : SP) (a : Option Addr) (c : Nat) (ops : List BOp) (hL : Lv W opC 3 A a ops) (hlen : (encAll ops).length + 64 ≤ 140737488355328) (h63 : ops.length ≤ 140737488355328)
    (e4 : (encode ops).2 = 4 → W.cell? ⟨0, 0, none⟩ = some (errV F 4)) (e7 : (encode ops).2 = 7 → W.cell? ⟨1, 0, none⟩ = some (errV F 7)) :
    Ct Tryd.prog W 16 [.slice a ops.length c] [A] (fun _ : Unit => .tuple #[strV (encode ops).1, errV F (encode ops).2]) (fun _ => [A]) := by
  have cn := wnew_ct (W := W)
  have cu : ∀ p, Ct Tryd.prog W 34 [.pointer (some ⟨p, 0, none⟩), .int .u64 (ops.length : Nat)] [WrP p []] (fun _ : Unit => .tuple #[]) (fun _ => [WrP p (encTo ops 0)]) := fun p => by
    have := wuint_ct (W := W) (p := p) (l := []) ops.length (by omega) (by simp)
    rw [encTo_zero]; exact this
  have e1 : IntKind.u64.wrap ((ops.length : Nat) : Int) = ((ops.length : Nat) : Int) := u64_wrap _ (by omega)
  refine Ct.enter Tryd.func16 rfl Tryd.ntmps16 (by simp) (fun R => ?_)
  repeat' (first 
    | refine xst ?_
    | (refine xsa ?_; intro _)
    | (refine xsb ?_ ?_ <;> intro _ <;> first | (exfalso; omega) | skip)
    | refine xsc ?_
    | (refine KJ_draws (id := 4) (.op 0 (.op 1 (.op 2 (.op 3 (.op 4 (.op 5 (.op 6 (.op 7 (.op 8 (.op 9 (.op 10 (.op 11 .nil)))))))))))) (by kernel_rfl) (by kernel_rfl) ?_)
    | (refine KJ_draws (id := 5) (.op 0 (.op 1 (.op 2 .nil))) (by kernel_rfl) (by kernel_rfl) ?_)
    | (refine KJ_draws (id := 16) (.op 0 (.op 1 (.op 2 .nil))) (by kernel_rfl) (by kernel_rfl) ?_)
    | refine FW_alt ?_ ?_
    | refine FW_efn rfl rfl rfl rfl rfl ?_ ?_
    | refine KJ_flow ?_ ?_
    | exact Rech.nil
    | fail)
  refine KJ_loop (fun i : {i : Nat // (i = 0 ∨ i < ops.length) ∧ AdjTo ops (i + 1)} => [(0, .slice a ops.length c), (4, .int .i64 ((i.1 + 1 : Nat) : Int))])
    (fun i => [A] ++ R) (fun i => ops.length - i.1) ⟨0, .inl rfl, AdjTo.one ops⟩ xB (xN) (fun ⟨i, hi, hadj⟩ => ?_)
  dsimp only
  by_cases hlt : i + 1 < ops.length
  · have ql : decide (((i + 1 : Nat) : Int) < (ops.length : Nat)) = true := decide_eq_true (by omega)
    obtain ⟨x, hx⟩ : ∃ s, ops[i]? = some s := ⟨_, List.getElem?_eq_getElem (by omega)⟩
    obtain ⟨y, hy⟩ : ∃ s, ops[i + 1]? = some s := ⟨_, List.getElem?_eq_getElem hlt⟩
    refine KJ.lvSome hL xS (by omega) (fun b of hab => ?_)
    subst hab
    have ho1 : of + Int.toNat ((i + 1 : Nat) : Int) * 3 + 1 = of + (i + 1) * 3 + 1 := by simp
    have ho0 : of + Int.toNat ((i : Nat) : Int) * 3 + 1 = of + i * 3 + 1 := by simp
    have kx : (opC x)[1]? = some (strV x.key) := rfl
    have ky : (opC y)[1]? = some (strV y.key) := rfl
    have hle := leq_not y.key x.key
    cases hl : Op.bytesLess x.key y.key with
    | true =>
      rw [hl, Bool.not_true] at hle
      repeat' (first 
    | (refine ek_load ?_; first | refine EK_ev (Ev_loadLvF enc_op hL rfl rfl xS ho0 hx kx) ?_ | refine EK_ev (Ev_loadLvF enc_op hL rfl rfl xS ho1 hy ky) ?_)
    | (refine ek_add ?_; refine EK_ev (Ev_addI_v (r := ((i + 1 + 1 : Nat) : Int)) rfl rfl (by omega) (by omega)) ?_)
    | (refine ek_sub ?_; refine EK_ev (Ev_subI_v (r := ((i : Nat) : Int)) rfl rfl (by omega) (by omega)) ?_)
    | (refine ek_lss ?_; refine EK_ev (Ev_lssI_q rfl rfl ql) ?_)
    | (refine ek_leq ?_; refine EK_ev (Ev_leqS_q rfl rfl hle) ?_)
    | refine xst ?_
    | (refine xsa ?_; intro _)
    | (refine xsb ?_ ?_ <;> intro _ <;> first | (exfalso; omega) | skip)
    | refine xsc ?_
    | (refine KJ_draws (id := 4) (.op 0 (.op 1 (.op 2 (.op 3 (.op 4 (.op 5 (.op 6 (.op 7 (.op 8 (.op 9 (.op 10 (.op 11 .nil)))))))))))) (by kernel_rfl) (by kernel_rfl) ?_)
    | (refine KJ_draws (id := 5) (.op 0 (.op 1 (.op 2 .nil))) (by kernel_rfl) (by kernel_rfl) ?_)
    | (refine KJ_draws (id := 16) (.op 0 (.op 1 (.op 2 .nil))) (by kernel_rfl) (by kernel_rfl) ?_)
    | refine FW_alt ?_ ?_
    | refine FW_efn rfl rfl rfl rfl rfl ?_ ?_
    | refine KJ_flow ?_ ?_
    | exact Rech.nil
    | fail)
      all_goals refine KJ_again ⟨i + 1, .inr hlt, hadj.next hx hy hl⟩ (by show ops.length - (i + 1) < ops.length - i; omega) xB (xN)
    | false =>
      rw [hl, Bool.not_false] at hle
      have he := encode_order (rises_not hx hy hl)
      have e4' := e4 (by rw [he])
      repeat' (first 
    | (refine ek_load ?_; first | refine EK_ev (Ev_loadOld rfl e4') ?_ | refine EK_ev (Ev_loadLvF enc_op hL rfl rfl xS ho0 hx kx) ?_ | refine EK_ev (Ev_loadLvF enc_op hL rfl rfl xS ho1 hy ky) ?_)
    | (refine ek_sub ?_; refine EK_ev (Ev_subI_v (r := ((i : Nat) : Int)) rfl rfl (by omega) (by omega)) ?_)
    | (refine ek_lss ?_; refine EK_ev (Ev_lssI_q rfl rfl ql) ?_)
    | (refine ek_leq ?_; refine EK_ev (Ev_leqS_q rfl rfl hle) ?_)
    | refine xst ?_
    | (refine xsa ?_; intro _)
    | (refine xsb ?_ ?_ <;> intro _ <;> first | (exfalso; omega) | skip)
    | refine xsc ?_
    | (refine KJ_draws (id := 4) (.op 0 (.op 1 (.op 2 (.op 3 (.op 4 (.op 5 (.op 6 (.op 7 (.op 8 (.op 9 (.op 10 (.op 11 .nil)))))))))))) (by kernel_rfl) (by kernel_rfl) ?_)
    | (refine KJ_draws (id := 5) (.op 0 (.op 1 (.op 2 .nil))) (by kernel_rfl) (by kernel_rfl) ?_)
    | (refine KJ_draws (id := 16) (.op 0 (.op 1 (.op 2 .nil))) (by kernel_rfl) (by kernel_rfl) ?_)
    | refine FW_alt ?_ ?_
    | refine FW_efn rfl rfl rfl rfl rfl ?_ ?_
    | refine KJ_flow ?_ ?_
    | exact Rech.nil
    | fail)
      all_goals exact xdn () (hc := by rw [he]; rfl)
  have ql : decide (((i + 1 : Nat) : Int) < (ops.length : Nat)) = false := decide_eq_false (by omega)
  have hr : risesB ops = true := AdjTo.rises (ops := ops) fun j x y hj hx hy => hadj j x y (by omega) hx hy
  repeat' (first 
    | (refine is_call ?_; first | (refine KJ_call xE cn xP rfl (fun p => ?_)) | (refine KJ_call xE (cu p) xP rfl (fun _ => ?_)))
    | (refine ek_conv ?_; refine EK_ev (Ev_convI_v rfl e1) ?_)
    | (refine ek_lss ?_; refine EK_ev (Ev_lssI_q rfl rfl ql) ?_)
    | refine xst ?_
    | (refine xsa ?_; intro _)
    | (refine xsb ?_ ?_ <;> intro _ <;> first | (exfalso; omega) | skip)
    | refine xsc ?_
    | (refine KJ_draws (id := 4) (.op 0 (.op 1 (.op 2 (.op 3 (.op 4 (.op 5 (.op 6 (.op 7 (.op 8 (.op 9 (.op 10 (.op 11 .nil)))))))))))) (by kernel_rfl) (by kernel_rfl) ?_)
    | (refine KJ_draws (id := 5) (.op 0 (.op 1 (.op 2 .nil))) (by kernel_rfl) (by kernel_rfl) ?_)
    | (refine KJ_draws (id := 16) (.op 0 (.op 1 (.op 2 .nil))) (by kernel_rfl) (by kernel_rfl) ?_)
    | refine FW_alt ?_ ?_
    | refine FW_efn rfl rfl rfl rfl rfl ?_ ?_
    | refine KJ_flow ?_ ?_
    | exact Rech.nil
    | fail)
  refine KJ_loop (fun i : {i : Nat // i ≤ ops.length ∧ ∀ j o, ops[j]? = some o → j < i → formB o = true} => [(5, .pointer (some ⟨p, 0, none⟩)), (33, .slice a ops.length c), (34, .int .i64 (ops.length : Nat)), (35, .int .i64 (i.1 : Nat))])
    (fun i => [WrP p (encTo ops i.1), A] ++ R) (fun i => ops.length - i.1) ⟨0, Nat.zero_le _, fun _ _ _ h => absurd h (by omega)⟩ xB (xN) (fun ⟨i, hi, hf⟩ => ?_)
  dsimp only
  by_cases hlt : i < ops.length
  · have ql : decide ((i : Int) < (ops.length : Nat)) = true := decide_eq_true (by omega)
    obtain ⟨o, ho⟩ : ∃ s, ops[i]? = some s := ⟨_, List.getElem?_eq_getElem hlt⟩
    refine KJ.lvSome hL xS (by omega) (fun b of hab => ?_)
    subst hab
    have hoff : of + Int.toNat (i : Int) * 3 = of + i * 3 := by simp
    have htot := encTo_len ho
    have hnx := encTo_next ho
    have hfn : formB o = true → ∀ j o', ops[j]? = some o' → j < i + 1 → formB o' = true := fun hfo j o' h1 h2 => by
      by_cases e : j = i
      · subst e; rw [ho] at h1; cases h1; exact hfo
      · exact hf j o' h1 (by omega)
    obtain ⟨X, hX⟩ : ∃ X, X = encTo ops i := ⟨_, rfl⟩
    rw [← hX] at htot hnx ⊢
    obtain ⟨del, key, val⟩ := o
    have tk := tx_len key
    have tv := tx_len val
    cases del with
    | false =>
      rw [encOp_put] at htot hnx
      simp only [List.length_cons, List.length_append] at htot
      have c1 := wbyte_ct (W := W) (p := p) (l := X) 0 (by omega)
      have c2 := wtext_ct (W := W) (p := p) (l := X ++ [0]) key (by simp only [List.length_append, List.length_singleton]; omega)
      have c3 : Ct Tryd.prog W 36 [.pointer (some ⟨p, 0, none⟩), strV val] [WrP p (X ++ [0] ++ tx key)] (fun _ : Unit => .tuple #[]) (fun _ => [WrP p (encTo ops (i + 1))]) := by
        have := wtext_ct (W := W) (p := p) (l := X ++ [0] ++ tx key) val (by simp only [List.length_append, List.length_singleton]; omega)
        rw [hnx]
        simpa only [List.append_assoc, List.singleton_append, List.cons_append, List.nil_append] using this
      repeat' (first 
    | (refine is_alloc ?_; refine KJ_alloc rfl (fun g5 => ?_))
    | (refine is_call ?_; first | (refine KJ_call xE c3 xP rfl (fun _ => ?_)) | (refine KJ_call xE c2 xP rfl (fun _ => ?_)) | (refine KJ_call xE c1 xP rfl (fun _ => ?_)))
    | (refine ek_load ?_; refine EK_ev (Ev_loadLv enc_op hL rfl rfl xS hoff ho) ?_)
    | (refine ek_add ?_; refine EK_ev (Ev_addI_v (r := ((i + 1 : Nat) : Int)) rfl rfl (by omega) (by omega)) ?_)
    | (refine ek_lss ?_; refine EK_ev (Ev_lssI_q rfl rfl ql) ?_)
    | refine xst ?_
    | (refine xsa ?_; intro _)
    | (refine xsb ?_ ?_ <;> intro _ <;> first | (exfalso; omega) | skip)
    | refine xsc ?_
    | (refine KJ_draws (id := 4) (.op 0 (.op 1 (.op 2 (.op 3 (.op 4 (.op 5 (.op 6 (.op 7 (.op 8 (.op 9 (.op 10 (.op 11 .nil)))))))))))) (by kernel_rfl) (by kernel_rfl) ?_)
    | (refine KJ_draws (id := 5) (.op 0 (.op 1 (.op 2 .nil))) (by kernel_rfl) (by kernel_rfl) ?_)
    | (refine KJ_draws (id := 16) (.op 0 (.op 1 (.op 2 .nil))) (by kernel_rfl) (by kernel_rfl) ?_)
    | refine FW_alt ?_ ?_
    | refine FW_efn rfl rfl rfl rfl rfl ?_ ?_
    | refine KJ_flow ?_ ?_
    | exact Rech.nil
    | fail)
      all_goals refine KJ_again ⟨i + 1, hlt, hfn rfl⟩ (by show ops.length - (i + 1) < ops.length - i; omega) xB (xN)
    | true =>
      by_cases hv : val = []
      · subst hv
        rw [encOp_del] at htot hnx
        simp only [List.length_cons] at htot
        have c1 := wbyte_ct (W := W) (p := p) (l := X) 1 (by omega)
        have c2 : Ct Tryd.prog W 36 [.pointer (some ⟨p, 0, none⟩), strV key] [WrP p (X ++ [1])] (fun _ : Unit => .tuple #[]) (fun _ => [WrP p (encTo ops (i + 1))]) := by
          have := wtext_ct (W := W) (p := p) (l := X ++ [1]) key (by simp only [List.length_append, List.length_singleton]; omega)
          rw [hnx]
          simpa only [List.append_assoc, List.singleton_append, List.cons_append, List.nil_append] using this
        repeat' (first 
    | (refine is_alloc ?_; refine KJ_alloc rfl (fun g5 => ?_))
    | (refine is_call ?_; first | (refine KJ_call xE c2 xP rfl (fun _ => ?_)) | (refine KJ_call xE c1 xP rfl (fun _ => ?_)))
    | (refine ek_load ?_; refine EK_ev (Ev_loadLv enc_op hL rfl rfl xS hoff ho) ?_)
    | (refine ek_add ?_; refine EK_ev (Ev_addI_v (r := ((i + 1 : Nat) : Int)) rfl rfl (by omega) (by omega)) ?_)
    | (refine ek_neq ?_; refine EK_ev (Ev_neqS_f rfl rfl rfl) ?_)
    | (refine ek_lss ?_; refine EK_ev (Ev_lssI_q rfl rfl ql) ?_)
    | refine xst ?_
    | (refine xsa ?_; intro _)
    | (refine xsb ?_ ?_ <;> intro _ <;> first | (exfalso; omega) | skip)
    | refine xsc ?_
    | (refine KJ_draws (id := 4) (.op 0 (.op 1 (.op 2 (.op 3 (.op 4 (.op 5 (.op 6 (.op 7 (.op 8 (.op 9 (.op 10 (.op 11 .nil)))))))))))) (by kernel_rfl) (by kernel_rfl) ?_)
    | (refine KJ_draws (id := 5) (.op 0 (.op 1 (.op 2 .nil))) (by kernel_rfl) (by kernel_rfl) ?_)
    | (refine KJ_draws (id := 16) (.op 0 (.op 1 (.op 2 .nil))) (by kernel_rfl) (by kernel_rfl) ?_)
    | refine FW_alt ?_ ?_
    | refine FW_efn rfl rfl rfl rfl rfl ?_ ?_
    | refine KJ_flow ?_ ?_
    | exact Rech.nil
    | fail)
        all_goals refine KJ_again ⟨i + 1, hlt, hfn rfl⟩ (by show ops.length - (i + 1) < ops.length - i; omega) xB (xN)
      · have he := encode_form hr ho (by unfold formB; simp [hv])
        have e7' := e7 (by rw [he])
        repeat' (first 
    | (refine is_alloc ?_; refine KJ_alloc rfl (fun g5 => ?_))
    | (refine ek_load ?_; first | refine EK_ev (Ev_loadOld rfl e7') ?_ | refine EK_ev (Ev_loadLv enc_op hL rfl rfl xS hoff ho) ?_)
    | (refine ek_neq ?_; refine EK_ev (Ev_neqS_t rfl rfl hv) ?_)
    | (refine ek_lss ?_; refine EK_ev (Ev_lssI_q rfl rfl ql) ?_)
    | refine xst ?_
    | (refine xsa ?_; intro _)
    | (refine xsb ?_ ?_ <;> intro _ <;> first | (exfalso; omega) | skip)
    | refine xsc ?_
    | (refine KJ_draws (id := 4) (.op 0 (.op 1 (.op 2 (.op 3 (.op 4 (.op 5 (.op 6 (.op 7 (.op 8 (.op 9 (.op 10 (.op 11 .nil)))))))))))) (by kernel_rfl) (by kernel_rfl) ?_)
    | (refine KJ_draws (id := 5) (.op 0 (.op 1 (.op 2 .nil))) (by kernel_rfl) (by kernel_rfl) ?_)
    | (refine KJ_draws (id := 16) (.op 0 (.op 1 (.op 2 .nil))) (by kernel_rfl) (by kernel_rfl) ?_)
    | refine FW_alt ?_ ?_
    | refine FW_efn rfl rfl rfl rfl rfl ?_ ?_
    | refine KJ_flow ?_ ?_
    | exact Rech.nil
    | fail)
        all_goals exact xdn () (hc := by rw [he]; rfl)
  have ql : decide ((i : Int) < (ops.length : Nat)) = false := decide_eq_false (by omega)
  obtain rfl : i = ops.length := by omega
  have he := encode_ok hr (fun j o h1 h2 => hf j o h1 h2)
  rw [encTo_all]
  have hp := encTo_pos ops ops.length
  rw [encTo_all] at hp
  have co := wout_ct (W := W) (p := p) (l := encAll ops) hp
  repeat' (first 
    | (refine is_call ?_; refine KJ_call xE co xP rfl (fun _ => ?_))
    | (refine ek_lss ?_; refine EK_ev (Ev_lssI_q rfl rfl ql) ?_)
    | refine xst ?_
    | (refine xsa ?_; intro _)
    | (refine xsb ?_ ?_ <;> intro _ <;> first | (exfalso; omega) | skip)
    | refine xsc ?_
    | (refine KJ_draws (id := 4) (.op 0 (.op 1 (.op 2 (.op 3 (.op 4 (.op 5 (.op 6 (.op 7 (.op 8 (.op 9 (.op 10 (.op 11 .nil)))))))))))) (by kernel_rfl) (by kernel_rfl) ?_)
    | (refine KJ_draws (id := 5) (.op 0 (.op 1 (.op 2 .nil))) (by kernel_rfl) (by kernel_rfl) ?_)
    | (refine KJ_draws (id := 16) (.op 0 (.op 1 (.op 2 .nil))) (by kernel_rfl) (by kernel_rfl) ?_)
    | refine FW_alt ?_ ?_
    | refine FW_efn rfl rfl rfl rfl rfl ?_ ?_
    | refine KJ_flow ?_ ?_
    | exact Rech.nil
    | fail)
  all_goals exact xdn () (hc := by rw [he]; rfl)
end
end Go.Proofs.YtehheokalgmbgaaDoor
