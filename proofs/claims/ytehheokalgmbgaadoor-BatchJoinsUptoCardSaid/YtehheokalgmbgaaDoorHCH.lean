/-
  RrA, RrB, RrC.
-/
import Derived.Test.YtehheokalgmbgaaDoorHCI
import Derived.Test.YtehheokalgmbgaaDoorHBL
import Derived.Test.YtehheokalgmbgaaDoorHCE
import Derived.Test.YtehheokalgmbgaaDoorHBP
/-
  The document's answer for chapter 12: Apply, Rows.
-/
namespace Go.Proofs.YtehheokalgmbgaaDoor
open Go Go.RowKit
theorem row_at {M : Rows} (hr : RisR M) {k : List UInt8} (h : hasB Prod.fst M k = true) : ∃ u, M[atB Prod.fst M k]? = some (k, u) ∧ M = M.take (atB Prod.fst M k) ++ (k, u) :: M.drop (atB Prod.fst M k + 1) := by
  obtain ⟨⟨y, u⟩, hy, e⟩ := (atB_has hr k).1 h
  have e : y = k := e
  subst e
  obtain ⟨hl, e2⟩ := List.getElem?_eq_some_iff.1 hy
  refine ⟨u, hy, ?_⟩
  conv => lhs; rw [← List.take_append_drop (atB Prod.fst M y) M, List.drop_eq_getElem_cons hl, e2]
theorem cut_row {M : Rows} (hr : RisR M) {k : List UInt8} (h : hasB Prod.fst M k = true) : M.eraseIdx (atB Prod.fst M k) = mdel M k := by
  obtain ⟨u, -, e⟩ := row_at hr h
  rw [List.eraseIdx_eq_take_drop_succ]
  obtain ⟨A, hA⟩ : ∃ A, A = M.take (atB Prod.fst M k) := ⟨_, rfl⟩
  obtain ⟨B, hB⟩ : ∃ B, B = M.drop (atB Prod.fst M k + 1) := ⟨_, rfl⟩
  rw [← hA, ← hB] at e ⊢
  subst e
  obtain ⟨-, -, h3, h4⟩ := ris_mid.1 hr
  rw [mdel_mid, if_pos rfl, mdel_none (lk_above h3), mdel_none (lk_below h4)]
theorem set_row {M : Rows} (hr : RisR M) {k v : List UInt8} (h : hasB Prod.fst M k = true) : M.set (atB Prod.fst M k) (k, v) = putR M k v := by
  obtain ⟨u, hu, e⟩ := row_at hr h
  have hl := (List.getElem?_eq_some_iff.1 hu).1
  rw [List.set_eq_take_append_cons_drop, if_pos hl]
  obtain ⟨A, hA⟩ : ∃ A, A = M.take (atB Prod.fst M k) := ⟨_, rfl⟩
  obtain ⟨B, hB⟩ : ∃ B, B = M.drop (atB Prod.fst M k + 1) := ⟨_, rfl⟩
  rw [← hA, ← hB] at e ⊢
  subst e
  rw [putR_m _ hr]
theorem ins_row {M : Rows} {k v : List UInt8} (h : hasB Prod.fst M k = false) : shL M (atB Prod.fst M k) (k, v) = putR M k v := by
  unfold putR
  rw [if_neg (by rw [h]; decide), insB_eq]
  unfold shL
  simp
theorem no_row {M : Rows} {k : List UInt8} (h : hasB Prod.fst M k = false) : mdel M k = M := by
  refine mdel_none ?_
  cases e : lk M k with
  | none => rfl
  | some v => rw [has_lk, e] at h; cases h
section
variable {W : World}
set_option maxHeartbeats 8000000 in
set_option maxRecDepth 10000 in
theorem rapply_ct (A B : SP) (a b : Option Addr) (c d : Nat) (r : Rows) (ops : List BOp) (hA : Lv W rC 2 A a r) (hB : Lv W opC 3 B b ops) (hr : RisR r) (hl : (r.length + ops.length) * 32 ≤ 140737488355328) :
    Ct Tryd.prog W 23 [.slice a r.length c, .slice b ops.length d] [A, B] (fun x : Option Addr × Nat => .slice x.1 (applyB r ops).length x.2) (fun x => [A, B, lsP rC 65 2 (.slice x.1 (applyB r ops).length x.2) (applyB r ops)]) := by
  have b1 : (([] : Rows).length + r.length) * 32 ≤ 140737488355328 := by rw [List.length_nil]; omega
  have b2 : ([] : Rows).length + r.length ≤ 9223372036854775807 := by rw [List.length_nil]; omega
  refine Ct.enter Tryd.func23 rfl Tryd.ntmps23 (by simp) (fun R => ?_)
  refine KJ.lvOpen hA xS (fun b0 o0 ha0 => ?_)
  repeat' (first 
    | (refine is_append ?_; refine KJ_appAll (l := ([] : Rows)) (l2 := r) rC_ok rfl rfl rfl rfl xS (Src.lv hA ha0 xS) b1 b2 rfl (fun a1 c1 => ?_))
    | (refine is_bslice ?_; refine KJ_bslice0 rfl (fun g0 => ?_))
    | refine xst ?_
    | (refine xsa ?_; intro _)
    | (refine xsb ?_ ?_ <;> intro _ <;> first | (exfalso; omega) | skip)
    | refine xsc ?_
    | (refine KJ_draws (id := 7) (.op 0 (.op 1 (.op 2 (.op 3 (.op 4 (.op 5 (.op 6 (.ef 7 [] (.ef 8 [] .nil))))))))) (by kernel_rfl) (by kernel_rfl) ?_)
    | refine FW_alt ?_ ?_
    | refine FW_efn rfl rfl rfl rfl rfl ?_ ?_
    | refine KJ_flow ?_ ?_
    | exact Rech.nil
    | fail)
  refine KJ_loop (fun x : {x : Nat × Rows × Option Addr × Nat // x.1 ≤ ops.length ∧ x.2.1 = applyB r (ops.take x.1)} => [(5, .slice x.1.2.2.1 x.1.2.1.length x.1.2.2.2), (14, .slice b ops.length d), (15, .int .i64 (ops.length : Nat)), (16, .int .i64 (x.1.1 : Nat))])
    (fun x => [lsP rC 65 2 (.slice x.1.2.2.1 x.1.2.1.length x.1.2.2.2) x.1.2.1, A, B] ++ R) (fun x => ops.length - x.1.1) ⟨(0, [] ++ r, a1, c1), Nat.zero_le _, rfl⟩ xB (xN) (fun ⟨(i, M, sa, sc), hi, hM⟩ => ?_)
  dsimp only at hi hM ⊢
  by_cases hlt : i < ops.length
  rotate_left
  · have ql : decide ((i : Int) < (ops.length : Nat)) = false := decide_eq_false (by omega)
    rw [List.take_of_length_le (by omega)] at hM
    repeat' (first 
    | (refine ek_lss ?_; refine EK_ev (Ev_lssI_q rfl rfl ql) ?_)
    | refine xst ?_
    | (refine xsa ?_; intro _)
    | (refine xsb ?_ ?_ <;> intro _ <;> first | (exfalso; omega) | skip)
    | refine xsc ?_
    | (refine KJ_draws (id := 7) (.op 0 (.op 1 (.op 2 (.op 3 (.op 4 (.op 5 (.op 6 (.ef 7 [] (.ef 8 [] .nil))))))))) (by kernel_rfl) (by kernel_rfl) ?_)
    | refine FW_alt ?_ ?_
    | refine FW_efn rfl rfl rfl rfl rfl ?_ ?_
    | refine KJ_flow ?_ ?_
    | exact Rech.nil
    | fail)
    all_goals subst hM
    all_goals (exact xdn (sa, sc))
  have ql : decide ((i : Int) < (ops.length : Nat)) = true := decide_eq_true (by omega)
  obtain ⟨o, ho⟩ : ∃ s, ops[i]? = some s := ⟨_, List.getElem?_eq_getElem hlt⟩
  have hlen := applyB_len (ops.take i) r
  rw [List.length_take, ← hM] at hlen
  have hnx := applyB_next (r := r) ho
  have hMr : RisR M := by rw [hM]; exact applyB_ris hr _
  rw [← hM] at hnx
  refine KJ.lvSome hB xS (by omega) (fun bo oo hab => ?_)
  subst hab
  have hoff : oo + Int.toNat (i : Int) * 3 = oo + i * 3 := by simp
  obtain ⟨del, key, val⟩ := o
  have hat := atB_le (f := Prod.fst) M key
  have cp := rplace_ct (W := W) sa sc M hMr key (by omega)
  have hcut := fun h => cut_row (M := M) (k := key) hMr h
  have hset := fun h => set_row (M := M) (k := key) (v := val) hMr h
  have hins := fun h => ins_row (M := M) (k := key) (v := val) h
  have hrow := fun h => row_at (M := M) (k := key) hMr h
  obtain ⟨at_, hat_⟩ : ∃ n, n = atB Prod.fst M key := ⟨_, rfl⟩
  rw [← hat_] at hat cp hcut hset hins hrow
  refine KJ.lsOpen xS (fun a3 c3 he hcf => ?_)
  cases he
  cases hh : hasB Prod.fst M key with
  | true =>
    rw [hh] at cp
    obtain ⟨u, hu, -⟩ := hrow hh
    have hin := (List.getElem?_eq_some_iff.1 hu).1
    refine KJ.lsSome xS (by omega) (fun g hg => ?_)
    subst hg
    cases del with
    | true =>
      have hnx : applyB r (ops.take (i + 1)) = M.eraseIdx at_ := hnx.trans (hcut hh).symm
      repeat' (first 
    | (refine is_alloc ?_; refine KJ_alloc rfl (fun g7 => ?_))
    | (refine is_call ?_; refine KJ_call xE cp xP rfl (fun _ => ?_))
    | (refine is_append ?_; refine KJ_cutRow (i := at_) rC_ok rfl rfl rfl xS hin hcf rfl ?_)
    | (refine ek_load ?_; refine EK_ev (Ev_loadLv enc_op hB rfl rfl xS hoff ho) ?_)
    | (refine ek_slice ?_; first | refine EK_ev (Ev_sliceFromG rfl rfl (by omega)) ?_ | refine EK_ev (Ev_sliceToG rfl rfl (by omega)) ?_)
    | (refine ek_add ?_; first | refine EK_ev (Ev_addI_v (r := ((at_ + 1 : Nat) : Int)) rfl rfl (by omega) (by omega)) ?_ | refine EK_ev (Ev_addI_v (r := ((i + 1 : Nat) : Int)) rfl rfl (by omega) (by omega)) ?_)
    | (refine ek_lss ?_; refine EK_ev (Ev_lssI_q rfl rfl ql) ?_)
    | refine xst ?_
    | (refine xsa ?_; intro _)
    | (refine xsb ?_ ?_ <;> intro _ <;> first | (exfalso; omega) | skip)
    | refine xsc ?_
    | (refine KJ_draws (id := 7) (.op 0 (.op 1 (.op 2 (.op 3 (.op 4 (.op 5 (.op 6 (.ef 7 [] (.ef 8 [] .nil))))))))) (by kernel_rfl) (by kernel_rfl) ?_)
    | refine FW_alt ?_ ?_
    | refine FW_efn rfl rfl rfl rfl rfl ?_ ?_
    | refine KJ_flow ?_ ?_
    | exact Rech.nil
    | fail)
      all_goals refine KJ_again ⟨(i + 1, M.eraseIdx at_, some ⟨g, 0, none⟩, sc), hlt, hnx.symm⟩ (by show ops.length - (i + 1) < ops.length - i; omega) xB (xN)
    | false =>
      have hnx : applyB r (ops.take (i + 1)) = M.set at_ (key, val) := hnx.trans (hset hh).symm
      have ho1 : 0 + Int.toNat ((at_ : Nat) : Int) * 2 + 1 = at_ * 2 + 1 := by rw [Int.toNat_natCast]; omega
      have he2 : rC (key, val) = (rC (key, u)).set 1 (strV val) := rfl
      have hml : M.length = (M.set at_ (key, val)).length := by rw [List.length_set]
      repeat' (first 
    | (refine at_seq_region (id := 5) ?_; refine hold ?_)
    | (refine is_alloc ?_; refine KJ_alloc rfl (fun g7 => ?_))
    | (refine ek_load ?_; refine EK_ev (Ev_loadLv enc_op hB rfl rfl xS hoff ho) ?_)
    | (refine ek_lss ?_; refine EK_ev (Ev_lssI_q rfl rfl ql) ?_)
    | refine xst ?_
    | (refine xsa ?_; intro _)
    | (refine xsb ?_ ?_ <;> intro _ <;> first | (exfalso; omega) | skip)
    | refine xsc ?_
    | (refine KJ_draws (id := 7) (.op 0 (.op 1 (.op 2 (.op 3 (.op 4 (.op 5 (.op 6 (.ef 7 [] (.ef 8 [] .nil))))))))) (by kernel_rfl) (by kernel_rfl) ?_)
    | refine FW_alt ?_ ?_
    | refine FW_efn rfl rfl rfl rfl rfl ?_ ?_
    | refine KJ_flow ?_ ?_
    | exact Rech.nil
    | fail)
      refine Hold.mk ?_
      repeat' (first 
    | (refine is_store ?_; refine hold ?_)
    | (refine is_call ?_; refine KJ_call xE cp xP rfl (fun _ => ?_))
    | refine xst ?_
    | (refine xsa ?_; intro _)
    | (refine xsb ?_ ?_ <;> intro _ <;> first | (exfalso; omega) | skip)
    | refine xsc ?_
    | (refine KJ_draws (id := 7) (.op 0 (.op 1 (.op 2 (.op 3 (.op 4 (.op 5 (.op 6 (.ef 7 [] (.ef 8 [] .nil))))))))) (by kernel_rfl) (by kernel_rfl) ?_)
    | refine FW_alt ?_ ?_
    | refine FW_efn rfl rfl rfl rfl rfl ?_ ?_
    | refine KJ_flow ?_ ?_
    | exact Rech.nil
    | fail)
      refine Hold.mk ?_
      refine KJ_storeLsF (t := 9) (v := strV val) rC_ok rfl rfl xS rfl ho1 hu (by omega) he2 xF xO ?_
      rw [hml]
      repeat' (first 
    | (refine ek_add ?_; refine EK_ev (Ev_addI_v (r := ((i + 1 : Nat) : Int)) rfl rfl (by omega) (by omega)) ?_)
    | refine xst ?_
    | (refine xsa ?_; intro _)
    | (refine xsb ?_ ?_ <;> intro _ <;> first | (exfalso; omega) | skip)
    | refine xsc ?_
    | (refine KJ_draws (id := 7) (.op 0 (.op 1 (.op 2 (.op 3 (.op 4 (.op 5 (.op 6 (.ef 7 [] (.ef 8 [] .nil))))))))) (by kernel_rfl) (by kernel_rfl) ?_)
    | refine FW_alt ?_ ?_
    | refine FW_efn rfl rfl rfl rfl rfl ?_ ?_
    | refine KJ_flow ?_ ?_
    | exact Rech.nil
    | fail)
      all_goals refine KJ_again ⟨(i + 1, M.set at_ (key, val), some ⟨g, 0, none⟩, sc), hlt, hnx.symm⟩ (by show ops.length - (i + 1) < ops.length - i; omega) xB (xN)
  | false =>
    rw [hh] at cp
    cases del with
    | true =>
      have hnx : applyB r (ops.take (i + 1)) = M := hnx.trans (no_row hh)
      repeat' (first 
    | (refine is_alloc ?_; refine KJ_alloc rfl (fun g7 => ?_))
    | (refine is_call ?_; refine KJ_call xE cp xP rfl (fun _ => ?_))
    | (refine ek_load ?_; refine EK_ev (Ev_loadLv enc_op hB rfl rfl xS hoff ho) ?_)
    | (refine ek_add ?_; refine EK_ev (Ev_addI_v (r := ((i + 1 : Nat) : Int)) rfl rfl (by omega) (by omega)) ?_)
    | (refine ek_lss ?_; refine EK_ev (Ev_lssI_q rfl rfl ql) ?_)
    | refine xst ?_
    | (refine xsa ?_; intro _)
    | (refine xsb ?_ ?_ <;> intro _ <;> first | (exfalso; omega) | skip)
    | refine xsc ?_
    | (refine KJ_draws (id := 7) (.op 0 (.op 1 (.op 2 (.op 3 (.op 4 (.op 5 (.op 6 (.ef 7 [] (.ef 8 [] .nil))))))))) (by kernel_rfl) (by kernel_rfl) ?_)
    | refine FW_alt ?_ ?_
    | refine FW_efn rfl rfl rfl rfl rfl ?_ ?_
    | refine KJ_flow ?_ ?_
    | exact Rech.nil
    | fail)
      all_goals refine KJ_again ⟨(i + 1, M, sa, sc), hlt, hnx.symm⟩ (by show ops.length - (i + 1) < ops.length - i; omega) xB (xN)
    | false =>
      have hnx : applyB r (ops.take (i + 1)) = shL M at_ (key, val) := hnx.trans (hins hh).symm
      have bN : (M.length + 1) * 32 ≤ 140737488355328 := by omega
      have bN2 : M.length + 1 ≤ 9223372036854775807 := by omega
      have hN1 : (M ++ [(([], []) : List UInt8 × List UInt8)]).length = M.length + 1 := by simp
      have hsubl : (((M ++ [(([], []) : List UInt8 × List UInt8)]).length : Nat) : Int) - 1 = ((M.length : Nat) : Int) := by rw [hN1]; omega
      repeat' (first 
    | (refine is_alloc ?_; refine KJ_alloc rfl (fun g7 => ?_))
    | (refine is_call ?_; refine KJ_call xE cp xP rfl (fun _ => ?_))
    | (refine is_append ?_; refine KJ_appOne (a := (([], []) : List UInt8 × List UInt8)) rC_ok rfl rfl rfl xS xS bN bN2 rfl (fun go co => ?_))
    | (refine is_bslice ?_; refine KJ_bslice1 rfl xF (by rfl) (by omega) rfl (fun gb => ?_))
    | (refine ek_load ?_; refine EK_ev (Ev_loadLv enc_op hB rfl rfl xS hoff ho) ?_)
    | (refine ek_build ?_; refine EK_ev (Ev_build xV xW) ?_)
    | (refine ek_sub ?_; refine EK_ev (Ev_subI_v (r := ((M.length : Nat) : Int)) rfl rfl hsubl (by omega)) ?_)
    | (refine ek_lss ?_; refine EK_ev (Ev_lssI_q rfl rfl ql) ?_)
    | refine xst ?_
    | (refine xsa ?_; intro _)
    | (refine xsb ?_ ?_ <;> intro _ <;> first | (exfalso; omega) | skip)
    | refine xsc ?_
    | (refine KJ_draws (id := 7) (.op 0 (.op 1 (.op 2 (.op 3 (.op 4 (.op 5 (.op 6 (.ef 7 [] (.ef 8 [] .nil))))))))) (by kernel_rfl) (by kernel_rfl) ?_)
    | refine FW_alt ?_ ?_
    | refine FW_efn rfl rfl rfl rfl rfl ?_ ?_
    | refine KJ_flow ?_ ?_
    | exact Rech.nil
    | fail)
      refine KJ_loop (fun x : {x : Nat × Rows // at_ ≤ x.1 ∧ x.1 ≤ M.length ∧ ∃ y, x.2 = shL M x.1 y} => [(5, .slice (some ⟨go, 0, none⟩) (M ++ [(([], []) : List UInt8 × List UInt8)]).length co), (7, .pointer (some ⟨g7, 0, none⟩)), (8, .int .i64 (at_ : Nat)), (10, .int .i64 (x.1.1 : Nat)), (14, .slice (some ⟨bo, oo, none⟩) ops.length d), (15, .int .i64 (ops.length : Nat)), (16, .int .i64 (i : Nat))])
        (fun x => [cellsP g7 (opC ⟨false, key, val⟩) 29, lsP rC 65 2 (.slice (some ⟨go, 0, none⟩) (M ++ [(([], []) : List UInt8 × List UInt8)]).length co) x.1.2, A, B] ++ R) (fun x => x.1.1)
        ⟨(M.length, M ++ [([], [])]), hat, Nat.le_refl _, ⟨_, shL_end _ _⟩⟩ xB (xN) (fun ⟨(k, L), hk1, hk2, ⟨y1, e1⟩⟩ => ?_)
      dsimp only at hk1 hk2 e1 ⊢
      have lN : (M ++ [(([], []) : List UInt8 × List UInt8)]).length = L.length := by rw [hN1, e1, shL_len _ _ hk2]
      by_cases hlt2 : at_ < k
      · obtain ⟨k, rfl⟩ : ∃ q, k = q + 1 := ⟨k - 1, by omega⟩
        have q3 : decide ((at_ : Int) < ((k + 1 : Nat) : Int)) = true := decide_eq_true (by omega)
        obtain ⟨x2, hx2⟩ : ∃ s, M[k]? = some s := ⟨_, List.getElem?_eq_getElem (by omega)⟩
        have gx2 : L[k]? = some x2 := by rw [e1, shL_get _ _ (by omega), hx2]
        have ok1 : 0 + Int.toNat ((k : Nat) : Int) * 2 = k * 2 := by rw [Int.toNat_natCast]; omega
        have ok2 : 0 + Int.toNat ((k + 1 : Nat) : Int) * 2 = (k + 1) * 2 := by rw [Int.toNat_natCast]; omega
        have il : k + 1 < L.length := by rw [← lN, hN1]; omega
        repeat' (first 
    | (refine is_store ?_; refine KJ_storeLs (a := x2) rC_ok rfl rfl xS lN ok2 il ?_)
    | (refine ek_load ?_; refine EK_ev (Ev_loadLs rC_ok rfl xS lN ok1 gx2) ?_)
    | (refine ek_sub ?_; refine EK_ev (Ev_subI_v (r := ((k : Nat) : Int)) rfl rfl (by omega) (by omega)) ?_)
    | (refine ek_gtr ?_; refine EK_ev (Ev_gtrI_q rfl rfl q3) ?_)
    | refine xst ?_
    | (refine xsa ?_; intro _)
    | (refine xsb ?_ ?_ <;> intro _ <;> first | (exfalso; omega) | skip)
    | refine xsc ?_
    | (refine KJ_draws (id := 7) (.op 0 (.op 1 (.op 2 (.op 3 (.op 4 (.op 5 (.op 6 (.ef 7 [] (.ef 8 [] .nil))))))))) (by kernel_rfl) (by kernel_rfl) ?_)
    | refine FW_alt ?_ ?_
    | refine FW_efn rfl rfl rfl rfl rfl ?_ ?_
    | refine KJ_flow ?_ ?_
    | exact Rech.nil
    | fail)
        all_goals refine KJ_again ⟨(k, L.set (k + 1) x2), by dsimp only; omega, by dsimp only; omega, ⟨x2, by dsimp only; rw [e1, shL_set _ _ _ (by omega), shL_down _ hx2]⟩⟩ (by show k < k + 1; omega) xB (xN)
      obtain rfl : k = at_ := by omega
      have q3 : decide ((k : Int) < ((k : Nat) : Int)) = false := decide_eq_false (by omega)
      have ok2 : 0 + Int.toNat ((k : Nat) : Int) * 2 = k * 2 := by rw [Int.toNat_natCast]; omega
      have il : k < L.length := by rw [← lN, hN1]; omega
      have f2 : L.set k (key, val) = shL M k (key, val) := by rw [e1, shL_set _ _ _ hk2]
      obtain ⟨M', hM'⟩ : ∃ M', M' = shL M k (key, val) := ⟨_, rfl⟩
      rw [← hM'] at f2 hnx
      have m2 : (M ++ [(([], []) : List UInt8 × List UInt8)]).length = M'.length := by rw [lN, ← f2, List.length_set]
      repeat' (first 
    | (refine is_store ?_; refine KJ_storeLs (a := (key, val)) rC_ok rfl rfl xS lN ok2 il ?_)
    | (refine ek_build ?_; refine EK_ev (Ev_build xV xW) ?_)
    | (refine ek_add ?_; refine EK_ev (Ev_addI_v (r := ((i + 1 : Nat) : Int)) rfl rfl (by omega) (by omega)) ?_)
    | (refine ek_gtr ?_; refine EK_ev (Ev_gtrI_q rfl rfl q3) ?_)
    | refine xst ?_
    | (refine xsa ?_; intro _)
    | (refine xsb ?_ ?_ <;> intro _ <;> first | (exfalso; omega) | skip)
    | refine xsc ?_
    | (refine KJ_draws (id := 7) (.op 0 (.op 1 (.op 2 (.op 3 (.op 4 (.op 5 (.op 6 (.ef 7 [] (.ef 8 [] .nil))))))))) (by kernel_rfl) (by kernel_rfl) ?_)
    | refine FW_alt ?_ ?_
    | refine FW_efn rfl rfl rfl rfl rfl ?_ ?_
    | refine KJ_flow ?_ ?_
    | exact Rech.nil
    | fail)
      all_goals rw [f2, m2]
      all_goals refine KJ_again ⟨(i + 1, M', some ⟨go, 0, none⟩, co), hlt, hnx.symm⟩ (by show ops.length - (i + 1) < ops.length - i; omega) xB (xN)
end
end Go.Proofs.YtehheokalgmbgaaDoor
/-
  The document's Rows; rows compared.
-/
namespace Go.Proofs.YtehheokalgmbgaaDoor
open Go Go.RowKit
theorem ofR_ris (l : Rows) : RisR (ofR l) := by
  unfold ofR
  have key : ∀ (l r : Rows), RisR r → RisR (l.foldl (fun r p => putR r p.1 p.2) r) := fun l => by
    induction l with
    | nil => intro r h; exact h
    | cons p l ih => intro r h; exact ih _ (putR_ris h _ _)
  exact key l [] List.Pairwise.nil
instance : StIs Tryd.prog 65 := ⟨by kernel_rfl, by kernel_rfl⟩
theorem row_eqF (x y : List UInt8 × List UInt8) {fs : Array Field} (hu : Tryd.prog.underlying 65 = some (.struct fs)) : EqF Tryd.prog (rC x) (rC y) fs.toList (decide (x = y)) := by
  have e := Tryd.underlying65.symm.trans hu
  simp only [Option.some.injEq, TypeDesc.struct.injEq] at e
  subst e
  have e2 : decide (x = y) = (decide (x.1 = y.1) && (decide (x.2 = y.2) && true)) := by
    rw [Bool.eq_iff_iff]
    cases x; cases y
    simp
  rw [e2]
  refine EqF.cons rfl inferInstance rfl rfl ?_ (EqF.cons rfl inferInstance rfl rfl ?_ EqF.nil)
  all_goals (unfold cellEq; simp)
section
variable {W : World}
set_option maxHeartbeats 2000000 in
theorem rrows_ct (A : SP) (a : Option Addr) (c : Nat) (l : Rows) (hL : Lv W rC 2 A a l) (hl : (l.length + 1) * 32 ≤ 140737488355328) :
    Ct Tryd.prog W 24 [.slice a l.length c] [A] (fun x : Option Addr × Nat => .slice x.1 (ofR l).length x.2) (fun x => [A, lsP rC 65 2 (.slice x.1 (ofR l).length x.2) (ofR l)]) := by
  refine Ct.enter Tryd.func24 rfl Tryd.ntmps24 (by simp) (fun R => ?_)
  repeat' (first 
    | (refine is_bslice ?_; refine KJ_bslice0 rfl (fun g0 => ?_))
    | refine xst ?_
    | (refine xsa ?_; intro _)
    | (refine xsb ?_ ?_ <;> intro _ <;> first | (exfalso; omega) | skip)
    | refine xsc ?_
    | fail)
  refine KJ_loop (fun x : {x : Nat × Rows × Option Addr × Nat // x.1 ≤ l.length ∧ x.2.1 = ofR (l.take x.1)} => [(3, .slice x.1.2.2.1 x.1.2.1.length x.1.2.2.2), (7, .slice a l.length c), (8, .int .i64 (l.length : Nat)), (9, .int .i64 (x.1.1 : Nat))])
    (fun x => [lsP rC 65 2 (.slice x.1.2.2.1 x.1.2.1.length x.1.2.2.2) x.1.2.1, A] ++ R) (fun x => l.length - x.1.1) ⟨(0, [], some ⟨g0, 0, none⟩, 0), Nat.zero_le _, rfl⟩ xB (xN) (fun ⟨(i, M, sa, sc), hi, hM⟩ => ?_)
  dsimp only at hi hM ⊢
  by_cases hlt : i < l.length
  · have ql : decide ((i : Int) < (l.length : Nat)) = true := decide_eq_true (by omega)
    obtain ⟨o, ho⟩ : ∃ s, l[i]? = some s := ⟨_, List.getElem?_eq_getElem hlt⟩
    refine KJ.lvSome hL xS (by omega) (fun b of hab => ?_)
    subst hab
    have hoff : of + Int.toNat (i : Int) * 2 = of + i * 2 := by simp
    have hlen := ofR_len (l.take i) []
    have hMr : RisR M := by rw [hM]; exact ofR_ris _
    have hnx := ofR_next ho
    rw [List.length_take, List.length_nil, show List.foldl (fun r p => putR r p.1 p.2) [] (l.take i) = ofR (l.take i) from rfl, ← hM] at hlen
    rw [← hM] at hnx
    obtain ⟨k, v⟩ := o
    have ca : ∀ gb, Ct Tryd.prog W 23 [.slice sa M.length sc, .slice (some ⟨gb, 0, none⟩) 1 1] [lsP rC 65 2 (.slice sa M.length sc) M, cellsP gb [.bool false, strV k, strV v] 29] (fun x : Option Addr × Nat => .slice x.1 (putR M k v).length x.2) (fun x => [lsP rC 65 2 (.slice sa M.length sc) M, cellsP gb [.bool false, strV k, strV v] 29, lsP rC 65 2 (.slice x.1 (putR M k v).length x.2) (putR M k v)]) := fun gb =>
      rapply_ct (W := W) _ (cellsP gb [.bool false, strV k, strV v] 29) sa (some ⟨gb, 0, none⟩) sc 1 M [⟨false, k, v⟩] (Lv.own (e := 65) (c := sc) rC_ok rfl) (Lv.cells rfl) hMr (by rw [List.length_singleton]; omega)
    obtain ⟨M', hM'⟩ : ∃ M', M' = putR M k v := ⟨_, rfl⟩
    rw [← hM'] at hnx
    rw [show putR (M, (k, v)).1 k v = putR M k v from rfl] at hM'
    rw [← hM'] at ca
    repeat' (first 
    | (refine is_alloc ?_; refine KJ_alloc rfl (fun g5 => ?_))
    | (refine is_call ?_; refine KJ_call xE (ca _) xP rfl (fun x => ?_); obtain ⟨ya, yc⟩ := x)
    | (refine is_bslice ?_; refine KJ_bslice1 rfl xF (by rfl) (by omega) rfl (fun gb => ?_))
    | (refine ek_load ?_; refine EK_ev (Ev_loadLv rC_ok hL rfl rfl xS hoff ho) ?_)
    | (refine ek_build ?_; refine EK_ev (Ev_build xV xW) ?_)
    | (refine ek_add ?_; refine EK_ev (Ev_addI_v (r := ((i + 1 : Nat) : Int)) rfl rfl (by omega) (by omega)) ?_)
    | (refine ek_lss ?_; refine EK_ev (Ev_lssI_q rfl rfl ql) ?_)
    | refine xst ?_
    | (refine xsa ?_; intro _)
    | (refine xsb ?_ ?_ <;> intro _ <;> first | (exfalso; omega) | skip)
    | refine xsc ?_
    | fail)
    all_goals refine KJ_again ⟨(i + 1, M', ya, yc), hlt, hnx.symm⟩ (by show l.length - (i + 1) < l.length - i; omega) xB (xN)
  have ql : decide ((i : Int) < (l.length : Nat)) = false := decide_eq_false (by omega)
  rw [List.take_of_length_le (by omega)] at hM
  repeat' (first 
    | (refine ek_lss ?_; refine EK_ev (Ev_lssI_q rfl rfl ql) ?_)
    | refine xst ?_
    | (refine xsa ?_; intro _)
    | (refine xsb ?_ ?_ <;> intro _ <;> first | (exfalso; omega) | skip)
    | refine xsc ?_
    | fail)
  all_goals subst hM
  all_goals (exact xdn (sa, sc))
set_option maxHeartbeats 1000000 in
theorem sameR_ct (A B : SP) (a b : Option Addr) (c d : Nat) (l r : Rows) (hA : Lv W rC 2 A a l) (hB : Lv W rC 2 B b r) (h1 : l.length ≤ 4611686018427387904) :
    Ct Tryd.prog W 25 [.slice a l.length c, .slice b r.length d] [A, B] (fun _ : Unit => .bool (decide (l = r))) (fun _ => [A, B]) := by
  by_cases hl : l.length = r.length
  rotate_left
  · have q : ((l.length : Nat) : Int) ≠ (r.length : Nat) := by omega
    have e : decide (l = r) = false := decide_eq_false (fun h => hl (by rw [h]))
    rw [e]
    refine Ct.enter Tryd.func25 rfl Tryd.ntmps25 (by simp) (fun R => ?_)
    repeat' (first 
    | (refine ek_neq ?_; refine EK_ev (Ev_neqI_t rfl rfl q) ?_)
    | refine xst ?_
    | (refine xsa ?_; intro _)
    | (refine xsb ?_ ?_ <;> intro _ <;> first | (exfalso; omega) | skip)
    | refine xsc ?_
    | (refine KJ_draws (id := 6) (.op 0 (.op 1 (.op 2 (.op 3 (.op 4 (.op 5 (.op 6 (.op 7 (.op 8 .nil))))))))) (by kernel_rfl) (by kernel_rfl) ?_)
    | refine FW_alt ?_ ?_
    | refine FW_efn rfl rfl rfl rfl rfl ?_ ?_
    | refine KJ_flow ?_ ?_
    | exact Rech.nil
    | fail)
    all_goals (exact xdn ())
  have q : ((l.length : Nat) : Int) = (r.length : Nat) := by omega
  refine Ct.enter Tryd.func25 rfl Tryd.ntmps25 (by simp) (fun R => ?_)
  repeat' (first 
    | (refine ek_neq ?_; refine EK_ev (Ev_neqI_f rfl rfl q) ?_)
    | refine xst ?_
    | (refine xsa ?_; intro _)
    | (refine xsb ?_ ?_ <;> intro _ <;> first | (exfalso; omega) | skip)
    | refine xsc ?_
    | (refine KJ_draws (id := 6) (.op 0 (.op 1 (.op 2 (.op 3 (.op 4 (.op 5 (.op 6 (.op 7 (.op 8 .nil))))))))) (by kernel_rfl) (by kernel_rfl) ?_)
    | refine FW_alt ?_ ?_
    | refine FW_efn rfl rfl rfl rfl rfl ?_ ?_
    | refine KJ_flow ?_ ?_
    | exact Rech.nil
    | fail)
  refine KJ_loop (fun i : {i : Nat // i ≤ l.length ∧ l.take i = r.take i} => [(0, .slice a l.length c), (1, .slice b r.length d), (12, .int .i64 (l.length : Nat)), (13, .int .i64 (i.1 : Nat))])
    (fun _ => [A, B] ++ R) (fun i => l.length - i.1) ⟨0, Nat.zero_le _, rfl⟩ xB (xN) (fun ⟨i, hi, ht⟩ => ?_)
  dsimp only
  by_cases hlt : i < l.length
  rotate_left
  · have ql : decide ((i : Int) < (l.length : Nat)) = false := decide_eq_false (by omega)
    rw [List.take_of_length_le (by omega), List.take_of_length_le (by omega)] at ht
    have e : decide (l = r) = true := decide_eq_true ht
    rw [e]
    repeat' (first 
    | (refine ek_lss ?_; refine EK_ev (Ev_lssI_q rfl rfl ql) ?_)
    | refine xst ?_
    | (refine xsa ?_; intro _)
    | (refine xsb ?_ ?_ <;> intro _ <;> first | (exfalso; omega) | skip)
    | refine xsc ?_
    | (refine KJ_draws (id := 6) (.op 0 (.op 1 (.op 2 (.op 3 (.op 4 (.op 5 (.op 6 (.op 7 (.op 8 .nil))))))))) (by kernel_rfl) (by kernel_rfl) ?_)
    | refine FW_alt ?_ ?_
    | refine FW_efn rfl rfl rfl rfl rfl ?_ ?_
    | refine KJ_flow ?_ ?_
    | exact Rech.nil
    | fail)
    all_goals (exact xdn ())
  have ql : decide ((i : Int) < (l.length : Nat)) = true := decide_eq_true (by omega)
  obtain ⟨x, hx⟩ : ∃ s, l[i]? = some s := ⟨_, List.getElem?_eq_getElem hlt⟩
  obtain ⟨y, hy⟩ : ∃ s, r[i]? = some s := ⟨_, List.getElem?_eq_getElem (by omega)⟩
  refine KJ.lvSome hA xS (by omega) (fun ba oa hab => ?_)
  subst hab
  refine KJ.lvSome hB xS (by omega) (fun bb ob hab => ?_)
  subst hab
  have ho1 : oa + Int.toNat (i : Int) * 2 = oa + i * 2 := by rw [Int.toNat_natCast]
  have ho2 : ob + Int.toNat (i : Int) * 2 = ob + i * 2 := by rw [Int.toNat_natCast]
  by_cases hxy : x = y
  · have hq : (!decide (x = y)) = false := by simp [hxy]
    repeat' (first 
    | (refine ek_load ?_; first | refine EK_ev (Ev_loadLv rC_ok hA rfl rfl xS ho1 hx) ?_ | refine EK_ev (Ev_loadLv rC_ok hB rfl rfl xS ho2 hy) ?_)
    | (refine ek_add ?_; refine EK_ev (Ev_addI_v (r := ((i + 1 : Nat) : Int)) rfl rfl (by omega) (by omega)) ?_)
    | (refine ek_neq ?_; refine EK_ev (Ev_neqSt rfl rfl (row_eqF x y Tryd.underlying65) hq) ?_)
    | (refine ek_lss ?_; refine EK_ev (Ev_lssI_q rfl rfl ql) ?_)
    | refine xst ?_
    | (refine xsa ?_; intro _)
    | (refine xsb ?_ ?_ <;> intro _ <;> first | (exfalso; omega) | skip)
    | refine xsc ?_
    | (refine KJ_draws (id := 6) (.op 0 (.op 1 (.op 2 (.op 3 (.op 4 (.op 5 (.op 6 (.op 7 (.op 8 .nil))))))))) (by kernel_rfl) (by kernel_rfl) ?_)
    | refine FW_alt ?_ ?_
    | refine FW_efn rfl rfl rfl rfl rfl ?_ ?_
    | refine KJ_flow ?_ ?_
    | exact Rech.nil
    | fail)
    all_goals refine KJ_again ⟨i + 1, hlt, take_nextB hx hy ht hxy⟩ (by show l.length - (i + 1) < l.length - i; omega) xB (xN)
  · have hq : (!decide (x = y)) = true := by simp [hxy]
    have e : decide (l = r) = false := decide_eq_false (fun h => hxy (by rw [h, hy] at hx; exact (Option.some.inj hx).symm))
    rw [e]
    repeat' (first 
    | (refine ek_load ?_; first | refine EK_ev (Ev_loadLv rC_ok hA rfl rfl xS ho1 hx) ?_ | refine EK_ev (Ev_loadLv rC_ok hB rfl rfl xS ho2 hy) ?_)
    | (refine ek_neq ?_; refine EK_ev (Ev_neqSt rfl rfl (row_eqF x y Tryd.underlying65) hq) ?_)
    | (refine ek_lss ?_; refine EK_ev (Ev_lssI_q rfl rfl ql) ?_)
    | refine xst ?_
    | (refine xsa ?_; intro _)
    | (refine xsb ?_ ?_ <;> intro _ <;> first | (exfalso; omega) | skip)
    | refine xsc ?_
    | (refine KJ_draws (id := 6) (.op 0 (.op 1 (.op 2 (.op 3 (.op 4 (.op 5 (.op 6 (.op 7 (.op 8 .nil))))))))) (by kernel_rfl) (by kernel_rfl) ?_)
    | refine FW_alt ?_ ?_
    | refine FW_efn rfl rfl rfl rfl rfl ?_ ?_
    | refine KJ_flow ?_ ?_
    | exact Rech.nil
    | fail)
    all_goals (exact xdn ())
end
end Go.Proofs.YtehheokalgmbgaaDoor
/-
  The document's answer for chapter 12: Between.
-/
namespace Go.Proofs.YtehheokalgmbgaaDoor
open Go Go.RowKit
theorem btw_fuel : ∀ (n m : Nat) (a b : Rows), a.length + b.length ≤ n → a.length + b.length ≤ m → btw n a b = btw m a b := by
  intro n
  induction n with
  | zero =>
    intro m a b h1 h2
    have ha : a = [] := List.length_eq_zero_iff.1 (by omega)
    have hb : b = [] := List.length_eq_zero_iff.1 (by omega)
    subst ha hb
    cases m <;> rfl
  | succ n ih =>
    intro m a b h1 h2
    cases m with
    | zero =>
      have ha : a = [] := List.length_eq_zero_iff.1 (by omega)
      have hb : b = [] := List.length_eq_zero_iff.1 (by omega)
      subst ha hb
      rfl
    | succ m =>
      match a, b with
      | [], [] => rfl
      | p :: a, [] => rw [btw, btw, ih m a [] (by simp at h1 ⊢; omega) (by simp at h2 ⊢; omega)]
      | [], q :: b => rw [btw, btw, ih m [] b (by simp at h1 ⊢; omega) (by simp at h2 ⊢; omega)]
      | p :: a, q :: b =>
        simp only [List.length_cons] at h1 h2
        rw [btw, btw, ih m a (q :: b) (by simp; omega) (by simp; omega), ih m (p :: a) b (by simp; omega) (by simp; omega), ih m a b (by omega) (by omega)]
/-- what is left to be said, i and j rows gone over -/
def btr (a b : Rows) (i j : Nat) : List BOp := btw (a.length + b.length) (a.drop i) (b.drop j)
section
variable {a b : Rows} {i j : Nat} {p q : List UInt8 × List UInt8}
theorem drop_row {l : Rows} {i : Nat} {p : List UInt8 × List UInt8} (h : l[i]? = some p) : l.drop i = p :: l.drop (i + 1) := by
  obtain ⟨h1, h2⟩ := List.getElem?_eq_some_iff.1 h
  rw [List.drop_eq_getElem_cons h1, h2]
theorem btr_fuel {n : Nat} (h : (a.length - i) + (b.length - j) ≤ n) : btw n (a.drop i) (b.drop j) = btr a b i j :=
  btw_fuel _ _ _ _ (by rw [List.length_drop, List.length_drop]; exact h) (by rw [List.length_drop, List.length_drop]; omega)
theorem btr_end (hi : a.length ≤ i) (hj : b.length ≤ j) : btr a b i j = [] := by
  unfold btr
  rw [List.drop_of_length_le hi, List.drop_of_length_le hj]
  cases a.length + b.length <;> rfl
theorem btr_a (hp : a[i]? = some p) (hj : b.length ≤ j) : btr a b i j = ⟨true, p.1, []⟩ :: btr a b (i + 1) j := by
  have h1 := (List.getElem?_eq_some_iff.1 hp).1
  rw [← btr_fuel (n := (a.length + b.length) + 1) (by omega), drop_row hp, List.drop_of_length_le hj, btw, ← List.drop_of_length_le hj, btr_fuel (by omega)]
theorem btr_b (hi : a.length ≤ i) (hq : b[j]? = some q) : btr a b i j = ⟨false, q.1, q.2⟩ :: btr a b i (j + 1) := by
  have h1 := (List.getElem?_eq_some_iff.1 hq).1
  rw [← btr_fuel (n := (a.length + b.length) + 1) (by omega), drop_row hq, List.drop_of_length_le hi, btw, ← List.drop_of_length_le hi, btr_fuel (by omega)]
theorem btr_lt (hp : a[i]? = some p) (hq : b[j]? = some q) (h : Op.bytesLess p.1 q.1 = true) : btr a b i j = ⟨true, p.1, []⟩ :: btr a b (i + 1) j := by
  have h1 := (List.getElem?_eq_some_iff.1 hp).1
  rw [← btr_fuel (n := (a.length + b.length) + 1) (by omega), drop_row hp, drop_row hq, btw, if_pos h, ← drop_row hq, btr_fuel (by omega)]
theorem btr_gt (hp : a[i]? = some p) (hq : b[j]? = some q) (h : Op.bytesLess p.1 q.1 = false) (h2 : Op.bytesLess q.1 p.1 = true) : btr a b i j = ⟨false, q.1, q.2⟩ :: btr a b i (j + 1) := by
  have h1 := (List.getElem?_eq_some_iff.1 hq).1
  rw [← btr_fuel (n := (a.length + b.length) + 1) (by omega), drop_row hp, drop_row hq, btw, if_neg (by rw [h]; decide), if_pos h2, ← drop_row hp, btr_fuel (by omega)]
theorem btr_eq (hp : a[i]? = some p) (hq : b[j]? = some q) (h : Op.bytesLess p.1 q.1 = false) (h2 : Op.bytesLess q.1 p.1 = false) (hv : p.2 = q.2) : btr a b i j = btr a b (i + 1) (j + 1) := by
  rw [← btr_fuel (n := (a.length + b.length) + 1) (by omega), drop_row hp, drop_row hq, btw, if_neg (by rw [h]; decide), if_neg (by rw [h2]; decide), if_pos hv, btr_fuel (by omega)]
theorem btr_ne (hp : a[i]? = some p) (hq : b[j]? = some q) (h : Op.bytesLess p.1 q.1 = false) (h2 : Op.bytesLess q.1 p.1 = false) (hv : ¬ p.2 = q.2) : btr a b i j = ⟨false, q.1, q.2⟩ :: btr a b (i + 1) (j + 1) := by
  rw [← btr_fuel (n := (a.length + b.length) + 1) (by omega), drop_row hp, drop_row hq, btw, if_neg (by rw [h]; decide), if_neg (by rw [h2]; decide), if_neg hv, btr_fuel (by omega)]
end
section
variable {W : World}
set_option maxHeartbeats 8000000 in
set_option maxRecDepth 10000 in
theorem rbetween_ct (A B : SP) (xa xb : Option Addr) (c d : Nat) (a b : Rows) (hA : Lv W rC 2 A xa a) (hB : Lv W rC 2 B xb b) (hl : (a.length + b.length) * 40 ≤ 140737488355328) :
    Ct Tryd.prog W 28 [.slice xa a.length c, .slice xb b.length d] [A, B] (fun x : Option Addr × Nat => .slice x.1 (between a b).length x.2) (fun x => [A, B, lsP opC 29 3 (.slice x.1 (between a b).length x.2) (between a b)]) := by
  refine Ct.enter Tryd.func28 rfl Tryd.ntmps28 (by simp) (fun R => ?_)
  repeat' (first 
    | (refine is_bslice ?_; refine KJ_bslice0 rfl (fun g0 => ?_))
    | refine xst ?_
    | (refine xsa ?_; intro _)
    | (refine xsb ?_ ?_ <;> intro _ <;> first | (exfalso; omega) | skip)
    | refine xsc ?_
    | (refine KJ_draws (id := 8) (.op 0 (.op 1 (.op 2 (.op 3 (.op 4 (.op 5 (.op 6 (.op 7 (.op 8 (.op 9 (.op 10 (.op 11 (.op 12 (.op 13 (.op 14 (.op 15 (.op 16 (.op 17 (.op 18 (.op 19 (.op 20 (.op 21 (.op 22 (.op 23 .nil)))))))))))))))))))))))) (by kernel_rfl) (by kernel_rfl) ?_)
    | (refine KJ_draws (id := 11) (.op 0 (.op 1 (.op 2 (.op 3 (.op 4 (.op 5 (.op 6 (.op 7 (.op 8 (.op 9 (.op 10 (.op 11 (.op 12 (.op 13 (.op 14 (.op 15 (.op 16 (.op 17 .nil)))))))))))))))))) (by kernel_rfl) (by kernel_rfl) ?_)
    | (refine KJ_draws (id := 12) (.op 0 (.op 1 (.op 2 (.op 3 (.op 4 (.op 5 (.op 6 (.op 7 (.op 8 (.op 9 (.op 10 (.op 11 (.ef 12 [0] (.ef 13 [] (.ef 14 [] .nil))))))))))))))) (by kernel_rfl) (by kernel_rfl) ?_)
    | (refine KJ_draws (id := 4) (.op 0 (.op 1 (.op 2 (.op 3 (.op 4 (.op 5 (.op 6 (.op 7 (.op 8 (.op 9 (.op 10 .nil))))))))))) (by kernel_rfl) (by kernel_rfl) ?_)
    | (refine KJ_draws (id := 5) (.op 0 (.op 1 (.op 2 (.op 3 (.op 4 (.op 5 (.op 6 (.op 7 (.op 8 (.op 9 (.op 10 (.op 11 (.ef 12 [0] (.ef 13 [] (.ef 14 [] .nil))))))))))))))) (by kernel_rfl) (by kernel_rfl) ?_)
    | refine FW_alt ?_ ?_
    | refine FW_efn rfl rfl rfl rfl rfl ?_ ?_
    | refine KJ_flow ?_ ?_
    | exact Rech.nil
    | fail)
  refine KJ_loop (fun x : {x : (Nat × Nat) × List BOp × Option Addr × Nat // x.1.1 ≤ a.length ∧ x.1.2 ≤ b.length ∧ x.2.1.length ≤ x.1.1 + x.1.2 ∧ x.2.1 ++ btr a b x.1.1 x.1.2 = between a b} => [(0, .slice xa a.length c), (1, .slice xb b.length d), (5, .slice x.1.2.2.1 x.1.2.1.length x.1.2.2.2), (6, .int .i64 (x.1.1.1 : Nat)), (7, .int .i64 (x.1.1.2 : Nat))])
    (fun x => [lsP opC 29 3 (.slice x.1.2.2.1 x.1.2.1.length x.1.2.2.2) x.1.2.1, A, B] ++ R) (fun x => (a.length - x.1.1.1) + (b.length - x.1.1.2)) ⟨((0, 0), [], some ⟨g0, 0, none⟩, 0), Nat.zero_le _, Nat.zero_le _, Nat.zero_le _, rfl⟩ xB (xN) (fun ⟨((i, j), O, sa, sc), hi, hj, hOl, hO⟩ => ?_)
  dsimp only at hi hj hOl hO ⊢
  have b1 : (O.length + 1) * 40 ≤ 140737488355328 ∨ (i = a.length ∧ j = b.length) := by omega
  have b2 : O.length + 1 ≤ 9223372036854775807 := by omega
  have hor : (i < a.length ∧ j = b.length) ∨ (i = a.length ∧ j < b.length) ∨ (i < a.length ∧ j < b.length) ∨ (i = a.length ∧ j = b.length) := by omega
  rcases hor with ⟨h1, h2⟩ | ⟨h1, h2⟩ | ⟨h1, h2⟩ | ⟨h1, h2⟩
  ·
    have qa : decide (((i : Nat) : Int) < ((a.length : Nat) : Int)) = true := decide_eq_true (by omega)
    have qb : decide (((j : Nat) : Int) < ((b.length : Nat) : Int)) = false := decide_eq_false (by omega)
    have ea : decide (((i : Nat) : Int) = ((a.length : Nat) : Int)) = false := decide_eq_false (by omega)
    have eb : decide (((j : Nat) : Int) = ((b.length : Nat) : Int)) = true := decide_eq_true (by omega)
    obtain ⟨p, hp⟩ : ∃ s, a[i]? = some s := ⟨_, List.getElem?_eq_getElem (by omega)⟩
    refine KJ.lvSome hA xS (by omega) (fun ba oa hab => ?_)
    subst hab
    have oa0 : oa + Int.toNat ((i : Nat) : Int) * 2 + 0 = oa + i * 2 + 0 := by simp
    have pa0 : (rC p)[0]? = some (strV p.1) := rfl
    have oa1 : oa + Int.toNat ((i : Nat) : Int) * 2 + 1 = oa + i * 2 + 1 := by simp
    have pa1 : (rC p)[1]? = some (strV p.2) := rfl
    have hs := btr_a (b := b) (j := j) hp (by omega)
    have b1 := b1.resolve_right (by omega)
    repeat' (first 
    | (refine is_append ?_; refine KJ_appOne (a := (⟨true, p.1, []⟩ : BOp)) enc_op rfl rfl rfl xS xS b1 b2 rfl (fun go co => ?_))
    | (refine is_bslice ?_; refine KJ_bslice1 rfl xF (by rfl) (by omega) rfl (fun gb => ?_))
    | (refine ek_load ?_; first | refine EK_ev (Ev_loadLvF rC_ok hA rfl rfl xS oa1 hp pa1) ?_ | refine EK_ev (Ev_loadLvF rC_ok hA rfl rfl xS oa0 hp pa0) ?_)
    | (refine ek_build ?_; refine EK_ev (Ev_build xV xW) ?_)
    | (refine ek_add ?_; refine EK_ev (Ev_addI_v (r := ((i + 1 : Nat) : Int)) rfl rfl (by omega) (by omega)) ?_)
    | (refine ek_eql ?_; first | refine EK_ev (Ev_eqlI_q rfl rfl eb) ?_ | refine EK_ev (Ev_eqlI_q rfl rfl ea) ?_)
    | (refine ek_lss ?_; first | refine EK_ev (Ev_lssI_q rfl rfl qb) ?_ | refine EK_ev (Ev_lssI_q rfl rfl qa) ?_)
    | refine xst ?_
    | (refine xsa ?_; intro _)
    | (refine xsb ?_ ?_ <;> intro _ <;> first | (exfalso; omega) | skip)
    | refine xsc ?_
    | (refine KJ_draws (id := 8) (.op 0 (.op 1 (.op 2 (.op 3 (.op 4 (.op 5 (.op 6 (.op 7 (.op 8 (.op 9 (.op 10 (.op 11 (.op 12 (.op 13 (.op 14 (.op 15 (.op 16 (.op 17 (.op 18 (.op 19 (.op 20 (.op 21 (.op 22 (.op 23 .nil)))))))))))))))))))))))) (by kernel_rfl) (by kernel_rfl) ?_)
    | (refine KJ_draws (id := 11) (.op 0 (.op 1 (.op 2 (.op 3 (.op 4 (.op 5 (.op 6 (.op 7 (.op 8 (.op 9 (.op 10 (.op 11 (.op 12 (.op 13 (.op 14 (.op 15 (.op 16 (.op 17 .nil)))))))))))))))))) (by kernel_rfl) (by kernel_rfl) ?_)
    | (refine KJ_draws (id := 12) (.op 0 (.op 1 (.op 2 (.op 3 (.op 4 (.op 5 (.op 6 (.op 7 (.op 8 (.op 9 (.op 10 (.op 11 (.ef 12 [0] (.ef 13 [] (.ef 14 [] .nil))))))))))))))) (by kernel_rfl) (by kernel_rfl) ?_)
    | (refine KJ_draws (id := 4) (.op 0 (.op 1 (.op 2 (.op 3 (.op 4 (.op 5 (.op 6 (.op 7 (.op 8 (.op 9 (.op 10 .nil))))))))))) (by kernel_rfl) (by kernel_rfl) ?_)
    | (refine KJ_draws (id := 5) (.op 0 (.op 1 (.op 2 (.op 3 (.op 4 (.op 5 (.op 6 (.op 7 (.op 8 (.op 9 (.op 10 (.op 11 (.ef 12 [0] (.ef 13 [] (.ef 14 [] .nil))))))))))))))) (by kernel_rfl) (by kernel_rfl) ?_)
    | refine FW_alt ?_ ?_
    | refine FW_efn rfl rfl rfl rfl rfl ?_ ?_
    | refine KJ_flow ?_ ?_
    | exact Rech.nil
    | fail)
    all_goals refine KJ_again ⟨((i + 1, j), O ++ [⟨true, p.1, []⟩], some ⟨go, 0, none⟩, co), by dsimp only; omega, by dsimp only; omega, by dsimp only; rw [List.length_append, List.length_singleton]; omega, by dsimp only; rw [List.append_assoc, List.singleton_append, ← hs]; exact hO⟩ (by show (a.length - (i + 1)) + (b.length - (j)) < (a.length - i) + (b.length - j); omega) xB (xN)
  ·
    have qa : decide (((i : Nat) : Int) < ((a.length : Nat) : Int)) = false := decide_eq_false (by omega)
    have qb : decide (((j : Nat) : Int) < ((b.length : Nat) : Int)) = true := decide_eq_true (by omega)
    have ea : decide (((i : Nat) : Int) = ((a.length : Nat) : Int)) = true := decide_eq_true (by omega)
    have eb : decide (((j : Nat) : Int) = ((b.length : Nat) : Int)) = false := decide_eq_false (by omega)
    obtain ⟨q, hq⟩ : ∃ s, b[j]? = some s := ⟨_, List.getElem?_eq_getElem (by omega)⟩
    refine KJ.lvSome hB xS (by omega) (fun bb ob hab => ?_)
    subst hab
    have ob0 : ob + Int.toNat ((j : Nat) : Int) * 2 + 0 = ob + j * 2 + 0 := by simp
    have pb0 : (rC q)[0]? = some (strV q.1) := rfl
    have ob1 : ob + Int.toNat ((j : Nat) : Int) * 2 + 1 = ob + j * 2 + 1 := by simp
    have pb1 : (rC q)[1]? = some (strV q.2) := rfl
    have hs := btr_b (a := a) (i := i) (by omega) hq
    have b1 := b1.resolve_right (by omega)
    repeat' (first 
    | (refine is_append ?_; refine KJ_appOne (a := (⟨false, q.1, q.2⟩ : BOp)) enc_op rfl rfl rfl xS xS b1 b2 rfl (fun go co => ?_))
    | (refine is_bslice ?_; refine KJ_bslice1 rfl xF (by rfl) (by omega) rfl (fun gb => ?_))
    | (refine ek_load ?_; first | refine EK_ev (Ev_loadLvF rC_ok hB rfl rfl xS ob1 hq pb1) ?_ | refine EK_ev (Ev_loadLvF rC_ok hB rfl rfl xS ob0 hq pb0) ?_)
    | (refine ek_build ?_; refine EK_ev (Ev_build xV xW) ?_)
    | (refine ek_add ?_; refine EK_ev (Ev_addI_v (r := ((j + 1 : Nat) : Int)) rfl rfl (by omega) (by omega)) ?_)
    | (refine ek_eql ?_; first | refine EK_ev (Ev_eqlI_q rfl rfl eb) ?_ | refine EK_ev (Ev_eqlI_q rfl rfl ea) ?_)
    | (refine ek_lss ?_; first | refine EK_ev (Ev_lssI_q rfl rfl qb) ?_ | refine EK_ev (Ev_lssI_q rfl rfl qa) ?_)
    | refine xst ?_
    | (refine xsa ?_; intro _)
    | (refine xsb ?_ ?_ <;> intro _ <;> first | (exfalso; omega) | skip)
    | refine xsc ?_
    | (refine KJ_draws (id := 8) (.op 0 (.op 1 (.op 2 (.op 3 (.op 4 (.op 5 (.op 6 (.op 7 (.op 8 (.op 9 (.op 10 (.op 11 (.op 12 (.op 13 (.op 14 (.op 15 (.op 16 (.op 17 (.op 18 (.op 19 (.op 20 (.op 21 (.op 22 (.op 23 .nil)))))))))))))))))))))))) (by kernel_rfl) (by kernel_rfl) ?_)
    | (refine KJ_draws (id := 11) (.op 0 (.op 1 (.op 2 (.op 3 (.op 4 (.op 5 (.op 6 (.op 7 (.op 8 (.op 9 (.op 10 (.op 11 (.op 12 (.op 13 (.op 14 (.op 15 (.op 16 (.op 17 .nil)))))))))))))))))) (by kernel_rfl) (by kernel_rfl) ?_)
    | (refine KJ_draws (id := 12) (.op 0 (.op 1 (.op 2 (.op 3 (.op 4 (.op 5 (.op 6 (.op 7 (.op 8 (.op 9 (.op 10 (.op 11 (.ef 12 [0] (.ef 13 [] (.ef 14 [] .nil))))))))))))))) (by kernel_rfl) (by kernel_rfl) ?_)
    | (refine KJ_draws (id := 4) (.op 0 (.op 1 (.op 2 (.op 3 (.op 4 (.op 5 (.op 6 (.op 7 (.op 8 (.op 9 (.op 10 .nil))))))))))) (by kernel_rfl) (by kernel_rfl) ?_)
    | (refine KJ_draws (id := 5) (.op 0 (.op 1 (.op 2 (.op 3 (.op 4 (.op 5 (.op 6 (.op 7 (.op 8 (.op 9 (.op 10 (.op 11 (.ef 12 [0] (.ef 13 [] (.ef 14 [] .nil))))))))))))))) (by kernel_rfl) (by kernel_rfl) ?_)
    | refine FW_alt ?_ ?_
    | refine FW_efn rfl rfl rfl rfl rfl ?_ ?_
    | refine KJ_flow ?_ ?_
    | exact Rech.nil
    | fail)
    all_goals refine KJ_again ⟨((i, j + 1), O ++ [⟨false, q.1, q.2⟩], some ⟨go, 0, none⟩, co), by dsimp only; omega, by dsimp only; omega, by dsimp only; rw [List.length_append, List.length_singleton]; omega, by dsimp only; rw [List.append_assoc, List.singleton_append, ← hs]; exact hO⟩ (by show (a.length - (i)) + (b.length - (j + 1)) < (a.length - i) + (b.length - j); omega) xB (xN)
  ·
    have qa : decide (((i : Nat) : Int) < ((a.length : Nat) : Int)) = true := decide_eq_true (by omega)
    have qb : decide (((j : Nat) : Int) < ((b.length : Nat) : Int)) = true := decide_eq_true (by omega)
    have ea : decide (((i : Nat) : Int) = ((a.length : Nat) : Int)) = false := decide_eq_false (by omega)
    have eb : decide (((j : Nat) : Int) = ((b.length : Nat) : Int)) = false := decide_eq_false (by omega)
    obtain ⟨p, hp⟩ : ∃ s, a[i]? = some s := ⟨_, List.getElem?_eq_getElem (by omega)⟩
    refine KJ.lvSome hA xS (by omega) (fun ba oa hab => ?_)
    subst hab
    have oa0 : oa + Int.toNat ((i : Nat) : Int) * 2 + 0 = oa + i * 2 + 0 := by simp
    have pa0 : (rC p)[0]? = some (strV p.1) := rfl
    have oa1 : oa + Int.toNat ((i : Nat) : Int) * 2 + 1 = oa + i * 2 + 1 := by simp
    have pa1 : (rC p)[1]? = some (strV p.2) := rfl
    obtain ⟨q, hq⟩ : ∃ s, b[j]? = some s := ⟨_, List.getElem?_eq_getElem (by omega)⟩
    refine KJ.lvSome hB xS (by omega) (fun bb ob hab => ?_)
    subst hab
    have ob0 : ob + Int.toNat ((j : Nat) : Int) * 2 + 0 = ob + j * 2 + 0 := by simp
    have pb0 : (rC q)[0]? = some (strV q.1) := rfl
    have ob1 : ob + Int.toNat ((j : Nat) : Int) * 2 + 1 = ob + j * 2 + 1 := by simp
    have pb1 : (rC q)[1]? = some (strV q.2) := rfl
    rcases cmpV p.1 q.1 with ⟨c1, c2⟩ | ⟨c1, c2⟩ | ⟨c1, c2⟩
    ·
      have hs := btr_lt hp hq c1
      have b1 := b1.resolve_right (by omega)
      repeat' (first 
    | (refine is_append ?_; refine KJ_appOne (a := (⟨true, p.1, []⟩ : BOp)) enc_op rfl rfl rfl xS xS b1 b2 rfl (fun go co => ?_))
    | (refine is_bslice ?_; refine KJ_bslice1 rfl xF (by rfl) (by omega) rfl (fun gb => ?_))
    | (refine ek_load ?_; first | refine EK_ev (Ev_loadLvF rC_ok hB rfl rfl xS ob1 hq pb1) ?_ | refine EK_ev (Ev_loadLvF rC_ok hB rfl rfl xS ob0 hq pb0) ?_ | refine EK_ev (Ev_loadLvF rC_ok hA rfl rfl xS oa1 hp pa1) ?_ | refine EK_ev (Ev_loadLvF rC_ok hA rfl rfl xS oa0 hp pa0) ?_)
    | (refine ek_build ?_; refine EK_ev (Ev_build xV xW) ?_)
    | (refine ek_add ?_; refine EK_ev (Ev_addI_v (r := ((i + 1 : Nat) : Int)) rfl rfl (by omega) (by omega)) ?_)
    | (refine ek_eql ?_; first | refine EK_ev (Ev_eqlI_q rfl rfl eb) ?_ | refine EK_ev (Ev_eqlI_q rfl rfl ea) ?_)
    | (refine ek_lss ?_; first | refine EK_ev (Ev_lssS_q rfl rfl c2) ?_ | refine EK_ev (Ev_lssS_q rfl rfl c1) ?_ | refine EK_ev (Ev_lssI_q rfl rfl qb) ?_ | refine EK_ev (Ev_lssI_q rfl rfl qa) ?_)
    | refine xst ?_
    | (refine xsa ?_; intro _)
    | (refine xsb ?_ ?_ <;> intro _ <;> first | (exfalso; omega) | skip)
    | refine xsc ?_
    | (refine KJ_draws (id := 8) (.op 0 (.op 1 (.op 2 (.op 3 (.op 4 (.op 5 (.op 6 (.op 7 (.op 8 (.op 9 (.op 10 (.op 11 (.op 12 (.op 13 (.op 14 (.op 15 (.op 16 (.op 17 (.op 18 (.op 19 (.op 20 (.op 21 (.op 22 (.op 23 .nil)))))))))))))))))))))))) (by kernel_rfl) (by kernel_rfl) ?_)
    | (refine KJ_draws (id := 11) (.op 0 (.op 1 (.op 2 (.op 3 (.op 4 (.op 5 (.op 6 (.op 7 (.op 8 (.op 9 (.op 10 (.op 11 (.op 12 (.op 13 (.op 14 (.op 15 (.op 16 (.op 17 .nil)))))))))))))))))) (by kernel_rfl) (by kernel_rfl) ?_)
    | (refine KJ_draws (id := 12) (.op 0 (.op 1 (.op 2 (.op 3 (.op 4 (.op 5 (.op 6 (.op 7 (.op 8 (.op 9 (.op 10 (.op 11 (.ef 12 [0] (.ef 13 [] (.ef 14 [] .nil))))))))))))))) (by kernel_rfl) (by kernel_rfl) ?_)
    | (refine KJ_draws (id := 4) (.op 0 (.op 1 (.op 2 (.op 3 (.op 4 (.op 5 (.op 6 (.op 7 (.op 8 (.op 9 (.op 10 .nil))))))))))) (by kernel_rfl) (by kernel_rfl) ?_)
    | (refine KJ_draws (id := 5) (.op 0 (.op 1 (.op 2 (.op 3 (.op 4 (.op 5 (.op 6 (.op 7 (.op 8 (.op 9 (.op 10 (.op 11 (.ef 12 [0] (.ef 13 [] (.ef 14 [] .nil))))))))))))))) (by kernel_rfl) (by kernel_rfl) ?_)
    | refine FW_alt ?_ ?_
    | refine FW_efn rfl rfl rfl rfl rfl ?_ ?_
    | refine KJ_flow ?_ ?_
    | exact Rech.nil
    | fail)
      all_goals refine KJ_again ⟨((i + 1, j), O ++ [⟨true, p.1, []⟩], some ⟨go, 0, none⟩, co), by dsimp only; omega, by dsimp only; omega, by dsimp only; rw [List.length_append, List.length_singleton]; omega, by dsimp only; rw [List.append_assoc, List.singleton_append, ← hs]; exact hO⟩ (by show (a.length - (i + 1)) + (b.length - (j)) < (a.length - i) + (b.length - j); omega) xB (xN)
    ·
      have hs := btr_gt hp hq c1 c2
      have b1 := b1.resolve_right (by omega)
      repeat' (first 
    | (refine is_append ?_; refine KJ_appOne (a := (⟨false, q.1, q.2⟩ : BOp)) enc_op rfl rfl rfl xS xS b1 b2 rfl (fun go co => ?_))
    | (refine is_bslice ?_; refine KJ_bslice1 rfl xF (by rfl) (by omega) rfl (fun gb => ?_))
    | (refine ek_load ?_; first | refine EK_ev (Ev_loadLvF rC_ok hB rfl rfl xS ob1 hq pb1) ?_ | refine EK_ev (Ev_loadLvF rC_ok hB rfl rfl xS ob0 hq pb0) ?_ | refine EK_ev (Ev_loadLvF rC_ok hA rfl rfl xS oa1 hp pa1) ?_ | refine EK_ev (Ev_loadLvF rC_ok hA rfl rfl xS oa0 hp pa0) ?_)
    | (refine ek_build ?_; refine EK_ev (Ev_build xV xW) ?_)
    | (refine ek_add ?_; refine EK_ev (Ev_addI_v (r := ((j + 1 : Nat) : Int)) rfl rfl (by omega) (by omega)) ?_)
    | (refine ek_eql ?_; first | refine EK_ev (Ev_eqlI_q rfl rfl eb) ?_ | refine EK_ev (Ev_eqlI_q rfl rfl ea) ?_)
    | (refine ek_lss ?_; first | refine EK_ev (Ev_lssS_q rfl rfl c2) ?_ | refine EK_ev (Ev_lssS_q rfl rfl c1) ?_ | refine EK_ev (Ev_lssI_q rfl rfl qb) ?_ | refine EK_ev (Ev_lssI_q rfl rfl qa) ?_)
    | refine xst ?_
    | (refine xsa ?_; intro _)
    | (refine xsb ?_ ?_ <;> intro _ <;> first | (exfalso; omega) | skip)
    | refine xsc ?_
    | (refine KJ_draws (id := 8) (.op 0 (.op 1 (.op 2 (.op 3 (.op 4 (.op 5 (.op 6 (.op 7 (.op 8 (.op 9 (.op 10 (.op 11 (.op 12 (.op 13 (.op 14 (.op 15 (.op 16 (.op 17 (.op 18 (.op 19 (.op 20 (.op 21 (.op 22 (.op 23 .nil)))))))))))))))))))))))) (by kernel_rfl) (by kernel_rfl) ?_)
    | (refine KJ_draws (id := 11) (.op 0 (.op 1 (.op 2 (.op 3 (.op 4 (.op 5 (.op 6 (.op 7 (.op 8 (.op 9 (.op 10 (.op 11 (.op 12 (.op 13 (.op 14 (.op 15 (.op 16 (.op 17 .nil)))))))))))))))))) (by kernel_rfl) (by kernel_rfl) ?_)
    | (refine KJ_draws (id := 12) (.op 0 (.op 1 (.op 2 (.op 3 (.op 4 (.op 5 (.op 6 (.op 7 (.op 8 (.op 9 (.op 10 (.op 11 (.ef 12 [0] (.ef 13 [] (.ef 14 [] .nil))))))))))))))) (by kernel_rfl) (by kernel_rfl) ?_)
    | (refine KJ_draws (id := 4) (.op 0 (.op 1 (.op 2 (.op 3 (.op 4 (.op 5 (.op 6 (.op 7 (.op 8 (.op 9 (.op 10 .nil))))))))))) (by kernel_rfl) (by kernel_rfl) ?_)
    | (refine KJ_draws (id := 5) (.op 0 (.op 1 (.op 2 (.op 3 (.op 4 (.op 5 (.op 6 (.op 7 (.op 8 (.op 9 (.op 10 (.op 11 (.ef 12 [0] (.ef 13 [] (.ef 14 [] .nil))))))))))))))) (by kernel_rfl) (by kernel_rfl) ?_)
    | refine FW_alt ?_ ?_
    | refine FW_efn rfl rfl rfl rfl rfl ?_ ?_
    | refine KJ_flow ?_ ?_
    | exact Rech.nil
    | fail)
      all_goals refine KJ_again ⟨((i, j + 1), O ++ [⟨false, q.1, q.2⟩], some ⟨go, 0, none⟩, co), by dsimp only; omega, by dsimp only; omega, by dsimp only; rw [List.length_append, List.length_singleton]; omega, by dsimp only; rw [List.append_assoc, List.singleton_append, ← hs]; exact hO⟩ (by show (a.length - (i)) + (b.length - (j + 1)) < (a.length - i) + (b.length - j); omega) xB (xN)
    · by_cases hv : p.2 = q.2
      ·
        have hs := btr_eq hp hq c1 c2 hv
        repeat' (first 
    | (refine ek_load ?_; first | refine EK_ev (Ev_loadLvF rC_ok hB rfl rfl xS ob1 hq pb1) ?_ | refine EK_ev (Ev_loadLvF rC_ok hB rfl rfl xS ob0 hq pb0) ?_ | refine EK_ev (Ev_loadLvF rC_ok hA rfl rfl xS oa1 hp pa1) ?_ | refine EK_ev (Ev_loadLvF rC_ok hA rfl rfl xS oa0 hp pa0) ?_)
    | (refine ek_add ?_; first | refine EK_ev (Ev_addI_v (r := ((j + 1 : Nat) : Int)) rfl rfl (by omega) (by omega)) ?_ | refine EK_ev (Ev_addI_v (r := ((i + 1 : Nat) : Int)) rfl rfl (by omega) (by omega)) ?_)
    | (refine ek_eql ?_; first | refine EK_ev (Ev_eqlI_q rfl rfl eb) ?_ | refine EK_ev (Ev_eqlI_q rfl rfl ea) ?_)
    | (refine ek_neq ?_; refine EK_ev (Ev_neqS_f rfl rfl hv) ?_)
    | (refine ek_lss ?_; first | refine EK_ev (Ev_lssS_q rfl rfl c2) ?_ | refine EK_ev (Ev_lssS_q rfl rfl c1) ?_ | refine EK_ev (Ev_lssI_q rfl rfl qb) ?_ | refine EK_ev (Ev_lssI_q rfl rfl qa) ?_)
    | refine xst ?_
    | (refine xsa ?_; intro _)
    | (refine xsb ?_ ?_ <;> intro _ <;> first | (exfalso; omega) | skip)
    | refine xsc ?_
    | (refine KJ_draws (id := 8) (.op 0 (.op 1 (.op 2 (.op 3 (.op 4 (.op 5 (.op 6 (.op 7 (.op 8 (.op 9 (.op 10 (.op 11 (.op 12 (.op 13 (.op 14 (.op 15 (.op 16 (.op 17 (.op 18 (.op 19 (.op 20 (.op 21 (.op 22 (.op 23 .nil)))))))))))))))))))))))) (by kernel_rfl) (by kernel_rfl) ?_)
    | (refine KJ_draws (id := 11) (.op 0 (.op 1 (.op 2 (.op 3 (.op 4 (.op 5 (.op 6 (.op 7 (.op 8 (.op 9 (.op 10 (.op 11 (.op 12 (.op 13 (.op 14 (.op 15 (.op 16 (.op 17 .nil)))))))))))))))))) (by kernel_rfl) (by kernel_rfl) ?_)
    | (refine KJ_draws (id := 12) (.op 0 (.op 1 (.op 2 (.op 3 (.op 4 (.op 5 (.op 6 (.op 7 (.op 8 (.op 9 (.op 10 (.op 11 (.ef 12 [0] (.ef 13 [] (.ef 14 [] .nil))))))))))))))) (by kernel_rfl) (by kernel_rfl) ?_)
    | (refine KJ_draws (id := 4) (.op 0 (.op 1 (.op 2 (.op 3 (.op 4 (.op 5 (.op 6 (.op 7 (.op 8 (.op 9 (.op 10 .nil))))))))))) (by kernel_rfl) (by kernel_rfl) ?_)
    | (refine KJ_draws (id := 5) (.op 0 (.op 1 (.op 2 (.op 3 (.op 4 (.op 5 (.op 6 (.op 7 (.op 8 (.op 9 (.op 10 (.op 11 (.ef 12 [0] (.ef 13 [] (.ef 14 [] .nil))))))))))))))) (by kernel_rfl) (by kernel_rfl) ?_)
    | refine FW_alt ?_ ?_
    | refine FW_efn rfl rfl rfl rfl rfl ?_ ?_
    | refine KJ_flow ?_ ?_
    | exact Rech.nil
    | fail)
        all_goals refine KJ_again ⟨((i + 1, j + 1), O, sa, sc), by dsimp only; omega, by dsimp only; omega, by dsimp only; omega, by dsimp only; rw [← hs]; exact hO⟩ (by show (a.length - (i + 1)) + (b.length - (j + 1)) < (a.length - i) + (b.length - j); omega) xB (xN)
      ·
        have hs := btr_ne hp hq c1 c2 hv
        have b1 := b1.resolve_right (by omega)
        repeat' (first 
    | (refine is_append ?_; refine KJ_appOne (a := (⟨false, q.1, q.2⟩ : BOp)) enc_op rfl rfl rfl xS xS b1 b2 rfl (fun go co => ?_))
    | (refine is_bslice ?_; refine KJ_bslice1 rfl xF (by rfl) (by omega) rfl (fun gb => ?_))
    | (refine ek_load ?_; first | refine EK_ev (Ev_loadLvF rC_ok hB rfl rfl xS ob1 hq pb1) ?_ | refine EK_ev (Ev_loadLvF rC_ok hB rfl rfl xS ob0 hq pb0) ?_ | refine EK_ev (Ev_loadLvF rC_ok hA rfl rfl xS oa1 hp pa1) ?_ | refine EK_ev (Ev_loadLvF rC_ok hA rfl rfl xS oa0 hp pa0) ?_)
    | (refine ek_build ?_; refine EK_ev (Ev_build xV xW) ?_)
    | (refine ek_add ?_; first | refine EK_ev (Ev_addI_v (r := ((j + 1 : Nat) : Int)) rfl rfl (by omega) (by omega)) ?_ | refine EK_ev (Ev_addI_v (r := ((i + 1 : Nat) : Int)) rfl rfl (by omega) (by omega)) ?_)
    | (refine ek_eql ?_; first | refine EK_ev (Ev_eqlI_q rfl rfl eb) ?_ | refine EK_ev (Ev_eqlI_q rfl rfl ea) ?_)
    | (refine ek_neq ?_; refine EK_ev (Ev_neqS_t rfl rfl hv) ?_)
    | (refine ek_lss ?_; first | refine EK_ev (Ev_lssS_q rfl rfl c2) ?_ | refine EK_ev (Ev_lssS_q rfl rfl c1) ?_ | refine EK_ev (Ev_lssI_q rfl rfl qb) ?_ | refine EK_ev (Ev_lssI_q rfl rfl qa) ?_)
    | refine xst ?_
    | (refine xsa ?_; intro _)
    | (refine xsb ?_ ?_ <;> intro _ <;> first | (exfalso; omega) | skip)
    | refine xsc ?_
    | (refine KJ_draws (id := 8) (.op 0 (.op 1 (.op 2 (.op 3 (.op 4 (.op 5 (.op 6 (.op 7 (.op 8 (.op 9 (.op 10 (.op 11 (.op 12 (.op 13 (.op 14 (.op 15 (.op 16 (.op 17 (.op 18 (.op 19 (.op 20 (.op 21 (.op 22 (.op 23 .nil)))))))))))))))))))))))) (by kernel_rfl) (by kernel_rfl) ?_)
    | (refine KJ_draws (id := 11) (.op 0 (.op 1 (.op 2 (.op 3 (.op 4 (.op 5 (.op 6 (.op 7 (.op 8 (.op 9 (.op 10 (.op 11 (.op 12 (.op 13 (.op 14 (.op 15 (.op 16 (.op 17 .nil)))))))))))))))))) (by kernel_rfl) (by kernel_rfl) ?_)
    | (refine KJ_draws (id := 12) (.op 0 (.op 1 (.op 2 (.op 3 (.op 4 (.op 5 (.op 6 (.op 7 (.op 8 (.op 9 (.op 10 (.op 11 (.ef 12 [0] (.ef 13 [] (.ef 14 [] .nil))))))))))))))) (by kernel_rfl) (by kernel_rfl) ?_)
    | (refine KJ_draws (id := 4) (.op 0 (.op 1 (.op 2 (.op 3 (.op 4 (.op 5 (.op 6 (.op 7 (.op 8 (.op 9 (.op 10 .nil))))))))))) (by kernel_rfl) (by kernel_rfl) ?_)
    | (refine KJ_draws (id := 5) (.op 0 (.op 1 (.op 2 (.op 3 (.op 4 (.op 5 (.op 6 (.op 7 (.op 8 (.op 9 (.op 10 (.op 11 (.ef 12 [0] (.ef 13 [] (.ef 14 [] .nil))))))))))))))) (by kernel_rfl) (by kernel_rfl) ?_)
    | refine FW_alt ?_ ?_
    | refine FW_efn rfl rfl rfl rfl rfl ?_ ?_
    | refine KJ_flow ?_ ?_
    | exact Rech.nil
    | fail)
        all_goals refine KJ_again ⟨((i + 1, j + 1), O ++ [⟨false, q.1, q.2⟩], some ⟨go, 0, none⟩, co), by dsimp only; omega, by dsimp only; omega, by dsimp only; rw [List.length_append, List.length_singleton]; omega, by dsimp only; rw [List.append_assoc, List.singleton_append, ← hs]; exact hO⟩ (by show (a.length - (i + 1)) + (b.length - (j + 1)) < (a.length - i) + (b.length - j); omega) xB (xN)
  ·
    have qa : decide (((i : Nat) : Int) < ((a.length : Nat) : Int)) = false := decide_eq_false (by omega)
    have qb : decide (((j : Nat) : Int) < ((b.length : Nat) : Int)) = false := decide_eq_false (by omega)
    have ea : decide (((i : Nat) : Int) = ((a.length : Nat) : Int)) = true := decide_eq_true (by omega)
    have eb : decide (((j : Nat) : Int) = ((b.length : Nat) : Int)) = true := decide_eq_true (by omega)
    rw [btr_end (by omega) (by omega), List.append_nil] at hO
    repeat' (first 
    | (refine ek_eql ?_; first | refine EK_ev (Ev_eqlI_q rfl rfl eb) ?_ | refine EK_ev (Ev_eqlI_q rfl rfl ea) ?_)
    | (refine ek_lss ?_; first | refine EK_ev (Ev_lssI_q rfl rfl qb) ?_ | refine EK_ev (Ev_lssI_q rfl rfl qa) ?_)
    | refine xst ?_
    | (refine xsa ?_; intro _)
    | (refine xsb ?_ ?_ <;> intro _ <;> first | (exfalso; omega) | skip)
    | refine xsc ?_
    | (refine KJ_draws (id := 8) (.op 0 (.op 1 (.op 2 (.op 3 (.op 4 (.op 5 (.op 6 (.op 7 (.op 8 (.op 9 (.op 10 (.op 11 (.op 12 (.op 13 (.op 14 (.op 15 (.op 16 (.op 17 (.op 18 (.op 19 (.op 20 (.op 21 (.op 22 (.op 23 .nil)))))))))))))))))))))))) (by kernel_rfl) (by kernel_rfl) ?_)
    | (refine KJ_draws (id := 11) (.op 0 (.op 1 (.op 2 (.op 3 (.op 4 (.op 5 (.op 6 (.op 7 (.op 8 (.op 9 (.op 10 (.op 11 (.op 12 (.op 13 (.op 14 (.op 15 (.op 16 (.op 17 .nil)))))))))))))))))) (by kernel_rfl) (by kernel_rfl) ?_)
    | (refine KJ_draws (id := 12) (.op 0 (.op 1 (.op 2 (.op 3 (.op 4 (.op 5 (.op 6 (.op 7 (.op 8 (.op 9 (.op 10 (.op 11 (.ef 12 [0] (.ef 13 [] (.ef 14 [] .nil))))))))))))))) (by kernel_rfl) (by kernel_rfl) ?_)
    | (refine KJ_draws (id := 4) (.op 0 (.op 1 (.op 2 (.op 3 (.op 4 (.op 5 (.op 6 (.op 7 (.op 8 (.op 9 (.op 10 .nil))))))))))) (by kernel_rfl) (by kernel_rfl) ?_)
    | (refine KJ_draws (id := 5) (.op 0 (.op 1 (.op 2 (.op 3 (.op 4 (.op 5 (.op 6 (.op 7 (.op 8 (.op 9 (.op 10 (.op 11 (.ef 12 [0] (.ef 13 [] (.ef 14 [] .nil))))))))))))))) (by kernel_rfl) (by kernel_rfl) ?_)
    | refine FW_alt ?_ ?_
    | refine FW_efn rfl rfl rfl rfl rfl ?_ ?_
    | refine KJ_flow ?_ ?_
    | exact Rech.nil
    | fail)
    all_goals subst hO
    all_goals (exact xdn (sa, sc))
end
end Go.Proofs.YtehheokalgmbgaaDoor
