/-
  BaR2.
-/
import Derived.Test.YtehheokalgmbgaaDoorDBK
/-
  The document's answer for chapter 12: Normal. Printed by genbar2.py.
-/
namespace Go.Proofs.YtehheokalgmbgaaDoor
open Go Go.RowKit
/-- room is made at k: what stood from k on is one further, at k stands y -/
def shL {α : Type} (l : List α) (k : Nat) (y : α) : List α := l.take k ++ y :: l.drop k
section
variable {α : Type}
theorem shL_len (l : List α) {k : Nat} (y : α) (h : k ≤ l.length) : (shL l k y).length = l.length + 1 := by
  unfold shL
  rw [List.length_append, List.length_cons, List.length_take, List.length_drop]; omega
theorem shL_get (l : List α) {k : Nat} (y : α) (h : k < l.length) : (shL l (k + 1) y)[k]? = l[k]? := by
  unfold shL
  rw [List.getElem?_append_left (by rw [List.length_take]; omega), List.getElem?_take, if_pos (by omega)]
theorem shL_set (l : List α) {k : Nat} (y x : α) (h : k ≤ l.length) : (shL l k y).set k x = shL l k x := by
  unfold shL
  rw [List.set_append_right _ _ (by rw [List.length_take]; omega)]
  rw [List.length_take, Nat.min_eq_left h, Nat.sub_self]
  rfl
theorem shL_down (l : List α) {k : Nat} {x : α} (hx : l[k]? = some x) : shL l (k + 1) x = shL l k x := by
  obtain ⟨h, e⟩ := List.getElem?_eq_some_iff.1 hx
  unfold shL
  rw [List.take_add_one, hx, List.drop_eq_getElem_cons h, e]
  simp
theorem shL_end (l : List α) (y : α) : l ++ [y] = shL l l.length y := by simp [shL]
end
def kRow (o : BOp) : List UInt8 × List UInt8 := (o.key, [])
theorem at_kRow (l : List BOp) (k : List UInt8) : atB Prod.fst (l.map kRow) k = atB BOp.key l k := by
  induction l with
  | nil => rfl
  | cons o l ih => rw [List.map_cons, atB, atB, ih]; rfl
theorem has_kRow (l : List BOp) (k : List UInt8) : hasB Prod.fst (l.map kRow) k = hasB BOp.key l k := by
  unfold hasB; rw [List.any_map]; rfl
theorem ris_kRow {l : List BOp} (h : Rising BOp.key l) : RisR (l.map kRow) := List.pairwise_map.2 h
theorem normD_len (l : List BOp) : (normD l).length ≤ l.length := by
  induction l with
  | nil => exact Nat.le_refl _
  | cons o r ih =>
    unfold normD
    split
    · rw [List.length_cons]; omega
    · rw [insB_eq]
      have := atB_le (f := BOp.key) (normD r) o.nrm.key
      simp only [List.length_append, List.length_take, List.length_drop, List.length_cons, List.length_nil]
      omega
theorem normD_drop {ops : List BOp} {i : Nat} {o : BOp} (h : ops[i]? = some o) : normD (ops.drop i) = if hasB BOp.key (normD (ops.drop (i + 1))) o.key = true then normD (ops.drop (i + 1)) else insB BOp.key (normD (ops.drop (i + 1))) o.nrm := by
  obtain ⟨hl, e⟩ := List.getElem?_eq_some_iff.1 h
  rw [List.drop_eq_getElem_cons hl, e, normD]
section
variable {W : World}
set_option maxHeartbeats 4000000 in
set_option maxRecDepth 10000 in
theorem rnormal_ct (A : SP) (a : Option Addr) (c : Nat) (ops : List BOp) (hL : Lv W opC 3 A a ops) (hl : ops.length * 40 ≤ 140737488355328) : Ct Tryd.prog W 13 [.slice a ops.length c] [A] (fun x : Option Addr × Nat => .slice x.1 (normD ops).length x.2) (fun x => [A, lsP opC 29 3 (.slice x.1 (normD ops).length x.2) (normD ops)]) := by
  refine Ct.enter Tryd.func13 rfl Tryd.ntmps13 (by simp) (fun R => ?_)
  repeat' (first 
    | (refine is_bslice ?_; refine KJ_bslice0 rfl (fun gz => ?_))
    | (refine ek_sub ?_; refine EK_ev (Ev_subI_v (r := ((ops.length : Nat) : Int) - 1) rfl rfl rfl (by omega)) ?_)
    | refine xst ?_
    | (refine xsa ?_; intro _)
    | (refine xsb ?_ ?_ <;> intro _ <;> first | (exfalso; omega) | skip)
    | refine xsc ?_
    | fail)
  rename_i g1
  refine KJ_loop (fun x : {x : (Nat × List BOp) × (Option Addr × Nat) × (Option Addr × Nat) // x.1.1 ≤ ops.length ∧ x.1.2 = normD (ops.drop x.1.1)} => [(0, .slice a ops.length c), (3, .slice x.1.2.1.1 (x.1.1.2.map kRow).length x.1.2.1.2), (4, .slice x.1.2.2.1 x.1.1.2.length x.1.2.2.2), (5, .int .i64 (((x.1.1.1 : Nat) : Int) - 1))])
    (fun x => [lsP rC 65 2 (.slice x.1.2.1.1 (x.1.1.2.map kRow).length x.1.2.1.2) (x.1.1.2.map kRow), lsP opC 29 3 (.slice x.1.2.2.1 x.1.1.2.length x.1.2.2.2) x.1.1.2, A] ++ R) (fun x => x.1.1.1)
    ⟨((ops.length, []), (some ⟨g1, 0, none⟩, 0), (some ⟨gz, 0, none⟩, 0)), Nat.le_refl _, by rw [List.drop_length]; rfl⟩ xB (xN) (fun ⟨((j, N), (a1, c1), (a2, c2)), hj, hN⟩ => ?_)
  dsimp only at hj hN ⊢
  have hNl := normD_len (ops.drop j)
  rw [← hN, List.length_drop] at hNl
  have hNr := normD_rising (ops.drop j)
  rw [← hN] at hNr
  have hKl : (N.map kRow).length = N.length := List.length_map _
  by_cases hj0 : j = 0
  · subst hj0
    have ql : decide ((0 : Int) ≤ ((0 : Nat) : Int) - 1) = false := rfl
    repeat' (first 
    | (refine ek_geq ?_; refine EK_ev (Ev_geqI_q rfl rfl ql) ?_)
    | refine xst ?_
    | (refine xsa ?_; intro _)
    | (refine xsb ?_ ?_ <;> intro _ <;> first | (exfalso; omega) | skip)
    | refine xsc ?_
    | fail)
    all_goals rw [List.drop_zero] at hN
    all_goals subst hN
    all_goals (exact xdn (a2, c2))
  obtain ⟨i, rfl⟩ : ∃ i, j = i + 1 := ⟨j - 1, by omega⟩
  have ql : decide ((0 : Int) ≤ ((i + 1 : Nat) : Int) - 1) = true := decide_eq_true (by omega)
  obtain ⟨o, ho⟩ : ∃ s, ops[i]? = some s := ⟨_, List.getElem?_eq_getElem (by omega)⟩
  have hst := normD_drop ho
  rw [← hN] at hst
  have hat := atB_le (f := BOp.key) N o.key
  have cp := rplace_ct (W := W) a1 c1 (N.map kRow) (ris_kRow hNr) o.key (by rw [hKl]; omega)
  rw [at_kRow, has_kRow] at cp
  refine KJ.lvSome hL xS (by omega) (fun b of hab => ?_)
  subst hab
  have hi0 : Int.toNat (((i + 1 : Nat) : Int) - 1) = i := by omega
  have hoff : of + Int.toNat (((i + 1 : Nat) : Int) - 1) * 3 = of + i * 3 := by rw [hi0]
  have hoff1 : of + Int.toNat (((i + 1 : Nat) : Int) - 1) * 3 + 1 = of + i * 3 + 1 := by rw [hi0]
  have hi1 : ((i + 1 : Nat) : Int) - 1 - 1 = ((i : Nat) : Int) - 1 := by omega
  cases hh : hasB BOp.key N o.key with
  | true =>
    rw [hh] at cp
    rw [hh, if_pos rfl] at hst
    have ko : (opC o)[1]? = some (strV o.key) := rfl
    repeat' (first 
    | (refine is_call ?_; refine KJ_call xE cp xP rfl (fun _ => ?_))
    | (refine ek_load ?_; refine EK_ev (Ev_loadLvF enc_op hL rfl rfl xS hoff1 ho ko) ?_)
    | (refine ek_sub ?_; refine EK_ev (Ev_subI_v (r := ((i : Nat) : Int) - 1) rfl rfl hi1 (by omega)) ?_)
    | (refine ek_geq ?_; refine EK_ev (Ev_geqI_q rfl rfl ql) ?_)
    | refine xst ?_
    | (refine xsa ?_; intro _)
    | (refine xsb ?_ ?_ <;> intro _ <;> first | (exfalso; omega) | skip)
    | refine xsc ?_
    | fail)
    all_goals refine KJ_again ⟨((i, N), (a1, c1), (a2, c2)), by dsimp only; omega, hst.symm⟩ (by show i < i + 1; omega) xB (xN)
  | false =>
    rw [hh] at cp
    rw [hh, if_neg (by decide), insB_eq] at hst
    obtain ⟨N', hN'⟩ : ∃ N', N' = normD (ops.drop i) := ⟨_, rfl⟩
    rw [← hN'] at hst
    obtain ⟨del, key, val⟩ := o
    have ko : (opC ⟨del, key, val⟩)[1]? = some (strV key) := rfl
    obtain ⟨at_, hat_⟩ : ∃ n, n = atB BOp.key N key := ⟨_, rfl⟩
    dsimp only [BOp.nrm] at hst hat cp ho
    rw [← hat_] at hst hat cp
    have bK : ((N.map kRow).length + 1) * 32 ≤ 140737488355328 := by rw [hKl]; omega
    have bK2 : (N.map kRow).length + 1 ≤ 9223372036854775807 := by rw [hKl]; omega
    have bN : (N.length + 1) * 40 ≤ 140737488355328 := by omega
    have bN2 : N.length + 1 ≤ 9223372036854775807 := by omega
    have hK1 : (N.map kRow ++ [(([], []) : List UInt8 × List UInt8)]).length = N.length + 1 := by simp
    have hN1 : (N ++ [(⟨false, [], []⟩ : BOp)]).length = N.length + 1 := by simp
    cases del with
    | true =>
      repeat' (first 
    | (refine is_alloc ?_; refine KJ_alloc rfl (fun g8 => ?_))
    | (refine is_call ?_; refine KJ_call xE cp xP rfl (fun _ => ?_))
    | (refine is_append ?_; first | (refine KJ_appOne (a := (([], []) : List UInt8 × List UInt8)) rC_ok rfl rfl rfl xS xS bK bK2 rfl (fun gk ck => ?_)) | (refine KJ_appOne (a := (⟨false, [], []⟩ : BOp)) enc_op rfl rfl rfl xS xS bN bN2 rfl (fun go co => ?_)))
    | (refine is_bslice ?_; refine KJ_bslice1 rfl xF (by rfl) (by omega) rfl (fun gb => ?_))
    | (refine ek_load ?_; first | refine EK_ev (Ev_loadLv enc_op hL rfl rfl xS hoff ho) ?_ | refine EK_ev (Ev_loadLvF enc_op hL rfl rfl xS hoff1 ho ko) ?_)
    | (refine ek_build ?_; refine EK_ev (Ev_build xV xW) ?_)
    | (refine ek_sub ?_; refine EK_ev (Ev_subI_v (r := ((N.length : Nat) : Int)) rfl rfl (by rw [hN1]; omega) (by omega)) ?_)
    | (refine ek_geq ?_; refine EK_ev (Ev_geqI_q rfl rfl ql) ?_)
    | refine xst ?_
    | (refine xsa ?_; intro _)
    | (refine xsb ?_ ?_ <;> intro _ <;> first | (exfalso; omega) | skip)
    | refine xsc ?_
    | fail)
      refine KJ_loop (fun x : {x : Nat × Rows × List BOp // at_ ≤ x.1 ∧ x.1 ≤ N.length ∧ (∃ y, x.2.1 = shL (N.map kRow) x.1 y) ∧ ∃ y, x.2.2 = shL N x.1 y} => [(0, .slice (some ⟨b, of, none⟩) ops.length c), (3, .slice (some ⟨gk, 0, none⟩) (N.map kRow ++ [(([], []) : List UInt8 × List UInt8)]).length ck), (4, .slice (some ⟨go, 0, none⟩) (N ++ [(⟨false, [], []⟩ : BOp)]).length co), (5, .int .i64 (((i + 1 : Nat) : Int) - 1)), (6, .int .i64 (at_ : Nat)), (8, .pointer (some ⟨g8, 0, none⟩)), (9, .int .i64 (x.1.1 : Nat))])
        (fun x => [cellsP g8 (opC ⟨true, key, []⟩) 29, lsP rC 65 2 (.slice (some ⟨gk, 0, none⟩) (N.map kRow ++ [(([], []) : List UInt8 × List UInt8)]).length ck) x.1.2.1, lsP opC 29 3 (.slice (some ⟨go, 0, none⟩) (N ++ [(⟨false, [], []⟩ : BOp)]).length co) x.1.2.2, A] ++ R) (fun x => x.1.1)
        ⟨(N.length, N.map kRow ++ [([], [])], N ++ [⟨false, [], []⟩]), hat, Nat.le_refl _, ⟨_, by rw [shL_end, hKl]⟩, ⟨_, shL_end _ _⟩⟩ xB (xN) (fun ⟨(k, LK, LN), hk1, hk2, ⟨y1, e1⟩, ⟨y2, e2⟩⟩ => ?_)
      dsimp only at hk1 hk2 e1 e2 ⊢
      have lK : (N.map kRow ++ [(([], []) : List UInt8 × List UInt8)]).length = LK.length := by rw [hK1, e1, shL_len _ _ (by omega), hKl]
      have lN : (N ++ [(⟨false, [], []⟩ : BOp)]).length = LN.length := by rw [hN1, e2, shL_len _ _ hk2]
      by_cases hlt : at_ < k
      · obtain ⟨k, rfl⟩ : ∃ q, k = q + 1 := ⟨k - 1, by omega⟩
        have q3 : decide ((at_ : Int) < ((k + 1 : Nat) : Int)) = true := decide_eq_true (by omega)
        obtain ⟨x2, hx2⟩ : ∃ s, N[k]? = some s := ⟨_, List.getElem?_eq_getElem (by omega)⟩
        have hx1 : (N.map kRow)[k]? = some (kRow x2) := by rw [List.getElem?_map, hx2]; rfl
        have gx1 : LK[k]? = some (kRow x2) := by rw [e1, shL_get _ _ (by omega), hx1]
        have gx2 : LN[k]? = some x2 := by rw [e2, shL_get _ _ (by omega), hx2]
        have ok1 : 0 + Int.toNat ((k : Nat) : Int) * 2 = k * 2 := by rw [Int.toNat_natCast]; omega
        have ok2 : 0 + Int.toNat ((k + 1 : Nat) : Int) * 2 = (k + 1) * 2 := by rw [Int.toNat_natCast]; omega
        have on1 : 0 + Int.toNat ((k : Nat) : Int) * 3 = k * 3 := by rw [Int.toNat_natCast]; omega
        have on2 : 0 + Int.toNat ((k + 1 : Nat) : Int) * 3 = (k + 1) * 3 := by rw [Int.toNat_natCast]; omega
        have ik : k + 1 < LK.length := by rw [← lK, hK1]; omega
        have il : k + 1 < LN.length := by rw [← lN, hN1]; omega
        repeat' (first 
    | (refine is_store ?_; first | refine KJ_storeLs (a := kRow x2) rC_ok rfl rfl xS lK ok2 ik ?_ | refine KJ_storeLs (a := x2) enc_op rfl rfl xS lN on2 il ?_)
    | (refine ek_load ?_; first | refine EK_ev (Ev_loadLs enc_op rfl xS lN on1 gx2) ?_ | refine EK_ev (Ev_loadLs rC_ok rfl xS lK ok1 gx1) ?_)
    | (refine ek_sub ?_; refine EK_ev (Ev_subI_v (r := ((k : Nat) : Int)) rfl rfl (by omega) (by omega)) ?_)
    | (refine ek_gtr ?_; refine EK_ev (Ev_gtrI_q rfl rfl q3) ?_)
    | refine xst ?_
    | (refine xsa ?_; intro _)
    | (refine xsb ?_ ?_ <;> intro _ <;> first | (exfalso; omega) | skip)
    | refine xsc ?_
    | fail)
        all_goals refine KJ_again ⟨(k, LK.set (k + 1) (kRow x2), LN.set (k + 1) x2), by dsimp only; omega, by dsimp only; omega, ⟨kRow x2, by dsimp only; rw [e1, shL_set _ _ _ (by omega), shL_down _ hx1]⟩, ⟨x2, by dsimp only; rw [e2, shL_set _ _ _ (by omega), shL_down _ hx2]⟩⟩ (by show k < k + 1; omega) xB (xN)
      obtain rfl : k = at_ := by omega
      have q3 : decide ((k : Int) < ((k : Nat) : Int)) = false := decide_eq_false (by omega)
      have ok2 : 0 + Int.toNat ((k : Nat) : Int) * 2 = k * 2 := by rw [Int.toNat_natCast]; omega
      have on2 : 0 + Int.toNat ((k : Nat) : Int) * 3 = k * 3 := by rw [Int.toNat_natCast]; omega
      have ik : k < LK.length := by rw [← lK, hK1]; omega
      have il : k < LN.length := by rw [← lN, hN1]; omega
      have f2 : LN.set k ⟨true, key, []⟩ = N' := by
        rw [e2, shL_set _ _ _ hk2, hst]
        unfold shL
        simp
      have f1 : LK.set k (key, []) = N'.map kRow := by
        rw [e1, shL_set _ _ _ (by omega), hst]
        unfold shL
        simp [List.map_take, List.map_drop, kRow]
      have m1 : (N.map kRow ++ [(([], []) : List UInt8 × List UInt8)]).length = (N'.map kRow).length := by rw [lK, ← f1, List.length_set]
      have m2 : (N ++ [(⟨false, [], []⟩ : BOp)]).length = N'.length := by rw [lN, ← f2, List.length_set]
      repeat' (first 
    | (refine is_store ?_; first | refine KJ_storeLs (a := (key, [])) rC_ok rfl rfl xS lK ok2 ik ?_ | refine KJ_storeLs (a := (⟨true, key, []⟩ : BOp)) enc_op rfl rfl xS lN on2 il ?_)
    | (refine ek_build ?_; refine EK_ev (Ev_build xV xW) ?_)
    | (refine ek_sub ?_; refine EK_ev (Ev_subI_v (r := ((i : Nat) : Int) - 1) rfl rfl hi1 (by omega)) ?_)
    | (refine ek_gtr ?_; refine EK_ev (Ev_gtrI_q rfl rfl q3) ?_)
    | refine xst ?_
    | (refine xsa ?_; intro _)
    | (refine xsb ?_ ?_ <;> intro _ <;> first | (exfalso; omega) | skip)
    | refine xsc ?_
    | fail)
      all_goals rw [f1, f2, m1, m2]
      all_goals refine KJ_again ⟨((i, N'), (some ⟨gk, 0, none⟩, ck), (some ⟨go, 0, none⟩, co)), by dsimp only; omega, hN'⟩ (by show i < i + 1; omega) xB (xN)
    | false =>
      repeat' (first 
    | (refine is_alloc ?_; refine KJ_alloc rfl (fun g8 => ?_))
    | (refine is_call ?_; refine KJ_call xE cp xP rfl (fun _ => ?_))
    | (refine is_append ?_; first | (refine KJ_appOne (a := (([], []) : List UInt8 × List UInt8)) rC_ok rfl rfl rfl xS xS bK bK2 rfl (fun gk ck => ?_)) | (refine KJ_appOne (a := (⟨false, [], []⟩ : BOp)) enc_op rfl rfl rfl xS xS bN bN2 rfl (fun go co => ?_)))
    | (refine is_bslice ?_; refine KJ_bslice1 rfl xF (by rfl) (by omega) rfl (fun gb => ?_))
    | (refine ek_load ?_; first | refine EK_ev (Ev_loadLv enc_op hL rfl rfl xS hoff ho) ?_ | refine EK_ev (Ev_loadLvF enc_op hL rfl rfl xS hoff1 ho ko) ?_)
    | (refine ek_build ?_; refine EK_ev (Ev_build xV xW) ?_)
    | (refine ek_sub ?_; refine EK_ev (Ev_subI_v (r := ((N.length : Nat) : Int)) rfl rfl (by rw [hN1]; omega) (by omega)) ?_)
    | (refine ek_geq ?_; refine EK_ev (Ev_geqI_q rfl rfl ql) ?_)
    | refine xst ?_
    | (refine xsa ?_; intro _)
    | (refine xsb ?_ ?_ <;> intro _ <;> first | (exfalso; omega) | skip)
    | refine xsc ?_
    | fail)
      refine KJ_loop (fun x : {x : Nat × Rows × List BOp // at_ ≤ x.1 ∧ x.1 ≤ N.length ∧ (∃ y, x.2.1 = shL (N.map kRow) x.1 y) ∧ ∃ y, x.2.2 = shL N x.1 y} => [(0, .slice (some ⟨b, of, none⟩) ops.length c), (3, .slice (some ⟨gk, 0, none⟩) (N.map kRow ++ [(([], []) : List UInt8 × List UInt8)]).length ck), (4, .slice (some ⟨go, 0, none⟩) (N ++ [(⟨false, [], []⟩ : BOp)]).length co), (5, .int .i64 (((i + 1 : Nat) : Int) - 1)), (6, .int .i64 (at_ : Nat)), (8, .pointer (some ⟨g8, 0, none⟩)), (9, .int .i64 (x.1.1 : Nat))])
        (fun x => [cellsP g8 (opC ⟨false, key, val⟩) 29, lsP rC 65 2 (.slice (some ⟨gk, 0, none⟩) (N.map kRow ++ [(([], []) : List UInt8 × List UInt8)]).length ck) x.1.2.1, lsP opC 29 3 (.slice (some ⟨go, 0, none⟩) (N ++ [(⟨false, [], []⟩ : BOp)]).length co) x.1.2.2, A] ++ R) (fun x => x.1.1)
        ⟨(N.length, N.map kRow ++ [([], [])], N ++ [⟨false, [], []⟩]), hat, Nat.le_refl _, ⟨_, by rw [shL_end, hKl]⟩, ⟨_, shL_end _ _⟩⟩ xB (xN) (fun ⟨(k, LK, LN), hk1, hk2, ⟨y1, e1⟩, ⟨y2, e2⟩⟩ => ?_)
      dsimp only at hk1 hk2 e1 e2 ⊢
      have lK : (N.map kRow ++ [(([], []) : List UInt8 × List UInt8)]).length = LK.length := by rw [hK1, e1, shL_len _ _ (by omega), hKl]
      have lN : (N ++ [(⟨false, [], []⟩ : BOp)]).length = LN.length := by rw [hN1, e2, shL_len _ _ hk2]
      by_cases hlt : at_ < k
      · obtain ⟨k, rfl⟩ : ∃ q, k = q + 1 := ⟨k - 1, by omega⟩
        have q3 : decide ((at_ : Int) < ((k + 1 : Nat) : Int)) = true := decide_eq_true (by omega)
        obtain ⟨x2, hx2⟩ : ∃ s, N[k]? = some s := ⟨_, List.getElem?_eq_getElem (by omega)⟩
        have hx1 : (N.map kRow)[k]? = some (kRow x2) := by rw [List.getElem?_map, hx2]; rfl
        have gx1 : LK[k]? = some (kRow x2) := by rw [e1, shL_get _ _ (by omega), hx1]
        have gx2 : LN[k]? = some x2 := by rw [e2, shL_get _ _ (by omega), hx2]
        have ok1 : 0 + Int.toNat ((k : Nat) : Int) * 2 = k * 2 := by rw [Int.toNat_natCast]; omega
        have ok2 : 0 + Int.toNat ((k + 1 : Nat) : Int) * 2 = (k + 1) * 2 := by rw [Int.toNat_natCast]; omega
        have on1 : 0 + Int.toNat ((k : Nat) : Int) * 3 = k * 3 := by rw [Int.toNat_natCast]; omega
        have on2 : 0 + Int.toNat ((k + 1 : Nat) : Int) * 3 = (k + 1) * 3 := by rw [Int.toNat_natCast]; omega
        have ik : k + 1 < LK.length := by rw [← lK, hK1]; omega
        have il : k + 1 < LN.length := by rw [← lN, hN1]; omega
        repeat' (first 
    | (refine is_store ?_; first | refine KJ_storeLs (a := kRow x2) rC_ok rfl rfl xS lK ok2 ik ?_ | refine KJ_storeLs (a := x2) enc_op rfl rfl xS lN on2 il ?_)
    | (refine ek_load ?_; first | refine EK_ev (Ev_loadLs enc_op rfl xS lN on1 gx2) ?_ | refine EK_ev (Ev_loadLs rC_ok rfl xS lK ok1 gx1) ?_)
    | (refine ek_sub ?_; refine EK_ev (Ev_subI_v (r := ((k : Nat) : Int)) rfl rfl (by omega) (by omega)) ?_)
    | (refine ek_gtr ?_; refine EK_ev (Ev_gtrI_q rfl rfl q3) ?_)
    | refine xst ?_
    | (refine xsa ?_; intro _)
    | (refine xsb ?_ ?_ <;> intro _ <;> first | (exfalso; omega) | skip)
    | refine xsc ?_
    | fail)
        all_goals refine KJ_again ⟨(k, LK.set (k + 1) (kRow x2), LN.set (k + 1) x2), by dsimp only; omega, by dsimp only; omega, ⟨kRow x2, by dsimp only; rw [e1, shL_set _ _ _ (by omega), shL_down _ hx1]⟩, ⟨x2, by dsimp only; rw [e2, shL_set _ _ _ (by omega), shL_down _ hx2]⟩⟩ (by show k < k + 1; omega) xB (xN)
      obtain rfl : k = at_ := by omega
      have q3 : decide ((k : Int) < ((k : Nat) : Int)) = false := decide_eq_false (by omega)
      have ok2 : 0 + Int.toNat ((k : Nat) : Int) * 2 = k * 2 := by rw [Int.toNat_natCast]; omega
      have on2 : 0 + Int.toNat ((k : Nat) : Int) * 3 = k * 3 := by rw [Int.toNat_natCast]; omega
      have ik : k < LK.length := by rw [← lK, hK1]; omega
      have il : k < LN.length := by rw [← lN, hN1]; omega
      have f2 : LN.set k ⟨false, key, val⟩ = N' := by
        rw [e2, shL_set _ _ _ hk2, hst]
        unfold shL
        simp
      have f1 : LK.set k (key, []) = N'.map kRow := by
        rw [e1, shL_set _ _ _ (by omega), hst]
        unfold shL
        simp [List.map_take, List.map_drop, kRow]
      have m1 : (N.map kRow ++ [(([], []) : List UInt8 × List UInt8)]).length = (N'.map kRow).length := by rw [lK, ← f1, List.length_set]
      have m2 : (N ++ [(⟨false, [], []⟩ : BOp)]).length = N'.length := by rw [lN, ← f2, List.length_set]
      repeat' (first 
    | (refine is_store ?_; first | refine KJ_storeLs (a := (key, [])) rC_ok rfl rfl xS lK ok2 ik ?_ | refine KJ_storeLs (a := (⟨false, key, val⟩ : BOp)) enc_op rfl rfl xS lN on2 il ?_)
    | (refine ek_build ?_; refine EK_ev (Ev_build xV xW) ?_)
    | (refine ek_sub ?_; refine EK_ev (Ev_subI_v (r := ((i : Nat) : Int) - 1) rfl rfl hi1 (by omega)) ?_)
    | (refine ek_gtr ?_; refine EK_ev (Ev_gtrI_q rfl rfl q3) ?_)
    | refine xst ?_
    | (refine xsa ?_; intro _)
    | (refine xsb ?_ ?_ <;> intro _ <;> first | (exfalso; omega) | skip)
    | refine xsc ?_
    | fail)
      all_goals rw [f1, f2, m1, m2]
      all_goals refine KJ_again ⟨((i, N'), (some ⟨gk, 0, none⟩, ck), (some ⟨go, 0, none⟩, co)), by dsimp only; omega, hN'⟩ (by show i < i + 1; omega) xB (xN)
end
end Go.Proofs.YtehheokalgmbgaaDoor
