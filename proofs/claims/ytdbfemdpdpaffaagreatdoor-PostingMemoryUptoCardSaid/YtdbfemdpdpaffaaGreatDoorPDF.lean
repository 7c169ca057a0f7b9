/-
  PoO2.
-/
import Derived.Test.YtdbfemdpdpaffaaGreatDoorPDE
/-
  own: each list is written over and grown, and none sees another.
-/
namespace Go.Proofs.YtdbfemdpdpaffaaGreatDoor
open Go Go.RowKit Go.MapKept
/-- a marked list -/
def mkL (i n : Nat) : List Leg := (List.range n).map fun j => ⟨[109, 97, 114, 107], ((1000 * i + j : Nat) : Int)⟩
theorem mkL_len (i n : Nat) : (mkL i n).length = n := by unfold mkL; simp
theorem mkL_get {i n j : Nat} (h : j < n) : (mkL i n)[j]? = some ⟨[109, 97, 114, 107], ((1000 * i + j : Nat) : Int)⟩ := by
  unfold mkL
  rw [List.getElem?_map, List.getElem?_range h]
  rfl
theorem set_stepL {α : Type} {T l : List α} {i : Nat} {x : α} (h : i < l.length) (hT : i ≤ T.length) (hx : T[i]? = some x) : (T.take i ++ l.drop i).set i x = T.take (i + 1) ++ l.drop (i + 1) := by
  have hl : (T.take i).length = i := by rw [List.length_take]; omega
  rw [List.set_append_right _ _ (by omega), hl, Nat.sub_self, List.take_add_one, hx, List.append_assoc]
  congr 1
  rw [List.drop_eq_getElem_cons h, List.set_cons_zero]
  rfl
/-- the first i lists are marked -/
def MkTo (In M : LL) (i : Nat) : Prop := M.length = In.length ∧ ∀ (j : Nat) y, In[j]? = some y → M[j]? = some (if j < i then (y.1, y.2.1, mkL j y.2.2.length) else y)
theorem MkTo.zero (In : LL) : MkTo In In 0 := ⟨rfl, fun j y h => by rw [if_neg (by omega)]; exact h⟩
theorem MkTo.next {In M : LL} {i : Nat} (h : MkTo In M i) {x : Option Addr × Nat × List Leg} (hx : In[i]? = some x) : MkTo In (M.set i (x.1, x.2.1, mkL i x.2.2.length)) (i + 1) := by
  have hi := (List.getElem?_eq_some_iff.1 hx).1
  refine ⟨by rw [List.length_set]; exact h.1, fun j y hy => ?_⟩
  by_cases e : i = j
  · subst e
    rw [hx] at hy
    cases hy
    rw [List.getElem?_set_self (by rw [h.1]; exact hi), if_pos (by omega)]
  · rw [List.getElem?_set_ne e, h.2 j y hy]
    congr 1
    by_cases q : j < i
    · rw [if_pos q, if_pos (by omega)]
    · rw [if_neg q, if_neg (by omega)]
theorem set_selfL {α : Type} {l : List α} {i : Nat} {x : α} (h : l[i]? = some x) : l.set i x = l := by
  obtain ⟨h1, h2⟩ := List.getElem?_eq_some_iff.1 h
  rw [← h2, List.set_getElem_self]
section
variable {W : World}
set_option maxHeartbeats 16000000 in
set_option maxRecDepth 20000 in
theorem own_ct (T : SP) (a : Option Addr) (c : Nat) (In : LL) (hT : Lv W lsC 1 T a In) (hn : In.length ≤ 1000) (hl : ∀ x ∈ In, x.2.2.length ≤ 2000000) :
    Ct Tryz.prog W 27 [.slice a In.length c] [T, rowsP In] (fun _ : Unit => .bool true) (fun _ => []) := by
  refine Ct.enter Tryz.func27 rfl Tryz.ntmps27 (by simp) (fun R => ?_)
  repeat' (first 
    | refine xst ?_
    | (refine xsa ?_; intro _)
    | (refine xsb ?_ ?_ <;> intro _ <;> first | (exfalso; omega) | skip)
    | refine xsc ?_
    | fail)
  refine KJ_loop (fun x : {x : Nat × LL // x.1 ≤ In.length ∧ MkTo In x.2 x.1} => [(0, .slice a In.length c), (12, .slice a In.length c), (13, .int .i64 (In.length : Nat)), (14, .int .i64 (x.1.1 : Nat))])
    (fun x => [rowsP x.1.2, T] ++ R) (fun x => In.length - x.1.1) ⟨(0, In), Nat.zero_le _, MkTo.zero In⟩ xB (xN) (fun ⟨(i, M), hi, hM⟩ => ?_)
  dsimp only at hi hM ⊢
  by_cases hlt : i < In.length
  · have ql : decide ((i : Int) < (In.length : Nat)) = true := decide_eq_true (by omega)
    obtain ⟨⟨ai, ci, l⟩, hx⟩ : ∃ s, In[i]? = some s := ⟨_, List.getElem?_eq_getElem hlt⟩
    have hln := hl _ (List.mem_of_getElem? hx)
    have hMi := hM.2 i _ hx
    rw [if_neg (by omega)] at hMi
    have hMn := hM.next hx
    dsimp only at hln hMn
    refine KJ.lvSome hT xS (by omega) (fun b0 of hab => ?_)
    subst hab
    have hoff : of + Int.toNat (i : Int) * 1 = of + i * 1 + 0 := by simp
    have kx : (lsC (ai, ci, l))[0]? = some (.slice ai l.length ci) := rfl
    repeat' (first 
    | (refine ek_load ?_; refine EK_ev (Ev_loadLvF lsC_ok hT rfl rfl xS hoff hx kx) ?_)
    | (refine ek_lss ?_; refine EK_ev (Ev_lssI_q rfl rfl ql) ?_)
    | refine xst ?_
    | (refine xsa ?_; intro _)
    | (refine xsb ?_ ?_ <;> intro _ <;> first | (exfalso; omega) | skip)
    | refine xsc ?_
    | fail)
    refine KJ.rowsOpen hMi xS ?_
    dsimp only
    refine KJ_loop (fun y : {y : Nat × List Leg // y.1 ≤ l.length ∧ y.2 = (mkL i l.length).take y.1 ++ l.drop y.1} => [(0, .slice (some ⟨b0, of, none⟩) In.length c), (3, .int .i64 (i : Nat)), (4, .slice ai l.length ci), (12, .slice (some ⟨b0, of, none⟩) In.length c), (13, .int .i64 (In.length : Nat)), (14, .int .i64 (i : Nat)), (20, .int .i64 (l.length : Nat)), (21, .int .i64 (y.1.1 : Nat))])
      (fun y => [lsP legC 55 2 (.slice ai l.length ci) y.1.2, rowsP (M.eraseIdx i), T] ++ R) (fun y => l.length - y.1.1) ⟨(0, l), Nat.zero_le _, by simp⟩ xB (xN) (fun ⟨(j, N), hj, hN⟩ => ?_)
    dsimp only at hj hN ⊢
    have hNl : l.length = N.length := by rw [hN, List.length_append, List.length_take, List.length_drop, mkL_len]; omega
    by_cases hjl : j < l.length
    · have q2 : decide ((j : Int) < (l.length : Nat)) = true := decide_eq_true (by omega)
      obtain ⟨N', hN'⟩ : ∃ N', N' = N.set j (⟨[109, 97, 114, 107], ((1000 * i + j : Nat) : Int)⟩ : Leg) := ⟨_, rfl⟩
      have hnx : N' = (mkL i l.length).take (j + 1) ++ l.drop (j + 1) := by
        rw [hN', hN, set_stepL hjl (by rw [mkL_len]; omega) (mkL_get hjl)]
      refine KJ.lsSome (a := ai) (l := N) xS (by omega) (fun gx hgx => ?_)
      subst hgx
      have o2 : 0 + Int.toNat (j : Int) * 2 = j * 2 := by simp
      have hjN : j < N.length := by omega
      repeat' (first 
    | (refine is_store ?_; refine KJ_storeLs (a := (⟨[109, 97, 114, 107], ((1000 * i + j : Nat) : Int)⟩ : Leg)) enc_leg rfl rfl xS hNl o2 hjN ?_; rw [← hN'])
    | (refine ek_build ?_; refine EK_ev (Ev_build xV xW) ?_)
    | (refine ek_add ?_; first | refine EK_ev (Ev_addI_v (r := ((j + 1 : Nat) : Int)) rfl rfl (by omega) (by omega)) ?_ | refine EK_ev (Ev_addI_v (r := ((1000 * i + j : Nat) : Int)) rfl rfl (by omega) (by omega)) ?_)
    | (refine ek_mul ?_; refine EK_ev (Ev_mulI_v (r := ((1000 * i : Nat) : Int)) rfl rfl (by omega) (by omega)) ?_)
    | (refine ek_lss ?_; refine EK_ev (Ev_lssI_q rfl rfl q2) ?_)
    | refine xst ?_
    | (refine xsa ?_; intro _)
    | (refine xsb ?_ ?_ <;> intro _ <;> first | (exfalso; omega) | skip)
    | refine xsc ?_
    | fail)
      all_goals refine KJ_again ⟨(j + 1, N'), hjl, hnx⟩ (by show l.length - (j + 1) < l.length - j; omega) xB (xN)
    have q2 : decide ((j : Int) < (l.length : Nat)) = false := decide_eq_false (by omega)
    have hNm : N = mkL i l.length := by rw [hN, List.take_of_length_le (by rw [mkL_len]; omega), List.drop_of_length_le (by omega), List.append_nil]
    subst hNm
    repeat' (first 
    | (refine ek_add ?_; refine EK_ev (Ev_addI_v (r := ((i + 1 : Nat) : Int)) rfl rfl (by omega) (by omega)) ?_)
    | (refine ek_lss ?_; refine EK_ev (Ev_lssI_q rfl rfl q2) ?_)
    | refine xst ?_
    | (refine xsa ?_; intro _)
    | (refine xsb ?_ ?_ <;> intro _ <;> first | (exfalso; omega) | skip)
    | refine xsc ?_
    | fail)
    all_goals refine KJ.rowsPut (y := (ai, ci, mkL i l.length)) (z := lsP legC 55 2 (.slice ai l.length ci) (mkL i l.length)) hMi (by unfold lrowP; dsimp only; rw [mkL_len]) xP ?_
    all_goals refine KJ_again ⟨(i + 1, M.set i (ai, ci, mkL i l.length)), hlt, hMn⟩ (by show In.length - (i + 1) < In.length - i; omega) xB (xN)
  have ql : decide ((i : Int) < (In.length : Nat)) = false := decide_eq_false (by omega)
  have hMk : ∀ (j : Nat) y, In[j]? = some y → M[j]? = some (y.1, y.2.1, mkL j y.2.2.length) := fun j y hy => by
    have := hM.2 j y hy
    rwa [if_pos (by have := (List.getElem?_eq_some_iff.1 hy).1; omega)] at this
  repeat' (first 
    | (refine ek_lss ?_; refine EK_ev (Ev_lssI_q rfl rfl ql) ?_)
    | refine xst ?_
    | (refine xsa ?_; intro _)
    | (refine xsb ?_ ?_ <;> intro _ <;> first | (exfalso; omega) | skip)
    | refine xsc ?_
    | fail)
  refine KJ_loop (fun x : {x : Nat // x ≤ In.length} => [(0, .slice a In.length c), (34, .slice a In.length c), (35, .int .i64 (In.length : Nat)), (36, .int .i64 (x.1 : Nat))])
    (fun _ => [rowsP M, T] ++ R) (fun x => In.length - x.1) ⟨0, Nat.zero_le _⟩ xB (xN) (fun ⟨p, hp⟩ => ?_)
  dsimp only at hp ⊢
  by_cases hlt2 : p < In.length
  · have ql2 : decide ((p : Int) < (In.length : Nat)) = true := decide_eq_true (by omega)
    obtain ⟨⟨ai, ci, l⟩, hx⟩ : ∃ s, In[p]? = some s := ⟨_, List.getElem?_eq_getElem hlt2⟩
    have hln := hl _ (List.mem_of_getElem? hx)
    have hMi := hMk p _ hx
    dsimp only at hln hMi
    refine KJ.lvSome hT xS (by omega) (fun b0 of hab => ?_)
    subst hab
    have hoff : of + Int.toNat (p : Int) * 1 = of + p * 1 + 0 := by simp
    have kx : (lsC (ai, ci, l))[0]? = some (.slice ai l.length ci) := rfl
    repeat' (first 
    | (refine ek_load ?_; refine EK_ev (Ev_loadLvF lsC_ok hT rfl rfl xS hoff hx kx) ?_)
    | (refine ek_lss ?_; refine EK_ev (Ev_lssI_q rfl rfl ql2) ?_)
    | refine xst ?_
    | (refine xsa ?_; intro _)
    | (refine xsb ?_ ?_ <;> intro _ <;> first | (exfalso; omega) | skip)
    | refine xsc ?_
    | fail)
    refine KJ.rowsOpen hMi xS ?_
    dsimp only
    rw [mkL_len]
    refine KJ.keepNew (mkL_len p l.length).symm xS ?_
    refine KJ_loop (fun y : {y : Nat × Option Addr × Nat // y.1 ≤ 40} => [(0, .slice (some ⟨b0, of, none⟩) In.length c), (6, .int .i64 (p : Nat)), (7, .slice y.1.2.1 (l.length + y.1.1) y.1.2.2), (8, .int .i64 (y.1.1 : Nat)), (34, .slice (some ⟨b0, of, none⟩) In.length c), (35, .int .i64 (In.length : Nat)), (36, .int .i64 (p : Nat))])
      (fun y => [keepP legC 55 2 ai l.length ci (mkL p l.length) y.1.2.1 (l.length + y.1.1) y.1.2.2, rowsP (M.eraseIdx p), T] ++ R) (fun y => 40 - y.1.1) ⟨(0, ai, ci), Nat.zero_le _⟩ xB (xN) (fun ⟨(j, na, nc), hj⟩ => ?_)
    dsimp only at hj ⊢
    by_cases hjl : j < 40
    · have q2 : decide ((j : Int) < 40) = true := decide_eq_true (by omega)
      have b1 : (l.length + j + 1) * 24 ≤ 140737488355328 := by omega
      have b2 : l.length + j + 1 ≤ 9223372036854775807 := by omega
      repeat' (first 
    | (refine is_append ?_; refine KJ_appKeep (b := (⟨[103, 114, 111, 119, 110], -((1000 * p + j : Nat) : Int)⟩ : Leg)) enc_leg rfl rfl rfl xS xS b1 b2 rfl (fun a1 c1 => ?_); rw [Nat.add_assoc])
    | (refine is_bslice ?_; refine KJ_bslice1 rfl xF (by rfl) (by omega) rfl (fun gb => ?_))
    | (refine ek_build ?_; refine EK_ev (Ev_build xV xW) ?_)
    | (refine ek_add ?_; refine EK_ev (Ev_addI_v (r := ((j + 1 : Nat) : Int)) rfl rfl (by omega) (by omega)) ?_)
    | (refine ek_sub ?_; refine EK_ev (Ev_subI_v (r := -((1000 * p + j : Nat) : Int)) rfl rfl (by omega) (by omega)) ?_)
    | (refine ek_mul ?_; refine EK_ev (Ev_mulI_v (r := -((1000 * p : Nat) : Int)) rfl rfl (by omega) (by omega)) ?_)
    | (refine ek_lss ?_; refine EK_ev (Ev_lssI_q rfl rfl q2) ?_)
    | refine xst ?_
    | (refine xsa ?_; intro _)
    | (refine xsb ?_ ?_ <;> intro _ <;> first | (exfalso; omega) | skip)
    | refine xsc ?_
    | fail)
      all_goals refine KJ_again ⟨(j + 1, a1, c1), hjl⟩ (by show 40 - (j + 1) < 40 - j; omega) xB (xN)
    have q2 : decide ((j : Int) < 40) = false := decide_eq_false (by omega)
    repeat' (first 
    | (refine ek_add ?_; refine EK_ev (Ev_addI_v (r := ((p + 1 : Nat) : Int)) rfl rfl (by omega) (by omega)) ?_)
    | (refine ek_lss ?_; refine EK_ev (Ev_lssI_q rfl rfl q2) ?_)
    | refine xst ?_
    | (refine xsa ?_; intro _)
    | (refine xsb ?_ ?_ <;> intro _ <;> first | (exfalso; omega) | skip)
    | refine xsc ?_
    | fail)
    all_goals refine KJ.keepEnd enc_leg xS ?_
    all_goals refine KJ.rowsPut (y := (ai, ci, mkL p l.length)) (z := lsP legC 55 2 (.slice ai l.length ci) (mkL p l.length)) hMi (by unfold lrowP; dsimp only; rw [mkL_len]) xP ?_
    all_goals rw [set_selfL hMi]
    all_goals refine KJ_again ⟨p + 1, hlt2⟩ (by show In.length - (p + 1) < In.length - p; omega) xB (xN)
  have ql2 : decide ((p : Int) < (In.length : Nat)) = false := decide_eq_false (by omega)
  repeat' (first 
    | (refine ek_lss ?_; refine EK_ev (Ev_lssI_q rfl rfl ql2) ?_)
    | refine xst ?_
    | (refine xsa ?_; intro _)
    | (refine xsb ?_ ?_ <;> intro _ <;> first | (exfalso; omega) | skip)
    | refine xsc ?_
    | fail)
  refine KJ_loop (fun x : {x : Nat // x ≤ In.length} => [(0, .slice a In.length c), (54, .slice a In.length c), (55, .int .i64 (In.length : Nat)), (56, .int .i64 (x.1 : Nat))])
    (fun _ => [rowsP M, T] ++ R) (fun x => In.length - x.1) ⟨0, Nat.zero_le _⟩ xB (xN) (fun ⟨f, hf⟩ => ?_)
  dsimp only at hf ⊢
  by_cases hlt3 : f < In.length
  · have ql3 : decide ((f : Int) < (In.length : Nat)) = true := decide_eq_true (by omega)
    obtain ⟨⟨ai, ci, l⟩, hx⟩ : ∃ s, In[f]? = some s := ⟨_, List.getElem?_eq_getElem hlt3⟩
    have hln := hl _ (List.mem_of_getElem? hx)
    have hMi := hMk f _ hx
    have hLv := rows_lv (W := W) (List.mem_of_getElem? hMi)
    dsimp only at hln hMi hLv
    refine KJ.lvSome hT xS (by omega) (fun b0 of hab => ?_)
    subst hab
    have hoff : of + Int.toNat (f : Int) * 1 = of + f * 1 + 0 := by simp
    have kx : (lsC (ai, ci, l))[0]? = some (.slice ai l.length ci) := rfl
    repeat' (first 
    | (refine ek_load ?_; refine EK_ev (Ev_loadLvF lsC_ok hT rfl rfl xS hoff hx kx) ?_)
    | (refine ek_lss ?_; refine EK_ev (Ev_lssI_q rfl rfl ql3) ?_)
    | refine xst ?_
    | (refine xsa ?_; intro _)
    | (refine xsb ?_ ?_ <;> intro _ <;> first | (exfalso; omega) | skip)
    | refine xsc ?_
    | fail)
    refine KJ_loop (fun y : {y : Nat // y ≤ l.length} => [(0, .slice (some ⟨b0, of, none⟩) In.length c), (9, .int .i64 (f : Nat)), (10, .slice ai l.length ci), (54, .slice (some ⟨b0, of, none⟩) In.length c), (55, .int .i64 (In.length : Nat)), (56, .int .i64 (f : Nat)), (62, .int .i64 (l.length : Nat)), (63, .int .i64 (y.1 : Nat))])
      (fun _ => [rowsP M, T] ++ R) (fun y => l.length - y.1) ⟨0, Nat.zero_le _⟩ xB (xN) (fun ⟨j, hj⟩ => ?_)
    dsimp only at hj ⊢
    by_cases hjl : j < l.length
    · have q2 : decide ((j : Int) < (l.length : Nat)) = true := decide_eq_true (by omega)
      have hg := mkL_get (i := f) hjl
      obtain ⟨v, hv⟩ : ∃ v : Int, v = ((1000 * f + j : Nat) : Int) := ⟨_, rfl⟩
      rw [← hv] at hg
      refine KJ.lvSome hLv xS (by rw [mkL_len]; omega) (fun b1 o1 hab => ?_)
      subst hab
      have o2 : o1 + Int.toNat (j : Int) * 2 = o1 + j * 2 := by simp
      have hq : (!decide ((⟨[109, 97, 114, 107], v⟩ : Leg) = ⟨[109, 97, 114, 107], v⟩)) = false := by simp
      repeat' (first 
    | (refine ek_load ?_; refine EK_ev (Ev_loadLv enc_leg hLv rfl rfl xS o2 hg) ?_)
    | (refine ek_build ?_; refine EK_ev (Ev_build xV xW) ?_)
    | (refine ek_add ?_; first | refine EK_ev (Ev_addI_v (r := ((j + 1 : Nat) : Int)) rfl rfl (by omega) (by omega)) ?_ | refine EK_ev (Ev_addI_v (r := v) rfl rfl (by omega) (by omega)) ?_)
    | (refine ek_mul ?_; refine EK_ev (Ev_mulI_v (r := ((1000 * f : Nat) : Int)) rfl rfl (by omega) (by omega)) ?_)
    | (refine ek_neq ?_; refine EK_ev (Ev_neqSt rfl rfl (leg_eqF ⟨[109, 97, 114, 107], v⟩ ⟨[109, 97, 114, 107], v⟩ Tryz.underlying55) hq) ?_)
    | (refine ek_lss ?_; refine EK_ev (Ev_lssI_q rfl rfl q2) ?_)
    | refine xst ?_
    | (refine xsa ?_; intro _)
    | (refine xsb ?_ ?_ <;> intro _ <;> first | (exfalso; omega) | skip)
    | refine xsc ?_
    | fail)
      all_goals refine KJ_again ⟨j + 1, hjl⟩ (by show l.length - (j + 1) < l.length - j; omega) xB (xN)
    have q2 : decide ((j : Int) < (l.length : Nat)) = false := decide_eq_false (by omega)
    repeat' (first 
    | (refine ek_add ?_; refine EK_ev (Ev_addI_v (r := ((f + 1 : Nat) : Int)) rfl rfl (by omega) (by omega)) ?_)
    | (refine ek_lss ?_; refine EK_ev (Ev_lssI_q rfl rfl q2) ?_)
    | refine xst ?_
    | (refine xsa ?_; intro _)
    | (refine xsb ?_ ?_ <;> intro _ <;> first | (exfalso; omega) | skip)
    | refine xsc ?_
    | fail)
    all_goals refine KJ_again ⟨f + 1, hlt3⟩ (by show In.length - (f + 1) < In.length - f; omega) xB (xN)
  have ql3 : decide ((f : Int) < (In.length : Nat)) = false := decide_eq_false (by omega)
  repeat' (first 
    | (refine ek_lss ?_; refine EK_ev (Ev_lssI_q rfl rfl ql3) ?_)
    | refine xst ?_
    | (refine xsa ?_; intro _)
    | (refine xsb ?_ ?_ <;> intro _ <;> first | (exfalso; omega) | skip)
    | refine xsc ?_
    | fail)
  all_goals (exact xdn ())
end
end Go.Proofs.YtdbfemdpdpaffaaGreatDoor
