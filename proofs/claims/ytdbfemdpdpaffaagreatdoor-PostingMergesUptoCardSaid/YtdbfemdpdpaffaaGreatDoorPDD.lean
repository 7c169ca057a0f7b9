/-
  PoG1.
-/
import Derived.Test.YtdbfemdpdpaffaaGreatDoorPDC
import Derived.Test.YtdbfemdpdpaffaaGreatDoorPCU
/-
  The document's Merge (chapter 16).
-/
namespace Go.Proofs.YtdbfemdpdpaffaaGreatDoor
open Go Go.RowKit Go.MapKept
theorem while_cut {α : Type} {p : α → Bool} : ∀ {a b : List α}, (∀ y ∈ a, p y = true) → (∀ y r, b = y :: r → p y = false) → (a ++ b).takeWhile p = a ∧ (a ++ b).dropWhile p = b
  | [], [], _, _ => ⟨rfl, rfl⟩
  | [], y :: r, _, h => by
    have := h y r rfl
    rw [List.nil_append, List.takeWhile_cons_of_neg (by rw [this]; decide), List.dropWhile_cons_of_neg (by rw [this]; decide)]
    exact ⟨rfl, rfl⟩
  | x :: a, b, ha, h => by
    have h1 := ha x (List.mem_cons_self ..)
    obtain ⟨q1, q2⟩ := while_cut (a := a) (b := b) (fun y hy => ha y (List.mem_cons_of_mem _ hy)) h
    rw [List.cons_append, List.takeWhile_cons_of_pos h1, List.dropWhile_cons_of_pos h1, q1, q2]
    exact ⟨rfl, rfl⟩
/-- the amounts of a group -/
def grpA (M : List Leg) (i k : Nat) : List Int := ((M.take k).drop i).map (·.amt)
theorem grpA_zero (M : List Leg) (i : Nat) : grpA M i i = [] := by unfold grpA; rw [List.drop_of_length_le (by rw [List.length_take]; omega)]; rfl
theorem grpA_next {M : List Leg} {i k : Nat} {y : Leg} (hik : i ≤ k) (hy : M[k]? = some y) : grpA M i (k + 1) = grpA M i k ++ [y.amt] := by
  have hk := (List.getElem?_eq_some_iff.1 hy).1
  unfold grpA
  rw [List.take_add_one, hy, List.drop_append_of_le_length (by rw [List.length_take]; omega), List.map_append]
  rfl
theorem grp_step {M : List Leg} {i k : Nat} {x : Leg} (hx : M[i]? = some x) (hik : i < k) (hk : k ≤ M.length) (hall : ∀ j y, i ≤ j → j < k → M[j]? = some y → y.acc = x.acc) (hend : ∀ y, M[k]? = some y → y.acc ≠ x.acc) :
    mergeG (M.drop i) = if fitsI (grpA M i k).sum = false then none else (mergeG (M.drop k)).map fun o => if (grpA M i k).sum = 0 then o else ⟨x.acc, (grpA M i k).sum⟩ :: o := by
  obtain ⟨h1, h2⟩ := List.getElem?_eq_some_iff.1 hx
  have e1 : M.drop i = x :: M.drop (i + 1) := by rw [List.drop_eq_getElem_cons h1, h2]
  have e2 : M.drop (i + 1) = (M.take k).drop (i + 1) ++ M.drop k := by
    have := List.take_append_drop k M
    conv => lhs; rw [← this]
    rw [List.drop_append_of_le_length (by rw [List.length_take]; omega)]
  obtain ⟨w1, w2⟩ := while_cut (p := fun y : Leg => decide (y.acc = x.acc)) (a := (M.take k).drop (i + 1)) (b := M.drop k) (fun y hy => by
    obtain ⟨j, hj, e⟩ := List.mem_iff_getElem.1 hy
    rw [List.length_drop, List.length_take] at hj
    rw [List.getElem_drop, List.getElem_take] at e
    exact decide_eq_true (hall (i + 1 + j) y (by omega) (by omega) (by rw [List.getElem?_eq_getElem (by omega), e])))
    (fun y r e => decide_eq_false (hend y (by
      have := congrArg (fun l => l[0]?) e
      simp only [List.getElem?_drop, Nat.add_zero, List.getElem?_cons_zero] at this
      exact this)))
  have e3 : (M.take k).drop i = x :: (M.take k).drop (i + 1) := by
    have hl : i < (M.take k).length := by rw [List.length_take]; omega
    rw [List.drop_eq_getElem_cons hl, List.getElem_take, h2]
  have e4 : (grpA M i k).sum = (((M.take k).drop (i + 1)).map (·.amt)).sum + x.amt := by
    unfold grpA
    rw [e3, List.map_cons, List.sum_cons]
    omega
  rw [e4, e1, mergeG_cons, e2, w1, w2]
theorem mergeG_none {M : List Leg} {i : Nat} {out : List Leg} (h : mergeG M = (mergeG (M.drop i)).map (out ++ ·)) (h2 : mergeG (M.drop i) = none) : mergeG M = none := by rw [h, h2]; rfl
theorem mergeG_next {M : List Leg} {i k : Nat} {out : List Leg} {x : Leg} {s : Int} (h : mergeG M = (mergeG (M.drop i)).map (out ++ ·)) (h2 : mergeG (M.drop i) = (mergeG (M.drop k)).map fun o => if s = 0 then o else ⟨x.acc, s⟩ :: o) : mergeG M = (mergeG (M.drop k)).map ((if s = 0 then out else out ++ [⟨x.acc, s⟩]) ++ ·) := by
  rw [h, h2, Option.map_map]
  congr 1
  funext o
  show out ++ (if s = 0 then o else ⟨x.acc, s⟩ :: o) = _
  split <;> simp
section
variable {W : World}
set_option maxHeartbeats 16000000 in
set_option maxRecDepth 20000 in
theorem dmerge_ct (T : SP) (a : Option Addr) (c : Nat) (ls : LL) (hT : Lv W lsC 1 T a ls) (hI : ∀ x ∈ ls, Lv W legC 2 T x.1 x.2.2) (hn : ls.length ≤ 2000000) (hl : (catL ls).length ≤ 2199023255552) (hamt : ∀ x ∈ catL ls, -9223372036854775808 ≤ x.amt ∧ x.amt ≤ 9223372036854775807) :
    Ct Tryz.prog W 24 [.slice a ls.length c] [T] (fun x : Option Addr × Nat => .tuple #[.slice x.1 (mrgO (catL ls)).length x.2, .int .i64 ((mrgE (catL ls) : Nat) : Int)]) (fun x => [lsP legC 55 2 (.slice x.1 (mrgO (catL ls)).length x.2) (mrgO (catL ls)), T]) := by
  obtain ⟨O, hO⟩ : ∃ O, O = mrgO (catL ls) := ⟨_, rfl⟩
  obtain ⟨er, her⟩ : ∃ er, er = mrgE (catL ls) := ⟨_, rfl⟩
  rw [← hO, ← her]
  refine Ct.enter Tryz.func24 rfl Tryz.ntmps24 (by simp) (fun R => ?_)
  repeat' (first 
    | refine xst ?_
    | (refine xsa ?_; intro _)
    | (refine xsb ?_ ?_ <;> intro _ <;> first | (exfalso; omega) | skip)
    | refine xsc ?_
    | (refine KJ_draws (id := 12) (.op 0 (.op 1 (.op 2 (.op 3 (.op 4 (.op 5 (.op 6 (.op 7 (.op 8 (.op 9 (.op 10 (.op 11 (.op 12 (.op 13 (.op 14 (.op 15 (.op 16 .nil))))))))))))))))) (by kernel_rfl) (by kernel_rfl) ?_)
    | refine FW_alt ?_ ?_
    | refine FW_efn rfl rfl rfl rfl rfl ?_ ?_
    | refine KJ_flow ?_ ?_
    | exact Rech.nil
    | fail)
  refine KJ.nilrow 55 2 ?_
  refine KJ_loop (fun x : {x : Nat × List Leg × Option Addr × Nat // x.1 ≤ ls.length ∧ x.2.1 = catL (ls.take x.1)} => [(0, .slice a ls.length c), (4, .slice x.1.2.2.1 x.1.2.1.length x.1.2.2.2), (5, .int .i64 (x.1.1 : Nat))])
    (fun x => [lsP legC 55 2 (.slice x.1.2.2.1 x.1.2.1.length x.1.2.2.2) x.1.2.1, T] ++ R) (fun x => ls.length - x.1.1) ⟨(0, [], none, 0), Nat.zero_le _, rfl⟩ xB (xN) (fun ⟨(i, L, xa, xc), hi, hL⟩ => ?_)
  dsimp only at hi hL ⊢
  by_cases hlt : i < ls.length
  · have ql : decide ((i : Int) < (ls.length : Nat)) = true := decide_eq_true (by omega)
    obtain ⟨⟨ai, ci, l⟩, hx⟩ : ∃ s, ls[i]? = some s := ⟨_, List.getElem?_eq_getElem hlt⟩
    have hLi := hI _ (List.mem_of_getElem? hx)
    have hpart := catL_part ls hx
    have hcn := catL_next hx
    dsimp only at hLi hpart hcn
    rw [← hL] at hpart hcn
    refine KJ.lvSome hT xS (by omega) (fun b0 of hab => ?_)
    subst hab
    refine KJ.lvOpen hLi xS (fun b1 o1 hab => ?_)
    have hoff : of + Int.toNat (i : Int) * 1 = of + i * 1 + 0 := by simp
    have kx : (lsC (ai, ci, l))[0]? = some (.slice ai l.length ci) := rfl
    have d1 : (L.length + l.length) * 24 ≤ 140737488355328 := by omega
    have d2 : L.length + l.length ≤ 9223372036854775807 := by omega
    repeat' (first 
    | (refine is_append ?_; refine KJ_appAll (l := L) (l2 := l) enc_leg rfl rfl rfl rfl xS (Src.lv hLi hab xS) d1 d2 rfl (fun a1 c1 => ?_))
    | (refine ek_load ?_; refine EK_ev (Ev_loadLvF lsC_ok hT rfl rfl xS hoff hx kx) ?_)
    | (refine ek_add ?_; refine EK_ev (Ev_addI_v (r := ((i + 1 : Nat) : Int)) rfl rfl (by omega) (by omega)) ?_)
    | (refine ek_lss ?_; refine EK_ev (Ev_lssI_q rfl rfl ql) ?_)
    | refine xst ?_
    | (refine xsa ?_; intro _)
    | (refine xsb ?_ ?_ <;> intro _ <;> first | (exfalso; omega) | skip)
    | refine xsc ?_
    | (refine KJ_draws (id := 12) (.op 0 (.op 1 (.op 2 (.op 3 (.op 4 (.op 5 (.op 6 (.op 7 (.op 8 (.op 9 (.op 10 (.op 11 (.op 12 (.op 13 (.op 14 (.op 15 (.op 16 .nil))))))))))))))))) (by kernel_rfl) (by kernel_rfl) ?_)
    | refine FW_alt ?_ ?_
    | refine FW_efn rfl rfl rfl rfl rfl ?_ ?_
    | refine KJ_flow ?_ ?_
    | exact Rech.nil
    | fail)
    all_goals refine KJ_again ⟨(i + 1, L ++ l, a1, c1), hlt, hcn.symm⟩ (by show ls.length - (i + 1) < ls.length - i; omega) xB (xN)
  have ql : decide ((i : Int) < (ls.length : Nat)) = false := decide_eq_false (by omega)
  rw [List.take_of_length_le (by omega)] at hL
  rw [← hL] at hl hamt hO her
  refine KJ.lsOpen (v := .slice xa L.length xc) xS (fun a' c' hv hle => ?_)
  cases hv
  have cs := dsorted_ct (W := W) L.length (lsP legC 55 2 (.slice xa L.length xc) L) xa xc L (Nat.le_refl _) hle hl (Lv.own enc_leg rfl)
  have hMl := srt_len L
  have hMm : ∀ x ∈ srtL L, -9223372036854775808 ≤ x.amt ∧ x.amt ≤ 9223372036854775807 := fun x hx => hamt x ((srt_perm L).mem_iff.1 hx)
  have hmp : mergeP L = mergeG (srtL L) := rfl
  obtain ⟨M, hM⟩ : ∃ M, M = srtL L := ⟨_, rfl⟩
  rw [← hM] at cs hMl hMm hmp
  rw [← hMl] at hl
  clear hM
  repeat' (first 
    | (refine is_call ?_; refine KJ_call xE cs xP rfl (fun xm => ?_); refine hold ?_)
    | (refine ek_lss ?_; refine EK_ev (Ev_lssI_q rfl rfl ql) ?_)
    | refine xst ?_
    | (refine xsa ?_; intro _)
    | (refine xsb ?_ ?_ <;> intro _ <;> first | (exfalso; omega) | skip)
    | refine xsc ?_
    | (refine KJ_draws (id := 12) (.op 0 (.op 1 (.op 2 (.op 3 (.op 4 (.op 5 (.op 6 (.op 7 (.op 8 (.op 9 (.op 10 (.op 11 (.op 12 (.op 13 (.op 14 (.op 15 (.op 16 .nil))))))))))))))))) (by kernel_rfl) (by kernel_rfl) ?_)
    | refine FW_alt ?_ ?_
    | refine FW_efn rfl rfl rfl rfl rfl ?_ ?_
    | refine KJ_flow ?_ ?_
    | exact Rech.nil
    | fail)
  refine Hold.mk ?_
  obtain ⟨ma, mc⟩ := xm
  dsimp only
  repeat' (first 
    | refine xst ?_
    | (refine xsa ?_; intro _)
    | (refine xsb ?_ ?_ <;> intro _ <;> first | (exfalso; omega) | skip)
    | refine xsc ?_
    | (refine KJ_draws (id := 12) (.op 0 (.op 1 (.op 2 (.op 3 (.op 4 (.op 5 (.op 6 (.op 7 (.op 8 (.op 9 (.op 10 (.op 11 (.op 12 (.op 13 (.op 14 (.op 15 (.op 16 .nil))))))))))))))))) (by kernel_rfl) (by kernel_rfl) ?_)
    | refine FW_alt ?_ ?_
    | refine FW_efn rfl rfl rfl rfl rfl ?_ ?_
    | refine KJ_flow ?_ ?_
    | exact Rech.nil
    | fail)
  refine KJ.nilrow 55 2 ?_
  refine KJ_loop (fun x : {x : Nat × List Leg × Option Addr × Nat // x.1 ≤ L.length ∧ x.2.1.length ≤ x.1 ∧ mergeG M = (mergeG (M.drop x.1)).map (x.2.1 ++ ·)} => [(4, .slice ma L.length mc), (6, .slice x.1.2.2.1 x.1.2.1.length x.1.2.2.2), (7, .int .i64 (x.1.1 : Nat))])
    (fun x => [lsP legC 55 2 (.slice x.1.2.2.1 x.1.2.1.length x.1.2.2.2) x.1.2.1, lsP legC 55 2 (.slice ma L.length mc) M, T] ++ R) (fun x => L.length - x.1.1) ⟨(0, [], none, 0), Nat.zero_le _, Nat.le_refl _, by rw [List.drop_zero]; show _ = (mergeG M).map (fun o => [] ++ o); simp⟩ xB (xN) (fun ⟨(i, out, oa, oc), hi, hol, hmg⟩ => ?_)
  dsimp only at hi hol hmg ⊢
  by_cases hlt : i < L.length
  rotate_left
  · have q2 : decide ((i : Int) < (L.length : Nat)) = false := decide_eq_false (by omega)
    rw [List.drop_of_length_le (by omega), mergeG_nil] at hmg
    have hme : mergeP L = some out := by rw [hmp, hmg]; show some (out ++ []) = _; rw [List.append_nil]
    have hO2 : O = out := by rw [hO]; unfold mrgO; rw [hme]; rfl
    have he2 : er = 0 := by rw [her]; unfold mrgE; rw [hme]; rfl
    subst hO2
    subst he2
    repeat' (first 
    | (refine ek_lss ?_; refine EK_ev (Ev_lssI_q rfl rfl q2) ?_)
    | refine xst ?_
    | (refine xsa ?_; intro _)
    | (refine xsb ?_ ?_ <;> intro _ <;> first | (exfalso; omega) | skip)
    | refine xsc ?_
    | (refine KJ_draws (id := 12) (.op 0 (.op 1 (.op 2 (.op 3 (.op 4 (.op 5 (.op 6 (.op 7 (.op 8 (.op 9 (.op 10 (.op 11 (.op 12 (.op 13 (.op 14 (.op 15 (.op 16 .nil))))))))))))))))) (by kernel_rfl) (by kernel_rfl) ?_)
    | refine FW_alt ?_ ?_
    | refine FW_efn rfl rfl rfl rfl rfl ?_ ?_
    | refine KJ_flow ?_ ?_
    | exact Rech.nil
    | fail)
    all_goals (exact xdn (oa, oc))
  have q2 : decide ((i : Int) < (L.length : Nat)) = true := decide_eq_true (by omega)
  obtain ⟨x, hx⟩ : ∃ s, M[i]? = some s := ⟨_, List.getElem?_eq_getElem (by omega)⟩
  have kx : (legC x)[0]? = some (strV x.acc) := rfl
  repeat' (first 
    | (refine ek_lss ?_; refine EK_ev (Ev_lssI_q rfl rfl q2) ?_)
    | refine xst ?_
    | (refine xsa ?_; intro _)
    | (refine xsb ?_ ?_ <;> intro _ <;> first | (exfalso; omega) | skip)
    | refine xsc ?_
    | (refine KJ_draws (id := 12) (.op 0 (.op 1 (.op 2 (.op 3 (.op 4 (.op 5 (.op 6 (.op 7 (.op 8 (.op 9 (.op 10 (.op 11 (.op 12 (.op 13 (.op 14 (.op 15 (.op 16 .nil))))))))))))))))) (by kernel_rfl) (by kernel_rfl) ?_)
    | refine FW_alt ?_ ?_
    | refine FW_efn rfl rfl rfl rfl rfl ?_ ?_
    | refine KJ_flow ?_ ?_
    | exact Rech.nil
    | fail)
  refine KJ.nilrow 2 1 ?_
  refine KJ_loop (fun y : {y : Nat × List Int × Option Addr × Nat // i ≤ y.1 ∧ y.1 ≤ L.length ∧ y.2.1 = grpA M i y.1 ∧ y.2.1.length = y.1 - i ∧ ∀ j z, i ≤ j → j < y.1 → M[j]? = some z → z.acc = x.acc} => [(4, .slice ma L.length mc), (6, .slice oa out.length oc), (7, .int .i64 (i : Nat)), (8, .slice y.1.2.2.1 y.1.2.1.length y.1.2.2.2), (9, .int .i64 (y.1.1 : Nat))])
    (fun y => [lsP i64C 2 1 (.slice y.1.2.2.1 y.1.2.1.length y.1.2.2.2) y.1.2.1, lsP legC 55 2 (.slice oa out.length oc) out, lsP legC 55 2 (.slice ma L.length mc) M, T] ++ R) (fun y => L.length - y.1.1) ⟨(i, [], none, 0), Nat.le_refl _, hi, (grpA_zero M i).symm, by simp, fun j z h1 h2 => by omega⟩ xB (xN) (fun ⟨(k, A, aa, ac), hik, hk, hA, hAl, hall⟩ => ?_)
  dsimp only at hik hk hA hAl hall ⊢
  refine KJ.lsSome (a := ma) (l := M) xS (by omega) (fun gm hgm => ?_)
  subst hgm
  have o0 : 0 + Int.toNat (i : Int) * 2 + 0 = i * 2 + 0 := by simp
  by_cases hgo : ∃ y, M[k]? = some y ∧ y.acc = x.acc
  · obtain ⟨y, hy, hya⟩ := hgo
    have hkl : k < L.length := by have := (List.getElem?_eq_some_iff.1 hy).1; omega
    have q3 : decide ((k : Int) < (L.length : Nat)) = true := decide_eq_true (by omega)
    have ky : (legC y)[0]? = some (strV y.acc) := rfl
    have ky1 : (legC y)[1]? = some (.int .i64 y.amt) := rfl
    have p0 : 0 + Int.toNat (k : Int) * 2 + 0 = k * 2 + 0 := by simp
    have p1 : 0 + Int.toNat (k : Int) * 2 + 1 = k * 2 + 1 := by simp
    have b1 : (A.length + 1) * 8 ≤ 140737488355328 := by omega
    have b2 : A.length + 1 ≤ 9223372036854775807 := by omega
    have hnA := grpA_next hik hy
    rw [← hA] at hnA
    have hnall : ∀ j z, i ≤ j → j < k + 1 → M[j]? = some z → z.acc = x.acc := fun j z h1 h2 h3 => by
      by_cases e : j = k
      · subst e
        rw [hy] at h3
        cases h3
        exact hya
      · exact hall j z h1 (by omega) h3
    repeat' (first 
    | (refine is_append ?_; refine KJ_appOne (a := y.amt) i64C_ok rfl rfl rfl xS xS b1 b2 rfl (fun g1 c1 => ?_))
    | (refine is_bslice ?_; refine KJ_bslice1 rfl xF (by rfl) (by omega) rfl (fun gb => ?_))
    | (refine ek_load ?_; first | refine EK_ev (Ev_loadLsF enc_leg rfl xS hMl.symm p1 hy ky1) ?_ | refine EK_ev (Ev_loadLsF enc_leg rfl xS hMl.symm p0 hy ky) ?_ | refine EK_ev (Ev_loadLsF enc_leg rfl xS hMl.symm o0 hx kx) ?_)
    | (refine ek_add ?_; refine EK_ev (Ev_addI_v (r := ((k + 1 : Nat) : Int)) rfl rfl (by omega) (by omega)) ?_)
    | (refine ek_eql ?_; refine EK_ev (Ev_eqlS_t rfl rfl hya) ?_)
    | (refine ek_lss ?_; refine EK_ev (Ev_lssI_q rfl rfl q3) ?_)
    | refine xst ?_
    | (refine xsa ?_; intro _)
    | (refine xsb ?_ ?_ <;> intro _ <;> first | (exfalso; omega) | skip)
    | refine xsc ?_
    | (refine KJ_draws (id := 12) (.op 0 (.op 1 (.op 2 (.op 3 (.op 4 (.op 5 (.op 6 (.op 7 (.op 8 (.op 9 (.op 10 (.op 11 (.op 12 (.op 13 (.op 14 (.op 15 (.op 16 .nil))))))))))))))))) (by kernel_rfl) (by kernel_rfl) ?_)
    | refine FW_alt ?_ ?_
    | refine FW_efn rfl rfl rfl rfl rfl ?_ ?_
    | refine KJ_flow ?_ ?_
    | exact Rech.nil
    | fail)
    all_goals refine KJ_again ⟨(k + 1, A ++ [y.amt], some ⟨g1, 0, none⟩, c1), by dsimp only; omega, hkl, hnA.symm, by simp; omega, hnall⟩ (by show L.length - (k + 1) < L.length - k; omega) xB (xN)
  have hik2 : i < k := by
    rcases Nat.lt_or_ge i k with h | h
    · exact h
    · have e : k = i := by omega
      subst e
      exact absurd ⟨x, hx, rfl⟩ hgo
  have hstep := grp_step hx hik2 (by omega) hall (fun y hy q => hgo ⟨y, hy, q⟩)
  rw [← hA] at hstep
  have hAr : ∀ v ∈ A, -9223372036854775808 ≤ v ∧ v ≤ 9223372036854775807 := fun v hv => by
    rw [hA] at hv
    obtain ⟨y, hy, rfl⟩ := List.mem_map.1 hv
    exact hMm y (List.mem_of_mem_take (List.mem_of_mem_drop hy))
  have csum := dsum_ct (W := W) (lsP i64C 2 1 (.slice aa A.length ac) A) aa ac A (Lv.own i64C_ok rfl) (by omega) hAr
  obtain ⟨s, hs⟩ : ∃ s, s = A.sum := ⟨_, rfl⟩
  rw [← hs] at csum hstep
  have hcase : (k < L.length ∧ ∃ y, M[k]? = some y ∧ y.acc ≠ x.acc) ∨ ¬ k < L.length := by
    by_cases h : k < L.length
    · left
      obtain ⟨y, hy⟩ : ∃ s, M[k]? = some s := ⟨_, List.getElem?_eq_getElem (by omega)⟩
      exact ⟨h, y, hy, fun q => hgo ⟨y, hy, q⟩⟩
    · exact .inr h
  rcases hcase with ⟨hkl, y, hy, hne⟩ | hkl
  · have q3 : decide ((k : Int) < (L.length : Nat)) = true := decide_eq_true (by omega)
    have ky : (legC y)[0]? = some (strV y.acc) := rfl
    have p0 : 0 + Int.toNat (k : Int) * 2 + 0 = k * 2 + 0 := by simp
    have hfb : fitsI s = false ∨ fitsI s = true := by cases fitsI s <;> simp
    rcases hfb with hf | hf
    · rw [show fitV s = 0 from if_neg (by rw [hf]; decide), show fitE s = 10 from if_neg (by rw [hf]; decide)] at csum
      rw [hf, if_pos rfl] at hstep
      have hme : mergeP L = none := by rw [hmp]; exact mergeG_none hmg hstep
      have hO2 : O = [] := by rw [hO]; unfold mrgO; rw [hme]; rfl
      have he2 : er = 10 := by rw [her]; unfold mrgE; rw [hme]; rfl
      subst hO2
      subst he2
      have z1 : decide (((10 : Nat) : Int) ≠ 0) = true := rfl
      repeat' (first 
    | (refine is_call ?_; refine KJ_call xE csum xP rfl (fun _ => ?_))
    | (refine ek_load ?_; first | refine EK_ev (Ev_loadLsF enc_leg rfl xS hMl.symm p0 hy ky) ?_ | refine EK_ev (Ev_loadLsF enc_leg rfl xS hMl.symm o0 hx kx) ?_)
    | (refine ek_eql ?_; refine EK_ev (Ev_eqlS_f rfl rfl hne) ?_)
    | (refine ek_neq ?_; refine EK_ev (Ev_neqI_q rfl rfl z1) ?_)
    | (refine ek_lss ?_; refine EK_ev (Ev_lssI_q rfl rfl q3) ?_)
    | refine xst ?_
    | (refine xsa ?_; intro _)
    | (refine xsb ?_ ?_ <;> intro _ <;> first | (exfalso; omega) | skip)
    | refine xsc ?_
    | (refine KJ_draws (id := 12) (.op 0 (.op 1 (.op 2 (.op 3 (.op 4 (.op 5 (.op 6 (.op 7 (.op 8 (.op 9 (.op 10 (.op 11 (.op 12 (.op 13 (.op 14 (.op 15 (.op 16 .nil))))))))))))))))) (by kernel_rfl) (by kernel_rfl) ?_)
    | refine FW_alt ?_ ?_
    | refine FW_efn rfl rfl rfl rfl rfl ?_ ?_
    | refine KJ_flow ?_ ?_
    | exact Rech.nil
    | fail)
      all_goals refine KJ.nilrow 55 2 ?_
      all_goals (exact xdn (none, 0))
    rw [show fitV s = s from if_pos hf, show fitE s = 0 from if_pos hf] at csum
    rw [hf, if_neg (by decide)] at hstep
    have hnx := mergeG_next hmg hstep
    have z1 : decide (((0 : Nat) : Int) ≠ 0) = false := rfl
    by_cases h0 : s = 0
    · rw [if_pos h0] at hnx
      have z2 : decide (s ≠ 0) = false := decide_eq_false (fun q => q h0)
      repeat' (first 
    | (refine is_call ?_; refine KJ_call xE csum xP rfl (fun _ => ?_))
    | (refine ek_load ?_; first | refine EK_ev (Ev_loadLsF enc_leg rfl xS hMl.symm p0 hy ky) ?_ | refine EK_ev (Ev_loadLsF enc_leg rfl xS hMl.symm o0 hx kx) ?_)
    | (refine ek_eql ?_; refine EK_ev (Ev_eqlS_f rfl rfl hne) ?_)
    | (refine ek_neq ?_; first | refine EK_ev (Ev_neqI_q rfl rfl z1) ?_ | refine EK_ev (Ev_neqI_q rfl rfl z2) ?_)
    | (refine ek_lss ?_; refine EK_ev (Ev_lssI_q rfl rfl q3) ?_)
    | refine xst ?_
    | (refine xsa ?_; intro _)
    | (refine xsb ?_ ?_ <;> intro _ <;> first | (exfalso; omega) | skip)
    | refine xsc ?_
    | (refine KJ_draws (id := 12) (.op 0 (.op 1 (.op 2 (.op 3 (.op 4 (.op 5 (.op 6 (.op 7 (.op 8 (.op 9 (.op 10 (.op 11 (.op 12 (.op 13 (.op 14 (.op 15 (.op 16 .nil))))))))))))))))) (by kernel_rfl) (by kernel_rfl) ?_)
    | refine FW_alt ?_ ?_
    | refine FW_efn rfl rfl rfl rfl rfl ?_ ?_
    | refine KJ_flow ?_ ?_
    | exact Rech.nil
    | fail)
      all_goals refine KJ_again ⟨(k, out, oa, oc), by dsimp only; omega, by dsimp only; omega, hnx⟩ (by show L.length - k < L.length - i; omega) xB (xN)
    · rw [if_neg h0] at hnx
      have z2 : decide (s ≠ 0) = true := decide_eq_true h0
      have b1 : (out.length + 1) * 24 ≤ 140737488355328 := by omega
      have b2 : out.length + 1 ≤ 9223372036854775807 := by omega
      obtain ⟨xac, hxac⟩ : ∃ xac, xac = x.acc := ⟨_, rfl⟩
      rw [← hxac] at hnx kx
      repeat' (first 
    | (refine is_call ?_; refine KJ_call xE csum xP rfl (fun _ => ?_))
    | (refine is_append ?_; refine KJ_appOne (a := (⟨xac, s⟩ : Leg)) enc_leg rfl rfl rfl xS xS b1 b2 rfl (fun g1 c1 => ?_))
    | (refine is_bslice ?_; refine KJ_bslice1 rfl xF (by rfl) (by omega) rfl (fun gb => ?_))
    | (refine ek_load ?_; first | refine EK_ev (Ev_loadLsF enc_leg rfl xS hMl.symm p0 hy ky) ?_ | refine EK_ev (Ev_loadLsF enc_leg rfl xS hMl.symm o0 hx kx) ?_)
    | (refine ek_build ?_; refine EK_ev (Ev_build xV xW) ?_)
    | (refine ek_eql ?_; refine EK_ev (Ev_eqlS_f rfl rfl (by rw [hxac]; exact hne)) ?_)
    | (refine ek_neq ?_; first | refine EK_ev (Ev_neqI_q rfl rfl z1) ?_ | refine EK_ev (Ev_neqI_q rfl rfl z2) ?_)
    | (refine ek_lss ?_; refine EK_ev (Ev_lssI_q rfl rfl q3) ?_)
    | refine xst ?_
    | (refine xsa ?_; intro _)
    | (refine xsb ?_ ?_ <;> intro _ <;> first | (exfalso; omega) | skip)
    | refine xsc ?_
    | (refine KJ_draws (id := 12) (.op 0 (.op 1 (.op 2 (.op 3 (.op 4 (.op 5 (.op 6 (.op 7 (.op 8 (.op 9 (.op 10 (.op 11 (.op 12 (.op 13 (.op 14 (.op 15 (.op 16 .nil))))))))))))))))) (by kernel_rfl) (by kernel_rfl) ?_)
    | refine FW_alt ?_ ?_
    | refine FW_efn rfl rfl rfl rfl rfl ?_ ?_
    | refine KJ_flow ?_ ?_
    | exact Rech.nil
    | fail)
      all_goals refine KJ_again ⟨(k, out ++ [⟨xac, s⟩], some ⟨g1, 0, none⟩, c1), by dsimp only; omega, by simp; omega, hnx⟩ (by show L.length - k < L.length - i; omega) xB (xN)
  · have q3 : decide ((k : Int) < (L.length : Nat)) = false := decide_eq_false (by omega)
    have hfb : fitsI s = false ∨ fitsI s = true := by cases fitsI s <;> simp
    rcases hfb with hf | hf
    · rw [show fitV s = 0 from if_neg (by rw [hf]; decide), show fitE s = 10 from if_neg (by rw [hf]; decide)] at csum
      rw [hf, if_pos rfl] at hstep
      have hme : mergeP L = none := by rw [hmp]; exact mergeG_none hmg hstep
      have hO2 : O = [] := by rw [hO]; unfold mrgO; rw [hme]; rfl
      have he2 : er = 10 := by rw [her]; unfold mrgE; rw [hme]; rfl
      subst hO2
      subst he2
      have z1 : decide (((10 : Nat) : Int) ≠ 0) = true := rfl
      repeat' (first 
    | (refine is_call ?_; refine KJ_call xE csum xP rfl (fun _ => ?_))
    | (refine ek_load ?_; refine EK_ev (Ev_loadLsF enc_leg rfl xS hMl.symm o0 hx kx) ?_)
    | (refine ek_neq ?_; refine EK_ev (Ev_neqI_q rfl rfl z1) ?_)
    | (refine ek_lss ?_; refine EK_ev (Ev_lssI_q rfl rfl q3) ?_)
    | refine xst ?_
    | (refine xsa ?_; intro _)
    | (refine xsb ?_ ?_ <;> intro _ <;> first | (exfalso; omega) | skip)
    | refine xsc ?_
    | (refine KJ_draws (id := 12) (.op 0 (.op 1 (.op 2 (.op 3 (.op 4 (.op 5 (.op 6 (.op 7 (.op 8 (.op 9 (.op 10 (.op 11 (.op 12 (.op 13 (.op 14 (.op 15 (.op 16 .nil))))))))))))))))) (by kernel_rfl) (by kernel_rfl) ?_)
    | refine FW_alt ?_ ?_
    | refine FW_efn rfl rfl rfl rfl rfl ?_ ?_
    | refine KJ_flow ?_ ?_
    | exact Rech.nil
    | fail)
      all_goals refine KJ.nilrow 55 2 ?_
      all_goals (exact xdn (none, 0))
    rw [show fitV s = s from if_pos hf, show fitE s = 0 from if_pos hf] at csum
    rw [hf, if_neg (by decide)] at hstep
    have hnx := mergeG_next hmg hstep
    have z1 : decide (((0 : Nat) : Int) ≠ 0) = false := rfl
    by_cases h0 : s = 0
    · rw [if_pos h0] at hnx
      have z2 : decide (s ≠ 0) = false := decide_eq_false (fun q => q h0)
      repeat' (first 
    | (refine is_call ?_; refine KJ_call xE csum xP rfl (fun _ => ?_))
    | (refine ek_load ?_; refine EK_ev (Ev_loadLsF enc_leg rfl xS hMl.symm o0 hx kx) ?_)
    | (refine ek_neq ?_; first | refine EK_ev (Ev_neqI_q rfl rfl z1) ?_ | refine EK_ev (Ev_neqI_q rfl rfl z2) ?_)
    | (refine ek_lss ?_; refine EK_ev (Ev_lssI_q rfl rfl q3) ?_)
    | refine xst ?_
    | (refine xsa ?_; intro _)
    | (refine xsb ?_ ?_ <;> intro _ <;> first | (exfalso; omega) | skip)
    | refine xsc ?_
    | (refine KJ_draws (id := 12) (.op 0 (.op 1 (.op 2 (.op 3 (.op 4 (.op 5 (.op 6 (.op 7 (.op 8 (.op 9 (.op 10 (.op 11 (.op 12 (.op 13 (.op 14 (.op 15 (.op 16 .nil))))))))))))))))) (by kernel_rfl) (by kernel_rfl) ?_)
    | refine FW_alt ?_ ?_
    | refine FW_efn rfl rfl rfl rfl rfl ?_ ?_
    | refine KJ_flow ?_ ?_
    | exact Rech.nil
    | fail)
      all_goals refine KJ_again ⟨(k, out, oa, oc), by dsimp only; omega, by dsimp only; omega, hnx⟩ (by show L.length - k < L.length - i; omega) xB (xN)
    · rw [if_neg h0] at hnx
      have z2 : decide (s ≠ 0) = true := decide_eq_true h0
      have b1 : (out.length + 1) * 24 ≤ 140737488355328 := by omega
      have b2 : out.length + 1 ≤ 9223372036854775807 := by omega
      obtain ⟨xac, hxac⟩ : ∃ xac, xac = x.acc := ⟨_, rfl⟩
      rw [← hxac] at hnx kx
      repeat' (first 
    | (refine is_call ?_; refine KJ_call xE csum xP rfl (fun _ => ?_))
    | (refine is_append ?_; refine KJ_appOne (a := (⟨xac, s⟩ : Leg)) enc_leg rfl rfl rfl xS xS b1 b2 rfl (fun g1 c1 => ?_))
    | (refine is_bslice ?_; refine KJ_bslice1 rfl xF (by rfl) (by omega) rfl (fun gb => ?_))
    | (refine ek_load ?_; refine EK_ev (Ev_loadLsF enc_leg rfl xS hMl.symm o0 hx kx) ?_)
    | (refine ek_build ?_; refine EK_ev (Ev_build xV xW) ?_)
    | (refine ek_neq ?_; first | refine EK_ev (Ev_neqI_q rfl rfl z1) ?_ | refine EK_ev (Ev_neqI_q rfl rfl z2) ?_)
    | (refine ek_lss ?_; refine EK_ev (Ev_lssI_q rfl rfl q3) ?_)
    | refine xst ?_
    | (refine xsa ?_; intro _)
    | (refine xsb ?_ ?_ <;> intro _ <;> first | (exfalso; omega) | skip)
    | refine xsc ?_
    | (refine KJ_draws (id := 12) (.op 0 (.op 1 (.op 2 (.op 3 (.op 4 (.op 5 (.op 6 (.op 7 (.op 8 (.op 9 (.op 10 (.op 11 (.op 12 (.op 13 (.op 14 (.op 15 (.op 16 .nil))))))))))))))))) (by kernel_rfl) (by kernel_rfl) ?_)
    | refine FW_alt ?_ ?_
    | refine FW_efn rfl rfl rfl rfl rfl ?_ ?_
    | refine KJ_flow ?_ ?_
    | exact Rech.nil
    | fail)
      all_goals refine KJ_again ⟨(k, out ++ [⟨xac, s⟩], some ⟨g1, 0, none⟩, c1), by dsimp only; omega, by simp; omega, hnx⟩ (by show L.length - k < L.length - i; omega) xB (xN)
end
end Go.Proofs.YtdbfemdpdpaffaaGreatDoor
