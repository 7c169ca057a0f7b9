/-
  PoE1.
-/
import Derived.Test.YtdbfemdpdpaffaaGreatDoorPCQ
import Derived.Test.YtdbfemdpdpaffaaGreatDoorPCT
/-
  The document's order of legs (chapter 16): less, sorted.
-/
namespace Go.Proofs.YtdbfemdpdpaffaaGreatDoor
open Go Go.RowKit Go.MapKept
section
variable {P : Program} {W : World} {n d : Nat} {E : Env} {H H' R R' : List SP} {k : KK} {t u e : TypeId} {x y z : Operand} {b off c : Nat} {α : Type} {enc : α → List Value} {sz : Nat}
theorem Lv.pre (K : EncOk enc sz) {A : SP} {a : Option Addr} {l : List α} (h : Lv W enc sz A a l) (i : Nat) : Lv W enc sz A a (l.take i) :=
  ⟨fun w H R hs s hne => by
    obtain ⟨b, o, ha, hr⟩ := h.go w H R hs s (by intro q; subst q; simp at hne)
    exact ⟨b, o, ha, fun j v hj => hr j v (K.take_at hj)⟩⟩
theorem Lv.post (K : EncOk enc sz) {A : SP} {b0 o0 : Nat} {l : List α} (h : Lv W enc sz A (some ⟨b0, o0, none⟩) l) {i : Nat} (hi : i ≤ l.length) : Lv W enc sz A (some ⟨b0, o0 + i * sz, none⟩) (l.drop i) :=
  ⟨fun w H R hs s hne => by
    obtain ⟨b, o, ha, hr⟩ := h.go w H R hs s (by intro q; subst q; simp at hne)
    cases ha
    refine ⟨b0, o0 + i * sz, rfl, fun j v hj => ?_⟩
    have := hr _ v (K.drop_at hi hj)
    rwa [← Nat.add_assoc] at this⟩
theorem Ev_sliceTo_d {j m c s : Nat} {kj : IntKind} (hx : Env.ev E x = some (.slice (some ⟨b, off, none⟩) m c)) (hz : Env.ev E z = some (.int kj ((j : Nat) : Int))) [hu : UIs P t (.slice e)] [hi : SzIs P e s] (hb : j ≤ c) : Ev P W n E H (.slice t x none (some z) none) (.slice (some ⟨b, off, none⟩) j c) := by
  have := Ev_sliceToG (W := W) (n := n) (H := H) (s := s) hx hz (hu := hu) (hi := hi) ⟨by omega, by omega⟩
  rwa [Int.toNat_natCast] at this
theorem Ev_sliceFrom_d {i m c s : Nat} {ki : IntKind} (hx : Env.ev E x = some (.slice (some ⟨b, off, none⟩) m c)) (hy : Env.ev E y = some (.int ki ((i : Nat) : Int))) [hu : UIs P t (.slice e)] [hi : SzIs P e s] (hb : i < m) (hc : m ≤ c) : Ev P W n E H (.slice t x (some y) none none) (.slice (some ⟨b, off + i * s, none⟩) (m - i) (c - i)) := by
  have := Ev_sliceFromG (W := W) (n := n) (H := H) (s := s) hx hy (hu := hu) (hi := hi) ⟨by omega, by omega, hc⟩
  rw [Int.toNat_natCast] at this
  unfold sliceA at this
  rwa [if_neg (by omega)] at this
end
/-- merging by steps -/
theorem merge_l {A B : List Leg} {i j : Nat} {x : Leg} (hx : A[i]? = some x) (hj : B.length ≤ j) : List.merge (A.drop i) (B.drop j) legLe = x :: List.merge (A.drop (i + 1)) (B.drop j) legLe := by
  rw [List.drop_of_length_le hj, List.merge_right, List.merge_right]
  obtain ⟨h, e⟩ := List.getElem?_eq_some_iff.1 hx
  rw [List.drop_eq_getElem_cons h, e]
theorem merge_r {A B : List Leg} {i j : Nat} {y : Leg} (hy : B[j]? = some y) (hi : A.length ≤ i) : List.merge (A.drop i) (B.drop j) legLe = y :: List.merge (A.drop i) (B.drop (j + 1)) legLe := by
  rw [List.drop_of_length_le hi, List.nil_merge, List.nil_merge]
  obtain ⟨h, e⟩ := List.getElem?_eq_some_iff.1 hy
  rw [List.drop_eq_getElem_cons h, e]
theorem merge_a {A B : List Leg} {i j : Nat} {x y : Leg} (hx : A[i]? = some x) (hy : B[j]? = some y) (h : legLt y x = false) : List.merge (A.drop i) (B.drop j) legLe = x :: List.merge (A.drop (i + 1)) (B.drop j) legLe := by
  obtain ⟨h1, e1⟩ := List.getElem?_eq_some_iff.1 hx
  obtain ⟨h2, e2⟩ := List.getElem?_eq_some_iff.1 hy
  rw [List.drop_eq_getElem_cons h1, List.drop_eq_getElem_cons h2, List.cons_merge_cons, if_pos (by unfold legLe; rw [e1, e2, h]; rfl), e1]
theorem merge_b {A B : List Leg} {i j : Nat} {x y : Leg} (hx : A[i]? = some x) (hy : B[j]? = some y) (h : legLt y x = true) : List.merge (A.drop i) (B.drop j) legLe = y :: List.merge (A.drop i) (B.drop (j + 1)) legLe := by
  obtain ⟨h1, e1⟩ := List.getElem?_eq_some_iff.1 hx
  obtain ⟨h2, e2⟩ := List.getElem?_eq_some_iff.1 hy
  rw [List.drop_eq_getElem_cons h1, List.drop_eq_getElem_cons h2, List.cons_merge_cons, if_neg (by unfold legLe; rw [e1, e2, h]; decide), e2]
section
variable {W : World}
theorem dless_ct (x y : Leg) : Ct Tryz.prog W 72 [.agg (legC x).toArray, .agg (legC y).toArray] [] (fun _ : Unit => .bool (legLt x y)) (fun _ => []) := by
  obtain ⟨a1, m1⟩ := x
  obtain ⟨a2, m2⟩ := y
  unfold legC legLt
  dsimp only
  by_cases h : a1 = a2
  · rw [if_pos h]
    refine Ct.enter Tryz.func72 rfl Tryz.ntmps72 (by simp) (fun R => ?_)
    repeat' (first 
    | (refine is_box ?_; refine KJ_box rfl xF rfl (fun g => ?_))
    | (refine ek_neq ?_; refine EK_ev (Ev_neqS_f rfl rfl h) ?_)
    | refine xst ?_
    | (refine xsa ?_; intro _)
    | (refine xsb ?_ ?_ <;> intro _ <;> first | (exfalso; omega) | skip)
    | refine xsc ?_
    | fail)
    all_goals (exact xdn ())
  · rw [if_neg h]
    refine Ct.enter Tryz.func72 rfl Tryz.ntmps72 (by simp) (fun R => ?_)
    repeat' (first 
    | (refine is_box ?_; refine KJ_box rfl xF rfl (fun g => ?_))
    | (refine ek_neq ?_; refine EK_ev (Ev_neqS_t rfl rfl h) ?_)
    | (refine ek_lss ?_; refine EK_ev (Ev_lssS_q rfl rfl rfl) ?_)
    | refine xst ?_
    | (refine xsa ?_; intro _)
    | (refine xsb ?_ ?_ <;> intro _ <;> first | (exfalso; omega) | skip)
    | refine xsc ?_
    | fail)
    all_goals (exact xdn ())
set_option maxHeartbeats 8000000 in
theorem dsorted_ct : ∀ (N : Nat) (A : SP) (a : Option Addr) (c : Nat) (l : List Leg), l.length ≤ N → l.length ≤ c → l.length ≤ 2199023255552 → Lv W legC 2 A a l →
    Ct Tryz.prog W 44 [.slice a l.length c] [A] (fun x : Option Addr × Nat => .slice x.1 l.length x.2) (fun x => [A, lsP legC 55 2 (.slice x.1 l.length x.2) (srtL l)]) := by
  intro N
  induction N with
  | zero =>
    intro A a c l hN hc hl hL
    have e : l = [] := List.length_eq_zero_iff.1 (by omega)
    subst e
    have b1 : (([] : List Leg).length + ([] : List Leg).length) * 24 ≤ 140737488355328 := by decide
    have b2 : ([] : List Leg).length + ([] : List Leg).length ≤ 9223372036854775807 := by decide
    have q2 : decide ((((([] : List Leg).length : Nat)) : Int) < 2) = true := by decide
    rw [srt_small (by decide)]
    refine Ct.enter Tryz.func44 rfl Tryz.ntmps44 (by simp) (fun R => ?_)
    refine KJ.lvOpen hL xS (fun b0 o0 hab => ?_)
    repeat' (first 
    | (refine is_append ?_; refine KJ_appAll (l := ([] : List Leg)) (l2 := ([] : List Leg)) enc_leg rfl rfl rfl rfl xS (Src.lv hL hab xS) b1 b2 rfl (fun a1 c1 => ?_))
    | (refine is_bslice ?_; refine KJ_bslice0 rfl (fun g0 => ?_))
    | (refine ek_lss ?_; refine EK_ev (Ev_lssI_q rfl rfl q2) ?_)
    | refine xst ?_
    | (refine xsa ?_; intro _)
    | (refine xsb ?_ ?_ <;> intro _ <;> first | (exfalso; omega) | skip)
    | refine xsc ?_
    | (refine KJ_draws (id := 8) (.op 0 (.op 1 (.op 2 (.op 3 (.op 4 (.op 5 (.op 6 (.op 7 (.op 8 (.op 9 (.op 10 (.op 11 (.op 12 (.op 13 (.op 14 (.op 15 (.op 16 (.op 17 (.ef 18 [] (.op 19 (.op 20 (.op 21 .nil)))))))))))))))))))))) (by kernel_rfl) (by kernel_rfl) ?_)
    | refine FW_alt ?_ ?_
    | refine FW_efn rfl rfl rfl rfl rfl ?_ ?_
    | refine KJ_flow ?_ ?_
    | exact Rech.nil
    | fail)
    all_goals (exact xdn (a1, c1))
  | succ N ih =>
    intro A a c l hN hc hl hL
    by_cases h2 : l.length < 2
    · have b1 : (([] : List Leg).length + l.length) * 24 ≤ 140737488355328 := by simp; omega
      have b2 : ([] : List Leg).length + l.length ≤ 9223372036854775807 := by simp; omega
      have q2 : decide (((l.length : Nat) : Int) < 2) = true := decide_eq_true (by omega)
      rw [srt_small h2]
      refine Ct.enter Tryz.func44 rfl Tryz.ntmps44 (by simp) (fun R => ?_)
      refine KJ.lvOpen hL xS (fun b0 o0 hab => ?_)
      repeat' (first 
    | (refine is_append ?_; refine KJ_appAll (l := ([] : List Leg)) (l2 := l) enc_leg rfl rfl rfl rfl xS (Src.lv hL hab xS) b1 b2 rfl (fun a1 c1 => ?_))
    | (refine is_bslice ?_; refine KJ_bslice0 rfl (fun g0 => ?_))
    | (refine ek_lss ?_; refine EK_ev (Ev_lssI_q rfl rfl q2) ?_)
    | refine xst ?_
    | (refine xsa ?_; intro _)
    | (refine xsb ?_ ?_ <;> intro _ <;> first | (exfalso; omega) | skip)
    | refine xsc ?_
    | (refine KJ_draws (id := 8) (.op 0 (.op 1 (.op 2 (.op 3 (.op 4 (.op 5 (.op 6 (.op 7 (.op 8 (.op 9 (.op 10 (.op 11 (.op 12 (.op 13 (.op 14 (.op 15 (.op 16 (.op 17 (.ef 18 [] (.op 19 (.op 20 (.op 21 .nil)))))))))))))))))))))) (by kernel_rfl) (by kernel_rfl) ?_)
    | refine FW_alt ?_ ?_
    | refine FW_efn rfl rfl rfl rfl rfl ?_ ?_
    | refine KJ_flow ?_ ?_
    | exact Rech.nil
    | fail)
      all_goals (exact xdn (a1, c1))
    have q2 : decide (((l.length : Nat) : Int) < 2) = false := decide_eq_false (by omega)
    obtain ⟨m, hm⟩ : ∃ m, m = l.length / 2 := ⟨_, rfl⟩
    have hq : ((l.length : Nat) : Int) / 2 = ((m : Nat) : Int) := by rw [hm]; omega
    have hm1 : 0 < m := by omega
    have hm2 : m < l.length := by omega
    have hsp := srt_big h2
    rw [← hm] at hsp
    obtain ⟨n, hn⟩ : ∃ n, n = l.length := ⟨_, rfl⟩
    have t1 : (l.take m).length = m := by rw [List.length_take]; omega
    have t2 : (l.drop m).length = n - m := by rw [List.length_drop, hn]
    have c1 := fun b o (h : a = some ⟨b, o, none⟩) => ih A (some ⟨b, o, none⟩) c (l.take m) (by omega) (by omega) (by omega) (h ▸ hL.pre enc_leg m)
    have c2 := fun b o (h : a = some ⟨b, o, none⟩) => ih A (some ⟨b, o + m * 2, none⟩) (c - m) (l.drop m) (by omega) (by omega) (by omega) ((h ▸ hL : Lv W legC 2 A (some ⟨b, o, none⟩) l).post enc_leg (by omega))
    rw [t1] at c1
    rw [t2] at c2
    have s1 := srt_len (l.take m)
    have s2 := srt_len (l.drop m)
    rw [t1] at s1
    rw [t2] at s2
    obtain ⟨PA, hPA⟩ : ∃ PA, PA = srtL (l.take m) := ⟨_, rfl⟩
    obtain ⟨PB, hPB⟩ : ∃ PB, PB = srtL (l.drop m) := ⟨_, rfl⟩
    obtain ⟨M, hM⟩ : ∃ M, M = srtL l := ⟨_, rfl⟩
    rw [← hPA] at c1 s1 hsp
    rw [← hPB] at c2 s2 hsp
    rw [← hM] at hsp ⊢
    have hMl : n = M.length := by rw [hM, srt_len, hn]
    rw [← hn] at hN hc hl q2 hq hm2 ⊢
    clear hM hPA hPB hn hm
    subst hMl
    refine Ct.enter Tryz.func44 rfl Tryz.ntmps44 (by simp) (fun R => ?_)
    refine KJ.lvSome hL xS (by omega) (fun b0 of hab => ?_)
    have d1 := c1 b0 of hab
    have d2 := c2 b0 of hab
    clear c1 c2
    subst hab
    repeat' (first 
    | (refine is_call ?_; first | (refine KJ_call xE d2 xP rfl (fun xb => ?_); refine hold ?_) | (refine KJ_call xE d1 xP rfl (fun xa => ?_)))
    | (refine ek_slice ?_; first | refine EK_ev (Ev_sliceFrom_d rfl rfl hm2 hc) ?_ | refine EK_ev (Ev_sliceTo_d rfl rfl (by omega)) ?_)
    | (refine ek_quo ?_; refine EK_ev (Ev_quo_w rfl rfl (by omega) hq) ?_)
    | (refine ek_lss ?_; refine EK_ev (Ev_lssI_q rfl rfl q2) ?_)
    | refine xst ?_
    | (refine xsa ?_; intro _)
    | (refine xsb ?_ ?_ <;> intro _ <;> first | (exfalso; omega) | skip)
    | refine xsc ?_
    | (refine KJ_draws (id := 8) (.op 0 (.op 1 (.op 2 (.op 3 (.op 4 (.op 5 (.op 6 (.op 7 (.op 8 (.op 9 (.op 10 (.op 11 (.op 12 (.op 13 (.op 14 (.op 15 (.op 16 (.op 17 (.ef 18 [] (.op 19 (.op 20 (.op 21 .nil)))))))))))))))))))))) (by kernel_rfl) (by kernel_rfl) ?_)
    | refine FW_alt ?_ ?_
    | refine FW_efn rfl rfl rfl rfl rfl ?_ ?_
    | refine KJ_flow ?_ ?_
    | exact Rech.nil
    | fail)
    refine Hold.mk ?_
    obtain ⟨aa, ac⟩ := xa
    obtain ⟨ba, bc⟩ := xb
    dsimp only
    repeat' (first 
    | refine xst ?_
    | (refine xsa ?_; intro _)
    | (refine xsb ?_ ?_ <;> intro _ <;> first | (exfalso; omega) | skip)
    | refine xsc ?_
    | (refine KJ_draws (id := 8) (.op 0 (.op 1 (.op 2 (.op 3 (.op 4 (.op 5 (.op 6 (.op 7 (.op 8 (.op 9 (.op 10 (.op 11 (.op 12 (.op 13 (.op 14 (.op 15 (.op 16 (.op 17 (.ef 18 [] (.op 19 (.op 20 (.op 21 .nil)))))))))))))))))))))) (by kernel_rfl) (by kernel_rfl) ?_)
    | refine FW_alt ?_ ?_
    | refine FW_efn rfl rfl rfl rfl rfl ?_ ?_
    | refine KJ_flow ?_ ?_
    | exact Rech.nil
    | fail)
    refine KJ.nilrow 55 2 ?_
    refine KJ_loop (fun x : {x : Nat × Nat × List Leg × Option Addr × Nat // x.1 ≤ m ∧ x.2.1 ≤ M.length - m ∧ x.2.2.1.length = x.1 + x.2.1 ∧ x.2.2.1 ++ List.merge (PA.drop x.1) (PB.drop x.2.1) legLe = M} => [(3, .slice aa m ac), (4, .slice ba (M.length - m) bc), (5, .slice x.1.2.2.2.1 x.1.2.2.1.length x.1.2.2.2.2), (6, .int .i64 (x.1.1 : Nat)), (7, .int .i64 (x.1.2.1 : Nat))])
      (fun x => [lsP legC 55 2 (.slice x.1.2.2.2.1 x.1.2.2.1.length x.1.2.2.2.2) x.1.2.2.1, A, lsP legC 55 2 (.slice aa m ac) PA, lsP legC 55 2 (.slice ba (M.length - m) bc) PB] ++ R) (fun x => M.length - (x.1.1 + x.1.2.1)) ⟨(0, 0, [], none, 0), Nat.zero_le _, Nat.zero_le _, rfl, by rw [List.nil_append]; exact hsp.symm⟩ xB (xN) (fun ⟨(i, j, L, la, lc), hi, hj, hLl, hLm⟩ => ?_)
    dsimp only at hi hj hLl hLm ⊢
    have b1 : (L.length + 1) * 24 ≤ 140737488355328 := by omega
    have b2 : L.length + 1 ≤ 9223372036854775807 := by omega
    by_cases hli : i < m
    · have qi : decide (((i : Nat) : Int) < ((m : Nat) : Int)) = true := decide_eq_true (by omega)
      obtain ⟨x, hx⟩ : ∃ s, PA[i]? = some s := ⟨_, List.getElem?_eq_getElem (by omega)⟩
      refine KJ.lsSome (a := aa) (l := PA) xS (by omega) (fun ga hga => ?_)
      subst hga
      have ho1 : 0 + Int.toNat (i : Int) * 2 = i * 2 := by simp
      by_cases hlj : j < M.length - m
      · have qj : decide (((M.length - m : Nat) : Int) ≤ ((j : Nat) : Int)) = false := decide_eq_false (by omega)
        obtain ⟨y, hy⟩ : ∃ s, PB[j]? = some s := ⟨_, List.getElem?_eq_getElem (by omega)⟩
        refine KJ.lsSome (a := ba) (l := PB) xS (by omega) (fun gb hgb => ?_)
        subst hgb
        have ho2 : 0 + Int.toNat (j : Int) * 2 = j * 2 := by simp
        have cl := dless_ct (W := W) y x
        have hbb : legLt y x = false ∨ legLt y x = true := by cases legLt y x <;> simp
        rcases hbb with hb | hb
        · rw [hb] at cl
          have hnx : (L ++ [x]) ++ List.merge (PA.drop (i + 1)) (PB.drop j) legLe = M := by rw [← hLm, merge_a hx hy hb, List.append_assoc]; rfl
          repeat' (first 
    | (refine is_call ?_; refine KJ_call xE cl xP rfl (fun _ => ?_))
    | (refine is_append ?_; refine KJ_appOne (a := x) enc_leg rfl rfl rfl xS xS b1 b2 rfl (fun g1 c1 => ?_))
    | (refine is_bslice ?_; refine KJ_bslice1 rfl xF (by rfl) (by omega) rfl (fun gs => ?_))
    | (refine ek_load ?_; first | refine EK_ev (Ev_loadLs enc_leg rfl xS s2.symm ho2 hy) ?_ | refine EK_ev (Ev_loadLs enc_leg rfl xS s1.symm ho1 hx) ?_)
    | (refine ek_add ?_; refine EK_ev (Ev_addI_v (r := ((i + 1 : Nat) : Int)) rfl rfl (by omega) (by omega)) ?_)
    | (refine ek_lss ?_; refine EK_ev (Ev_lssI_q rfl rfl qi) ?_)
    | (refine ek_geq ?_; refine EK_ev (Ev_geqI_q rfl rfl qj) ?_)
    | refine xst ?_
    | (refine xsa ?_; intro _)
    | (refine xsb ?_ ?_ <;> intro _ <;> first | (exfalso; omega) | skip)
    | refine xsc ?_
    | (refine KJ_draws (id := 8) (.op 0 (.op 1 (.op 2 (.op 3 (.op 4 (.op 5 (.op 6 (.op 7 (.op 8 (.op 9 (.op 10 (.op 11 (.op 12 (.op 13 (.op 14 (.op 15 (.op 16 (.op 17 (.ef 18 [] (.op 19 (.op 20 (.op 21 .nil)))))))))))))))))))))) (by kernel_rfl) (by kernel_rfl) ?_)
    | refine FW_alt ?_ ?_
    | refine FW_efn rfl rfl rfl rfl rfl ?_ ?_
    | refine KJ_flow ?_ ?_
    | exact Rech.nil
    | fail)
          all_goals refine KJ_again ⟨(i + 1, j, L ++ [x], some ⟨g1, 0, none⟩, c1), by dsimp only; omega, hj, by simp; omega, hnx⟩ (by show M.length - (i + 1 + j) < M.length - (i + j); omega) xB (xN)
        · rw [hb] at cl
          have hnx : (L ++ [y]) ++ List.merge (PA.drop i) (PB.drop (j + 1)) legLe = M := by rw [← hLm, merge_b hx hy hb, List.append_assoc]; rfl
          repeat' (first 
    | (refine is_call ?_; refine KJ_call xE cl xP rfl (fun _ => ?_))
    | (refine is_append ?_; refine KJ_appOne (a := y) enc_leg rfl rfl rfl xS xS b1 b2 rfl (fun g1 c1 => ?_))
    | (refine is_bslice ?_; refine KJ_bslice1 rfl xF (by rfl) (by omega) rfl (fun gs => ?_))
    | (refine ek_load ?_; first | refine EK_ev (Ev_loadLs enc_leg rfl xS s2.symm ho2 hy) ?_ | refine EK_ev (Ev_loadLs enc_leg rfl xS s1.symm ho1 hx) ?_)
    | (refine ek_add ?_; refine EK_ev (Ev_addI_v (r := ((j + 1 : Nat) : Int)) rfl rfl (by omega) (by omega)) ?_)
    | (refine ek_lss ?_; refine EK_ev (Ev_lssI_q rfl rfl qi) ?_)
    | (refine ek_geq ?_; refine EK_ev (Ev_geqI_q rfl rfl qj) ?_)
    | refine xst ?_
    | (refine xsa ?_; intro _)
    | (refine xsb ?_ ?_ <;> intro _ <;> first | (exfalso; omega) | skip)
    | refine xsc ?_
    | (refine KJ_draws (id := 8) (.op 0 (.op 1 (.op 2 (.op 3 (.op 4 (.op 5 (.op 6 (.op 7 (.op 8 (.op 9 (.op 10 (.op 11 (.op 12 (.op 13 (.op 14 (.op 15 (.op 16 (.op 17 (.ef 18 [] (.op 19 (.op 20 (.op 21 .nil)))))))))))))))))))))) (by kernel_rfl) (by kernel_rfl) ?_)
    | refine FW_alt ?_ ?_
    | refine FW_efn rfl rfl rfl rfl rfl ?_ ?_
    | refine KJ_flow ?_ ?_
    | exact Rech.nil
    | fail)
          all_goals refine KJ_again ⟨(i, j + 1, L ++ [y], some ⟨g1, 0, none⟩, c1), hi, by dsimp only; omega, by simp; omega, hnx⟩ (by show M.length - (i + (j + 1)) < M.length - (i + j); omega) xB (xN)
      · have qj : decide (((M.length - m : Nat) : Int) ≤ ((j : Nat) : Int)) = true := decide_eq_true (by omega)
        have hnx : (L ++ [x]) ++ List.merge (PA.drop (i + 1)) (PB.drop j) legLe = M := by rw [← hLm, merge_l hx (by omega), List.append_assoc]; rfl
        repeat' (first 
    | (refine is_append ?_; refine KJ_appOne (a := x) enc_leg rfl rfl rfl xS xS b1 b2 rfl (fun g1 c1 => ?_))
    | (refine is_bslice ?_; refine KJ_bslice1 rfl xF (by rfl) (by omega) rfl (fun gs => ?_))
    | (refine ek_load ?_; refine EK_ev (Ev_loadLs enc_leg rfl xS s1.symm ho1 hx) ?_)
    | (refine ek_add ?_; refine EK_ev (Ev_addI_v (r := ((i + 1 : Nat) : Int)) rfl rfl (by omega) (by omega)) ?_)
    | (refine ek_lss ?_; refine EK_ev (Ev_lssI_q rfl rfl qi) ?_)
    | (refine ek_geq ?_; refine EK_ev (Ev_geqI_q rfl rfl qj) ?_)
    | refine xst ?_
    | (refine xsa ?_; intro _)
    | (refine xsb ?_ ?_ <;> intro _ <;> first | (exfalso; omega) | skip)
    | refine xsc ?_
    | (refine KJ_draws (id := 8) (.op 0 (.op 1 (.op 2 (.op 3 (.op 4 (.op 5 (.op 6 (.op 7 (.op 8 (.op 9 (.op 10 (.op 11 (.op 12 (.op 13 (.op 14 (.op 15 (.op 16 (.op 17 (.ef 18 [] (.op 19 (.op 20 (.op 21 .nil)))))))))))))))))))))) (by kernel_rfl) (by kernel_rfl) ?_)
    | refine FW_alt ?_ ?_
    | refine FW_efn rfl rfl rfl rfl rfl ?_ ?_
    | refine KJ_flow ?_ ?_
    | exact Rech.nil
    | fail)
        all_goals refine KJ_again ⟨(i + 1, j, L ++ [x], some ⟨g1, 0, none⟩, c1), by dsimp only; omega, hj, by simp; omega, hnx⟩ (by show M.length - (i + 1 + j) < M.length - (i + j); omega) xB (xN)
    have qi : decide (((i : Nat) : Int) < ((m : Nat) : Int)) = false := decide_eq_false (by omega)
    by_cases hlj : j < M.length - m
    · have qj : decide (((M.length - m : Nat) : Int) ≤ ((j : Nat) : Int)) = false := decide_eq_false (by omega)
      have qj2 : decide (((j : Nat) : Int) < ((M.length - m : Nat) : Int)) = true := decide_eq_true (by omega)
      obtain ⟨y, hy⟩ : ∃ s, PB[j]? = some s := ⟨_, List.getElem?_eq_getElem (by omega)⟩
      refine KJ.lsSome (a := ba) (l := PB) xS (by omega) (fun gb hgb => ?_)
      subst hgb
      have ho2 : 0 + Int.toNat (j : Int) * 2 = j * 2 := by simp
      have hnx : (L ++ [y]) ++ List.merge (PA.drop i) (PB.drop (j + 1)) legLe = M := by rw [← hLm, merge_r hy (by omega), List.append_assoc]; rfl
      repeat' (first 
    | (refine is_append ?_; refine KJ_appOne (a := y) enc_leg rfl rfl rfl xS xS b1 b2 rfl (fun g1 c1 => ?_))
    | (refine is_bslice ?_; refine KJ_bslice1 rfl xF (by rfl) (by omega) rfl (fun gs => ?_))
    | (refine ek_load ?_; refine EK_ev (Ev_loadLs enc_leg rfl xS s2.symm ho2 hy) ?_)
    | (refine ek_add ?_; refine EK_ev (Ev_addI_v (r := ((j + 1 : Nat) : Int)) rfl rfl (by omega) (by omega)) ?_)
    | (refine ek_lss ?_; first | refine EK_ev (Ev_lssI_q rfl rfl qj2) ?_ | refine EK_ev (Ev_lssI_q rfl rfl qi) ?_)
    | (refine ek_geq ?_; refine EK_ev (Ev_geqI_q rfl rfl qj) ?_)
    | refine xst ?_
    | (refine xsa ?_; intro _)
    | (refine xsb ?_ ?_ <;> intro _ <;> first | (exfalso; omega) | skip)
    | refine xsc ?_
    | (refine KJ_draws (id := 8) (.op 0 (.op 1 (.op 2 (.op 3 (.op 4 (.op 5 (.op 6 (.op 7 (.op 8 (.op 9 (.op 10 (.op 11 (.op 12 (.op 13 (.op 14 (.op 15 (.op 16 (.op 17 (.ef 18 [] (.op 19 (.op 20 (.op 21 .nil)))))))))))))))))))))) (by kernel_rfl) (by kernel_rfl) ?_)
    | refine FW_alt ?_ ?_
    | refine FW_efn rfl rfl rfl rfl rfl ?_ ?_
    | refine KJ_flow ?_ ?_
    | exact Rech.nil
    | fail)
      all_goals refine KJ_again ⟨(i, j + 1, L ++ [y], some ⟨g1, 0, none⟩, c1), hi, by dsimp only; omega, by simp; omega, hnx⟩ (by show M.length - (i + (j + 1)) < M.length - (i + j); omega) xB (xN)
    have qj2 : decide (((j : Nat) : Int) < ((M.length - m : Nat) : Int)) = false := decide_eq_false (by omega)
    have hLM : M = L := by rw [← hLm, List.drop_of_length_le (by omega), List.drop_of_length_le (by omega), List.nil_merge, List.append_nil]
    subst hLM
    repeat' (first 
    | (refine ek_lss ?_; first | refine EK_ev (Ev_lssI_q rfl rfl qj2) ?_ | refine EK_ev (Ev_lssI_q rfl rfl qi) ?_)
    | refine xst ?_
    | (refine xsa ?_; intro _)
    | (refine xsb ?_ ?_ <;> intro _ <;> first | (exfalso; omega) | skip)
    | refine xsc ?_
    | (refine KJ_draws (id := 8) (.op 0 (.op 1 (.op 2 (.op 3 (.op 4 (.op 5 (.op 6 (.op 7 (.op 8 (.op 9 (.op 10 (.op 11 (.op 12 (.op 13 (.op 14 (.op 15 (.op 16 (.op 17 (.ef 18 [] (.op 19 (.op 20 (.op 21 .nil)))))))))))))))))))))) (by kernel_rfl) (by kernel_rfl) ?_)
    | refine FW_alt ?_ ?_
    | refine FW_efn rfl rfl rfl rfl rfl ?_ ?_
    | refine KJ_flow ?_ ?_
    | exact Rech.nil
    | fail)
    all_goals (exact xdn (la, lc))
end
end Go.Proofs.YtdbfemdpdpaffaaGreatDoor
