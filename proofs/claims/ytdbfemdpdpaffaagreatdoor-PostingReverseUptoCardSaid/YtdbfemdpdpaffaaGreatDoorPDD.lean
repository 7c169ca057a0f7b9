/-
  PoR3.
-/
import Derived.Test.YtdbfemdpdpaffaaGreatDoorPCV
import Derived.Test.YtdbfemdpdpaffaaGreatDoorPDC
/-
  PostingReverse: the walk.
-/
namespace Go.Proofs.YtdbfemdpdpaffaaGreatDoor
open Go Go.RowKit Go.MapKept
section
variable {W : World} {F : Nat → Addr}
theorem preverseV (T : SP) (a : Option Addr) (c : Nat) (p : Pst) (name : List UInt8) (hL : Lv W legC 2 T a p.legs) (hn : p.legs.length ≤ 2000000) {vs : List Value} {n : Nat} {U : List Leg} (hv : pstC p a c = vs) (h1 : p.legs.length = n) (hU : revL p.legs = U) :
    Ct Tryz.prog W 19 [.agg vs.toArray, strV name] [T] (fun x : Option Addr × Nat => .agg #[strV name, .int .i64 p.tick, strV p.note, .slice x.1 n x.2]) (fun x => [T, lsP legC 55 2 (.slice x.1 n x.2) U]) := by
  subst hv h1 hU
  exact preverse_ct T a c p name hL hn
theorem pcheckV (er : PErr W F) (T : SP) (a : Option Addr) (c : Nat) (p : Pst) (hp : PstFit p) (hL : Lv W legC 2 T a p.legs) {vs : List Value} {e : Nat} (hv : pstC p a c = vs) (he : checkE p = e) :
    Ct Tryz.prog W 16 [.agg vs.toArray] [T] (fun _ : Unit => errV F e) (fun _ => [T]) := by
  subst hv he
  exact pcheck_ct er T a c p hp hL
set_option maxHeartbeats 16000000 in
set_option maxRecDepth 20000 in
theorem preverse_law (hE : ErrsOn L37 W F) (a : Option Addr) (c : Nat) (p : Pst) (nm : List UInt8) (fp : PstFit p) (hnm : nm.length ≤ 2000000) (L1 : Lv W legC 2 noP a p.legs) :
    Ct Tryz.prog W 7 [.agg (pstC p a c).toArray, strV nm] [] (fun _ : Unit => .bool true) (fun _ => []) := by
  have er := perr_of hE
  have e10 : W.cell? ⟨4, 0, none⟩ = some (errV F 10) := hE.at_ 10 (by decide)
  have cf := fixed_ct (W := W) (F := F) hE
  have np := fp.legs
  have hrf := rev_fit fp hnm
  have hrr := revL_revL fp.amt
  have hVl := revL_len p.legs
  have hget := fun i x => revL_get (l := p.legs) (i := i) (x := x)
  have hrc := fun h => rev_check (p := p) h nm
  have hrm : checkE p = 0 → mrgO (p.legs ++ revL p.legs) = [] ∧ mrgE (p.legs ++ revL p.legs) = 0 := fun h => rev_merge (checkE_zero h).2.2.2.2.2.2
  have hacc := fp.acc
  have hamt := fp.amt
  have hk : p.legs.length ≤ 4611686018427387904 := by omega
  have hracc : ∀ x ∈ revL p.legs, x.acc.length ≤ 2000000 := hrf.acc
  have hramt : ∀ x ∈ revL p.legs, -9223372036854775808 ≤ x.amt ∧ x.amt ≤ 9223372036854775807 := hrf.amt
  have hnf : PstFit ⟨nm, p.tick, p.note, p.legs⟩ := ⟨hnm, fp.tick, fp.note, fp.legs, fp.acc, fp.amt⟩
  obtain ⟨V, hV⟩ : ∃ V, V = revL p.legs := ⟨_, rfl⟩
  have cR1 := preverseV (W := W) noP a c p nm L1 np rfl rfl hV.symm
  rw [← hV] at hrf hrr hVl hget hrc hrm hracc hramt
  have cR2 := fun x1 x2 => preverseV (W := W) (lsP legC 55 2 (.slice x1 p.legs.length x2) V) x1 x2 ⟨nm, p.tick, p.note, V⟩ p.id (Lv.own enc_leg hVl.symm) (by dsimp only; omega) (vs := [strV nm, .int .i64 p.tick, strV p.note, .slice x1 p.legs.length x2]) (n := p.legs.length) (U := p.legs) (by unfold pstC; dsimp only; rw [hVl]) hVl hrr
  have cA := fun y1 y2 => alikeV (W := W) (lsP legC 55 2 (.slice y1 p.legs.length y2) p.legs) noP y1 a y2 c p (Lv.own enc_leg rfl) L1 hk rfl rfl
  have cC := pcheckV (W := W) (F := F) er noP a c p fp L1 rfl rfl
  obtain ⟨e, he⟩ : ∃ e, e = checkE p := ⟨_, rfl⟩
  rw [← he] at cC
  have cCr := fun x1 x2 => pcheckV (W := W) (F := F) er (lsP legC 55 2 (.slice x1 p.legs.length x2) V) x1 x2 ⟨nm, p.tick, p.note, V⟩ hrf (Lv.own enc_leg hVl.symm) (vs := [strV nm, .int .i64 p.tick, strV p.note, .slice x1 p.legs.length x2]) (by unfold pstC; dsimp only; rw [hVl]) rfl
  have cCn := pcheckV (W := W) (F := F) er noP a c ⟨nm, p.tick, p.note, p.legs⟩ hnf L1 rfl rfl
  have cM := fun (h0 : checkE p = 0) gb x1 x2 => pmergeB (W := W) (F := F) e10 [cellsP gb [.slice a p.legs.length c, .slice x1 p.legs.length x2] 23, lsP legC 55 2 (.slice x1 p.legs.length x2) V] (some ⟨gb, 0, none⟩) 2 [(a, c, p.legs), (x1, x2, V)]
    ((Lv.cells (T := 23) (cs := [.slice a p.legs.length c, .slice x1 p.legs.length x2]) (by show [Value.slice a p.legs.length c, .slice x1 V.length x2] = _; rw [hVl])).bag Sel.here)
    (fun x hx => by
      rcases List.mem_cons.1 hx with rfl | hx
      · exact L1.any
      · rw [List.mem_singleton.1 hx]
        exact (Lv.own enc_leg hVl.symm).bag (Sel.there Sel.here))
    (by simp) (by show (p.legs ++ (V ++ [])).length ≤ _; have := (checkE_zero h0).2.2.2.2.2.1; rw [List.append_nil, List.length_append]; omega)
    (fun x hx => by
      have hx : x ∈ p.legs ++ (V ++ []) := hx
      rw [List.append_nil] at hx
      rcases List.mem_append.1 hx with h | h
      · exact hacc x h
      · exact hracc x h)
    (fun x hx => by
      have hx : x ∈ p.legs ++ (V ++ []) := hx
      rw [List.append_nil] at hx
      rcases List.mem_append.1 hx with h | h
      · exact hamt x h
      · exact hramt x h)
    (O := []) (e := 0) (v := .slice (some ⟨gb, 0, none⟩) 2 2) (by show mrgO (p.legs ++ (V ++ [])) = _; rw [List.append_nil]; exact (hrm h0).1) (by show mrgE (p.legs ++ (V ++ [])) = _; rw [List.append_nil]; exact (hrm h0).2) rfl
  clear hrf hrr hrm hnf
  obtain ⟨id, tick, note, legs⟩ := p
  unfold pstC at cR1 cC cCn cA ⊢
  dsimp only at cR1 cR2 cA cC cCr cCn cM hVl hget hV hrc he np L1 ⊢
  refine Ct.enter Tryz.func7 rfl Tryz.ntmps7 (by simp) (fun R => ?_)
  refine KJ.noP ?_
  repeat' (first 
    | (refine is_alloc ?_; refine KJ_alloc rfl (fun g5 => ?_); refine hold ?_)
    | (refine is_box ?_; refine KJ_box rfl xF rfl (fun g2 => ?_))
    | (refine is_call ?_; first | (refine KJ_call xE cR1 xP rfl (fun x => ?_)) | (refine KJ_call xE cf xP rfl (fun _ => ?_)))
    | refine xst ?_
    | (refine xsa ?_; intro _)
    | (refine xsb ?_ ?_ <;> intro _ <;> first | (exfalso; omega) | skip)
    | refine xsc ?_
    | (refine KJ_draws (id := 10) (.op 0 (.op 1 (.op 2 (.op 3 (.op 4 (.op 5 (.op 6 (.op 7 (.op 8 (.op 9 (.op 10 (.op 11 (.op 12 (.op 13 (.op 14 (.op 15 (.op 16 (.op 17 (.op 18 (.op 19 (.op 20 (.op 21 (.op 22 (.op 23 (.op 24 (.op 25 (.op 26 (.op 27 (.op 28 .nil))))))))))))))))))))))))))))) (by kernel_rfl) (by kernel_rfl) ?_)
    | (refine KJ_draws (id := 17) (.op 0 (.op 3 (.ef 1 [3] (.op 2 (.ef 4 [2] (.op 5 (.op 6 .nil))))))) (by kernel_rfl) (by kernel_rfl) ?_)
    | refine FW_alt ?_ ?_
    | refine FW_efn rfl rfl rfl rfl rfl ?_ ?_
    | refine KJ_flow ?_ ?_
    | exact Rech.nil
    | fail)
  refine Hold.mk ?_
  obtain ⟨xa, xc⟩ := x
  dsimp only
  repeat' (first 
    | (refine is_alloc ?_; refine KJ_alloc rfl (fun g6 => ?_))
    | (refine is_call ?_; first | (refine KJ_call xE (cA _ _) xP rfl (fun _ => ?_)) | (refine KJ_call xE (cR2 _ _) xP rfl (fun y => ?_)))
    | (refine ek_neq ?_; first | refine EK_ev (Ev_neqS_f rfl rfl rfl) ?_ | refine EK_ev (Ev_neqI_f rfl rfl rfl) ?_)
    | refine xst ?_
    | (refine xsa ?_; intro _)
    | (refine xsb ?_ ?_ <;> intro _ <;> first | (exfalso; omega) | skip)
    | refine xsc ?_
    | (refine KJ_draws (id := 10) (.op 0 (.op 1 (.op 2 (.op 3 (.op 4 (.op 5 (.op 6 (.op 7 (.op 8 (.op 9 (.op 10 (.op 11 (.op 12 (.op 13 (.op 14 (.op 15 (.op 16 (.op 17 (.op 18 (.op 19 (.op 20 (.op 21 (.op 22 (.op 23 (.op 24 (.op 25 (.op 26 (.op 27 (.op 28 .nil))))))))))))))))))))))))))))) (by kernel_rfl) (by kernel_rfl) ?_)
    | (refine KJ_draws (id := 17) (.op 0 (.op 3 (.ef 1 [3] (.op 2 (.ef 4 [2] (.op 5 (.op 6 .nil))))))) (by kernel_rfl) (by kernel_rfl) ?_)
    | refine FW_alt ?_ ?_
    | refine FW_efn rfl rfl rfl rfl rfl ?_ ?_
    | refine KJ_flow ?_ ?_
    | exact Rech.nil
    | fail)
  refine KJ_loop (fun x : {i : Nat // i ≤ legs.length} => [(1, strV nm), (2, .pointer (some ⟨g2, 0, none⟩)), (5, .pointer (some ⟨g5, 0, none⟩)), (55, .int .i64 (legs.length : Nat)), (56, .int .i64 (x.1 : Nat))])
    (fun _ => [lsP legC 55 2 (.slice xa legs.length xc) V, noP, cellsP g2 [strV id, .int .i64 tick, strV note, .slice a legs.length c] 25, cellsP g5 [strV nm, .int .i64 tick, strV note, .slice xa legs.length xc] 25] ++ R) (fun x => legs.length - x.1) ⟨0, Nat.zero_le _⟩ xB (xN) (fun ⟨i, hi⟩ => ?_)
  dsimp only at hi ⊢
  by_cases hlt : i < legs.length
  · have ql : decide ((i : Int) < (legs.length : Nat)) = true := decide_eq_true (by omega)
    obtain ⟨⟨acc, amt⟩, hx⟩ : ∃ s, legs[i]? = some s := ⟨_, List.getElem?_eq_getElem hlt⟩
    have hy := hget i _ hx
    refine KJ.lvSome L1 xS (by omega) (fun b0 of hab => ?_)
    subst hab
    refine KJ.lsSome (a := xa) (l := V) xS (by omega) (fun gx hgx => ?_)
    subst hgx
    have o0 : of + Int.toNat (i : Int) * 2 + 0 = of + i * 2 + 0 := by simp
    have o1 : of + Int.toNat (i : Int) * 2 + 1 = of + i * 2 + 1 := by simp
    have r0 : 0 + Int.toNat (i : Int) * 2 + 0 = i * 2 + 0 := by simp
    have r1 : 0 + Int.toNat (i : Int) * 2 + 1 = i * 2 + 1 := by simp
    have k0 : (legC (⟨acc, amt⟩ : Leg))[0]? = some (strV acc) := rfl
    have k1 : (legC (⟨acc, amt⟩ : Leg))[1]? = some (.int .i64 amt) := rfl
    obtain ⟨ng, hng⟩ : ∃ ng, ng = negA amt := ⟨_, rfl⟩
    have w1 : IntKind.i64.wrap (0 - amt) = ng := hng.symm
    dsimp only at hy
    rw [← hng] at hy
    have j0 : (legC (⟨acc, ng⟩ : Leg))[0]? = some (strV acc) := rfl
    have j1 : (legC (⟨acc, ng⟩ : Leg))[1]? = some (.int .i64 ng) := rfl
    repeat' (first 
    | (refine ek_load ?_; first | refine EK_ev (Ev_loadLsF enc_leg rfl xS hVl.symm r1 hy j1) ?_ | refine EK_ev (Ev_loadLsF enc_leg rfl xS hVl.symm r0 hy j0) ?_ | refine EK_ev (Ev_loadLvF enc_leg L1 rfl rfl xS o1 hx k1) ?_ | refine EK_ev (Ev_loadLvF enc_leg L1 rfl rfl xS o0 hx k0) ?_)
    | (refine ek_un ?_; refine EK_ev (Ev_neg_v rfl w1) ?_)
    | (refine ek_add ?_; refine EK_ev (Ev_addI_v (r := ((i + 1 : Nat) : Int)) rfl rfl (by omega) (by omega)) ?_)
    | (refine ek_neq ?_; first | refine EK_ev (Ev_neqS_f rfl rfl rfl) ?_ | refine EK_ev (Ev_neqI_f rfl rfl rfl) ?_)
    | (refine ek_lss ?_; refine EK_ev (Ev_lssI_q rfl rfl ql) ?_)
    | refine xst ?_
    | (refine xsa ?_; intro _)
    | (refine xsb ?_ ?_ <;> intro _ <;> first | (exfalso; omega) | skip)
    | refine xsc ?_
    | (refine KJ_draws (id := 10) (.op 0 (.op 1 (.op 2 (.op 3 (.op 4 (.op 5 (.op 6 (.op 7 (.op 8 (.op 9 (.op 10 (.op 11 (.op 12 (.op 13 (.op 14 (.op 15 (.op 16 (.op 17 (.op 18 (.op 19 (.op 20 (.op 21 (.op 22 (.op 23 (.op 24 (.op 25 (.op 26 (.op 27 (.op 28 .nil))))))))))))))))))))))))))))) (by kernel_rfl) (by kernel_rfl) ?_)
    | (refine KJ_draws (id := 17) (.op 0 (.op 3 (.ef 1 [3] (.op 2 (.ef 4 [2] (.op 5 (.op 6 .nil))))))) (by kernel_rfl) (by kernel_rfl) ?_)
    | refine FW_alt ?_ ?_
    | refine FW_efn rfl rfl rfl rfl rfl ?_ ?_
    | refine KJ_flow ?_ ?_
    | exact Rech.nil
    | fail)
    all_goals refine KJ_again ⟨i + 1, hlt⟩ (by show legs.length - (i + 1) < legs.length - i; omega) xB (xN)
  have ql : decide ((i : Int) < (legs.length : Nat)) = false := decide_eq_false (by omega)
  by_cases h0 : e = 0
  case neg =>
    have hne := errNe (F := F) h0
    repeat' (first 
    | (refine is_call ?_; refine KJ_call xE cC xP rfl (fun _ => ?_))
    | (refine ek_neq ?_; refine EK_ev (Ev_neqNil rfl hne) ?_)
    | (refine ek_lss ?_; refine EK_ev (Ev_lssI_q rfl rfl ql) ?_)
    | refine xst ?_
    | (refine xsa ?_; intro _)
    | (refine xsb ?_ ?_ <;> intro _ <;> first | (exfalso; omega) | skip)
    | refine xsc ?_
    | (refine KJ_draws (id := 10) (.op 0 (.op 1 (.op 2 (.op 3 (.op 4 (.op 5 (.op 6 (.op 7 (.op 8 (.op 9 (.op 10 (.op 11 (.op 12 (.op 13 (.op 14 (.op 15 (.op 16 (.op 17 (.op 18 (.op 19 (.op 20 (.op 21 (.op 22 (.op 23 (.op 24 (.op 25 (.op 26 (.op 27 (.op 28 .nil))))))))))))))))))))))))))))) (by kernel_rfl) (by kernel_rfl) ?_)
    | (refine KJ_draws (id := 17) (.op 0 (.op 3 (.ef 1 [3] (.op 2 (.ef 4 [2] (.op 5 (.op 6 .nil))))))) (by kernel_rfl) (by kernel_rfl) ?_)
    | refine FW_alt ?_ ?_
    | refine FW_efn rfl rfl rfl rfl rfl ?_ ?_
    | refine KJ_flow ?_ ?_
    | exact Rech.nil
    | fail)
    all_goals (exact xdn ())
  obtain ⟨hr1, hr2⟩ := hrc (he.symm.trans h0)
  have cM := cM (he.symm.trans h0)
  subst h0
  rw [hr1] at cCr
  rw [hr2] at cCn
  have hpp : pidOk nm = false ∨ pidOk nm = true := by cases pidOk nm <;> simp
  rcases hpp with hp | hp
  · rw [hp, if_neg (by decide)] at cCr cCn
    have hne := errNe (F := F) (show (26 : Nat) ≠ 0 by decide)
    repeat' (first 
    | (refine is_alloc ?_; refine KJ_alloc rfl (fun g8 => ?_))
    | (refine is_call ?_; first | (refine KJ_call xE (cM _ _ _) xP rfl (fun _ => ?_)) | (refine KJ_call xE cCn xP rfl (fun _ => ?_)) | (refine KJ_call xE (cCr _ _) xP rfl (fun _ => ?_)) | (refine KJ_call xE cC xP rfl (fun _ => ?_)))
    | (refine is_bslice ?_; refine KJ_bsliceN (len := 2) (places := [(0, 1), (1, 1)]) (base := [.slice none 0 0, .slice none 0 0]) xV (by rfl) (by rfl) xW (by omega) rfl (fun gb => ?_))
    | (refine ek_eql ?_; refine EK_ev (Ev_eqlNil rfl hne) ?_)
    | (refine ek_neq ?_; refine EK_ev (Ev_neqBw (r := false) rfl rfl rfl) ?_)
    | (refine ek_lss ?_; refine EK_ev (Ev_lssI_q rfl rfl ql) ?_)
    | refine xst ?_
    | (refine xsa ?_; intro _)
    | (refine xsb ?_ ?_ <;> intro _ <;> first | (exfalso; omega) | skip)
    | refine xsc ?_
    | (refine KJ_draws (id := 10) (.op 0 (.op 1 (.op 2 (.op 3 (.op 4 (.op 5 (.op 6 (.op 7 (.op 8 (.op 9 (.op 10 (.op 11 (.op 12 (.op 13 (.op 14 (.op 15 (.op 16 (.op 17 (.op 18 (.op 19 (.op 20 (.op 21 (.op 22 (.op 23 (.op 24 (.op 25 (.op 26 (.op 27 (.op 28 .nil))))))))))))))))))))))))))))) (by kernel_rfl) (by kernel_rfl) ?_)
    | (refine KJ_draws (id := 17) (.op 0 (.op 3 (.ef 1 [3] (.op 2 (.ef 4 [2] (.op 5 (.op 6 .nil))))))) (by kernel_rfl) (by kernel_rfl) ?_)
    | refine FW_alt ?_ ?_
    | refine FW_efn rfl rfl rfl rfl rfl ?_ ?_
    | refine KJ_flow ?_ ?_
    | exact Rech.nil
    | fail)
    all_goals (exact xdn ())
  · rw [hp, if_pos rfl] at cCr cCn
    repeat' (first 
    | (refine is_alloc ?_; refine KJ_alloc rfl (fun g8 => ?_))
    | (refine is_call ?_; first | (refine KJ_call xE (cM _ _ _) xP rfl (fun _ => ?_)) | (refine KJ_call xE cCn xP rfl (fun _ => ?_)) | (refine KJ_call xE (cCr _ _) xP rfl (fun _ => ?_)) | (refine KJ_call xE cC xP rfl (fun _ => ?_)))
    | (refine is_bslice ?_; refine KJ_bsliceN (len := 2) (places := [(0, 1), (1, 1)]) (base := [.slice none 0 0, .slice none 0 0]) xV (by rfl) (by rfl) xW (by omega) rfl (fun gb => ?_))
    | (refine ek_neq ?_; refine EK_ev (Ev_neqBw (r := false) rfl rfl rfl) ?_)
    | (refine ek_lss ?_; refine EK_ev (Ev_lssI_q rfl rfl ql) ?_)
    | refine xst ?_
    | (refine xsa ?_; intro _)
    | (refine xsb ?_ ?_ <;> intro _ <;> first | (exfalso; omega) | skip)
    | refine xsc ?_
    | (refine KJ_draws (id := 10) (.op 0 (.op 1 (.op 2 (.op 3 (.op 4 (.op 5 (.op 6 (.op 7 (.op 8 (.op 9 (.op 10 (.op 11 (.op 12 (.op 13 (.op 14 (.op 15 (.op 16 (.op 17 (.op 18 (.op 19 (.op 20 (.op 21 (.op 22 (.op 23 (.op 24 (.op 25 (.op 26 (.op 27 (.op 28 .nil))))))))))))))))))))))))))))) (by kernel_rfl) (by kernel_rfl) ?_)
    | (refine KJ_draws (id := 17) (.op 0 (.op 3 (.ef 1 [3] (.op 2 (.ef 4 [2] (.op 5 (.op 6 .nil))))))) (by kernel_rfl) (by kernel_rfl) ?_)
    | refine FW_alt ?_ ?_
    | refine FW_efn rfl rfl rfl rfl rfl ?_ ?_
    | refine KJ_flow ?_ ?_
    | exact Rech.nil
    | fail)
    all_goals (exact xdn ())
end
end Go.Proofs.YtdbfemdpdpaffaaGreatDoor
