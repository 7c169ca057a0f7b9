/-
  BaL7, BaL8.
-/
import Derived.Test.YtehheokalgmbgaaDoorHBP
import Derived.Test.YtehheokalgmbgaaDoorHCH
import Derived.Test.YtehheokalgmbgaaDoorHCI
/-
  The statements of chapter 12: BatchBetween.
-/
namespace Go.Proofs.YtehheokalgmbgaaDoor
open Go Go.RowKit
theorem starL_tail {A : SP} {H : List SP} {g : Hl} (q : starL (A :: H) g) : starL H g := by
  obtain ⟨h1, h2, _, _, l, _, s⟩ := q
  exact starL_le l s
theorem between_len {a b : Rows} (ha : RisR a) (hb : RisR b) : (between a b).length ≤ a.length + b.length := by
  rw [← between_prog ha hb]
  have h1 := normD_len (goes a b ++ comes a b)
  rw [List.length_append] at h1
  have h2 := goes_len a b
  have h3 := comes_len a b
  omega
theorem rise_leq {l : List BOp} (h : Rising BOp.key l) {i : Nat} {x y : BOp} (hx : l[i]? = some x) (hy : l[i + 1]? = some y) : (Op.bytesLess y.key x.key || decide (y.key = x.key)) = false := by
  obtain ⟨h1, e1⟩ := List.getElem?_eq_some_iff.1 hx
  obtain ⟨h2, e2⟩ := List.getElem?_eq_some_iff.1 hy
  have := List.pairwise_iff_getElem.1 h i (i + 1) h1 h2 (by omega)
  rw [e1, e2] at this
  rw [leq_not, this]; rfl
section
variable {W : World}
set_option maxHeartbeats 16000000 in
set_option maxRecDepth 100000 in
theorem between12_ct (v w : Value) (ra rb : Rows) (hv : LsAt W rC 2 v ra) (hw : LsAt W rC 2 w rb) (hl1 : ra.length ≤ 1048576) (hl2 : rb.length ≤ 1048576) : Ct Tryd.prog W 8 [v, w] [] (fun _ : Unit => .bool true) (fun _ => []) := by
  obtain ⟨xa, ca, rfl, -⟩ := id hv
  obtain ⟨xb, cb, rfl, -⟩ := id hw
  have hA := Lv.old rC_ok hv
  have hB := Lv.old rC_ok hw
  have cl := lives12_ct (W := W)
  have cm1 := made_ct (W := W) [] noP xa ca ra hA (by omega)
  have cm2 := fun N => made_ct (W := W) N noP xb cb rb hB (by omega)
  have cRa := rrows_ct (W := W) noP xa ca ra hA (by omega)
  have cRb := rrows_ct (W := W) noP xb cb rb hB (by omega)
  have h1r := ofR_ris ra
  have h2r := ofR_ris rb
  have h1l := ofR_len ra []
  have h2l := ofR_len rb []
  rw [show List.foldl (fun r p => putR r p.1 p.2) [] ra = ofR ra from rfl, List.length_nil] at h1l
  rw [show List.foldl (fun r p => putR r p.1 p.2) [] rb = ofR rb from rfl, List.length_nil] at h2l
  obtain ⟨r1, hr1⟩ : ∃ r, r = ofR ra := ⟨_, rfl⟩
  obtain ⟨r2, hr2⟩ : ∃ r, r = ofR rb := ⟨_, rfl⟩
  rw [← hr1] at h1r h1l cm1 cRa
  rw [← hr2] at h2r h2l cm2 cRb
  have cB : ∀ {T M p q a b}, Tl W T p a → Tl W T q b → TbOk M a r1 → TbOk M b r2 → _ := fun {T M p q a b} t1 t2 h1 h2 => bbetween_ct (W := W) (T := T) (N := M) (p := p) (q := q) (a := a) (b := b) (r := r1) (r2 := r2) t1 t2 h1 h2 (by omega)
  have cB1 : ∀ {T M p a}, Tl W T p a → TbOk M a r1 → Ct Tryd.prog W 27 [.pointer (some ⟨p, 0, none⟩), .pointer (some ⟨p, 0, none⟩)] [T, arP M] (fun x : Option Addr × Nat => .slice x.1 0 x.2) (fun _ => [T, arP M]) := fun {T M p a} t1 h1 => by
    have := bbetween_ct (W := W) (T := T) (N := M) (p := p) (q := p) (a := a) (b := a) (r := r1) (r2 := r1) t1 t1 h1 h1 (by omega)
    rw [between_self h1r] at this
    exact this.conv (fun R g q => q) (fun x R g q => by
      have q2 := starL_perm (List.perm_middle (a := lsP opC 29 3 (.slice x.1 ([] : List BOp).length x.2) []) (l₁ := [T, arP M]) (l₂ := R)) g q
      exact starL_tail q2)
  have cB2 : ∀ {T M p a}, Tl W T p a → TbOk M a r2 → Ct Tryd.prog W 27 [.pointer (some ⟨p, 0, none⟩), .pointer (some ⟨p, 0, none⟩)] [T, arP M] (fun x : Option Addr × Nat => .slice x.1 0 x.2) (fun _ => [T, arP M]) := fun {T M p a} t1 h1 => by
    have := bbetween_ct (W := W) (T := T) (N := M) (p := p) (q := p) (a := a) (b := a) (r := r2) (r2 := r2) t1 t1 h1 h1 (by omega)
    rw [between_self h2r] at this
    exact this.conv (fun R g q => q) (fun x R g q => by
      have q2 := starL_perm (List.perm_middle (a := lsP opC 29 3 (.slice x.1 ([] : List BOp).length x.2) []) (l₁ := [T, arP M]) (l₂ := R)) g q
      exact starL_tail q2)
  have hbl := between_len h1r h2r
  have hbr := between_rising h1r h2r
  have hbm := between_mem h1r h2r
  have hba := between_apply h1r h2r
  have cRB : ∀ ya yb yc yd, Ct Tryd.prog W 28 [.slice ya r1.length yc, .slice yb r2.length yd] [lsP rC 65 2 (.slice ya r1.length yc) r1, lsP rC 65 2 (.slice yb r2.length yd) r2] (fun x : Option Addr × Nat => .slice x.1 (between r1 r2).length x.2) (fun x => [lsP rC 65 2 (.slice ya r1.length yc) r1, lsP rC 65 2 (.slice yb r2.length yd) r2, lsP opC 29 3 (.slice x.1 (between r1 r2).length x.2) (between r1 r2)]) := fun ya yb yc yd =>
    rbetween_ct (W := W) _ _ ya yb yc yd r1 r2 (Lv.own (e := 65) (c := yc) rC_ok rfl) (Lv.own (e := 65) (c := yd) rC_ok rfl) (by omega)
  have cBB : ∀ {M p q a b b1 b2}, TbOk M a r1 → TbOk M b r2 → Ct Tryd.prog W 27 [.pointer (some ⟨p, 0, none⟩), .pointer (some ⟨q, 0, none⟩)] [allP 77 [tbP p a b1, tbP q b b2], arP M] (fun x : Option Addr × Nat => .slice x.1 (between r1 r2).length x.2) (fun x => [allP 77 [tbP p a b1, tbP q b b2], arP M, lsP opC 29 3 (.slice x.1 (between r1 r2).length x.2) (between r1 r2)]) := fun h1 h2 => cB Tl.l Tl.r h1 h2
  obtain ⟨D, hD⟩ : ∃ D, D = between r1 r2 := ⟨_, rfl⟩
  rw [← hD] at hbl hbr hbm hba cRB
  replace cBB : ∀ {M p q a b b1 b2}, TbOk M a r1 → TbOk M b r2 → Ct Tryd.prog W 27 [.pointer (some ⟨p, 0, none⟩), .pointer (some ⟨q, 0, none⟩)] [allP 77 [tbP p a b1, tbP q b b2], arP M] (fun x : Option Addr × Nat => .slice x.1 D.length x.2) (fun x => [allP 77 [tbP p a b1, tbP q b b2], arP M, lsP opC 29 3 (.slice x.1 D.length x.2) D]) := by rw [hD]; exact cBB
  clear cB
  have cSm : ∀ (xa xb : Option Addr) (ca cb : Nat), Ct Tryd.prog W 14 [.slice xa D.length ca, .slice xb D.length cb] [lsP opC 29 3 (.slice xa D.length ca) D, lsP opC 29 3 (.slice xb D.length cb) D] (fun _ : Unit => .bool true) (fun _ => [lsP opC 29 3 (.slice xa D.length ca) D, lsP opC 29 3 (.slice xb D.length cb) D]) := fun xa xb ca cb => by
    have := same_ct (W := W) _ _ xa xb ca cb D D (Lv.own (e := 29) (c := ca) enc_op rfl) (Lv.own (e := 29) (c := cb) enc_op rfl) (by omega)
    rw [decide_eq_true (rfl : D = D)] at this
    exact this
  have cS1 : ∀ (xa xb : Option Addr) (ca cb : Nat), Ct Tryd.prog W 25 [.slice xa r1.length ca, .slice xb r1.length cb] [lsP rC 65 2 (.slice xa r1.length ca) r1, lsP rC 65 2 (.slice xb r1.length cb) r1] (fun _ : Unit => .bool true) (fun _ => [lsP rC 65 2 (.slice xa r1.length ca) r1, lsP rC 65 2 (.slice xb r1.length cb) r1]) := fun xa xb ca cb => by
    have := sameR_ct (W := W) _ _ xa xb ca cb r1 r1 (Lv.own (e := 65) (c := ca) rC_ok rfl) (Lv.own (e := 65) (c := cb) rC_ok rfl) (by omega)
    rw [decide_eq_true (rfl : r1 = r1)] at this
    exact this
  have cS2 : ∀ (xa xb : Option Addr) (ca cb : Nat), Ct Tryd.prog W 25 [.slice xa r2.length ca, .slice xb r2.length cb] [lsP rC 65 2 (.slice xa r2.length ca) r2, lsP rC 65 2 (.slice xb r2.length cb) r2] (fun _ : Unit => .bool true) (fun _ => [lsP rC 65 2 (.slice xa r2.length ca) r2, lsP rC 65 2 (.slice xb r2.length cb) r2]) := fun xa xb ca cb => by
    have := sameR_ct (W := W) _ _ xa xb ca cb r2 r2 (Lv.own (e := 65) (c := ca) rC_ok rfl) (Lv.own (e := 65) (c := cb) rC_ok rfl) (by omega)
    rw [decide_eq_true (rfl : r2 = r2)] at this
    exact this
  have q00 : decide (((0 : Nat) : Int) ≠ 0) = false := rfl
  refine Ct.enter Tryd.func8 rfl Tryd.ntmps8 (by simp) (fun R => ?_)
  refine KJ.arNil ?_
  refine KJ.noP ?_
  repeat' (first 
    | (refine is_call ?_; first | (refine KJ_call xE cm1 xP rfl (fun x => ?_); obtain ⟨⟨p1, N1, a1, b1⟩, g1, t1⟩ := x; dsimp only at g1 t1 ⊢; refine hold ?_) | (refine KJ_call xE cl xP rfl (fun _ => ?_)))
    | refine xst ?_
    | (refine xsa ?_; intro _)
    | (refine xsb ?_ ?_ <;> intro _ <;> first | (exfalso; omega) | skip)
    | refine xsc ?_
    | (refine KJ_draws (id := 15) (.op 0 (.op 1 (.op 2 (.op 3 (.op 4 (.op 5 (.op 6 (.op 7 (.op 8 (.op 9 (.op 10 (.op 11 (.op 12 (.op 13 (.op 14 (.op 15 (.op 16 (.op 17 (.op 18 (.op 19 (.op 20 (.op 21 (.op 22 (.op 23 (.op 24 (.op 25 (.op 26 (.op 27 (.op 28 (.op 29 (.op 30 (.op 31 (.op 32 (.op 33 (.op 34 (.op 35 (.op 36 (.op 37 (.op 38 (.op 39 (.op 40 (.op 41 (.op 42 (.op 43 (.op 44 (.op 45 (.op 46 (.op 47 (.op 48 (.op 49 (.op 50 .nil))))))))))))))))))))))))))))))))))))))))))))))))))) (by kernel_rfl) (by kernel_rfl) ?_)
    | refine FW_alt ?_ ?_
    | refine FW_efn rfl rfl rfl rfl rfl ?_ ?_
    | refine KJ_flow ?_ ?_
    | exact Rech.nil
    | fail)
  refine Hold.mk ?_
  have cm2 := cm2 N1
  repeat' (first 
    | (refine at_seq_region (id := 6) ?_; refine hold ?_)
    | (refine is_call ?_; refine KJ_call xE cm2 xP rfl (fun x => ?_); obtain ⟨⟨p2, N2, a2, b2⟩, g2, t2⟩ := x; dsimp only at g2 t2 ⊢)
    | refine xst ?_
    | (refine xsa ?_; intro _)
    | (refine xsb ?_ ?_ <;> intro _ <;> first | (exfalso; omega) | skip)
    | refine xsc ?_
    | (refine KJ_draws (id := 15) (.op 0 (.op 1 (.op 2 (.op 3 (.op 4 (.op 5 (.op 6 (.op 7 (.op 8 (.op 9 (.op 10 (.op 11 (.op 12 (.op 13 (.op 14 (.op 15 (.op 16 (.op 17 (.op 18 (.op 19 (.op 20 (.op 21 (.op 22 (.op 23 (.op 24 (.op 25 (.op 26 (.op 27 (.op 28 (.op 29 (.op 30 (.op 31 (.op 32 (.op 33 (.op 34 (.op 35 (.op 36 (.op 37 (.op 38 (.op 39 (.op 40 (.op 41 (.op 42 (.op 43 (.op 44 (.op 45 (.op 46 (.op 47 (.op 48 (.op 49 (.op 50 .nil))))))))))))))))))))))))))))))))))))))))))))))))))) (by kernel_rfl) (by kernel_rfl) ?_)
    | refine FW_alt ?_ ?_
    | refine FW_efn rfl rfl rfl rfl rfl ?_ ?_
    | refine KJ_flow ?_ ?_
    | exact Rech.nil
    | fail)
  refine Hold.mk ?_
  have t1 := t1.mono g2
  refine KJ.allShut (L := [tbP p1 a1 b1, tbP p2 a2 b2]) 77 xP ?_
  have cb := cBB (p := p1) (q := p2) (b1 := b1) (b2 := b2) t1 t2
  have c11 := cB1 (T := allP 77 [tbP p1 a1 b1, tbP p2 a2 b2]) Tl.l t1
  have c22 := cB2 (T := allP 77 [tbP p1 a1 b1, tbP p2 a2 b2]) Tl.r t2
  have cr1 := ltrows_ct (W := W) (T := allP 77 [tbP p1 a1 b1, tbP p2 a2 b2]) Tl.l t1 (by omega)
  have cr2 := ltrows_ct (W := W) (T := allP 77 [tbP p1 a1 b1, tbP p2 a2 b2]) Tl.r t2 (by omega)
  have cg1 := fun x => ltget_ct (W := W) (T := allP 77 [tbP p1 a1 b1, tbP p2 a2 b2]) Tl.l t1 x
  have cg2 := fun x => ltget_ct (W := W) (T := allP 77 [tbP p1 a1 b1, tbP p2 a2 b2]) Tl.r t2 x
  obtain ⟨T, hT⟩ : ∃ T, T = allP 77 [tbP p1 a1 b1, tbP p2 a2 b2] := ⟨_, rfl⟩
  rw [← hT] at cb c11 c22 cr1 cr2 cg1 cg2 ⊢
  repeat' (first 
    | (refine at_seq_region (id := 7) ?_; refine hold ?_)
    | (refine is_call ?_; refine KJ_call xE cb xP rfl (fun x => ?_); obtain ⟨xo, co⟩ := x)
    | refine xst ?_
    | (refine xsa ?_; intro _)
    | (refine xsb ?_ ?_ <;> intro _ <;> first | (exfalso; omega) | skip)
    | refine xsc ?_
    | (refine KJ_draws (id := 15) (.op 0 (.op 1 (.op 2 (.op 3 (.op 4 (.op 5 (.op 6 (.op 7 (.op 8 (.op 9 (.op 10 (.op 11 (.op 12 (.op 13 (.op 14 (.op 15 (.op 16 (.op 17 (.op 18 (.op 19 (.op 20 (.op 21 (.op 22 (.op 23 (.op 24 (.op 25 (.op 26 (.op 27 (.op 28 (.op 29 (.op 30 (.op 31 (.op 32 (.op 33 (.op 34 (.op 35 (.op 36 (.op 37 (.op 38 (.op 39 (.op 40 (.op 41 (.op 42 (.op 43 (.op 44 (.op 45 (.op 46 (.op 47 (.op 48 (.op 49 (.op 50 .nil))))))))))))))))))))))))))))))))))))))))))))))))))) (by kernel_rfl) (by kernel_rfl) ?_)
    | refine FW_alt ?_ ?_
    | refine FW_efn rfl rfl rfl rfl rfl ?_ ?_
    | refine KJ_flow ?_ ?_
    | exact Rech.nil
    | fail)
  refine Hold.mk ?_
  repeat' (first 
    | (refine at_seq_region (id := 9) ?_; refine hold ?_)
    | (refine is_call ?_; first | (refine KJ_call xE c22 xP rfl (fun x => ?_)) | (refine KJ_call xE c11 xP rfl (fun x => ?_)) | (refine KJ_call xE (cSm _ _ _ _) xP rfl (fun _ => ?_)) | (refine KJ_call xE (cRB _ _ _ _) xP rfl (fun x => ?_)) | (refine KJ_call xE cRb xP rfl (fun x => ?_)) | (refine KJ_call xE cRa xP rfl (fun x => ?_)))
    | (refine ek_neq ?_; refine EK_ev (Ev_neqI_q rfl rfl q00) ?_)
    | refine xst ?_
    | (refine xsa ?_; intro _)
    | (refine xsb ?_ ?_ <;> intro _ <;> first | (exfalso; omega) | skip)
    | refine xsc ?_
    | (refine KJ_draws (id := 15) (.op 0 (.op 1 (.op 2 (.op 3 (.op 4 (.op 5 (.op 6 (.op 7 (.op 8 (.op 9 (.op 10 (.op 11 (.op 12 (.op 13 (.op 14 (.op 15 (.op 16 (.op 17 (.op 18 (.op 19 (.op 20 (.op 21 (.op 22 (.op 23 (.op 24 (.op 25 (.op 26 (.op 27 (.op 28 (.op 29 (.op 30 (.op 31 (.op 32 (.op 33 (.op 34 (.op 35 (.op 36 (.op 37 (.op 38 (.op 39 (.op 40 (.op 41 (.op 42 (.op 43 (.op 44 (.op 45 (.op 46 (.op 47 (.op 48 (.op 49 (.op 50 .nil))))))))))))))))))))))))))))))))))))))))))))))))))) (by kernel_rfl) (by kernel_rfl) ?_)
    | refine FW_alt ?_ ?_
    | refine FW_efn rfl rfl rfl rfl rfl ?_ ?_
    | refine KJ_flow ?_ ?_
    | exact Rech.nil
    | fail)
  refine Hold.mk ?_
  repeat' (first 
    | (refine is_call ?_; first | (refine KJ_call xE cr2 xP rfl (fun x => ?_); obtain ⟨xg, cg⟩ := x) | (refine KJ_call xE cr1 xP rfl (fun x => ?_); obtain ⟨xw, cw⟩ := x))
    | refine xst ?_
    | (refine xsa ?_; intro _)
    | (refine xsb ?_ ?_ <;> intro _ <;> first | (exfalso; omega) | skip)
    | refine xsc ?_
    | (refine KJ_draws (id := 15) (.op 0 (.op 1 (.op 2 (.op 3 (.op 4 (.op 5 (.op 6 (.op 7 (.op 8 (.op 9 (.op 10 (.op 11 (.op 12 (.op 13 (.op 14 (.op 15 (.op 16 (.op 17 (.op 18 (.op 19 (.op 20 (.op 21 (.op 22 (.op 23 (.op 24 (.op 25 (.op 26 (.op 27 (.op 28 (.op 29 (.op 30 (.op 31 (.op 32 (.op 33 (.op 34 (.op 35 (.op 36 (.op 37 (.op 38 (.op 39 (.op 40 (.op 41 (.op 42 (.op 43 (.op 44 (.op 45 (.op 46 (.op 47 (.op 48 (.op 49 (.op 50 .nil))))))))))))))))))))))))))))))))))))))))))))))))))) (by kernel_rfl) (by kernel_rfl) ?_)
    | refine FW_alt ?_ ?_
    | refine FW_efn rfl rfl rfl rfl rfl ?_ ?_
    | refine KJ_flow ?_ ?_
    | exact Rech.nil
    | fail)
  refine KJ_loop (fun x : {x : Nat // x ≤ D.length} => [(5, .pointer (some ⟨p1, 0, none⟩)), (6, .pointer (some ⟨p2, 0, none⟩)), (7, .slice xo D.length co), (8, .slice xw r1.length cw), (9, .slice xg r2.length cg), (57, .slice xo D.length co), (58, .int .i64 (D.length : Nat)), (59, .int .i64 (x.1 : Nat))])
    (fun x => [T, arP N2, lsP opC 29 3 (.slice xo D.length co) D, lsP rC 65 2 (.slice xw r1.length cw) r1, lsP rC 65 2 (.slice xg r2.length cg) r2] ++ R) (fun x => D.length - x.1) ⟨0, Nat.zero_le _⟩ xB (xN) (fun ⟨i, hi⟩ => ?_)
  dsimp only
  by_cases hlt : i < D.length
  · have ql : decide ((i : Int) < (D.length : Nat)) = true := decide_eq_true (by omega)
    obtain ⟨x, hx⟩ : ∃ s, D[i]? = some s := ⟨_, List.getElem?_eq_getElem hlt⟩
    refine KJ.lsSome (a := xo) (l := D) xS (by omega) (fun go hgo => ?_)
    subst hgo
    have hoff : 0 + Int.toNat (i : Int) * 3 = i * 3 := by rw [Int.toNat_natCast]; omega
    have hneed := (hbm x).1 (List.mem_of_getElem? hx)
    have hprev : i ≠ 0 → ∃ y, D[i - 1]? = some y ∧ (Op.bytesLess x.key y.key || decide (x.key = y.key)) = false := fun h => by
      obtain ⟨y, hy⟩ : ∃ s, D[i - 1]? = some s := ⟨_, List.getElem?_eq_getElem (by omega)⟩
      exact ⟨y, hy, rise_leq hbr hy (by rw [show i - 1 + 1 = i by omega]; exact hx)⟩
    obtain ⟨del, key, val⟩ := x
    have g1 := cg1 key
    have g2 := cg2 key
    have hcase : (del = true ∧ val = [] ∧ lk r2 key = none ∧ ∃ u, lk r1 key = some u) ∨ (del = false ∧ lk r2 key = some val ∧ lk r1 key = none) ∨ (del = false ∧ lk r2 key = some val ∧ ∃ u, lk r1 key = some u ∧ u ≠ val) := by
      rcases hneed with ⟨d1, d2, d3, d4⟩ | ⟨d1, d2, d3⟩
      · left
        cases e : lk r1 key with
        | none => rw [show lk r1 (BOp.key ⟨del, key, val⟩) = lk r1 key from rfl, e] at d4; cases d4
        | some u => exact ⟨d1, d2, d3, u, rfl⟩
      · right
        cases e : lk r1 key with
        | none => exact .inl ⟨d1, d2, rfl⟩
        | some u => exact .inr ⟨d1, d2, u, rfl, fun h => d3 (by rw [show lk r1 (BOp.key ⟨del, key, val⟩) = lk r1 key from rfl, e, h])⟩
    by_cases h0 : i = 0
    · have qg : decide ((0 : Int) < ((i : Nat) : Int)) = false := decide_eq_false (by omega)
      rcases hcase with ⟨rfl, rfl, k2, u, k1⟩ | ⟨rfl, k2, k1⟩ | ⟨rfl, k2, u, k1, hu⟩
      · rw [k1] at g1
        rw [k2] at g2
        repeat' (first 
    | (refine is_alloc ?_; refine KJ_alloc rfl (fun g7 => ?_))
    | (refine is_call ?_; first | (refine KJ_call xE g2 xP rfl (fun _ => ?_)) | (refine KJ_call xE g1 xP rfl (fun _ => ?_)))
    | (refine ek_load ?_; refine EK_ev (Ev_loadLs enc_op rfl xS rfl hoff hx) ?_)
    | (refine ek_add ?_; refine EK_ev (Ev_addI_v (r := ((i + 1 : Nat) : Int)) rfl rfl (by omega) (by omega)) ?_)
    | (refine ek_eql ?_; refine EK_ev (Ev_eqlBw (r := false) rfl rfl rfl) ?_)
    | (refine ek_neq ?_; refine EK_ev (Ev_neqS_f rfl rfl rfl) ?_)
    | (refine ek_lss ?_; refine EK_ev (Ev_lssI_q rfl rfl ql) ?_)
    | (refine ek_gtr ?_; refine EK_ev (Ev_gtrI_q rfl rfl qg) ?_)
    | refine xst ?_
    | (refine xsa ?_; intro _)
    | (refine xsb ?_ ?_ <;> intro _ <;> first | (exfalso; omega) | skip)
    | refine xsc ?_
    | (refine KJ_draws (id := 15) (.op 0 (.op 1 (.op 2 (.op 3 (.op 4 (.op 5 (.op 6 (.op 7 (.op 8 (.op 9 (.op 10 (.op 11 (.op 12 (.op 13 (.op 14 (.op 15 (.op 16 (.op 17 (.op 18 (.op 19 (.op 20 (.op 21 (.op 22 (.op 23 (.op 24 (.op 25 (.op 26 (.op 27 (.op 28 (.op 29 (.op 30 (.op 31 (.op 32 (.op 33 (.op 34 (.op 35 (.op 36 (.op 37 (.op 38 (.op 39 (.op 40 (.op 41 (.op 42 (.op 43 (.op 44 (.op 45 (.op 46 (.op 47 (.op 48 (.op 49 (.op 50 .nil))))))))))))))))))))))))))))))))))))))))))))))))))) (by kernel_rfl) (by kernel_rfl) ?_)
    | refine FW_alt ?_ ?_
    | refine FW_efn rfl rfl rfl rfl rfl ?_ ?_
    | refine KJ_flow ?_ ?_
    | exact Rech.nil
    | fail)
        all_goals refine KJ_again ⟨i + 1, hlt⟩ (by show D.length - (i + 1) < D.length - i; omega) xB (xN)
      · rw [k1] at g1
        rw [k2] at g2
        repeat' (first 
    | (refine is_alloc ?_; refine KJ_alloc rfl (fun g7 => ?_))
    | (refine is_call ?_; first | (refine KJ_call xE g2 xP rfl (fun _ => ?_)) | (refine KJ_call xE g1 xP rfl (fun _ => ?_)))
    | (refine ek_load ?_; refine EK_ev (Ev_loadLs enc_op rfl xS rfl hoff hx) ?_)
    | (refine ek_add ?_; refine EK_ev (Ev_addI_v (r := ((i + 1 : Nat) : Int)) rfl rfl (by omega) (by omega)) ?_)
    | (refine ek_eql ?_; refine EK_ev (Ev_eqlBw (r := false) rfl rfl rfl) ?_)
    | (refine ek_neq ?_; refine EK_ev (Ev_neqS_f rfl rfl rfl) ?_)
    | (refine ek_lss ?_; refine EK_ev (Ev_lssI_q rfl rfl ql) ?_)
    | (refine ek_gtr ?_; refine EK_ev (Ev_gtrI_q rfl rfl qg) ?_)
    | refine xst ?_
    | (refine xsa ?_; intro _)
    | (refine xsb ?_ ?_ <;> intro _ <;> first | (exfalso; omega) | skip)
    | refine xsc ?_
    | (refine KJ_draws (id := 15) (.op 0 (.op 1 (.op 2 (.op 3 (.op 4 (.op 5 (.op 6 (.op 7 (.op 8 (.op 9 (.op 10 (.op 11 (.op 12 (.op 13 (.op 14 (.op 15 (.op 16 (.op 17 (.op 18 (.op 19 (.op 20 (.op 21 (.op 22 (.op 23 (.op 24 (.op 25 (.op 26 (.op 27 (.op 28 (.op 29 (.op 30 (.op 31 (.op 32 (.op 33 (.op 34 (.op 35 (.op 36 (.op 37 (.op 38 (.op 39 (.op 40 (.op 41 (.op 42 (.op 43 (.op 44 (.op 45 (.op 46 (.op 47 (.op 48 (.op 49 (.op 50 .nil))))))))))))))))))))))))))))))))))))))))))))))))))) (by kernel_rfl) (by kernel_rfl) ?_)
    | refine FW_alt ?_ ?_
    | refine FW_efn rfl rfl rfl rfl rfl ?_ ?_
    | refine KJ_flow ?_ ?_
    | exact Rech.nil
    | fail)
        all_goals refine KJ_again ⟨i + 1, hlt⟩ (by show D.length - (i + 1) < D.length - i; omega) xB (xN)
      · rw [k1] at g1
        rw [k2] at g2
        repeat' (first 
    | (refine is_alloc ?_; refine KJ_alloc rfl (fun g7 => ?_))
    | (refine is_call ?_; first | (refine KJ_call xE g2 xP rfl (fun _ => ?_)) | (refine KJ_call xE g1 xP rfl (fun _ => ?_)))
    | (refine ek_load ?_; refine EK_ev (Ev_loadLs enc_op rfl xS rfl hoff hx) ?_)
    | (refine ek_add ?_; refine EK_ev (Ev_addI_v (r := ((i + 1 : Nat) : Int)) rfl rfl (by omega) (by omega)) ?_)
    | (refine ek_eql ?_; first | refine EK_ev (Ev_eqlBw (r := false) rfl rfl rfl) ?_ | refine EK_ev (Ev_eqlS_f rfl rfl hu) ?_)
    | (refine ek_neq ?_; refine EK_ev (Ev_neqS_f rfl rfl rfl) ?_)
    | (refine ek_lss ?_; refine EK_ev (Ev_lssI_q rfl rfl ql) ?_)
    | (refine ek_gtr ?_; refine EK_ev (Ev_gtrI_q rfl rfl qg) ?_)
    | refine xst ?_
    | (refine xsa ?_; intro _)
    | (refine xsb ?_ ?_ <;> intro _ <;> first | (exfalso; omega) | skip)
    | refine xsc ?_
    | (refine KJ_draws (id := 15) (.op 0 (.op 1 (.op 2 (.op 3 (.op 4 (.op 5 (.op 6 (.op 7 (.op 8 (.op 9 (.op 10 (.op 11 (.op 12 (.op 13 (.op 14 (.op 15 (.op 16 (.op 17 (.op 18 (.op 19 (.op 20 (.op 21 (.op 22 (.op 23 (.op 24 (.op 25 (.op 26 (.op 27 (.op 28 (.op 29 (.op 30 (.op 31 (.op 32 (.op 33 (.op 34 (.op 35 (.op 36 (.op 37 (.op 38 (.op 39 (.op 40 (.op 41 (.op 42 (.op 43 (.op 44 (.op 45 (.op 46 (.op 47 (.op 48 (.op 49 (.op 50 .nil))))))))))))))))))))))))))))))))))))))))))))))))))) (by kernel_rfl) (by kernel_rfl) ?_)
    | refine FW_alt ?_ ?_
    | refine FW_efn rfl rfl rfl rfl rfl ?_ ?_
    | refine KJ_flow ?_ ?_
    | exact Rech.nil
    | fail)
        all_goals refine KJ_again ⟨i + 1, hlt⟩ (by show D.length - (i + 1) < D.length - i; omega) xB (xN)
    · have qg : decide ((0 : Int) < ((i : Nat) : Int)) = true := decide_eq_true (by omega)
      obtain ⟨y, hy, hle⟩ := hprev h0
      have hpo : 0 + Int.toNat ((i - 1 : Nat) : Int) * 3 + 1 = (i - 1) * 3 + 1 := by rw [Int.toNat_natCast]; omega
      have ky : (opC y)[1]? = some (strV y.key) := rfl
      have hsb : ((i : Nat) : Int) - 1 = ((i - 1 : Nat) : Int) := by omega
      rcases hcase with ⟨rfl, rfl, k2, u, k1⟩ | ⟨rfl, k2, k1⟩ | ⟨rfl, k2, u, k1, hu⟩
      · rw [k1] at g1
        rw [k2] at g2
        repeat' (first 
    | (refine is_alloc ?_; refine KJ_alloc rfl (fun g7 => ?_))
    | (refine is_call ?_; first | (refine KJ_call xE g2 xP rfl (fun _ => ?_)) | (refine KJ_call xE g1 xP rfl (fun _ => ?_)))
    | (refine ek_load ?_; first | refine EK_ev (Ev_loadLsF enc_op rfl xS rfl hpo hy ky) ?_ | refine EK_ev (Ev_loadLs enc_op rfl xS rfl hoff hx) ?_)
    | (refine ek_add ?_; refine EK_ev (Ev_addI_v (r := ((i + 1 : Nat) : Int)) rfl rfl (by omega) (by omega)) ?_)
    | (refine ek_sub ?_; refine EK_ev (Ev_subI_v (r := ((i - 1 : Nat) : Int)) rfl rfl hsb (by omega)) ?_)
    | (refine ek_eql ?_; refine EK_ev (Ev_eqlBw (r := false) rfl rfl rfl) ?_)
    | (refine ek_neq ?_; refine EK_ev (Ev_neqS_f rfl rfl rfl) ?_)
    | (refine ek_lss ?_; refine EK_ev (Ev_lssI_q rfl rfl ql) ?_)
    | (refine ek_leq ?_; refine EK_ev (Ev_leqS_q rfl rfl hle) ?_)
    | (refine ek_gtr ?_; refine EK_ev (Ev_gtrI_q rfl rfl qg) ?_)
    | refine xst ?_
    | (refine xsa ?_; intro _)
    | (refine xsb ?_ ?_ <;> intro _ <;> first | (exfalso; omega) | skip)
    | refine xsc ?_
    | (refine KJ_draws (id := 15) (.op 0 (.op 1 (.op 2 (.op 3 (.op 4 (.op 5 (.op 6 (.op 7 (.op 8 (.op 9 (.op 10 (.op 11 (.op 12 (.op 13 (.op 14 (.op 15 (.op 16 (.op 17 (.op 18 (.op 19 (.op 20 (.op 21 (.op 22 (.op 23 (.op 24 (.op 25 (.op 26 (.op 27 (.op 28 (.op 29 (.op 30 (.op 31 (.op 32 (.op 33 (.op 34 (.op 35 (.op 36 (.op 37 (.op 38 (.op 39 (.op 40 (.op 41 (.op 42 (.op 43 (.op 44 (.op 45 (.op 46 (.op 47 (.op 48 (.op 49 (.op 50 .nil))))))))))))))))))))))))))))))))))))))))))))))))))) (by kernel_rfl) (by kernel_rfl) ?_)
    | refine FW_alt ?_ ?_
    | refine FW_efn rfl rfl rfl rfl rfl ?_ ?_
    | refine KJ_flow ?_ ?_
    | exact Rech.nil
    | fail)
        all_goals refine KJ_again ⟨i + 1, hlt⟩ (by show D.length - (i + 1) < D.length - i; omega) xB (xN)
      · rw [k1] at g1
        rw [k2] at g2
        repeat' (first 
    | (refine is_alloc ?_; refine KJ_alloc rfl (fun g7 => ?_))
    | (refine is_call ?_; first | (refine KJ_call xE g2 xP rfl (fun _ => ?_)) | (refine KJ_call xE g1 xP rfl (fun _ => ?_)))
    | (refine ek_load ?_; first | refine EK_ev (Ev_loadLsF enc_op rfl xS rfl hpo hy ky) ?_ | refine EK_ev (Ev_loadLs enc_op rfl xS rfl hoff hx) ?_)
    | (refine ek_add ?_; refine EK_ev (Ev_addI_v (r := ((i + 1 : Nat) : Int)) rfl rfl (by omega) (by omega)) ?_)
    | (refine ek_sub ?_; refine EK_ev (Ev_subI_v (r := ((i - 1 : Nat) : Int)) rfl rfl hsb (by omega)) ?_)
    | (refine ek_eql ?_; refine EK_ev (Ev_eqlBw (r := false) rfl rfl rfl) ?_)
    | (refine ek_neq ?_; refine EK_ev (Ev_neqS_f rfl rfl rfl) ?_)
    | (refine ek_lss ?_; refine EK_ev (Ev_lssI_q rfl rfl ql) ?_)
    | (refine ek_leq ?_; refine EK_ev (Ev_leqS_q rfl rfl hle) ?_)
    | (refine ek_gtr ?_; refine EK_ev (Ev_gtrI_q rfl rfl qg) ?_)
    | refine xst ?_
    | (refine xsa ?_; intro _)
    | (refine xsb ?_ ?_ <;> intro _ <;> first | (exfalso; omega) | skip)
    | refine xsc ?_
    | (refine KJ_draws (id := 15) (.op 0 (.op 1 (.op 2 (.op 3 (.op 4 (.op 5 (.op 6 (.op 7 (.op 8 (.op 9 (.op 10 (.op 11 (.op 12 (.op 13 (.op 14 (.op 15 (.op 16 (.op 17 (.op 18 (.op 19 (.op 20 (.op 21 (.op 22 (.op 23 (.op 24 (.op 25 (.op 26 (.op 27 (.op 28 (.op 29 (.op 30 (.op 31 (.op 32 (.op 33 (.op 34 (.op 35 (.op 36 (.op 37 (.op 38 (.op 39 (.op 40 (.op 41 (.op 42 (.op 43 (.op 44 (.op 45 (.op 46 (.op 47 (.op 48 (.op 49 (.op 50 .nil))))))))))))))))))))))))))))))))))))))))))))))))))) (by kernel_rfl) (by kernel_rfl) ?_)
    | refine FW_alt ?_ ?_
    | refine FW_efn rfl rfl rfl rfl rfl ?_ ?_
    | refine KJ_flow ?_ ?_
    | exact Rech.nil
    | fail)
        all_goals refine KJ_again ⟨i + 1, hlt⟩ (by show D.length - (i + 1) < D.length - i; omega) xB (xN)
      · rw [k1] at g1
        rw [k2] at g2
        repeat' (first 
    | (refine is_alloc ?_; refine KJ_alloc rfl (fun g7 => ?_))
    | (refine is_call ?_; first | (refine KJ_call xE g2 xP rfl (fun _ => ?_)) | (refine KJ_call xE g1 xP rfl (fun _ => ?_)))
    | (refine ek_load ?_; first | refine EK_ev (Ev_loadLsF enc_op rfl xS rfl hpo hy ky) ?_ | refine EK_ev (Ev_loadLs enc_op rfl xS rfl hoff hx) ?_)
    | (refine ek_add ?_; refine EK_ev (Ev_addI_v (r := ((i + 1 : Nat) : Int)) rfl rfl (by omega) (by omega)) ?_)
    | (refine ek_sub ?_; refine EK_ev (Ev_subI_v (r := ((i - 1 : Nat) : Int)) rfl rfl hsb (by omega)) ?_)
    | (refine ek_eql ?_; first | refine EK_ev (Ev_eqlBw (r := false) rfl rfl rfl) ?_ | refine EK_ev (Ev_eqlS_f rfl rfl hu) ?_)
    | (refine ek_neq ?_; refine EK_ev (Ev_neqS_f rfl rfl rfl) ?_)
    | (refine ek_lss ?_; refine EK_ev (Ev_lssI_q rfl rfl ql) ?_)
    | (refine ek_leq ?_; refine EK_ev (Ev_leqS_q rfl rfl hle) ?_)
    | (refine ek_gtr ?_; refine EK_ev (Ev_gtrI_q rfl rfl qg) ?_)
    | refine xst ?_
    | (refine xsa ?_; intro _)
    | (refine xsb ?_ ?_ <;> intro _ <;> first | (exfalso; omega) | skip)
    | refine xsc ?_
    | (refine KJ_draws (id := 15) (.op 0 (.op 1 (.op 2 (.op 3 (.op 4 (.op 5 (.op 6 (.op 7 (.op 8 (.op 9 (.op 10 (.op 11 (.op 12 (.op 13 (.op 14 (.op 15 (.op 16 (.op 17 (.op 18 (.op 19 (.op 20 (.op 21 (.op 22 (.op 23 (.op 24 (.op 25 (.op 26 (.op 27 (.op 28 (.op 29 (.op 30 (.op 31 (.op 32 (.op 33 (.op 34 (.op 35 (.op 36 (.op 37 (.op 38 (.op 39 (.op 40 (.op 41 (.op 42 (.op 43 (.op 44 (.op 45 (.op 46 (.op 47 (.op 48 (.op 49 (.op 50 .nil))))))))))))))))))))))))))))))))))))))))))))))))))) (by kernel_rfl) (by kernel_rfl) ?_)
    | refine FW_alt ?_ ?_
    | refine FW_efn rfl rfl rfl rfl rfl ?_ ?_
    | refine KJ_flow ?_ ?_
    | exact Rech.nil
    | fail)
        all_goals refine KJ_again ⟨i + 1, hlt⟩ (by show D.length - (i + 1) < D.length - i; omega) xB (xN)
  have ql : decide ((i : Int) < (D.length : Nat)) = false := decide_eq_false (by omega)
  have cA := fun (b : Int) => bapply_ct (W := W) (p := p1) (tb := b) t1 _ xo co D (Lv.own (e := 29) (c := co) enc_op rfl) (by omega)
  rw [hba] at cA
  repeat' (first 
    | (refine at_seq_region (id := 20) ?_; refine hold ?_)
    | (refine is_call ?_; first | (refine KJ_call xE (cS2 _ _ _ _) xP rfl (fun _ => ?_)) | (refine KJ_call xE cr2 xP rfl (fun x => ?_)) | (refine KJ_call xE (cS1 _ _ _ _) xP rfl (fun _ => ?_)) | (refine KJ_call xE cr1 xP rfl (fun x => ?_)))
    | (refine ek_lss ?_; refine EK_ev (Ev_lssI_q rfl rfl ql) ?_)
    | refine xst ?_
    | (refine xsa ?_; intro _)
    | (refine xsb ?_ ?_ <;> intro _ <;> first | (exfalso; omega) | skip)
    | refine xsc ?_
    | (refine KJ_draws (id := 15) (.op 0 (.op 1 (.op 2 (.op 3 (.op 4 (.op 5 (.op 6 (.op 7 (.op 8 (.op 9 (.op 10 (.op 11 (.op 12 (.op 13 (.op 14 (.op 15 (.op 16 (.op 17 (.op 18 (.op 19 (.op 20 (.op 21 (.op 22 (.op 23 (.op 24 (.op 25 (.op 26 (.op 27 (.op 28 (.op 29 (.op 30 (.op 31 (.op 32 (.op 33 (.op 34 (.op 35 (.op 36 (.op 37 (.op 38 (.op 39 (.op 40 (.op 41 (.op 42 (.op 43 (.op 44 (.op 45 (.op 46 (.op 47 (.op 48 (.op 49 (.op 50 .nil))))))))))))))))))))))))))))))))))))))))))))))))))) (by kernel_rfl) (by kernel_rfl) ?_)
    | refine FW_alt ?_ ?_
    | refine FW_efn rfl rfl rfl rfl rfl ?_ ?_
    | refine KJ_flow ?_ ?_
    | exact Rech.nil
    | fail)
  refine Hold.mk ?_
  subst hT
  refine KJ.allOpen xS ?_
  repeat' (first 
    | (refine at_seq_region (id := 21) ?_; refine hold ?_)
    | (refine is_call ?_; refine KJ_call xE (cA _) xP rfl (fun x => ?_); obtain ⟨⟨N3, a3, b3⟩, g3, t3⟩ := x; dsimp only at g3 t3 ⊢)
    | refine xst ?_
    | (refine xsa ?_; intro _)
    | (refine xsb ?_ ?_ <;> intro _ <;> first | (exfalso; omega) | skip)
    | refine xsc ?_
    | (refine KJ_draws (id := 15) (.op 0 (.op 1 (.op 2 (.op 3 (.op 4 (.op 5 (.op 6 (.op 7 (.op 8 (.op 9 (.op 10 (.op 11 (.op 12 (.op 13 (.op 14 (.op 15 (.op 16 (.op 17 (.op 18 (.op 19 (.op 20 (.op 21 (.op 22 (.op 23 (.op 24 (.op 25 (.op 26 (.op 27 (.op 28 (.op 29 (.op 30 (.op 31 (.op 32 (.op 33 (.op 34 (.op 35 (.op 36 (.op 37 (.op 38 (.op 39 (.op 40 (.op 41 (.op 42 (.op 43 (.op 44 (.op 45 (.op 46 (.op 47 (.op 48 (.op 49 (.op 50 .nil))))))))))))))))))))))))))))))))))))))))))))))))))) (by kernel_rfl) (by kernel_rfl) ?_)
    | refine FW_alt ?_ ?_
    | refine FW_efn rfl rfl rfl rfl rfl ?_ ?_
    | refine KJ_flow ?_ ?_
    | exact Rech.nil
    | fail)
  refine Hold.mk ?_
  have cr3 := trows_ct (W := W) (p := p1) (b := b3) t3 (by omega)
  repeat' (first 
    | (refine is_call ?_; first | (refine KJ_call xE (cS2 _ _ _ _) xP rfl (fun _ => ?_)) | (refine KJ_call xE cr3 xP rfl (fun x => ?_)))
    | refine xst ?_
    | (refine xsa ?_; intro _)
    | (refine xsb ?_ ?_ <;> intro _ <;> first | (exfalso; omega) | skip)
    | refine xsc ?_
    | (refine KJ_draws (id := 15) (.op 0 (.op 1 (.op 2 (.op 3 (.op 4 (.op 5 (.op 6 (.op 7 (.op 8 (.op 9 (.op 10 (.op 11 (.op 12 (.op 13 (.op 14 (.op 15 (.op 16 (.op 17 (.op 18 (.op 19 (.op 20 (.op 21 (.op 22 (.op 23 (.op 24 (.op 25 (.op 26 (.op 27 (.op 28 (.op 29 (.op 30 (.op 31 (.op 32 (.op 33 (.op 34 (.op 35 (.op 36 (.op 37 (.op 38 (.op 39 (.op 40 (.op 41 (.op 42 (.op 43 (.op 44 (.op 45 (.op 46 (.op 47 (.op 48 (.op 49 (.op 50 .nil))))))))))))))))))))))))))))))))))))))))))))))))))) (by kernel_rfl) (by kernel_rfl) ?_)
    | refine FW_alt ?_ ?_
    | refine FW_efn rfl rfl rfl rfl rfl ?_ ?_
    | refine KJ_flow ?_ ?_
    | exact Rech.nil
    | fail)
  all_goals (exact xdn ())
end
end Go.Proofs.YtehheokalgmbgaaDoor
/-
  The statements of chapter 12: BatchJoins.
-/
namespace Go.Proofs.YtehheokalgmbgaaDoor
open Go Go.RowKit
section
variable {W : World}
set_option maxHeartbeats 16000000 in
set_option maxRecDepth 100000 in
theorem joins12_ct (v w z : Value) (rows : Rows) (oa ob : List BOp) (hv : LsAt W rC 2 v rows) (hw : LsAt W opC 3 w oa) (hz : LsAt W opC 3 z ob) (hl0 : rows.length ≤ 1048576) (hl1 : oa.length ≤ 1048576) (hl2 : ob.length ≤ 1048576) : Ct Tryd.prog W 9 [v, w, z] [] (fun _ : Unit => .bool true) (fun _ => []) := by
  obtain ⟨xr, cr, rfl, -⟩ := id hv
  obtain ⟨xa, ca, rfl, -⟩ := id hw
  obtain ⟨xb, cb, rfl, -⟩ := id hz
  have hR := Lv.old rC_ok hv
  have hA := Lv.old enc_op hw
  have hB := Lv.old enc_op hz
  have cl := lives12_ct (W := W)
  have cm1 := made_ct (W := W) [] noP xr cr rows hR (by omega)
  have cm2 := fun N => made_ct (W := W) N noP xr cr rows hR (by omega)
  have h0r := ofR_ris rows
  have h0l := ofR_len rows []
  rw [show List.foldl (fun r p => putR r p.1 p.2) [] rows = ofR rows from rfl, List.length_nil] at h0l
  obtain ⟨r0, hr0⟩ : ∃ r, r = ofR rows := ⟨_, rfl⟩
  rw [← hr0] at h0r h0l cm1 cm2
  have hjn := normD_join oa ob
  have hjl := join_len oa ob
  have hja := apply_join h0r oa ob
  have hri := normD_rising (oa ++ ob)
  have hmem := normD_mem (oa ++ ob)
  have hnl1 := normD_len oa
  have hnl2 := normD_len ob
  have hlk := fun k => lk_applyB h0r (normD (oa ++ ob)) k
  have hlast := fun k => lastOf_normD (oa ++ ob) k
  have hnrm := fun (x : BOp) (h : x ∈ normD (oa ++ ob)) => normD_nrm h
  have cN1 : ∀ ya yc, Ct Tryd.prog W 12 [.slice ya ([] ++ oa).length yc] [lsP opC 29 3 (.slice ya ([] ++ oa).length yc) ([] ++ oa)] (fun x : Option Addr × Nat => .slice x.1 (normD oa).length x.2) (fun x => [lsP opC 29 3 (.slice ya ([] ++ oa).length yc) ([] ++ oa), lsP opC 29 3 (.slice x.1 (normD oa).length x.2) (normD oa)]) := fun ya yc =>
    bnormal_ct (W := W) _ ya yc ([] ++ oa) (Lv.own (e := 29) (c := yc) enc_op rfl) (by rw [List.nil_append]; omega)
  have cN2 : ∀ ya yc, Ct Tryd.prog W 12 [.slice ya ([] ++ ob).length yc] [lsP opC 29 3 (.slice ya ([] ++ ob).length yc) ([] ++ ob)] (fun x : Option Addr × Nat => .slice x.1 (normD ob).length x.2) (fun x => [lsP opC 29 3 (.slice ya ([] ++ ob).length yc) ([] ++ ob), lsP opC 29 3 (.slice x.1 (normD ob).length x.2) (normD ob)]) := fun ya yc =>
    bnormal_ct (W := W) _ ya yc ([] ++ ob) (Lv.own (e := 29) (c := yc) enc_op rfl) (by rw [List.nil_append]; omega)
  have cN3 : ∀ ya yc, Ct Tryd.prog W 12 [.slice ya ([] ++ oa ++ ob).length yc] [lsP opC 29 3 (.slice ya ([] ++ oa ++ ob).length yc) ([] ++ oa ++ ob)] (fun x : Option Addr × Nat => .slice x.1 (normD (oa ++ ob)).length x.2) (fun x => [lsP opC 29 3 (.slice ya ([] ++ oa ++ ob).length yc) ([] ++ oa ++ ob), lsP opC 29 3 (.slice x.1 (normD (oa ++ ob)).length x.2) (normD (oa ++ ob))]) := fun ya yc =>
    bnormal_ct (W := W) _ ya yc ([] ++ oa ++ ob) (Lv.own (e := 29) (c := yc) enc_op rfl) (by rw [List.nil_append, List.length_append]; omega)
  have cN4 : ∀ ya yc, Ct Tryd.prog W 12 [.slice ya ([] ++ normD oa ++ normD ob).length yc] [lsP opC 29 3 (.slice ya ([] ++ normD oa ++ normD ob).length yc) ([] ++ normD oa ++ normD ob)] (fun x : Option Addr × Nat => .slice x.1 (normD (oa ++ ob)).length x.2) (fun x => [lsP opC 29 3 (.slice ya ([] ++ normD oa ++ normD ob).length yc) ([] ++ normD oa ++ normD ob), lsP opC 29 3 (.slice x.1 (normD (oa ++ ob)).length x.2) (normD (oa ++ ob))]) := fun ya yc => by
    have := bnormal_ct (W := W) _ ya yc ([] ++ normD oa ++ normD ob) (Lv.own (e := 29) (c := yc) enc_op rfl) (by rw [List.nil_append, List.length_append]; omega)
    rw [show normD ([] ++ normD oa ++ normD ob) = normD (oa ++ ob) by rw [List.nil_append]; exact hjn] at this
    exact this
  obtain ⟨X, hX⟩ : ∃ X, X = normD oa := ⟨_, rfl⟩
  obtain ⟨Y, hY⟩ : ∃ Y, Y = normD ob := ⟨_, rfl⟩
  obtain ⟨Z, hZ⟩ : ∃ Z, Z = normD (oa ++ ob) := ⟨_, rfl⟩
  rw [← hX] at hjl hja hnl1 cN1 cN4
  rw [← hY] at hjl hja hnl2 cN2 cN4
  rw [← hZ] at hjl hja hri hmem hlk hlast hnrm cN3 cN4
  obtain ⟨r1, hr1⟩ : ∃ r, r = applyB r0 X := ⟨_, rfl⟩
  obtain ⟨r2, hr2⟩ : ∃ r, r = applyB r0 Z := ⟨_, rfl⟩
  have h1l := applyB_len X r0
  have h2l := applyB_len Z r0
  have h2r := applyB_ris h0r Z
  rw [← hr1] at hja h1l
  rw [← hr2] at hja hlk h2l h2r
  have cS : ∀ (xa xb : Option Addr) (ca cb : Nat), Ct Tryd.prog W 25 [.slice xa r2.length ca, .slice xb r2.length cb] [lsP rC 65 2 (.slice xa r2.length ca) r2, lsP rC 65 2 (.slice xb r2.length cb) r2] (fun _ : Unit => .bool true) (fun _ => [lsP rC 65 2 (.slice xa r2.length ca) r2, lsP rC 65 2 (.slice xb r2.length cb) r2]) := fun xa xb ca cb => by
    have := sameR_ct (W := W) _ _ xa xb ca cb r2 r2 (Lv.own (e := 65) (c := ca) rC_ok rfl) (Lv.own (e := 65) (c := cb) rC_ok rfl) (by omega)
    rw [decide_eq_true (rfl : r2 = r2)] at this
    exact this
  have cSm : ∀ (xa xb : Option Addr) (ca cb : Nat), Ct Tryd.prog W 14 [.slice xa Z.length ca, .slice xb Z.length cb] [lsP opC 29 3 (.slice xa Z.length ca) Z, lsP opC 29 3 (.slice xb Z.length cb) Z] (fun _ : Unit => .bool true) (fun _ => [lsP opC 29 3 (.slice xa Z.length ca) Z, lsP opC 29 3 (.slice xb Z.length cb) Z]) := fun xa xb ca cb => by
    have := same_ct (W := W) _ _ xa xb ca cb Z Z (Lv.own (e := 29) (c := ca) enc_op rfl) (Lv.own (e := 29) (c := cb) enc_op rfl) (by omega)
    rw [decide_eq_true (rfl : Z = Z)] at this
    exact this
  have d1 : (([] : List BOp).length + oa.length) * 40 ≤ 140737488355328 := by simp; omega
  have d2 : ([] : List BOp).length + oa.length ≤ 9223372036854775807 := by simp; omega
  have d3 : (([] : List BOp).length + ob.length) * 40 ≤ 140737488355328 := by simp; omega
  have d4 : ([] : List BOp).length + ob.length ≤ 9223372036854775807 := by simp; omega
  have d5 : (([] ++ oa : List BOp).length + ob.length) * 40 ≤ 140737488355328 := by simp; omega
  have d6 : ([] ++ oa : List BOp).length + ob.length ≤ 9223372036854775807 := by simp; omega
  have d7 : (([] : List BOp).length + X.length) * 40 ≤ 140737488355328 := by simp; omega
  have d8 : ([] : List BOp).length + X.length ≤ 9223372036854775807 := by simp; omega
  have d9 : (([] ++ X : List BOp).length + Y.length) * 40 ≤ 140737488355328 := by simp; omega
  have d0 : ([] ++ X : List BOp).length + Y.length ≤ 9223372036854775807 := by simp; omega
  have qgt : decide (((X.length + Y.length : Nat) : Int) < ((Z.length : Nat) : Int)) = false := decide_eq_false (by omega)
  refine Ct.enter Tryd.func9 rfl Tryd.ntmps9 (by simp) (fun R => ?_)
  refine KJ.arNil ?_
  refine KJ.noP ?_
  refine KJ.lvOpen hA xS (fun ba oaf haa => ?_)
  refine KJ.lvOpen hB xS (fun bb obf hbb => ?_)
  repeat' (first 
    | (refine at_seq_region (id := 4) ?_; refine hold ?_)
    | (refine is_call ?_; refine KJ_call xE cl xP rfl (fun _ => ?_))
    | (refine is_append ?_; first | (refine KJ_appAll (l := ([] ++ oa : List BOp)) (l2 := ob) enc_op rfl rfl rfl rfl xS (Src.lv hB hbb xS) d5 d6 rfl (fun a2 c2 => ?_)) | (refine KJ_appAll (l := ([] : List BOp)) (l2 := oa) enc_op rfl rfl rfl rfl xS (Src.lv hA haa xS) d1 d2 rfl (fun a1 c1 => ?_)))
    | (refine is_bslice ?_; refine KJ_bslice0 rfl (fun g0 => ?_))
    | refine xst ?_
    | (refine xsa ?_; intro _)
    | (refine xsb ?_ ?_ <;> intro _ <;> first | (exfalso; omega) | skip)
    | refine xsc ?_
    | (refine KJ_draws (id := 19) (.op 0 (.op 1 (.op 2 (.op 3 (.op 4 (.op 5 (.op 6 (.op 7 (.op 8 (.op 9 (.op 10 (.op 11 (.op 12 (.op 13 (.op 14 (.op 15 (.op 16 (.op 17 (.op 18 (.op 19 (.op 20 (.op 21 (.op 22 (.op 23 (.op 24 .nil))))))))))))))))))))))))) (by kernel_rfl) (by kernel_rfl) ?_)
    | refine FW_alt ?_ ?_
    | refine FW_efn rfl rfl rfl rfl rfl ?_ ?_
    | refine KJ_flow ?_ ?_
    | exact Rech.nil
    | fail)
  refine Hold.mk ?_
  repeat' (first 
    | (refine at_seq_region (id := 5) ?_; refine hold ?_)
    | (refine is_call ?_; refine KJ_call xE (cN1 _ _) xP rfl (fun x => ?_); obtain ⟨xx, cx⟩ := x)
    | (refine is_append ?_; refine KJ_appAll (l := ([] : List BOp)) (l2 := oa) enc_op rfl rfl rfl rfl xS (Src.lv hA haa xS) d1 d2 rfl (fun a3 c3 => ?_))
    | (refine is_bslice ?_; refine KJ_bslice0 rfl (fun g0 => ?_))
    | refine xst ?_
    | (refine xsa ?_; intro _)
    | (refine xsb ?_ ?_ <;> intro _ <;> first | (exfalso; omega) | skip)
    | refine xsc ?_
    | (refine KJ_draws (id := 19) (.op 0 (.op 1 (.op 2 (.op 3 (.op 4 (.op 5 (.op 6 (.op 7 (.op 8 (.op 9 (.op 10 (.op 11 (.op 12 (.op 13 (.op 14 (.op 15 (.op 16 (.op 17 (.op 18 (.op 19 (.op 20 (.op 21 (.op 22 (.op 23 (.op 24 .nil))))))))))))))))))))))))) (by kernel_rfl) (by kernel_rfl) ?_)
    | refine FW_alt ?_ ?_
    | refine FW_efn rfl rfl rfl rfl rfl ?_ ?_
    | refine KJ_flow ?_ ?_
    | exact Rech.nil
    | fail)
  refine Hold.mk ?_
  repeat' (first 
    | (refine at_seq_region (id := 6) ?_; refine hold ?_)
    | (refine is_call ?_; refine KJ_call xE (cN2 _ _) xP rfl (fun x => ?_); obtain ⟨xy, cy⟩ := x)
    | (refine is_append ?_; refine KJ_appAll (l := ([] : List BOp)) (l2 := ob) enc_op rfl rfl rfl rfl xS (Src.lv hB hbb xS) d3 d4 rfl (fun a3 c3 => ?_))
    | (refine is_bslice ?_; refine KJ_bslice0 rfl (fun g0 => ?_))
    | refine xst ?_
    | (refine xsa ?_; intro _)
    | (refine xsb ?_ ?_ <;> intro _ <;> first | (exfalso; omega) | skip)
    | refine xsc ?_
    | (refine KJ_draws (id := 19) (.op 0 (.op 1 (.op 2 (.op 3 (.op 4 (.op 5 (.op 6 (.op 7 (.op 8 (.op 9 (.op 10 (.op 11 (.op 12 (.op 13 (.op 14 (.op 15 (.op 16 (.op 17 (.op 18 (.op 19 (.op 20 (.op 21 (.op 22 (.op 23 (.op 24 .nil))))))))))))))))))))))))) (by kernel_rfl) (by kernel_rfl) ?_)
    | refine FW_alt ?_ ?_
    | refine FW_efn rfl rfl rfl rfl rfl ?_ ?_
    | refine KJ_flow ?_ ?_
    | exact Rech.nil
    | fail)
  refine Hold.mk ?_
  repeat' (first 
    | (refine at_seq_region (id := 7) ?_; refine hold ?_)
    | (refine is_call ?_; refine KJ_call xE (cN3 _ _) xP rfl (fun x => ?_); obtain ⟨xz, cz⟩ := x)
    | refine xst ?_
    | (refine xsa ?_; intro _)
    | (refine xsb ?_ ?_ <;> intro _ <;> first | (exfalso; omega) | skip)
    | refine xsc ?_
    | (refine KJ_draws (id := 19) (.op 0 (.op 1 (.op 2 (.op 3 (.op 4 (.op 5 (.op 6 (.op 7 (.op 8 (.op 9 (.op 10 (.op 11 (.op 12 (.op 13 (.op 14 (.op 15 (.op 16 (.op 17 (.op 18 (.op 19 (.op 20 (.op 21 (.op 22 (.op 23 (.op 24 .nil))))))))))))))))))))))))) (by kernel_rfl) (by kernel_rfl) ?_)
    | refine FW_alt ?_ ?_
    | refine FW_efn rfl rfl rfl rfl rfl ?_ ?_
    | refine KJ_flow ?_ ?_
    | exact Rech.nil
    | fail)
  refine Hold.mk ?_
  refine KJ.lvOpen (Lv.own (e := 29) (a := xx) (c := cx) (L := X) (m := X.length) enc_op rfl) xS (fun bx ox hxx => ?_)
  refine KJ.lvOpen (Lv.own (e := 29) (a := xy) (c := cy) (L := Y) (m := Y.length) enc_op rfl) xS (fun by_ oy hyy => ?_)
  repeat' (first 
    | (refine at_seq_region (id := 9) ?_; refine hold ?_)
    | (refine is_call ?_; first | (refine KJ_call xE (cSm _ _ _ _) xP rfl (fun _ => ?_)) | (refine KJ_call xE (cN4 _ _) xP rfl (fun x => ?_)))
    | (refine is_append ?_; first | (refine KJ_appAll (l := ([] ++ X : List BOp)) (l2 := Y) enc_op rfl rfl rfl rfl xS (Src.lv (Lv.own (e := 29) (a := xy) (c := cy) (L := Y) (m := Y.length) enc_op rfl) hyy xS) d9 d0 rfl (fun a4 c4 => ?_)) | (refine KJ_appAll (l := ([] : List BOp)) (l2 := X) enc_op rfl rfl rfl rfl xS (Src.lv (Lv.own (e := 29) (a := xx) (c := cx) (L := X) (m := X.length) enc_op rfl) hxx xS) d7 d8 rfl (fun a3 c3 => ?_)))
    | (refine is_bslice ?_; refine KJ_bslice0 rfl (fun g0 => ?_))
    | (refine ek_add ?_; refine EK_ev (Ev_addI_v (r := ((X.length + Y.length : Nat) : Int)) rfl rfl (by omega) (by omega)) ?_)
    | (refine ek_gtr ?_; refine EK_ev (Ev_gtrI_q rfl rfl qgt) ?_)
    | refine xst ?_
    | (refine xsa ?_; intro _)
    | (refine xsb ?_ ?_ <;> intro _ <;> first | (exfalso; omega) | skip)
    | refine xsc ?_
    | (refine KJ_draws (id := 19) (.op 0 (.op 1 (.op 2 (.op 3 (.op 4 (.op 5 (.op 6 (.op 7 (.op 8 (.op 9 (.op 10 (.op 11 (.op 12 (.op 13 (.op 14 (.op 15 (.op 16 (.op 17 (.op 18 (.op 19 (.op 20 (.op 21 (.op 22 (.op 23 (.op 24 .nil))))))))))))))))))))))))) (by kernel_rfl) (by kernel_rfl) ?_)
    | refine FW_alt ?_ ?_
    | refine FW_efn rfl rfl rfl rfl rfl ?_ ?_
    | refine KJ_flow ?_ ?_
    | exact Rech.nil
    | fail)
  refine Hold.mk ?_
  repeat' (first 
    | (refine is_call ?_; refine KJ_call xE cm1 xP rfl (fun x => ?_); obtain ⟨⟨p1, N1, t1a, t1b⟩, g1, t1⟩ := x; dsimp only at g1 t1 ⊢; refine hold ?_)
    | refine xst ?_
    | (refine xsa ?_; intro _)
    | (refine xsb ?_ ?_ <;> intro _ <;> first | (exfalso; omega) | skip)
    | refine xsc ?_
    | (refine KJ_draws (id := 19) (.op 0 (.op 1 (.op 2 (.op 3 (.op 4 (.op 5 (.op 6 (.op 7 (.op 8 (.op 9 (.op 10 (.op 11 (.op 12 (.op 13 (.op 14 (.op 15 (.op 16 (.op 17 (.op 18 (.op 19 (.op 20 (.op 21 (.op 22 (.op 23 (.op 24 .nil))))))))))))))))))))))))) (by kernel_rfl) (by kernel_rfl) ?_)
    | refine FW_alt ?_ ?_
    | refine FW_efn rfl rfl rfl rfl rfl ?_ ?_
    | refine KJ_flow ?_ ?_
    | exact Rech.nil
    | fail)
  refine Hold.mk ?_
  have cm2 := cm2 N1
  repeat' (first 
    | (refine at_seq_region (id := 12) ?_; refine hold ?_)
    | (refine is_call ?_; refine KJ_call xE cm2 xP rfl (fun x => ?_); obtain ⟨⟨p2, N2, t2a, t2b⟩, g2, t2⟩ := x; dsimp only at g2 t2 ⊢)
    | refine xst ?_
    | (refine xsa ?_; intro _)
    | (refine xsb ?_ ?_ <;> intro _ <;> first | (exfalso; omega) | skip)
    | refine xsc ?_
    | (refine KJ_draws (id := 19) (.op 0 (.op 1 (.op 2 (.op 3 (.op 4 (.op 5 (.op 6 (.op 7 (.op 8 (.op 9 (.op 10 (.op 11 (.op 12 (.op 13 (.op 14 (.op 15 (.op 16 (.op 17 (.op 18 (.op 19 (.op 20 (.op 21 (.op 22 (.op 23 (.op 24 .nil))))))))))))))))))))))))) (by kernel_rfl) (by kernel_rfl) ?_)
    | refine FW_alt ?_ ?_
    | refine FW_efn rfl rfl rfl rfl rfl ?_ ?_
    | refine KJ_flow ?_ ?_
    | exact Rech.nil
    | fail)
  refine Hold.mk ?_
  have t1 := t1.mono g2
  have cA1 := bapply_ct (W := W) (p := p1) (tb := t1b) t1 _ xx cx X (Lv.own (e := 29) (c := cx) enc_op rfl) (by omega)
  rw [← hr1] at cA1
  repeat' (first 
    | (refine at_seq_region (id := 13) ?_; refine hold ?_)
    | (refine is_call ?_; refine KJ_call xE cA1 xP rfl (fun x => ?_); obtain ⟨⟨N3, t3a, t3b⟩, g3, t3⟩ := x; dsimp only at g3 t3 ⊢)
    | refine xst ?_
    | (refine xsa ?_; intro _)
    | (refine xsb ?_ ?_ <;> intro _ <;> first | (exfalso; omega) | skip)
    | refine xsc ?_
    | (refine KJ_draws (id := 19) (.op 0 (.op 1 (.op 2 (.op 3 (.op 4 (.op 5 (.op 6 (.op 7 (.op 8 (.op 9 (.op 10 (.op 11 (.op 12 (.op 13 (.op 14 (.op 15 (.op 16 (.op 17 (.op 18 (.op 19 (.op 20 (.op 21 (.op 22 (.op 23 (.op 24 .nil))))))))))))))))))))))))) (by kernel_rfl) (by kernel_rfl) ?_)
    | refine FW_alt ?_ ?_
    | refine FW_efn rfl rfl rfl rfl rfl ?_ ?_
    | refine KJ_flow ?_ ?_
    | exact Rech.nil
    | fail)
  refine Hold.mk ?_
  have cA2 := bapply_ct (W := W) (p := p1) (tb := t3b) t3 _ xy cy Y (Lv.own (e := 29) (c := cy) enc_op rfl) (by omega)
  rw [hja] at cA2
  repeat' (first 
    | (refine at_seq_region (id := 14) ?_; refine hold ?_)
    | (refine is_call ?_; refine KJ_call xE cA2 xP rfl (fun x => ?_); obtain ⟨⟨N4, t4a, t4b⟩, g4, t4⟩ := x; dsimp only at g4 t4 ⊢)
    | refine xst ?_
    | (refine xsa ?_; intro _)
    | (refine xsb ?_ ?_ <;> intro _ <;> first | (exfalso; omega) | skip)
    | refine xsc ?_
    | (refine KJ_draws (id := 19) (.op 0 (.op 1 (.op 2 (.op 3 (.op 4 (.op 5 (.op 6 (.op 7 (.op 8 (.op 9 (.op 10 (.op 11 (.op 12 (.op 13 (.op 14 (.op 15 (.op 16 (.op 17 (.op 18 (.op 19 (.op 20 (.op 21 (.op 22 (.op 23 (.op 24 .nil))))))))))))))))))))))))) (by kernel_rfl) (by kernel_rfl) ?_)
    | refine FW_alt ?_ ?_
    | refine FW_efn rfl rfl rfl rfl rfl ?_ ?_
    | refine KJ_flow ?_ ?_
    | exact Rech.nil
    | fail)
  refine Hold.mk ?_
  have cA3 := bapply_ct (W := W) (p := p2) (tb := t2b) ((t2.mono g3).mono g4) _ xz cz Z (Lv.own (e := 29) (c := cz) enc_op rfl) (by omega)
  rw [← hr2] at cA3
  repeat' (first 
    | (refine at_seq_region (id := 15) ?_; refine hold ?_)
    | (refine is_call ?_; refine KJ_call xE cA3 xP rfl (fun x => ?_); obtain ⟨⟨N5, t5a, t5b⟩, g5, t5⟩ := x; dsimp only at g5 t5 ⊢)
    | refine xst ?_
    | (refine xsa ?_; intro _)
    | (refine xsb ?_ ?_ <;> intro _ <;> first | (exfalso; omega) | skip)
    | refine xsc ?_
    | (refine KJ_draws (id := 19) (.op 0 (.op 1 (.op 2 (.op 3 (.op 4 (.op 5 (.op 6 (.op 7 (.op 8 (.op 9 (.op 10 (.op 11 (.op 12 (.op 13 (.op 14 (.op 15 (.op 16 (.op 17 (.op 18 (.op 19 (.op 20 (.op 21 (.op 22 (.op 23 (.op 24 .nil))))))))))))))))))))))))) (by kernel_rfl) (by kernel_rfl) ?_)
    | refine FW_alt ?_ ?_
    | refine FW_efn rfl rfl rfl rfl rfl ?_ ?_
    | refine KJ_flow ?_ ?_
    | exact Rech.nil
    | fail)
  refine Hold.mk ?_
  have t4 := t4.mono g5
  have cg2 := fun x => tget_ct (W := W) (p := p2) (b := t5b) t5 x
  have cr1 := trows_ct (W := W) (p := p1) (b := t4b) t4 (by omega)
  have cr2 := trows_ct (W := W) (p := p2) (b := t5b) t5 (by omega)
  repeat' (first 
    | refine xst ?_
    | (refine xsa ?_; intro _)
    | (refine xsb ?_ ?_ <;> intro _ <;> first | (exfalso; omega) | skip)
    | refine xsc ?_
    | (refine KJ_draws (id := 19) (.op 0 (.op 1 (.op 2 (.op 3 (.op 4 (.op 5 (.op 6 (.op 7 (.op 8 (.op 9 (.op 10 (.op 11 (.op 12 (.op 13 (.op 14 (.op 15 (.op 16 (.op 17 (.op 18 (.op 19 (.op 20 (.op 21 (.op 22 (.op 23 (.op 24 .nil))))))))))))))))))))))))) (by kernel_rfl) (by kernel_rfl) ?_)
    | refine FW_alt ?_ ?_
    | refine FW_efn rfl rfl rfl rfl rfl ?_ ?_
    | refine KJ_flow ?_ ?_
    | exact Rech.nil
    | fail)
  refine KJ_loop (fun x : {x : Nat // x ≤ Z.length} => [(11, .pointer (some ⟨p1, 0, none⟩)), (12, .pointer (some ⟨p2, 0, none⟩)), (10, .slice xz Z.length cz), (72, .slice xz Z.length cz), (73, .int .i64 (Z.length : Nat)), (74, .int .i64 (x.1 : Nat))])
    (fun x => [tbP p1 t4a t4b, tbP p2 t5a t5b, arP N5, lsP opC 29 3 (.slice xz Z.length cz) Z] ++ R) (fun x => Z.length - x.1) ⟨0, Nat.zero_le _⟩ xB (xN) (fun ⟨i, hi⟩ => ?_)
  dsimp only
  by_cases hlt : i < Z.length
  · have ql : decide ((i : Int) < (Z.length : Nat)) = true := decide_eq_true (by omega)
    obtain ⟨x, hx⟩ : ∃ s, Z[i]? = some s := ⟨_, List.getElem?_eq_getElem hlt⟩
    refine KJ.lsSome (a := xz) (l := Z) xS (by omega) (fun go hgo => ?_)
    subst hgo
    have hoff : 0 + Int.toNat (i : Int) * 3 = i * 3 := by rw [Int.toNat_natCast]; omega
    have hxm := List.mem_of_getElem? hx
    have hxl := (hmem x).1 hxm
    have hxn := hnrm x hxm
    have hxk := hlk x.key
    unfold says at hxk
    rw [hlast, hxl] at hxk
    dsimp only at hxk
    have hprev : i ≠ 0 → ∃ y, Z[i - 1]? = some y ∧ (Op.bytesLess x.key y.key || decide (x.key = y.key)) = false := fun h => by
      obtain ⟨y, hy⟩ : ∃ s, Z[i - 1]? = some s := ⟨_, List.getElem?_eq_getElem (by omega)⟩
      exact ⟨y, hy, rise_leq hri hy (by rw [show i - 1 + 1 = i by omega]; exact hx)⟩
    obtain ⟨del, key, val⟩ := x
    have g2 := cg2 key
    have hcase : (del = true ∧ val = [] ∧ lk r2 key = none) ∨ (del = false ∧ lk r2 key = some val) := by
      cases del with
      | true => exact .inl ⟨rfl, ((congrArg BOp.val hxn).symm : val = []), hxk⟩
      | false => exact .inr ⟨rfl, hxk⟩
    by_cases h0 : i = 0
    · have qg : decide ((0 : Int) < ((i : Nat) : Int)) = false := decide_eq_false (by omega)
      rcases hcase with ⟨rfl, rfl, k2⟩ | ⟨rfl, k2⟩
      · rw [k2] at g2
        repeat' (first 
    | (refine is_alloc ?_; refine KJ_alloc rfl (fun g7 => ?_))
    | (refine is_call ?_; refine KJ_call xE g2 xP rfl (fun _ => ?_))
    | (refine ek_load ?_; refine EK_ev (Ev_loadLs enc_op rfl xS rfl hoff hx) ?_)
    | (refine ek_add ?_; refine EK_ev (Ev_addI_v (r := ((i + 1 : Nat) : Int)) rfl rfl (by omega) (by omega)) ?_)
    | (refine ek_eql ?_; refine EK_ev (Ev_eqlBw (r := false) rfl rfl rfl) ?_)
    | (refine ek_neq ?_; refine EK_ev (Ev_neqS_f rfl rfl rfl) ?_)
    | (refine ek_lss ?_; refine EK_ev (Ev_lssI_q rfl rfl ql) ?_)
    | (refine ek_gtr ?_; refine EK_ev (Ev_gtrI_q rfl rfl qg) ?_)
    | refine xst ?_
    | (refine xsa ?_; intro _)
    | (refine xsb ?_ ?_ <;> intro _ <;> first | (exfalso; omega) | skip)
    | refine xsc ?_
    | (refine KJ_draws (id := 19) (.op 0 (.op 1 (.op 2 (.op 3 (.op 4 (.op 5 (.op 6 (.op 7 (.op 8 (.op 9 (.op 10 (.op 11 (.op 12 (.op 13 (.op 14 (.op 15 (.op 16 (.op 17 (.op 18 (.op 19 (.op 20 (.op 21 (.op 22 (.op 23 (.op 24 .nil))))))))))))))))))))))))) (by kernel_rfl) (by kernel_rfl) ?_)
    | refine FW_alt ?_ ?_
    | refine FW_efn rfl rfl rfl rfl rfl ?_ ?_
    | refine KJ_flow ?_ ?_
    | exact Rech.nil
    | fail)
        all_goals refine KJ_again ⟨i + 1, hlt⟩ (by show Z.length - (i + 1) < Z.length - i; omega) xB (xN)
      · rw [k2] at g2
        repeat' (first 
    | (refine is_alloc ?_; refine KJ_alloc rfl (fun g7 => ?_))
    | (refine is_call ?_; refine KJ_call xE g2 xP rfl (fun _ => ?_))
    | (refine ek_load ?_; refine EK_ev (Ev_loadLs enc_op rfl xS rfl hoff hx) ?_)
    | (refine ek_add ?_; refine EK_ev (Ev_addI_v (r := ((i + 1 : Nat) : Int)) rfl rfl (by omega) (by omega)) ?_)
    | (refine ek_eql ?_; refine EK_ev (Ev_eqlBw (r := false) rfl rfl rfl) ?_)
    | (refine ek_neq ?_; refine EK_ev (Ev_neqS_f rfl rfl rfl) ?_)
    | (refine ek_lss ?_; refine EK_ev (Ev_lssI_q rfl rfl ql) ?_)
    | (refine ek_gtr ?_; refine EK_ev (Ev_gtrI_q rfl rfl qg) ?_)
    | refine xst ?_
    | (refine xsa ?_; intro _)
    | (refine xsb ?_ ?_ <;> intro _ <;> first | (exfalso; omega) | skip)
    | refine xsc ?_
    | (refine KJ_draws (id := 19) (.op 0 (.op 1 (.op 2 (.op 3 (.op 4 (.op 5 (.op 6 (.op 7 (.op 8 (.op 9 (.op 10 (.op 11 (.op 12 (.op 13 (.op 14 (.op 15 (.op 16 (.op 17 (.op 18 (.op 19 (.op 20 (.op 21 (.op 22 (.op 23 (.op 24 .nil))))))))))))))))))))))))) (by kernel_rfl) (by kernel_rfl) ?_)
    | refine FW_alt ?_ ?_
    | refine FW_efn rfl rfl rfl rfl rfl ?_ ?_
    | refine KJ_flow ?_ ?_
    | exact Rech.nil
    | fail)
        all_goals refine KJ_again ⟨i + 1, hlt⟩ (by show Z.length - (i + 1) < Z.length - i; omega) xB (xN)
    · have qg : decide ((0 : Int) < ((i : Nat) : Int)) = true := decide_eq_true (by omega)
      obtain ⟨y, hy, hle⟩ := hprev h0
      have hpo : 0 + Int.toNat ((i - 1 : Nat) : Int) * 3 + 1 = (i - 1) * 3 + 1 := by rw [Int.toNat_natCast]; omega
      have ky : (opC y)[1]? = some (strV y.key) := rfl
      have hsb : ((i : Nat) : Int) - 1 = ((i - 1 : Nat) : Int) := by omega
      rcases hcase with ⟨rfl, rfl, k2⟩ | ⟨rfl, k2⟩
      · rw [k2] at g2
        repeat' (first 
    | (refine is_alloc ?_; refine KJ_alloc rfl (fun g7 => ?_))
    | (refine is_call ?_; refine KJ_call xE g2 xP rfl (fun _ => ?_))
    | (refine ek_load ?_; first | refine EK_ev (Ev_loadLsF enc_op rfl xS rfl hpo hy ky) ?_ | refine EK_ev (Ev_loadLs enc_op rfl xS rfl hoff hx) ?_)
    | (refine ek_add ?_; refine EK_ev (Ev_addI_v (r := ((i + 1 : Nat) : Int)) rfl rfl (by omega) (by omega)) ?_)
    | (refine ek_sub ?_; refine EK_ev (Ev_subI_v (r := ((i - 1 : Nat) : Int)) rfl rfl hsb (by omega)) ?_)
    | (refine ek_eql ?_; refine EK_ev (Ev_eqlBw (r := false) rfl rfl rfl) ?_)
    | (refine ek_neq ?_; refine EK_ev (Ev_neqS_f rfl rfl rfl) ?_)
    | (refine ek_lss ?_; refine EK_ev (Ev_lssI_q rfl rfl ql) ?_)
    | (refine ek_leq ?_; refine EK_ev (Ev_leqS_q rfl rfl hle) ?_)
    | (refine ek_gtr ?_; refine EK_ev (Ev_gtrI_q rfl rfl qg) ?_)
    | refine xst ?_
    | (refine xsa ?_; intro _)
    | (refine xsb ?_ ?_ <;> intro _ <;> first | (exfalso; omega) | skip)
    | refine xsc ?_
    | (refine KJ_draws (id := 19) (.op 0 (.op 1 (.op 2 (.op 3 (.op 4 (.op 5 (.op 6 (.op 7 (.op 8 (.op 9 (.op 10 (.op 11 (.op 12 (.op 13 (.op 14 (.op 15 (.op 16 (.op 17 (.op 18 (.op 19 (.op 20 (.op 21 (.op 22 (.op 23 (.op 24 .nil))))))))))))))))))))))))) (by kernel_rfl) (by kernel_rfl) ?_)
    | refine FW_alt ?_ ?_
    | refine FW_efn rfl rfl rfl rfl rfl ?_ ?_
    | refine KJ_flow ?_ ?_
    | exact Rech.nil
    | fail)
        all_goals refine KJ_again ⟨i + 1, hlt⟩ (by show Z.length - (i + 1) < Z.length - i; omega) xB (xN)
      · rw [k2] at g2
        repeat' (first 
    | (refine is_alloc ?_; refine KJ_alloc rfl (fun g7 => ?_))
    | (refine is_call ?_; refine KJ_call xE g2 xP rfl (fun _ => ?_))
    | (refine ek_load ?_; first | refine EK_ev (Ev_loadLsF enc_op rfl xS rfl hpo hy ky) ?_ | refine EK_ev (Ev_loadLs enc_op rfl xS rfl hoff hx) ?_)
    | (refine ek_add ?_; refine EK_ev (Ev_addI_v (r := ((i + 1 : Nat) : Int)) rfl rfl (by omega) (by omega)) ?_)
    | (refine ek_sub ?_; refine EK_ev (Ev_subI_v (r := ((i - 1 : Nat) : Int)) rfl rfl hsb (by omega)) ?_)
    | (refine ek_eql ?_; refine EK_ev (Ev_eqlBw (r := false) rfl rfl rfl) ?_)
    | (refine ek_neq ?_; refine EK_ev (Ev_neqS_f rfl rfl rfl) ?_)
    | (refine ek_lss ?_; refine EK_ev (Ev_lssI_q rfl rfl ql) ?_)
    | (refine ek_leq ?_; refine EK_ev (Ev_leqS_q rfl rfl hle) ?_)
    | (refine ek_gtr ?_; refine EK_ev (Ev_gtrI_q rfl rfl qg) ?_)
    | refine xst ?_
    | (refine xsa ?_; intro _)
    | (refine xsb ?_ ?_ <;> intro _ <;> first | (exfalso; omega) | skip)
    | refine xsc ?_
    | (refine KJ_draws (id := 19) (.op 0 (.op 1 (.op 2 (.op 3 (.op 4 (.op 5 (.op 6 (.op 7 (.op 8 (.op 9 (.op 10 (.op 11 (.op 12 (.op 13 (.op 14 (.op 15 (.op 16 (.op 17 (.op 18 (.op 19 (.op 20 (.op 21 (.op 22 (.op 23 (.op 24 .nil))))))))))))))))))))))))) (by kernel_rfl) (by kernel_rfl) ?_)
    | refine FW_alt ?_ ?_
    | refine FW_efn rfl rfl rfl rfl rfl ?_ ?_
    | refine KJ_flow ?_ ?_
    | exact Rech.nil
    | fail)
        all_goals refine KJ_again ⟨i + 1, hlt⟩ (by show Z.length - (i + 1) < Z.length - i; omega) xB (xN)
  have ql : decide ((i : Int) < (Z.length : Nat)) = false := decide_eq_false (by omega)
  have cBs : Ct Tryd.prog W 27 [.pointer (some ⟨p1, 0, none⟩), .pointer (some ⟨p2, 0, none⟩)] [allP 77 [tbP p1 t4a t4b, tbP p2 t5a t5b], arP N5] (fun x : Option Addr × Nat => .slice x.1 0 x.2) (fun _ => [allP 77 [tbP p1 t4a t4b, tbP p2 t5a t5b], arP N5]) := by
    have := bbetween_ct (W := W) (T := allP 77 [tbP p1 t4a t4b, tbP p2 t5a t5b]) (N := N5) (p := p1) (q := p2) (a := t4a) (b := t5a) (r := r2) (r2 := r2) Tl.l Tl.r t4 t5 (by omega)
    rw [between_self h2r] at this
    exact this.conv (fun R g q => q) (fun x R g q => by
      have q2 := starL_perm (List.perm_middle (a := lsP opC 29 3 (.slice x.1 ([] : List BOp).length x.2) []) (l₁ := [allP 77 [tbP p1 t4a t4b, tbP p2 t5a t5b], arP N5]) (l₂ := R)) g q
      exact starL_tail q2)
  have cBt : Ct Tryd.prog W 27 [.pointer (some ⟨p1, 0, none⟩), .pointer (some ⟨p2, 0, none⟩)] [tbP p1 t4a t4b, tbP p2 t5a t5b, arP N5] (fun x : Option Addr × Nat => .slice x.1 0 x.2) (fun _ => [tbP p1 t4a t4b, tbP p2 t5a t5b, arP N5]) :=
    cBs.conv (fun R g q => all_shut (L := [tbP p1 t4a t4b, tbP p2 t5a t5b]) q) (fun x R g q => all_open (L := [tbP p1 t4a t4b, tbP p2 t5a t5b]) q)
  have q00 : decide (((0 : Nat) : Int) = 0) = true := rfl
  repeat' (first 
    | (refine is_call ?_; first | (refine KJ_call xE cBt xP rfl (fun _ => ?_)) | (refine KJ_call xE (cS _ _ _ _) xP rfl (fun _ => ?_)) | (refine KJ_call xE cr2 xP rfl (fun x => ?_)) | (refine KJ_call xE cr1 xP rfl (fun x => ?_)))
    | (refine ek_eql ?_; refine EK_ev (Ev_eqlI_q rfl rfl q00) ?_)
    | (refine ek_lss ?_; refine EK_ev (Ev_lssI_q rfl rfl ql) ?_)
    | refine xst ?_
    | (refine xsa ?_; intro _)
    | (refine xsb ?_ ?_ <;> intro _ <;> first | (exfalso; omega) | skip)
    | refine xsc ?_
    | (refine KJ_draws (id := 19) (.op 0 (.op 1 (.op 2 (.op 3 (.op 4 (.op 5 (.op 6 (.op 7 (.op 8 (.op 9 (.op 10 (.op 11 (.op 12 (.op 13 (.op 14 (.op 15 (.op 16 (.op 17 (.op 18 (.op 19 (.op 20 (.op 21 (.op 22 (.op 23 (.op 24 .nil))))))))))))))))))))))))) (by kernel_rfl) (by kernel_rfl) ?_)
    | refine FW_alt ?_ ?_
    | refine FW_efn rfl rfl rfl rfl rfl ?_ ?_
    | refine KJ_flow ?_ ?_
    | exact Rech.nil
    | fail)
  all_goals (exact xdn ())
end
end Go.Proofs.YtehheokalgmbgaaDoor
