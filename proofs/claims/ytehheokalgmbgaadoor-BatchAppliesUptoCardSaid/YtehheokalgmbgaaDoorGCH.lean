/-
  BaL6.
-/
import Derived.Test.YtehheokalgmbgaaDoorGBP
import Derived.Test.YtehheokalgmbgaaDoorGCG
/-
  The statements of chapter 12: BatchApplies.
-/
namespace Go.Proofs.YtehheokalgmbgaaDoor
open Go Go.RowKit
section
variable {W : World}
set_option maxHeartbeats 8000000 in
set_option maxRecDepth 100000 in
theorem applies12_ct (v w : Value) (rows : Rows) (ops : List BOp) (hv : LsAt W rC 2 v rows) (hw : LsAt W opC 3 w ops) (hl1 : rows.length ≤ 1048576) (hl : ops.length ≤ 1048576) : Ct Tryd.prog W 7 [v, w] [] (fun _ : Unit => .bool true) (fun _ => []) := by
  obtain ⟨a0, c0, rfl, -⟩ := id hv
  obtain ⟨a, c, rfl, -⟩ := id hw
  have hR := Lv.old rC_ok hv
  have hL := Lv.old enc_op hw
  have cl := lives12_ct (W := W)
  have csp := spare_ct (W := W) noP a c ops hL (by omega)
  have cm1 := made_ct (W := W) [] noP a0 c0 rows hR (by omega)
  have cm2 := fun N => made_ct (W := W) N noP a0 c0 rows hR (by omega)
  have cRo := rrows_ct (W := W) noP a0 c0 rows hR (by omega)
  have hor := ofR_ris rows
  have hol := ofR_len rows []
  rw [show List.foldl (fun r p => putR r p.1 p.2) [] rows = ofR rows from rfl, List.length_nil] at hol
  obtain ⟨r0, hr0⟩ : ∃ r, r = ofR rows := ⟨_, rfl⟩
  rw [← hr0] at hor hol cm1 cm2 cRo
  have hnl := normD_len ops
  have cN : ∀ xa ca, Ct Tryd.prog W 12 [.slice xa ([] ++ ops).length ca] [lsP opC 29 3 (.slice xa ([] ++ ops).length ca) ([] ++ ops)] (fun x : Option Addr × Nat => .slice x.1 (normD ops).length x.2) (fun x => [lsP opC 29 3 (.slice xa ([] ++ ops).length ca) ([] ++ ops), lsP opC 29 3 (.slice x.1 (normD ops).length x.2) (normD ops)]) := fun xa ca =>
    bnormal_ct (W := W) _ xa ca ([] ++ ops) (Lv.own (e := 29) (c := ca) enc_op rfl) (by rw [List.nil_append]; omega)
  have han := apply_normD hor ops
  obtain ⟨N, hN⟩ : ∃ N, N = normD ops := ⟨_, rfl⟩
  rw [← hN] at hnl cN han
  have cA1 : ∀ {M : List Nd} {ta tb p g cf}, TbOk M ta r0 → Ct Tryd.prog W 22 [.pointer (some ⟨p, 0, none⟩), .slice (some ⟨g, 0, none⟩) ops.length cf] [lsP opC 29 3 (.slice (some ⟨g, 0, none⟩) (spareL ops).length cf) (spareL ops), tbP p ta tb, arP M] (fun _ : TbQ M (applyB r0 ops) => .tuple #[]) (fun x => [lsP opC 29 3 (.slice (some ⟨g, 0, none⟩) (spareL ops).length cf) (spareL ops), tbP p x.1.2.1 x.1.2.2, arP x.1.1]) := fun {M ta tb p g cf} hT => by
    have hTk := Lv.take (W := W) (enc := opC) (e := 29) (a := some ⟨g, 0, none⟩) (c := cf) (m := (spareL ops).length) (i := ops.length) (L := spareL ops) enc_op rfl
    rw [spareL_take] at hTk
    exact bapply_ct (W := W) hT _ _ cf ops hTk (by omega)
  have cA2 : ∀ {M : List Nd} {ta tb p xa ca}, TbOk M ta r0 → Ct Tryd.prog W 22 [.pointer (some ⟨p, 0, none⟩), .slice xa N.length ca] [lsP opC 29 3 (.slice xa N.length ca) N, tbP p ta tb, arP M] (fun _ : TbQ M (applyB r0 ops) => .tuple #[]) (fun x => [lsP opC 29 3 (.slice xa N.length ca) N, tbP p x.1.2.1 x.1.2.2, arP x.1.1]) := fun {M ta tb p xa ca} hT => by
    have := bapply_ct (W := W) (tb := tb) (p := p) hT _ xa ca N (Lv.own (e := 29) (c := ca) enc_op rfl) (by omega)
    rw [han] at this
    exact this
  have cRA : ∀ xa xc, Ct Tryd.prog W 23 [.slice xa r0.length xc, .slice a ops.length c] [lsP rC 65 2 (.slice xa r0.length xc) r0, noP] (fun x : Option Addr × Nat => .slice x.1 (applyB r0 ops).length x.2) (fun x => [lsP rC 65 2 (.slice xa r0.length xc) r0, noP, lsP rC 65 2 (.slice x.1 (applyB r0 ops).length x.2) (applyB r0 ops)]) := fun xa xc =>
    rapply_ct (W := W) _ noP xa a xc c r0 ops (Lv.own (e := 65) (c := xc) rC_ok rfl) hL hor (by omega)
  have hal := applyB_len ops r0
  obtain ⟨r1, hr1⟩ : ∃ r, r = applyB r0 ops := ⟨_, rfl⟩
  rw [← hr1] at cRA hal
  replace cA1 : ∀ {M : List Nd} {ta tb p g cf}, TbOk M ta r0 → Ct Tryd.prog W 22 [.pointer (some ⟨p, 0, none⟩), .slice (some ⟨g, 0, none⟩) ops.length cf] [lsP opC 29 3 (.slice (some ⟨g, 0, none⟩) (spareL ops).length cf) (spareL ops), tbP p ta tb, arP M] (fun _ : TbQ M r1 => .tuple #[]) (fun x => [lsP opC 29 3 (.slice (some ⟨g, 0, none⟩) (spareL ops).length cf) (spareL ops), tbP p x.1.2.1 x.1.2.2, arP x.1.1]) := by rw [hr1]; exact cA1
  replace cA2 : ∀ {M : List Nd} {ta tb p xa ca}, TbOk M ta r0 → Ct Tryd.prog W 22 [.pointer (some ⟨p, 0, none⟩), .slice xa N.length ca] [lsP opC 29 3 (.slice xa N.length ca) N, tbP p ta tb, arP M] (fun _ : TbQ M r1 => .tuple #[]) (fun x => [lsP opC 29 3 (.slice xa N.length ca) N, tbP p x.1.2.1 x.1.2.2, arP x.1.1]) := by rw [hr1]; exact cA2
  have cS : ∀ (xa xb : Option Addr) (ca cb : Nat), Ct Tryd.prog W 25 [.slice xa r1.length ca, .slice xb r1.length cb] [lsP rC 65 2 (.slice xa r1.length ca) r1, lsP rC 65 2 (.slice xb r1.length cb) r1] (fun _ : Unit => .bool true) (fun _ => [lsP rC 65 2 (.slice xa r1.length ca) r1, lsP rC 65 2 (.slice xb r1.length cb) r1]) := fun xa xb ca cb => by
    have := sameR_ct (W := W) _ _ xa xb ca cb r1 r1 (Lv.own (e := 65) (c := ca) rC_ok rfl) (Lv.own (e := 65) (c := cb) rC_ok rfl) (by omega)
    rw [decide_eq_true (rfl : r1 = r1)] at this
    exact this
  have cK : ∀ g cf, (spareL ops).length ≤ cf → _ := fun g cf h => kept_ct (W := W) noP g a cf c ops h (by omega) hL
  have hsl := spareL_len ops
  have hb0 : (([] : List BOp).length + ops.length) * 40 ≤ 140737488355328 := by simp; omega
  have hb1 : ([] : List BOp).length + ops.length ≤ 9223372036854775807 := by simp; omega
  refine Ct.enter Tryd.func7 rfl Tryd.ntmps7 (by simp) (fun R => ?_)
  refine KJ.arNil ?_
  refine KJ.noP ?_
  refine KJ.lvOpen hL xS (fun b0 o0 ha0 => ?_)
  repeat' (first 
    | (refine at_seq_region (id := 4) ?_; refine hold ?_)
    | (refine is_call ?_; first | (refine KJ_call xE cm1 xP rfl (fun x => ?_); obtain ⟨⟨p1, N1, a1, b1⟩, g1, t1⟩ := x; dsimp only at g1 t1 ⊢) | (refine KJ_call xE cl xP rfl (fun _ => ?_)))
    | refine xst ?_
    | (refine xsa ?_; intro _)
    | (refine xsb ?_ ?_ <;> intro _ <;> first | (exfalso; omega) | skip)
    | refine xsc ?_
    | fail)
  refine Hold.mk ?_
  have cm2 := cm2 N1
  repeat' (first 
    | (refine at_seq_region (id := 7) ?_; refine hold ?_)
    | (refine is_call ?_; refine KJ_call xE cm2 xP rfl (fun x => ?_); obtain ⟨⟨p2, N2, a2, b2⟩, g2, t2⟩ := x; dsimp only at g2 t2 ⊢)
    | refine xst ?_
    | (refine xsa ?_; intro _)
    | (refine xsb ?_ ?_ <;> intro _ <;> first | (exfalso; omega) | skip)
    | refine xsc ?_
    | fail)
  refine Hold.mk ?_
  repeat' (first 
    | (refine at_seq_region (id := 8) ?_; refine hold ?_)
    | (refine is_call ?_; refine KJ_call xE csp xP rfl (fun x => ?_); obtain ⟨g, cf⟩ := x; refine KJ.lsOpen xS (fun a3 c3 he hcf => ?_); cases he)
    | refine xst ?_
    | (refine xsa ?_; intro _)
    | (refine xsb ?_ ?_ <;> intro _ <;> first | (exfalso; omega) | skip)
    | refine xsc ?_
    | fail)
  refine Hold.mk ?_
  have ck := cK g cf hcf
  have c1 := cA1 (tb := b1) (p := p1) (g := g) (cf := cf) (t1.mono g2)
  repeat' (first 
    | (refine at_seq_region (id := 9) ?_; refine hold ?_)
    | (refine is_call ?_; refine KJ_call xE c1 xP rfl (fun x => ?_); obtain ⟨⟨N3, a3, b3⟩, g3, t3⟩ := x; dsimp only at g3 t3 ⊢)
    | refine xst ?_
    | (refine xsa ?_; intro _)
    | (refine xsb ?_ ?_ <;> intro _ <;> first | (exfalso; omega) | skip)
    | refine xsc ?_
    | fail)
  refine Hold.mk ?_
  have c2 := fun xa ca => cA2 (tb := b2) (p := p2) (xa := xa) (ca := ca) (t2.mono g3)
  repeat' (first 
    | (refine at_seq_region (id := 10) ?_; refine hold ?_)
    | (refine is_call ?_; first | (refine KJ_call xE (c2 _ _) xP rfl (fun x => ?_); obtain ⟨⟨N4, a4, b4⟩, g4, t4⟩ := x; dsimp only at g4 t4 ⊢) | (refine KJ_call xE (cN _ _) xP rfl (fun x => ?_); obtain ⟨xn, cn⟩ := x))
    | (refine is_append ?_; refine KJ_appAll (l := ([] : List BOp)) (l2 := ops) enc_op rfl rfl rfl rfl xS (Src.lv hL ha0 xS) hb0 hb1 rfl (fun a1' c1' => ?_))
    | (refine is_bslice ?_; refine KJ_bslice0 rfl (fun g0 => ?_))
    | refine xst ?_
    | (refine xsa ?_; intro _)
    | (refine xsb ?_ ?_ <;> intro _ <;> first | (exfalso; omega) | skip)
    | refine xsc ?_
    | fail)
  refine Hold.mk ?_
  have cq3 := trows_ct (W := W) (p := p1) (b := b3) (t3.mono g4) (by omega)
  have cq4 := trows_ct (W := W) (p := p2) (b := b4) t4 (by omega)
  repeat' (first 
    | (refine at_seq_region (id := 11) ?_; refine hold ?_)
    | (refine is_call ?_; first | (refine KJ_call xE (cRA _ _) xP rfl (fun x => ?_); obtain ⟨xw, cw⟩ := x) | (refine KJ_call xE cRo xP rfl (fun x => ?_); obtain ⟨xr, cr⟩ := x))
    | refine xst ?_
    | (refine xsa ?_; intro _)
    | (refine xsb ?_ ?_ <;> intro _ <;> first | (exfalso; omega) | skip)
    | refine xsc ?_
    | fail)
  refine Hold.mk ?_
  repeat' (first 
    | (refine is_call ?_; first | (refine KJ_call xE (cS _ _ _ _) xP rfl (fun _ => ?_)) | (refine KJ_call xE cq4 xP rfl (fun x => ?_); obtain ⟨xz, cz⟩ := x) | (refine KJ_call xE cq3 xP rfl (fun x => ?_); obtain ⟨xy, cy⟩ := x) | (refine KJ_call xE ck xP rfl (fun _ => ?_)))
    | refine xst ?_
    | (refine xsa ?_; intro _)
    | (refine xsb ?_ ?_ <;> intro _ <;> first | (exfalso; omega) | skip)
    | refine xsc ?_
    | fail)
  all_goals (exact xdn ())
end
end Go.Proofs.YtehheokalgmbgaaDoor
