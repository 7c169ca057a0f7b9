/-
  PoR2.
-/
import Derived.Test.YtdbfemdpdpaffaaGreatDoorPDE
import Derived.Test.YtdbfemdpdpaffaaGreatDoorPDL
/-
  PostingPlays: the walk.
-/
namespace Go.Proofs.YtdbfemdpdpaffaaGreatDoor
open Go Go.RowKit Go.MapKept
section
variable {W : World} {F : Nat → Addr}
/-- alike of structs given by their fields -/
theorem alikeV (A B : SP) (a b : Option Addr) (c d : Nat) (p : Pst) (hA : Lv W legC 2 A a p.legs) (hB : Lv W legC 2 B b p.legs) (h1 : p.legs.length ≤ 4611686018427387904) {vs ws : List Value} (hv : pstC p a c = vs) (hw : pstC p b d = ws) :
    Ct Tryz.prog W 13 [.agg vs.toArray, .agg ws.toArray] [A, B] (fun _ : Unit => .bool true) (fun _ => [A, B]) := by
  subst hv hw
  exact alike_ct A B a b c d p hA hB h1
theorem psame2V (A B : SP) (a b : Option Addr) (c d : Nat) (p q : Pst) (hA : Lv W legC 2 A a p.legs) (hB : Lv W legC 2 B b q.legs) (hp : p.legs.length ≤ 4611686018427387904) {vs ws : List Value} {r : Bool} (hv : pstC p a c = vs) (hw : pstC q b d = ws) (hr : sameP p q = r) :
    Ct Tryz.prog W 22 [.agg vs.toArray, .agg ws.toArray] [A, B] (fun _ : Unit => .bool r) (fun _ => [A, B]) := by
  subst hv hw hr
  exact psame2_ct A B a b c d p q hA hB hp
set_option maxHeartbeats 16000000 in
set_option maxRecDepth 20000 in
theorem pplays_ct (hE : ErrsOn L37 W F) (a b : Option Addr) (ca cb : Nat) (p q : Pst) (name : List UInt8) (fp : PstFit p) (fq : PstFit q) (L1 : Lv W legC 2 noP a p.legs) (L2 : Lv W legC 2 noP b q.legs) (hc : p.legs.length ≤ ca) (hd : q.legs.length ≤ cb) :
    Ct Tryz.prog W 4 [.agg (pstC p a ca).toArray, .agg (pstC q b cb).toArray, strV name] [] (fun _ : Unit => .bool true) (fun _ => []) := by
  have er := perr_of hE
  have cf := fixed_ct (W := W) (F := F) hE
  have np := fp.legs
  have nq := fq.legs
  have kp : p.legs.length ≤ 4611686018427387904 := by omega
  have kq : q.legs.length ≤ 4611686018427387904 := by omega
  have c1 := copied_ct (W := W) noP a ca p L1 np
  have c2 := copied_ct (W := W) noP b cb q L2 nq
  have cDC := dpcheck_ct (W := W) noP a ca p fp L1
  have cPC := fun x1 x2 => pcheck_ct (W := W) (F := F) er (lsP legC 55 2 (.slice x1 p.legs.length x2) p.legs) x1 x2 p fp (Lv.own enc_leg rfl)
  have cn := num_ct (W := W) (F := F) hE (checkE p) (checkE_le p)
  have cPE := fun x1 x2 => pencode_ct (W := W) (F := F) er (lsP legC 55 2 (.slice x1 p.legs.length x2) p.legs) x1 x2 p fp (Lv.own enc_leg rfl)
  have cDE := dpencode_ct (W := W) noP a ca p fp L1
  have cPR := fun x1 x2 => preverse_ct (W := W) (lsP legC 55 2 (.slice x1 p.legs.length x2) p.legs) x1 x2 p name (Lv.own enc_leg rfl) np
  have cDR := dreverse_ct (W := W) noP a ca p name L1 np
  have hVl := (revL_len p.legs).symm
  obtain ⟨V, hV⟩ : ∃ V, V = revL p.legs := ⟨_, rfl⟩
  rw [← hV] at cPR cDR hVl
  have cR := fun x1 x2 y1 y2 => alikeV (W := W) (lsP legC 55 2 (.slice x1 p.legs.length x2) V) (lsP legC 55 2 (.slice y1 p.legs.length y2) V) x1 y1 x2 y2 ⟨name, p.tick, p.note, V⟩ (Lv.own enc_leg hVl) (Lv.own enc_leg hVl) (by dsimp only; omega) (vs := [strV name, .int .i64 p.tick, strV p.note, .slice x1 p.legs.length x2]) (ws := [strV name, .int .i64 p.tick, strV p.note, .slice y1 p.legs.length y2]) (by unfold pstC; dsimp only; rw [hVl]) (by unfold pstC; dsimp only; rw [hVl])
  have cDS := dsame_ct (W := W) noP a b ca cb p q L1 L2 np nq hc hd
  obtain ⟨sm, hsm⟩ : ∃ sm, sm = sameP p q := ⟨_, rfl⟩
  rw [← hsm] at cDS
  have cS := fun x1 x2 y1 y2 => psame2V (W := W) (lsP legC 55 2 (.slice x1 p.legs.length x2) p.legs) (lsP legC 55 2 (.slice y1 q.legs.length y2) q.legs) x1 y1 x2 y2 p q (Lv.own enc_leg rfl) (Lv.own enc_leg rfl) kp rfl rfl hsm.symm
  have cT := fun x1 x2 y1 y2 => psame2V (W := W) (lsP legC 55 2 (.slice y1 q.legs.length y2) q.legs) (lsP legC 55 2 (.slice x1 p.legs.length x2) p.legs) y1 x1 y2 x2 q p (Lv.own enc_leg rfl) (Lv.own enc_leg rfl) kq rfl rfl ((sameP_symm q p).trans hsm.symm)
  have cA := fun x1 x2 => alikeV (W := W) (lsP legC 55 2 (.slice x1 p.legs.length x2) p.legs) noP x1 a x2 ca p (Lv.own enc_leg rfl) L1 kp rfl rfl
  have cB := fun x1 x2 => alikeV (W := W) (lsP legC 55 2 (.slice x1 q.legs.length x2) q.legs) noP x1 b x2 cb q (Lv.own enc_leg rfl) L2 kq rfl rfl
  obtain ⟨e, he⟩ : ∃ e, e = checkE p := ⟨_, rfl⟩
  obtain ⟨B, hB⟩ : ∃ B, B = if checkE p = 0 then encPst p else [] := ⟨_, rfl⟩
  rw [← hB, ← he] at cPE cDE
  rw [← he] at cDC cPC cn
  clear hB he hV hsm
  obtain ⟨id1, tick1, note1, legs1⟩ := p
  obtain ⟨id2, tick2, note2, legs2⟩ := q
  unfold pstC at c1 c2 cDC cPC cPE cDE cPR cDR cDS cS cT cA cB ⊢
  dsimp only at c1 c2 cDC cPC cPE cDE cPR cDR cR cDS cS cT cA cB ⊢
  have qb : (sm == sm) = true := by cases sm <;> rfl
  refine Ct.enter Tryz.func4 rfl Tryz.ntmps4 (by simp) (fun R => ?_)
  refine KJ.noP ?_
  repeat' (first 
    | (refine is_alloc ?_; refine KJ_alloc rfl (fun g5 => ?_))
    | (refine is_box ?_; refine KJ_box rfl xF rfl (fun g2 => ?_))
    | (refine is_call ?_; first | (refine KJ_call xE (cB _ _) xP rfl (fun _ => ?_)) | (refine KJ_call xE (cA _ _) xP rfl (fun _ => ?_)) | (refine KJ_call xE (cT _ _ _ _) xP rfl (fun _ => ?_)) | (refine KJ_call xE (cS _ _ _ _) xP rfl (fun _ => ?_)) | (refine KJ_call xE cDS xP rfl (fun _ => ?_)) | (refine KJ_call xE (cR _ _ _ _) xP rfl (fun _ => ?_)) | (refine KJ_call xE cDR xP rfl (fun r2 => ?_)) | (refine KJ_call xE (cPR _ _) xP rfl (fun r => ?_)) | (refine KJ_call xE cDE xP rfl (fun _ => ?_)) | (refine KJ_call xE (cPE _ _) xP rfl (fun _ => ?_)) | (refine KJ_call xE cn xP rfl (fun _ => ?_)) | (refine KJ_call xE (cPC _ _) xP rfl (fun _ => ?_)) | (refine KJ_call xE cDC xP rfl (fun _ => ?_)) | (refine KJ_call xE c2 xP rfl (fun y => ?_)) | (refine KJ_call xE c1 xP rfl (fun x => ?_)) | (refine KJ_call xE cf xP rfl (fun _ => ?_)))
    | (refine ek_eql ?_; refine EK_ev (Ev_eqlBw rfl rfl qb) ?_)
    | (refine ek_neq ?_; first | refine EK_ev (Ev_neqS_f rfl rfl rfl) ?_ | refine EK_ev (Ev_neqI_f rfl rfl rfl) ?_)
    | refine xst ?_
    | (refine xsa ?_; intro _)
    | (refine xsb ?_ ?_ <;> intro _ <;> first | (exfalso; omega) | skip)
    | refine xsc ?_
    | (refine KJ_draws (id := 3) (.op 0 (.op 2 (.alt (.ef 1 [2] (.alt (.ef 3 [] (.alt (.ef 4 [] (.ef 5 [] (.ef 6 [] (.ef 7 [] .nil)))) (.ef 5 [] (.ef 4 [] (.ef 6 [] (.ef 7 [] .nil)))))) (.alt (.ef 4 [2] (.alt (.ef 3 [] (.ef 5 [] (.ef 6 [] (.ef 7 [] .nil)))) (.ef 5 [2] (.ef 3 [] (.ef 6 [] (.ef 7 [] .nil)))))) (.ef 5 [2] (.alt (.ef 3 [] (.ef 4 [] (.ef 6 [] (.ef 7 [] .nil)))) (.ef 4 [2] (.ef 3 [] (.ef 6 [] (.ef 7 [] .nil))))))))) (.alt (.ef 4 [2, 0] (.alt (.ef 1 [2] (.alt (.ef 3 [] (.ef 5 [] (.ef 6 [] (.ef 7 [] .nil)))) (.ef 5 [2] (.ef 3 [] (.ef 6 [] (.ef 7 [] .nil)))))) (.ef 5 [2, 0] (.ef 1 [2] (.ef 3 [] (.ef 6 [] (.ef 7 [] .nil))))))) (.ef 5 [2, 0] (.alt (.ef 1 [2] (.alt (.ef 3 [] (.ef 4 [] (.ef 6 [] (.ef 7 [] .nil)))) (.ef 4 [2] (.ef 3 [] (.ef 6 [] (.ef 7 [] .nil)))))) (.ef 4 [2, 0] (.ef 1 [2] (.ef 3 [] (.ef 6 [] (.ef 7 [] .nil))))))))))) (by kernel_rfl) (by kernel_rfl) ?_)
    | (refine KJ_draws (id := 12) (.op 0 (.op 1 (.op 2 (.ef 3 [0] (.ef 4 [] (.op 5 .nil)))))) (by kernel_rfl) (by kernel_rfl) ?_)
    | refine FW_alt ?_ ?_
    | refine FW_efn rfl rfl rfl rfl rfl ?_ ?_
    | refine KJ_flow ?_ ?_
    | exact Rech.nil
    | fail)
  all_goals (exact xdn ())
end
end Go.Proofs.YtdbfemdpdpaffaaGreatDoor
