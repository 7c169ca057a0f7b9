/-
  Rdk2, Rdk3, Fatep, Rdk4, Crq, Calm8, Keep, Ref7p, Ref7, Ref7b, Mor5.
-/
import Derived.Test.YteklldbfdmaafaaDoorHC
/-
  The document's disk (remitref06): its methods over plain data.
-/
namespace Go.Proofs.YteklldbfdmaafaaDoor
open Go Go.RowKit
theorem Ct_ref {P : Program} {W : World} {f : FuncId} {args : List Value} {X : Type} {r : X → Value} {H' : X → List SP} {p : Nat} {D : Dsk} (h : ∀ sv wv, Ct P W f args (RefF p D (sv, wv)) r H') : Ct P W f args [RefP p D] r H' :=
  Ct_unpack (Hs := []) (fun ⟨sv, wv⟩ => by rw [List.append_nil]; exact h sv wv)
theorem KJ_doneR {P : Program} {W : World} {n : Nat} {E : Env} {H R : List SP} {r : Unit → Value} {fn : Func} {rs : List ResultVar} {vs : List Value} {ex : Exit} {p : Nat} {D : Dsk} (hex : ex = .ret ∨ ex = .normal) (hr : fn.results = rs.toArray) (hv : Rvs P E H rs vs) (hc : tupleV vs = r ()) (sv wv : Value) (h : ∀ g, starL H g → starL (RefF p D (sv, wv) ++ R) g) : KJ W n (.ex (.top (bodyPost P fn (Post W r (fun _ => [RefP p D]) R))) ex) E H :=
  KJ_done hex hr hv () hc (fun g q => pack_star (F := RefF p D) (sv, wv) g (h g q))
section
variable {P : Program} {W : World} {n : Nat} {E : Env} {H R : List SP} {x y : Operand} {t u : TypeId} {k : IntKind}
theorem Ev_minV {i j m : Int} {ts : Array TypeId} (hx : Env.ev E x = some (.int k i)) (hy : Env.ev E y = some (.int k j)) (h : min i j = m) : Ev P W n E H (.call { callee := .builtin .min, args := #[x, y], argTypes := ts }) (.int k m) := by subst h; exact Ev_min hx hy
theorem Ev_addV {i j m : Int} (hx : Env.ev E x = some (.int k i)) (hy : Env.ev E y = some (.int k j)) (h : k.wrap (i + j) = m) : Ev P W n E H (.binOp .add t x y u) (.int k m) := by subst h; exact Ev_add hx hy
end
theorem w64_wrap (x : Int) : IntKind.i64.wrap x = w64 x := by
  unfold w64 Go.RowKit.wrap64
  have : IntKind.i64.wrap x = if x % 18446744073709551616 ≥ 9223372036854775808 then x % 18446744073709551616 - 18446744073709551616 else x % 18446744073709551616 := by
    simp [IntKind.wrap, IntKind.signed, IntKind.bits]
  rw [this]
  split <;> omega
section
variable {W : World} {p : Nat} {D : Dsk}
theorem rgoes_ct (ha : -1 ≤ D.armed ∧ D.armed ≤ 9223372036854775807) (hoff : D.off = false) (sv wv : Value) : Ct Tryd.prog W 122 [.pointer (some ⟨p, 0, none⟩)] (RefF p D (sv, wv)) (fun _ : Unit => .bool D.dead) (fun _ => RefF p D.gone (sv, wv)) := by
  obtain ⟨n, img, und, off, armed, wr, fl, lf⟩ := D
  dsimp only at ha hoff
  subst hoff
  rcases (show armed = -1 ∨ armed = 0 ∨ 0 < armed by omega) with h | h | h
  · have e1 : RefF p ({ n := n, img := img, und := und, off := false, armed := armed, writes := wr, flushes := fl, life := lf } : Dsk) (sv, wv) = [cellsP p [sv, wv, .bool false, .bool false, .int .i64 0, .int .i64 wr, .int .i64 fl, .int .i64 lf] 97, rowP sv 9 1 n (secsV img n), rowP wv 192 2 und.length (waysV und)] := by
      subst h; rfl
    have e2 : RefF p (({ n := n, img := img, und := und, off := false, armed := armed, writes := wr, flushes := fl, life := lf } : Dsk)).gone (sv, wv) = [cellsP p [sv, wv, .bool false, .bool false, .int .i64 0, .int .i64 wr, .int .i64 fl, .int .i64 lf] 97, rowP sv 9 1 n (secsV img n), rowP wv 192 2 und.length (waysV und)] := by
      subst h; rfl
    have e3 : (({ n := n, img := img, und := und, off := false, armed := armed, writes := wr, flushes := fl, life := lf } : Dsk)).dead = false := by unfold Dsk.dead; exact decide_eq_false (by show ¬ armed = 0; omega)
    rw [e1, e2, e3]
    refine Ct.enter Tryd.func122 rfl Tryd.ntmps122 (by simp) (fun R => ?_)
    repeat' (first 
    | refine KJ_stp (by first | constructor | fail) ?_
    | (refine is_oper ?_; first | (refine is_store ?_; first | (refine KJ_store rfl rfl (by (repeat' (first | exact Sel.here | apply Sel.there)); first | done | fail) (by first | exact CellsOf.agg | exact CellsOf.one rfl) (by rfl) (by (repeat' (first | exact Ones.nil | exact Ones_bvs _ | refine Ones.cons rfl ?_)); first | done | fail) (by (repeat' (first | exact Laid.nil | apply Laid.cons | apply Laid.skip)); first | done | fail) (by (repeat' (first | exact Rep.here | apply Rep.there)); first | done | fail) ?_)) | (refine KJ_ek rfl ?_) | (refine KJ_ek0 ?_))
    | (refine is_ek ?_; first | (refine ek_move ?_; first | (refine EK_ev (Ev_move rfl) ?_)) | (refine ek_assign ?_; first | (refine EK_ev (Ev_assign rfl) ?_)) | (refine ek_nilCheck ?_; first | (refine EK_ev (Ev_nilCheck rfl) ?_)) | (refine ek_fieldAddr ?_; first | (refine EK_ev (Ev_field rfl) ?_)) | (refine ek_load ?_; first | (refine EK_ev (Ev_load rfl (by (repeat' (first | exact Sel.here | apply Sel.there)); first | done | fail) (by rfl)) ?_) | (refine EK_ev (Ev_loadOld rfl (by assumption)) ?_) | (refine EK_ev (Ev_loadAgg rfl (by (repeat' (first | exact Sel.here | apply Sel.there)); first | done | fail) (by (repeat' (first | exact Cut.nil | apply Cut.cons | apply Cut.skip)); first | done | fail)) ?_)) | (refine ek_un ?_; first | (refine EK_ev (Ev_notD rfl) ?_) | (refine EK_ev (Ev_not rfl) ?_) | (refine EK_ev (Ev_neg rfl) ?_)) | (refine ek_sub ?_; first | (refine EK_ev (Ev_subI rfl rfl (by omega)) ?_) | (refine EK_ev (Ev_sub rfl rfl) ?_)) | (refine ek_gtr ?_; first | (refine EK_ev (Ev_gtrI rfl rfl) ?_) | (refine EK_ev (Ev_gtrS rfl rfl) ?_)))
    | (refine is_ex ?_; first | (refine KJ_blk_exit' rfl ?_))
    | (refine is_code ?_; first | (refine KJ_cond_dec rfl (fun _ => ?_) (fun _ => ?_) <;> first | (exfalso; omega) | skip) | (refine KJ_cond_t rfl ?_) | (refine KJ_cond_f rfl ?_)))
    all_goals exact KJ_done (by first | exact Or.inl rfl | exact Or.inr rfl) rfl (by (repeat' (first | exact Rvs.nil | (apply Rvs.tmp; exact rfl))); first | done | fail) () (by rfl) (Ent.of (by (repeat' (first | exact Pick.nil | apply Pick.cons | exact Sel.here | apply Sel.there)); first | done | fail) (by (repeat' (first | exact DropTo.refl | apply DropTo.there)); first | done | fail))
  · have e1 : RefF p ({ n := n, img := img, und := und, off := false, armed := armed, writes := wr, flushes := fl, life := lf } : Dsk) (sv, wv) = [cellsP p [sv, wv, .bool false, .bool true, .int .i64 0, .int .i64 wr, .int .i64 fl, .int .i64 lf] 97, rowP sv 9 1 n (secsV img n), rowP wv 192 2 und.length (waysV und)] := by
      subst h; rfl
    have e2 : RefF p (({ n := n, img := img, und := und, off := false, armed := armed, writes := wr, flushes := fl, life := lf } : Dsk)).gone (sv, wv) = [cellsP p [sv, wv, .bool true, .bool true, .int .i64 0, .int .i64 wr, .int .i64 fl, .int .i64 lf] 97, rowP sv 9 1 n (secsV img n), rowP wv 192 2 und.length (waysV und)] := by
      subst h; rfl
    have e3 : (({ n := n, img := img, und := und, off := false, armed := armed, writes := wr, flushes := fl, life := lf } : Dsk)).dead = true := by unfold Dsk.dead; exact decide_eq_true h
    rw [e1, e2, e3]
    refine Ct.enter Tryd.func122 rfl Tryd.ntmps122 (by simp) (fun R => ?_)
    repeat' (first 
    | refine KJ_stp (by first | constructor | fail) ?_
    | (refine is_oper ?_; first | (refine is_store ?_; first | (refine KJ_store rfl rfl (by (repeat' (first | exact Sel.here | apply Sel.there)); first | done | fail) (by first | exact CellsOf.agg | exact CellsOf.one rfl) (by rfl) (by (repeat' (first | exact Ones.nil | exact Ones_bvs _ | refine Ones.cons rfl ?_)); first | done | fail) (by (repeat' (first | exact Laid.nil | apply Laid.cons | apply Laid.skip)); first | done | fail) (by (repeat' (first | exact Rep.here | apply Rep.there)); first | done | fail) ?_)) | (refine KJ_ek rfl ?_) | (refine KJ_ek0 ?_))
    | (refine is_ek ?_; first | (refine ek_move ?_; first | (refine EK_ev (Ev_move rfl) ?_)) | (refine ek_assign ?_; first | (refine EK_ev (Ev_assign rfl) ?_)) | (refine ek_nilCheck ?_; first | (refine EK_ev (Ev_nilCheck rfl) ?_)) | (refine ek_fieldAddr ?_; first | (refine EK_ev (Ev_field rfl) ?_)) | (refine ek_load ?_; first | (refine EK_ev (Ev_load rfl (by (repeat' (first | exact Sel.here | apply Sel.there)); first | done | fail) (by rfl)) ?_) | (refine EK_ev (Ev_loadOld rfl (by assumption)) ?_) | (refine EK_ev (Ev_loadAgg rfl (by (repeat' (first | exact Sel.here | apply Sel.there)); first | done | fail) (by (repeat' (first | exact Cut.nil | apply Cut.cons | apply Cut.skip)); first | done | fail)) ?_)) | (refine ek_un ?_; first | (refine EK_ev (Ev_notD rfl) ?_) | (refine EK_ev (Ev_not rfl) ?_) | (refine EK_ev (Ev_neg rfl) ?_)) | (refine ek_sub ?_; first | (refine EK_ev (Ev_subI rfl rfl (by omega)) ?_) | (refine EK_ev (Ev_sub rfl rfl) ?_)) | (refine ek_gtr ?_; first | (refine EK_ev (Ev_gtrI_q rfl rfl (q := false) (by rfl)) ?_) | (refine EK_ev (Ev_gtrI rfl rfl) ?_) | (refine EK_ev (Ev_gtrS rfl rfl) ?_)))
    | (refine is_ex ?_; first | (refine KJ_blk_exit' rfl ?_))
    | (refine is_code ?_; first | (refine KJ_cond_dec rfl (fun _ => ?_) (fun _ => ?_) <;> first | (exfalso; omega) | skip) | (refine KJ_cond_t rfl ?_) | (refine KJ_cond_f rfl ?_)))
    all_goals exact KJ_done (by first | exact Or.inl rfl | exact Or.inr rfl) rfl (by (repeat' (first | exact Rvs.nil | (apply Rvs.tmp; exact rfl))); first | done | fail) () (by rfl) (Ent.of (by (repeat' (first | exact Pick.nil | apply Pick.cons | exact Sel.here | apply Sel.there)); first | done | fail) (by (repeat' (first | exact DropTo.refl | apply DropTo.there)); first | done | fail))
  · have e1 : RefF p ({ n := n, img := img, und := und, off := false, armed := armed, writes := wr, flushes := fl, life := lf } : Dsk) (sv, wv) = [cellsP p [sv, wv, .bool false, .bool true, .int .i64 armed, .int .i64 wr, .int .i64 fl, .int .i64 lf] 97, rowP sv 9 1 n (secsV img n), rowP wv 192 2 und.length (waysV und)] := by
      have h1 : decide (0 ≤ armed) = true := decide_eq_true (by omega)
      have h2 : max armed 0 = armed := by omega
      simp only [RefF, refC, h1, h2]
    have e2 : RefF p (({ n := n, img := img, und := und, off := false, armed := armed, writes := wr, flushes := fl, life := lf } : Dsk)).gone (sv, wv) = [cellsP p [sv, wv, .bool false, .bool true, .int .i64 (armed - 1), .int .i64 wr, .int .i64 fl, .int .i64 lf] 97, rowP sv 9 1 n (secsV img n), rowP wv 192 2 und.length (waysV und)] := by
      have h1 : decide (0 ≤ armed - 1) = true := decide_eq_true (by omega)
      have h2 : max (armed - 1) 0 = armed - 1 := by omega
      have h3 : ¬ (armed = 0) := by omega
      simp only [RefF, refC, Dsk.gone, h3, h, if_true, if_false, h1, h2]
    have e3 : (({ n := n, img := img, und := und, off := false, armed := armed, writes := wr, flushes := fl, life := lf } : Dsk)).dead = false := by unfold Dsk.dead; exact decide_eq_false (by show ¬ armed = 0; omega)
    rw [e1, e2, e3]
    refine Ct.enter Tryd.func122 rfl Tryd.ntmps122 (by simp) (fun R => ?_)
    repeat' (first 
    | refine KJ_stp (by first | constructor | fail) ?_
    | (refine is_oper ?_; first | (refine is_store ?_; first | (refine KJ_store rfl rfl (by (repeat' (first | exact Sel.here | apply Sel.there)); first | done | fail) (by first | exact CellsOf.agg | exact CellsOf.one rfl) (by rfl) (by (repeat' (first | exact Ones.nil | exact Ones_bvs _ | refine Ones.cons rfl ?_)); first | done | fail) (by (repeat' (first | exact Laid.nil | apply Laid.cons | apply Laid.skip)); first | done | fail) (by (repeat' (first | exact Rep.here | apply Rep.there)); first | done | fail) ?_)) | (refine KJ_ek rfl ?_) | (refine KJ_ek0 ?_))
    | (refine is_ek ?_; first | (refine ek_move ?_; first | (refine EK_ev (Ev_move rfl) ?_)) | (refine ek_assign ?_; first | (refine EK_ev (Ev_assign rfl) ?_)) | (refine ek_nilCheck ?_; first | (refine EK_ev (Ev_nilCheck rfl) ?_)) | (refine ek_fieldAddr ?_; first | (refine EK_ev (Ev_field rfl) ?_)) | (refine ek_load ?_; first | (refine EK_ev (Ev_load rfl (by (repeat' (first | exact Sel.here | apply Sel.there)); first | done | fail) (by rfl)) ?_) | (refine EK_ev (Ev_loadOld rfl (by assumption)) ?_) | (refine EK_ev (Ev_loadAgg rfl (by (repeat' (first | exact Sel.here | apply Sel.there)); first | done | fail) (by (repeat' (first | exact Cut.nil | apply Cut.cons | apply Cut.skip)); first | done | fail)) ?_)) | (refine ek_un ?_; first | (refine EK_ev (Ev_notD rfl) ?_) | (refine EK_ev (Ev_not rfl) ?_) | (refine EK_ev (Ev_neg rfl) ?_)) | (refine ek_sub ?_; first | (refine EK_ev (Ev_subI rfl rfl (by omega)) ?_) | (refine EK_ev (Ev_sub rfl rfl) ?_)) | (refine ek_gtr ?_; first | (refine EK_ev (Ev_gtrI_q rfl rfl (q := true) (decide_eq_true h)) ?_) | (refine EK_ev (Ev_gtrI rfl rfl) ?_) | (refine EK_ev (Ev_gtrS rfl rfl) ?_)))
    | (refine is_ex ?_; first | (refine KJ_blk_exit' rfl ?_))
    | (refine is_code ?_; first | (refine KJ_cond_dec rfl (fun _ => ?_) (fun _ => ?_) <;> first | (exfalso; omega) | skip) | (refine KJ_cond_t rfl ?_) | (refine KJ_cond_f rfl ?_)))
    all_goals exact KJ_done (by first | exact Or.inl rfl | exact Or.inr rfl) rfl (by (repeat' (first | exact Rvs.nil | (apply Rvs.tmp; exact rfl))); first | done | fail) () (by rfl) (Ent.of (by (repeat' (first | exact Pick.nil | apply Pick.cons | exact Sel.here | apply Sel.there)); first | done | fail) (by (repeat' (first | exact DropTo.refl | apply DropTo.there)); first | done | fail))
theorem rarm_ct (k : Int) (hk : k ≤ 9223372036854775807) : Ct Tryd.prog W 94 [.pointer (some ⟨p, 0, none⟩), .int .i64 k] [RefP p D] (fun _ : Unit => .tuple #[]) (fun _ => [RefP p (D.arm k)]) := by
  refine Ct_ref (fun sv wv => ?_)
  obtain ⟨n, img, und, off, armed, wr, fl, lf⟩ := D
  have h1 : decide (0 ≤ max k (-1)) = decide (0 ≤ k) := by rw [decide_eq_decide]; omega
  have h2 : max (max k (-1)) 0 = max k 0 := by omega
  have e2 : RefF p ((({ n := n, img := img, und := und, off := off, armed := armed, writes := wr, flushes := fl, life := lf } : Dsk)).arm k) (sv, wv) = [cellsP p [sv, wv, .bool off, .bool (decide (0 ≤ k)), .int .i64 (max k 0), .int .i64 wr, .int .i64 fl, .int .i64 lf] 97, rowP sv 9 1 n (secsV img n), rowP wv 192 2 und.length (waysV und)] := by
    show [cellsP p [sv, wv, .bool off, .bool (decide (0 ≤ max k (-1))), .int .i64 (max (max k (-1)) 0), .int .i64 wr, .int .i64 fl, .int .i64 lf] 97, rowP sv 9 1 n (secsV img n), rowP wv 192 2 und.length (waysV und)] = _
    rw [h1, h2]
  show Ct _ _ _ _ [cellsP p [sv, wv, .bool off, .bool (decide (0 ≤ armed)), .int .i64 (max armed 0), .int .i64 wr, .int .i64 fl, .int .i64 lf] 97, rowP sv 9 1 n (secsV img n), rowP wv 192 2 und.length (waysV und)] _ _
  refine Ct.enter Tryd.func94 rfl Tryd.ntmps94 (by simp) (fun R => ?_)
  repeat' (first 
    | refine KJ_stp (by first | constructor | fail) ?_
    | (refine is_oper ?_; first | (refine is_store ?_; first | (refine KJ_store rfl rfl (by (repeat' (first | exact Sel.here | apply Sel.there)); first | done | fail) (by first | exact CellsOf.agg | exact CellsOf.one rfl) (by rfl) (by (repeat' (first | exact Ones.nil | exact Ones_bvs _ | refine Ones.cons rfl ?_)); first | done | fail) (by (repeat' (first | exact Laid.nil | apply Laid.cons | apply Laid.skip)); first | done | fail) (by (repeat' (first | exact Rep.here | apply Rep.there)); first | done | fail) ?_)) | (refine KJ_ek rfl ?_) | (refine KJ_ek0 ?_))
    | (refine is_ek ?_; first | (refine ek_move ?_; first | (refine EK_ev (Ev_move rfl) ?_)) | (refine ek_nilCheck ?_; first | (refine EK_ev (Ev_nilCheck rfl) ?_)) | (refine ek_fieldAddr ?_; first | (refine EK_ev (Ev_field rfl) ?_)) | (refine ek_max ?_; first | (refine EK_ev (Ev_max rfl rfl) ?_) | (refine EK_ev (Ev_max rfl rfl) ?_)) | (refine ek_geq ?_; first | (refine EK_ev (Ev_geqI rfl rfl) ?_) | (refine EK_ev (Ev_geqS rfl rfl) ?_)))
    | (refine is_ex ?_; first | (refine KJ_blk_exit' rfl ?_))
    | (refine is_code ?_; first | (refine KJ_cond_dec rfl (fun _ => ?_) (fun _ => ?_) <;> first | (exfalso; omega) | skip) | (refine KJ_cond_t rfl ?_) | (refine KJ_cond_f rfl ?_)))
  refine KJ_doneR (by first | exact Or.inl rfl | exact Or.inr rfl) rfl (by (repeat' (first | exact Rvs.nil | (apply Rvs.tmp; exact rfl))); first | done | fail) (by rfl) sv wv (fun g q => ?_)
  rw [e2]
  exact (Ent.of (by (repeat' (first | exact Pick.nil | apply Pick.cons | exact Sel.here | apply Sel.there)); first | done | fail) (by (repeat' (first | exact DropTo.refl | apply DropTo.there)); first | done | fail)) g q
theorem rwrite_ct (hok : D.ok) (i : Int) (s : List UInt8) (hul : D.und.length < 1073741824) : Ct Tryd.prog W 97 [.pointer (some ⟨p, 0, none⟩), .int .i64 i, strV s] [RefP p D] (fun _ : Unit => .int .i64 (D.writeE i s)) (fun _ => [RefP p (D.writeD i s)]) := by
  refine Ct_ref (fun sv wv => ?_)
  by_cases hoff : D.off = true
  · have e1 : D.writeE i s = 12 := by unfold Dsk.writeE; rw [if_pos hoff]
    have e2 : D.writeD i s = D := by unfold Dsk.writeD; rw [if_pos hoff]
    rw [e1, e2]
    show Ct _ _ _ _ [cellsP p [sv, wv, .bool D.off, .bool (decide (0 ≤ D.armed)), .int .i64 (max D.armed 0), .int .i64 D.writes, .int .i64 D.flushes, .int .i64 D.life] 97, rowP (sv) 9 1 D.n (secsV D.img D.n), rowP (wv) 192 2 D.und.length (waysV D.und)] _ _
    rw [hoff]
    refine Ct.enter Tryd.func97 rfl Tryd.ntmps97 (by simp) (fun R => ?_)
    repeat' (first 
    | refine KJ_stp (by first | constructor | fail) ?_
    | (refine is_list ?_; first | (refine KJ_guard_dec_t rfl rfl rfl (fun _ => ?_) (fun _ => ?_) <;> first | (exfalso; omega) | skip) | (refine KJ_guard_dec_f rfl rfl rfl (fun _ => ?_) (fun _ => ?_) <;> first | (exfalso; omega) | skip) | (refine KJ_guard_yes rfl rfl ?_) | (refine KJ_guard_no rfl rfl rfl rfl ?_))
    | (refine is_oper ?_; first | (refine is_store ?_; first | (refine KJ_store rfl rfl (by (repeat' (first | exact Sel.here | apply Sel.there)); first | done | fail) (by first | exact CellsOf.agg | exact CellsOf.one rfl) (by rfl) (by (repeat' (first | exact Ones.nil | exact Ones_bvs _ | refine Ones.cons rfl ?_)); first | done | fail) (by (repeat' (first | exact Laid.nil | apply Laid.cons | apply Laid.skip)); first | done | fail) (by (repeat' (first | exact Rep.here | apply Rep.there)); first | done | fail) ?_)) | (refine KJ_ek rfl ?_) | (refine KJ_ek0 ?_))
    | (refine is_ek ?_; first | (refine ek_move ?_; first | (refine EK_ev (Ev_move rfl) ?_)) | (refine ek_assign ?_; first | (refine EK_ev (Ev_assign rfl) ?_)) | (refine ek_pick ?_; first | (refine EK_ev (Ev_pick_t rfl rfl) ?_) | (refine EK_ev (Ev_pick_f rfl rfl) ?_)) | (refine ek_nilCheck ?_; first | (refine EK_ev (Ev_nilCheck rfl) ?_)) | (refine ek_fieldAddr ?_; first | (refine EK_ev (Ev_field rfl) ?_)) | (refine ek_load ?_; first | (refine EK_ev (Ev_load rfl (by (repeat' (first | exact Sel.here | apply Sel.there)); first | done | fail) (by rfl)) ?_) | (refine EK_ev (Ev_loadOld rfl (by assumption)) ?_) | (refine EK_ev (Ev_loadAgg rfl (by (repeat' (first | exact Sel.here | apply Sel.there)); first | done | fail) (by (repeat' (first | exact Cut.nil | apply Cut.cons | apply Cut.skip)); first | done | fail)) ?_)) | (refine ek_len ?_; first | (refine EK_ev (Ev_len_str rfl) ?_) | (refine EK_ev (Ev_len_slice rfl) ?_) | (refine EK_ev (Ev_len_arr rfl) ?_) | (refine EK_ev (Ev_len_map rfl (by (repeat' (first | exact Sel.here | apply Sel.there)); first | done | fail)) ?_)) | (refine ek_add ?_; first | (refine EK_ev (Ev_addI rfl rfl (by omega)) ?_) | (refine EK_ev (Ev_addS rfl rfl (by simp <;> omega)) ?_) | (refine EK_ev (Ev_add rfl rfl) ?_)) | (refine ek_neq ?_; first | (refine EK_ev (Ev_neqI rfl rfl) ?_) | (refine EK_ev (Ev_neqS rfl rfl) ?_) | (refine EK_ev (Ev_neqNil rfl rfl) ?_) | (refine EK_ev (Ev_neqB rfl rfl) ?_) | (refine EK_ev (Ev_neqO rfl rfl rfl (fun _ => rfl)) ?_)) | (refine ek_lss ?_; first | (refine EK_ev (Ev_lssI rfl rfl) ?_) | (refine EK_ev (Ev_lssS rfl rfl) ?_)) | (refine ek_geq ?_; first | (refine EK_ev (Ev_geqI rfl rfl) ?_) | (refine EK_ev (Ev_geqS rfl rfl) ?_)))
    | (refine is_ex ?_; first | (refine KJ_blk_exit' rfl ?_))
    | (refine is_code ?_; first | (refine KJ_cond_dec rfl (fun _ => ?_) (fun _ => ?_) <;> first | (exfalso; omega) | skip) | (refine KJ_cond_t rfl ?_) | (refine KJ_cond_f rfl ?_)))
    all_goals refine KJ_doneR (by first | exact Or.inl rfl | exact Or.inr rfl) rfl (by (repeat' (first | exact Rvs.nil | (apply Rvs.tmp; exact rfl))); first | done | fail) (by rfl) (sv) (wv) (fun g q => ?_)
    show starL ([cellsP p [sv, wv, .bool D.off, .bool (decide (0 ≤ D.armed)), .int .i64 (max D.armed 0), .int .i64 D.writes, .int .i64 D.flushes, .int .i64 D.life] 97, rowP (sv) 9 1 D.n (secsV D.img D.n), rowP (wv) 192 2 D.und.length (waysV D.und)] ++ R) g
    rw [hoff]
    exact (Ent.of (by (repeat' (first | exact Pick.nil | apply Pick.cons | exact Sel.here | apply Sel.there)); first | done | fail) (by (repeat' (first | exact DropTo.refl | apply DropTo.there)); first | done | fail)) g q
  have hoff : D.off = false := by simpa using hoff
  have hbad : ∀ e : Nat, D.writeE i s = e → D.writeD i s = D → (D.has i = false ∨ (D.has i = true ∧ s.length ≠ 256)) → (e = if D.has i then 7 else 6) → Ct Tryd.prog W 97 [.pointer (some ⟨p, 0, none⟩), .int .i64 i, strV s] (RefF p D (sv, wv)) (fun _ : Unit => .int .i64 (D.writeE i s)) (fun _ => [RefP p (D.writeD i s)]) := by
    intro e e1 e2 hc he
    rw [e1, e2]
    show Ct _ _ _ _ [cellsP p [sv, wv, .bool D.off, .bool (decide (0 ≤ D.armed)), .int .i64 (max D.armed 0), .int .i64 D.writes, .int .i64 D.flushes, .int .i64 D.life] 97, rowP (sv) 9 1 D.n (secsV D.img D.n), rowP (wv) 192 2 D.und.length (waysV D.und)] _ _
    rw [hoff]
    rcases hc with hc | ⟨hc, hs⟩
    · rw [hc] at he
      subst he
      have hc' : ¬ (0 ≤ i ∧ i < D.n) := by unfold Dsk.has at hc; exact of_decide_eq_false hc
      by_cases hi : i < 0
      · have q1 : decide (i < 0) = true := decide_eq_true hi
        refine Ct.enter Tryd.func97 rfl Tryd.ntmps97 (by simp) (fun R => ?_)
        repeat' (first 
    | refine KJ_stp (by first | constructor | fail) ?_
    | (refine is_list ?_; first | (refine KJ_guard_dec_t rfl rfl rfl (fun _ => ?_) (fun _ => ?_) <;> first | (exfalso; omega) | skip) | (refine KJ_guard_dec_f rfl rfl rfl (fun _ => ?_) (fun _ => ?_) <;> first | (exfalso; omega) | skip) | (refine KJ_guard_yes rfl rfl ?_) | (refine KJ_guard_no rfl rfl rfl rfl ?_))
    | (refine is_oper ?_; first | (refine is_store ?_; first | (refine KJ_store rfl rfl (by (repeat' (first | exact Sel.here | apply Sel.there)); first | done | fail) (by first | exact CellsOf.agg | exact CellsOf.one rfl) (by rfl) (by (repeat' (first | exact Ones.nil | exact Ones_bvs _ | refine Ones.cons rfl ?_)); first | done | fail) (by (repeat' (first | exact Laid.nil | apply Laid.cons | apply Laid.skip)); first | done | fail) (by (repeat' (first | exact Rep.here | apply Rep.there)); first | done | fail) ?_)) | (refine KJ_ek rfl ?_) | (refine KJ_ek0 ?_))
    | (refine is_ek ?_; first | (refine ek_move ?_; first | (refine EK_ev (Ev_move rfl) ?_)) | (refine ek_assign ?_; first | (refine EK_ev (Ev_assign rfl) ?_)) | (refine ek_pick ?_; first | (refine EK_ev (Ev_pick_t rfl rfl) ?_) | (refine EK_ev (Ev_pick_f rfl rfl) ?_)) | (refine ek_nilCheck ?_; first | (refine EK_ev (Ev_nilCheck rfl) ?_)) | (refine ek_fieldAddr ?_; first | (refine EK_ev (Ev_field rfl) ?_)) | (refine ek_load ?_; first | (refine EK_ev (Ev_load rfl (by (repeat' (first | exact Sel.here | apply Sel.there)); first | done | fail) (by rfl)) ?_) | (refine EK_ev (Ev_loadOld rfl (by assumption)) ?_) | (refine EK_ev (Ev_loadAgg rfl (by (repeat' (first | exact Sel.here | apply Sel.there)); first | done | fail) (by (repeat' (first | exact Cut.nil | apply Cut.cons | apply Cut.skip)); first | done | fail)) ?_)) | (refine ek_len ?_; first | (refine EK_ev (Ev_len_str rfl) ?_) | (refine EK_ev (Ev_len_slice rfl) ?_) | (refine EK_ev (Ev_len_arr rfl) ?_) | (refine EK_ev (Ev_len_map rfl (by (repeat' (first | exact Sel.here | apply Sel.there)); first | done | fail)) ?_)) | (refine ek_add ?_; first | (refine EK_ev (Ev_addI rfl rfl (by omega)) ?_) | (refine EK_ev (Ev_addS rfl rfl (by simp <;> omega)) ?_) | (refine EK_ev (Ev_add rfl rfl) ?_)) | (refine ek_neq ?_; first | (refine EK_ev (Ev_neqI rfl rfl) ?_) | (refine EK_ev (Ev_neqS rfl rfl) ?_) | (refine EK_ev (Ev_neqNil rfl rfl) ?_) | (refine EK_ev (Ev_neqB rfl rfl) ?_) | (refine EK_ev (Ev_neqO rfl rfl rfl (fun _ => rfl)) ?_)) | (refine ek_lss ?_; first | (refine EK_ev (Ev_lssI_q rfl rfl q1) ?_) | (refine EK_ev (Ev_lssI rfl rfl) ?_) | (refine EK_ev (Ev_lssS rfl rfl) ?_)) | (refine ek_geq ?_; first | (refine EK_ev (Ev_geqI rfl rfl) ?_) | (refine EK_ev (Ev_geqS rfl rfl) ?_)))
    | (refine is_ex ?_; first | (refine KJ_blk_exit' rfl ?_))
    | (refine is_code ?_; first | (refine KJ_cond_dec rfl (fun _ => ?_) (fun _ => ?_) <;> first | (exfalso; omega) | skip) | (refine KJ_cond_t rfl ?_) | (refine KJ_cond_f rfl ?_)))
        all_goals refine KJ_doneR (by first | exact Or.inl rfl | exact Or.inr rfl) rfl (by (repeat' (first | exact Rvs.nil | (apply Rvs.tmp; exact rfl))); first | done | fail) (by rfl) (sv) (wv) (fun g q => ?_)
        all_goals (show starL ([cellsP p [sv, wv, .bool D.off, .bool (decide (0 ≤ D.armed)), .int .i64 (max D.armed 0), .int .i64 D.writes, .int .i64 D.flushes, .int .i64 D.life] 97, rowP (sv) 9 1 D.n (secsV D.img D.n), rowP (wv) 192 2 D.und.length (waysV D.und)] ++ R) g; rw [hoff]; exact (Ent.of (by (repeat' (first | exact Pick.nil | apply Pick.cons | exact Sel.here | apply Sel.there)); first | done | fail) (by (repeat' (first | exact DropTo.refl | apply DropTo.there)); first | done | fail)) g q)
      · have q1 : decide (i < 0) = false := decide_eq_false hi
        have q2 : decide ((D.n : Int) ≤ i) = true := decide_eq_true (by omega)
        refine Ct.enter Tryd.func97 rfl Tryd.ntmps97 (by simp) (fun R => ?_)
        refine KJ.row_slice (v := sv) (by (repeat' (first | exact Sel.here | apply Sel.there)); first | done | fail) (fun ad c e => ?_)
        subst e
        repeat' (first 
    | refine KJ_stp (by first | constructor | fail) ?_
    | (refine is_list ?_; first | (refine KJ_guard_dec_t rfl rfl rfl (fun _ => ?_) (fun _ => ?_) <;> first | (exfalso; omega) | skip) | (refine KJ_guard_dec_f rfl rfl rfl (fun _ => ?_) (fun _ => ?_) <;> first | (exfalso; omega) | skip) | (refine KJ_guard_yes rfl rfl ?_) | (refine KJ_guard_no rfl rfl rfl rfl ?_))
    | (refine is_oper ?_; first | (refine is_store ?_; first | (refine KJ_store rfl rfl (by (repeat' (first | exact Sel.here | apply Sel.there)); first | done | fail) (by first | exact CellsOf.agg | exact CellsOf.one rfl) (by rfl) (by (repeat' (first | exact Ones.nil | exact Ones_bvs _ | refine Ones.cons rfl ?_)); first | done | fail) (by (repeat' (first | exact Laid.nil | apply Laid.cons | apply Laid.skip)); first | done | fail) (by (repeat' (first | exact Rep.here | apply Rep.there)); first | done | fail) ?_)) | (refine KJ_ek rfl ?_) | (refine KJ_ek0 ?_))
    | (refine is_ek ?_; first | (refine ek_move ?_; first | (refine EK_ev (Ev_move rfl) ?_)) | (refine ek_assign ?_; first | (refine EK_ev (Ev_assign rfl) ?_)) | (refine ek_pick ?_; first | (refine EK_ev (Ev_pick_t rfl rfl) ?_) | (refine EK_ev (Ev_pick_f rfl rfl) ?_)) | (refine ek_nilCheck ?_; first | (refine EK_ev (Ev_nilCheck rfl) ?_)) | (refine ek_fieldAddr ?_; first | (refine EK_ev (Ev_field rfl) ?_)) | (refine ek_load ?_; first | (refine EK_ev (Ev_load rfl (by (repeat' (first | exact Sel.here | apply Sel.there)); first | done | fail) (by rfl)) ?_) | (refine EK_ev (Ev_loadOld rfl (by assumption)) ?_) | (refine EK_ev (Ev_loadAgg rfl (by (repeat' (first | exact Sel.here | apply Sel.there)); first | done | fail) (by (repeat' (first | exact Cut.nil | apply Cut.cons | apply Cut.skip)); first | done | fail)) ?_)) | (refine ek_len ?_; first | (refine EK_ev (Ev_len_str rfl) ?_) | (refine EK_ev (Ev_len_slice rfl) ?_) | (refine EK_ev (Ev_len_arr rfl) ?_) | (refine EK_ev (Ev_len_map rfl (by (repeat' (first | exact Sel.here | apply Sel.there)); first | done | fail)) ?_)) | (refine ek_add ?_; first | (refine EK_ev (Ev_addI rfl rfl (by omega)) ?_) | (refine EK_ev (Ev_addS rfl rfl (by simp <;> omega)) ?_) | (refine EK_ev (Ev_add rfl rfl) ?_)) | (refine ek_neq ?_; first | (refine EK_ev (Ev_neqI rfl rfl) ?_) | (refine EK_ev (Ev_neqS rfl rfl) ?_) | (refine EK_ev (Ev_neqNil rfl rfl) ?_) | (refine EK_ev (Ev_neqB rfl rfl) ?_) | (refine EK_ev (Ev_neqO rfl rfl rfl (fun _ => rfl)) ?_)) | (refine ek_lss ?_; first | (refine EK_ev (Ev_lssI_q rfl rfl q1) ?_) | (refine EK_ev (Ev_lssI rfl rfl) ?_) | (refine EK_ev (Ev_lssS rfl rfl) ?_)) | (refine ek_geq ?_; first | (refine EK_ev (Ev_geqI_q rfl rfl q2) ?_) | (refine EK_ev (Ev_geqI rfl rfl) ?_) | (refine EK_ev (Ev_geqS rfl rfl) ?_)))
    | (refine is_ex ?_; first | (refine KJ_blk_exit' rfl ?_))
    | (refine is_code ?_; first | (refine KJ_cond_dec rfl (fun _ => ?_) (fun _ => ?_) <;> first | (exfalso; omega) | skip) | (refine KJ_cond_t rfl ?_) | (refine KJ_cond_f rfl ?_)))
        all_goals refine KJ_doneR (by first | exact Or.inl rfl | exact Or.inr rfl) rfl (by (repeat' (first | exact Rvs.nil | (apply Rvs.tmp; exact rfl))); first | done | fail) (by rfl) (.slice ad D.n c) (wv) (fun g q => ?_)
        all_goals (show starL ([cellsP p [.slice ad D.n c, wv, .bool D.off, .bool (decide (0 ≤ D.armed)), .int .i64 (max D.armed 0), .int .i64 D.writes, .int .i64 D.flushes, .int .i64 D.life] 97, rowP (.slice ad D.n c) 9 1 D.n (secsV D.img D.n), rowP (wv) 192 2 D.und.length (waysV D.und)] ++ R) g; rw [hoff]; exact (Ent.of (by (repeat' (first | exact Pick.nil | apply Pick.cons | exact Sel.here | apply Sel.there)); first | done | fail) (by (repeat' (first | exact DropTo.refl | apply DropTo.there)); first | done | fail)) g q)
    · rw [hc] at he
      subst he
      have hc' : 0 ≤ i ∧ i < D.n := by unfold Dsk.has at hc; exact of_decide_eq_true hc
      have q1 : decide (i < 0) = false := decide_eq_false (by omega)
      have q2 : decide ((D.n : Int) ≤ i) = false := decide_eq_false (by omega)
      have q3 : ((s.length : Nat) : Int) ≠ 256 := by omega
      refine Ct.enter Tryd.func97 rfl Tryd.ntmps97 (by simp) (fun R => ?_)
      refine KJ.row_slice (v := sv) (by (repeat' (first | exact Sel.here | apply Sel.there)); first | done | fail) (fun ad c e => ?_)
      subst e
      repeat' (first 
    | refine KJ_stp (by first | constructor | fail) ?_
    | (refine is_list ?_; first | (refine KJ_guard_dec_t rfl rfl rfl (fun _ => ?_) (fun _ => ?_) <;> first | (exfalso; omega) | skip) | (refine KJ_guard_dec_f rfl rfl rfl (fun _ => ?_) (fun _ => ?_) <;> first | (exfalso; omega) | skip) | (refine KJ_guard_yes rfl rfl ?_) | (refine KJ_guard_no rfl rfl rfl rfl ?_))
    | (refine is_oper ?_; first | (refine is_store ?_; first | (refine KJ_store rfl rfl (by (repeat' (first | exact Sel.here | apply Sel.there)); first | done | fail) (by first | exact CellsOf.agg | exact CellsOf.one rfl) (by rfl) (by (repeat' (first | exact Ones.nil | exact Ones_bvs _ | refine Ones.cons rfl ?_)); first | done | fail) (by (repeat' (first | exact Laid.nil | apply Laid.cons | apply Laid.skip)); first | done | fail) (by (repeat' (first | exact Rep.here | apply Rep.there)); first | done | fail) ?_)) | (refine KJ_ek rfl ?_) | (refine KJ_ek0 ?_))
    | (refine is_ek ?_; first | (refine ek_move ?_; first | (refine EK_ev (Ev_move rfl) ?_)) | (refine ek_assign ?_; first | (refine EK_ev (Ev_assign rfl) ?_)) | (refine ek_pick ?_; first | (refine EK_ev (Ev_pick_t rfl rfl) ?_) | (refine EK_ev (Ev_pick_f rfl rfl) ?_)) | (refine ek_nilCheck ?_; first | (refine EK_ev (Ev_nilCheck rfl) ?_)) | (refine ek_fieldAddr ?_; first | (refine EK_ev (Ev_field rfl) ?_)) | (refine ek_load ?_; first | (refine EK_ev (Ev_load rfl (by (repeat' (first | exact Sel.here | apply Sel.there)); first | done | fail) (by rfl)) ?_) | (refine EK_ev (Ev_loadOld rfl (by assumption)) ?_) | (refine EK_ev (Ev_loadAgg rfl (by (repeat' (first | exact Sel.here | apply Sel.there)); first | done | fail) (by (repeat' (first | exact Cut.nil | apply Cut.cons | apply Cut.skip)); first | done | fail)) ?_)) | (refine ek_len ?_; first | (refine EK_ev (Ev_len_str rfl) ?_) | (refine EK_ev (Ev_len_slice rfl) ?_) | (refine EK_ev (Ev_len_arr rfl) ?_) | (refine EK_ev (Ev_len_map rfl (by (repeat' (first | exact Sel.here | apply Sel.there)); first | done | fail)) ?_)) | (refine ek_add ?_; first | (refine EK_ev (Ev_addI rfl rfl (by omega)) ?_) | (refine EK_ev (Ev_addS rfl rfl (by simp <;> omega)) ?_) | (refine EK_ev (Ev_add rfl rfl) ?_)) | (refine ek_neq ?_; first | (refine EK_ev (Ev_neqI_t rfl rfl q3) ?_) | (refine EK_ev (Ev_neqI rfl rfl) ?_) | (refine EK_ev (Ev_neqS rfl rfl) ?_) | (refine EK_ev (Ev_neqNil rfl rfl) ?_) | (refine EK_ev (Ev_neqB rfl rfl) ?_) | (refine EK_ev (Ev_neqO rfl rfl rfl (fun _ => rfl)) ?_)) | (refine ek_lss ?_; first | (refine EK_ev (Ev_lssI_q rfl rfl q1) ?_) | (refine EK_ev (Ev_lssI rfl rfl) ?_) | (refine EK_ev (Ev_lssS rfl rfl) ?_)) | (refine ek_geq ?_; first | (refine EK_ev (Ev_geqI_q rfl rfl q2) ?_) | (refine EK_ev (Ev_geqI rfl rfl) ?_) | (refine EK_ev (Ev_geqS rfl rfl) ?_)))
    | (refine is_ex ?_; first | (refine KJ_blk_exit' rfl ?_))
    | (refine is_code ?_; first | (refine KJ_cond_dec rfl (fun _ => ?_) (fun _ => ?_) <;> first | (exfalso; omega) | skip) | (refine KJ_cond_t rfl ?_) | (refine KJ_cond_f rfl ?_)))
      all_goals refine KJ_doneR (by first | exact Or.inl rfl | exact Or.inr rfl) rfl (by (repeat' (first | exact Rvs.nil | (apply Rvs.tmp; exact rfl))); first | done | fail) (by rfl) (.slice ad D.n c) (wv) (fun g q => ?_)
      all_goals (show starL ([cellsP p [.slice ad D.n c, wv, .bool D.off, .bool (decide (0 ≤ D.armed)), .int .i64 (max D.armed 0), .int .i64 D.writes, .int .i64 D.flushes, .int .i64 D.life] 97, rowP (.slice ad D.n c) 9 1 D.n (secsV D.img D.n), rowP (wv) 192 2 D.und.length (waysV D.und)] ++ R) g; rw [hoff]; exact (Ent.of (by (repeat' (first | exact Pick.nil | apply Pick.cons | exact Sel.here | apply Sel.there)); first | done | fail) (by (repeat' (first | exact DropTo.refl | apply DropTo.there)); first | done | fail)) g q)
  by_cases hh : D.has i = true
  rotate_left
  · have hh : D.has i = false := by simpa using hh
    exact hbad 6 (by unfold Dsk.writeE; rw [if_neg (by rw [hoff]; simp), if_neg (by rw [hh]; simp)]) (by unfold Dsk.writeD; rw [if_neg (by rw [hoff]; simp), if_neg (by rw [hh]; simp)]) (.inl hh) (by rw [hh]; rfl)
  by_cases hs : s.length = 256
  rotate_left
  · exact hbad 7 (by unfold Dsk.writeE; rw [if_neg (by rw [hoff]; simp), if_pos hh, if_neg hs]) (by unfold Dsk.writeD; rw [if_neg (by rw [hoff]; simp), if_pos hh, if_neg hs]) (.inr ⟨hh, hs⟩) (by rw [hh]; rfl)
  clear hbad
  have hc' : 0 ≤ i ∧ i < D.n := by unfold Dsk.has at hh; exact of_decide_eq_true hh
  have q1 : decide (i < 0) = false := decide_eq_false (by omega)
  have q2 : decide ((D.n : Int) ≤ i) = false := decide_eq_false (by omega)
  have q3 : ((s.length : Nat) : Int) = 256 := by omega
  obtain ⟨j, rfl⟩ : ∃ j : Nat, i = (j : Int) := ⟨i.toNat, by omega⟩
  obtain ⟨D1, hD1⟩ : ∃ D1 : Dsk, D1 = { D with und := D.und ++ [(j, s)] } := ⟨_, rfl⟩
  have cg : ∀ sv wv, Ct Tryd.prog W 122 [.pointer (some ⟨p, 0, none⟩)] (RefF p D1 (sv, wv)) (fun _ : Unit => .bool D.dead) (fun _ => RefF p D1.gone (sv, wv)) := fun sv wv => by
    subst hD1; exact rgoes_ct (D := { D with und := D.und ++ [(j, s)] }) ⟨hok.arm1, hok.arm2⟩ hoff sv wv
  have hz : ∀ sv wv, RefF p D1 (sv, wv) = [cellsP p [sv, wv, .bool false, .bool (decide (0 ≤ D.armed)), .int .i64 (max D.armed 0), .int .i64 D.writes, .int .i64 D.flushes, .int .i64 D.life] 97, rowP (sv) 9 1 D.n (secsV D.img D.n), rowP (wv) 192 2 (D.und.length + 1) (waysV D.und ++ [.int .i64 (j : Nat), strV s])] := fun sv wv => by
    subst hD1; simp only [RefF, refC, hoff, List.length_append, List.length_cons, List.length_nil, waysV_snoc]
  have hgw : D1.gone.writes = D.writes := by rw [Dsk.gone_writes, hD1]
  have hgn : D1.gone.n = D.n := by rw [Dsk.gone_n, hD1]
  by_cases hd : D.dead = true
  · have e1 : D.writeE (j : Int) s = 12 := by unfold Dsk.writeE; rw [if_neg (by rw [hoff]; simp), if_pos hh, if_pos hs, if_pos hd]
    have e2 : D.writeD (j : Int) s = D1.gone := by unfold Dsk.writeD; rw [if_neg (by rw [hoff]; simp), if_pos hh, if_pos hs, if_pos hd, hD1, Int.toNat_natCast]
    rw [hd] at cg
    rw [e1, e2]
    show Ct _ _ _ _ [cellsP p [sv, wv, .bool D.off, .bool (decide (0 ≤ D.armed)), .int .i64 (max D.armed 0), .int .i64 D.writes, .int .i64 D.flushes, .int .i64 D.life] 97, rowP (sv) 9 1 D.n (secsV D.img D.n), rowP (wv) 192 2 D.und.length (waysV D.und)] _ _
    rw [hoff]
    refine Ct.enter Tryd.func97 rfl Tryd.ntmps97 (by simp) (fun R => ?_)
    refine KJ.row_slice (v := sv) (by (repeat' (first | exact Sel.here | apply Sel.there)); first | done | fail) (fun ad c e => ?_)
    subst e
    refine KJ.row_slice (v := wv) (by (repeat' (first | exact Sel.here | apply Sel.there)); first | done | fail) (fun wa wc e => ?_)
    subst e
    simp only [hz] at cg
    repeat' (first 
    | refine KJ_stp (by first | constructor | fail) ?_
    | (refine is_list ?_; first | (refine KJ_guard_dec_t rfl rfl rfl (fun _ => ?_) (fun _ => ?_) <;> first | (exfalso; omega) | skip) | (refine KJ_guard_dec_f rfl rfl rfl (fun _ => ?_) (fun _ => ?_) <;> first | (exfalso; omega) | skip) | (refine KJ_guard_yes rfl rfl ?_) | (refine KJ_guard_no rfl rfl rfl rfl ?_))
    | (refine is_oper ?_; first | (refine is_store ?_; first | (refine KJ_store rfl rfl (by (repeat' (first | exact Sel.here | apply Sel.there)); first | done | fail) (by first | exact CellsOf.agg | exact CellsOf.one rfl) (by rfl) (by (repeat' (first | exact Ones.nil | exact Ones_bvs _ | refine Ones.cons rfl ?_)); first | done | fail) (by (repeat' (first | exact Laid.nil | apply Laid.cons | apply Laid.skip)); first | done | fail) (by (repeat' (first | exact Rep.here | apply Rep.there)); first | done | fail) ?_)) | (refine is_call ?_; first | (refine KJ_call (by (repeat' (first | exact Evs.nil | refine Evs.cons rfl ?_)); first | done | fail) (cg _ _) (by (repeat' (first | exact Pick.nil | apply Pick.cons | exact Sel.here | apply Sel.there)); first | done | fail) rfl (fun _ => ?_))) | (refine is_append ?_; first | (refine KJ_append (a2 := 0) rfl rfl (by rfl) (by omega) (by (repeat' (first | exact Sel.here | apply Sel.there)); first | done | fail) (Src.cells (i := 2) (by (repeat' (first | exact Sel.here | apply Sel.there)); first | done | fail) (by (repeat' (first | exact Cut.nil | apply Cut.cons | apply Cut.skip)); first | done | fail)) (by rfl) (by omega) (by (repeat' (first | exact Ones.nil | exact Ones_bvs _ | refine Ones.cons rfl ?_)); first | done | fail) (by omega) (by omega) rfl rfl (fun gw cw => ?_))) | (refine is_bslice ?_; first | (refine KJ_bslice1 rfl (by first | exact CellsOf.agg | exact CellsOf.one rfl) (by rfl) (by omega) rfl (fun _ => ?_))) | (refine KJ_ek rfl ?_) | (refine KJ_ek0 ?_))
    | (refine is_ek ?_; first | (refine ek_move ?_; first | (refine EK_ev (Ev_move rfl) ?_)) | (refine ek_assign ?_; first | (refine EK_ev (Ev_assign rfl) ?_)) | (refine ek_pick ?_; first | (refine EK_ev (Ev_pick_t rfl rfl) ?_) | (refine EK_ev (Ev_pick_f rfl rfl) ?_)) | (refine ek_nilCheck ?_; first | (refine EK_ev (Ev_nilCheck rfl) ?_)) | (refine ek_fieldAddr ?_; first | (refine EK_ev (Ev_field rfl) ?_)) | (refine ek_load ?_; first | (refine EK_ev (Ev_load rfl (by (repeat' (first | exact Sel.here | apply Sel.there)); first | done | fail) (by rfl)) ?_) | (refine EK_ev (Ev_loadOld rfl (by assumption)) ?_) | (refine EK_ev (Ev_loadAgg rfl (by (repeat' (first | exact Sel.here | apply Sel.there)); first | done | fail) (by (repeat' (first | exact Cut.nil | apply Cut.cons | apply Cut.skip)); first | done | fail)) ?_)) | (refine ek_build ?_; first | (refine EK_ev (Ev_build (by (repeat' (first | exact EvP.nil | (apply EvP.cons; exact rfl))); first | done | fail) (by (repeat' (first | exact Fills.nil | (apply Fills.cons; exact rfl; (first | exact CellsOf.agg | exact CellsOf.one rfl); exact rfl; (repeat' (first | exact Laid.nil | apply Laid.cons | apply Laid.skip))))); first | done | fail)) ?_)) | (refine ek_len ?_; first | (refine EK_ev (Ev_len_str rfl) ?_) | (refine EK_ev (Ev_len_slice rfl) ?_) | (refine EK_ev (Ev_len_arr rfl) ?_) | (refine EK_ev (Ev_len_map rfl (by (repeat' (first | exact Sel.here | apply Sel.there)); first | done | fail)) ?_)) | (refine ek_add ?_; first | (refine EK_ev (Ev_addI rfl rfl (by omega)) ?_) | (refine EK_ev (Ev_addS rfl rfl (by simp <;> omega)) ?_) | (refine EK_ev (Ev_add rfl rfl) ?_)) | (refine ek_neq ?_; first | (refine EK_ev (Ev_neqI_f rfl rfl q3) ?_) | (refine EK_ev (Ev_neqI rfl rfl) ?_) | (refine EK_ev (Ev_neqS rfl rfl) ?_) | (refine EK_ev (Ev_neqNil rfl rfl) ?_) | (refine EK_ev (Ev_neqB rfl rfl) ?_) | (refine EK_ev (Ev_neqO rfl rfl rfl (fun _ => rfl)) ?_)) | (refine ek_lss ?_; first | (refine EK_ev (Ev_lssI_q rfl rfl q1) ?_) | (refine EK_ev (Ev_lssI rfl rfl) ?_) | (refine EK_ev (Ev_lssS rfl rfl) ?_)) | (refine ek_geq ?_; first | (refine EK_ev (Ev_geqI_q rfl rfl q2) ?_) | (refine EK_ev (Ev_geqI rfl rfl) ?_) | (refine EK_ev (Ev_geqS rfl rfl) ?_)))
    | (refine is_ex ?_; first | (refine KJ_blk_exit' rfl ?_))
    | (refine is_code ?_; first | (refine KJ_cond_dec rfl (fun _ => ?_) (fun _ => ?_) <;> first | (exfalso; omega) | skip) | (refine KJ_cond_t rfl ?_) | (refine KJ_cond_f rfl ?_)))
    all_goals refine KJ_doneR (by first | exact Or.inl rfl | exact Or.inr rfl) rfl (by (repeat' (first | exact Rvs.nil | (apply Rvs.tmp; exact rfl))); first | done | fail) (by rfl) (.slice ad D.n c) (.slice (some ⟨gw, 0, none⟩) (D.und.length + 1) cw) (fun g q => ?_)
    all_goals exact (Ent.of (by (repeat' (first | exact Pick.nil | apply Pick.cons | exact Sel.here | apply Sel.there)); first | done | fail) (by (repeat' (first | exact DropTo.refl | apply DropTo.there)); first | done | fail)) g q
  · have hd : D.dead = false := by simpa using hd
    have e1 : D.writeE (j : Int) s = 0 := by unfold Dsk.writeE; rw [if_neg (by rw [hoff]; simp), if_pos hh, if_pos hs, if_neg (by rw [hd]; simp)]
    have e2 : D.writeD (j : Int) s = { D1.gone with writes := w64 (D1.gone.writes + 1) } := by unfold Dsk.writeD; rw [if_neg (by rw [hoff]; simp), if_pos hh, if_pos hs, if_neg (by rw [hd]; simp), hD1, Int.toNat_natCast]
    rw [hd] at cg
    rw [e1, e2]
    obtain ⟨D2, hD2⟩ : ∃ D2, D2 = D1.gone := ⟨_, rfl⟩
    rw [← hD2] at cg hgn ⊢
    have hw1 : IntKind.i64.wrap (D2.writes + 1) = w64 (D2.writes + 1) := w64_wrap _
    clear hD2 hgw
    have hz2 : ∀ sv wv, RefF p D2 (sv, wv) = [cellsP p [sv, wv, .bool D2.off, .bool (decide (0 ≤ D2.armed)), .int .i64 (max D2.armed 0), .int .i64 D2.writes, .int .i64 D2.flushes, .int .i64 D2.life] 97, rowP sv 9 1 D2.n (secsV D2.img D2.n), rowP wv 192 2 D2.und.length (waysV D2.und)] := fun _ _ => rfl
    simp only [hz2] at cg
    show Ct _ _ _ _ [cellsP p [sv, wv, .bool D.off, .bool (decide (0 ≤ D.armed)), .int .i64 (max D.armed 0), .int .i64 D.writes, .int .i64 D.flushes, .int .i64 D.life] 97, rowP (sv) 9 1 D.n (secsV D.img D.n), rowP (wv) 192 2 D.und.length (waysV D.und)] _ _
    rw [hoff]
    refine Ct.enter Tryd.func97 rfl Tryd.ntmps97 (by simp) (fun R => ?_)
    refine KJ.row_slice (v := sv) (by (repeat' (first | exact Sel.here | apply Sel.there)); first | done | fail) (fun ad c e => ?_)
    subst e
    refine KJ.row_slice (v := wv) (by (repeat' (first | exact Sel.here | apply Sel.there)); first | done | fail) (fun wa wc e => ?_)
    subst e
    simp only [hz] at cg
    repeat' (first 
    | refine KJ_stp (by first | constructor | fail) ?_
    | (refine is_list ?_; first | (refine KJ_guard_dec_t rfl rfl rfl (fun _ => ?_) (fun _ => ?_) <;> first | (exfalso; omega) | skip) | (refine KJ_guard_dec_f rfl rfl rfl (fun _ => ?_) (fun _ => ?_) <;> first | (exfalso; omega) | skip) | (refine KJ_guard_yes rfl rfl ?_) | (refine KJ_guard_no rfl rfl rfl rfl ?_))
    | (refine is_oper ?_; first | (refine is_store ?_; first | (refine KJ_store rfl rfl (by (repeat' (first | exact Sel.here | apply Sel.there)); first | done | fail) (by first | exact CellsOf.agg | exact CellsOf.one rfl) (by rfl) (by (repeat' (first | exact Ones.nil | exact Ones_bvs _ | refine Ones.cons rfl ?_)); first | done | fail) (by (repeat' (first | exact Laid.nil | apply Laid.cons | apply Laid.skip)); first | done | fail) (by (repeat' (first | exact Rep.here | apply Rep.there)); first | done | fail) ?_)) | (refine is_call ?_; first | (refine KJ_call (by (repeat' (first | exact Evs.nil | refine Evs.cons rfl ?_)); first | done | fail) (cg _ _) (by (repeat' (first | exact Pick.nil | apply Pick.cons | exact Sel.here | apply Sel.there)); first | done | fail) rfl (fun _ => ?_))) | (refine is_append ?_; first | (refine KJ_append (a2 := 0) rfl rfl (by rfl) (by omega) (by (repeat' (first | exact Sel.here | apply Sel.there)); first | done | fail) (Src.cells (i := 2) (by (repeat' (first | exact Sel.here | apply Sel.there)); first | done | fail) (by (repeat' (first | exact Cut.nil | apply Cut.cons | apply Cut.skip)); first | done | fail)) (by rfl) (by omega) (by (repeat' (first | exact Ones.nil | exact Ones_bvs _ | refine Ones.cons rfl ?_)); first | done | fail) (by omega) (by omega) rfl rfl (fun gw cw => ?_))) | (refine is_bslice ?_; first | (refine KJ_bslice1 rfl (by first | exact CellsOf.agg | exact CellsOf.one rfl) (by rfl) (by omega) rfl (fun _ => ?_))) | (refine KJ_ek rfl ?_) | (refine KJ_ek0 ?_))
    | (refine is_ek ?_; first | (refine ek_move ?_; first | (refine EK_ev (Ev_move rfl) ?_)) | (refine ek_assign ?_; first | (refine EK_ev (Ev_assign rfl) ?_)) | (refine ek_pick ?_; first | (refine EK_ev (Ev_pick_t rfl rfl) ?_) | (refine EK_ev (Ev_pick_f rfl rfl) ?_)) | (refine ek_nilCheck ?_; first | (refine EK_ev (Ev_nilCheck rfl) ?_)) | (refine ek_fieldAddr ?_; first | (refine EK_ev (Ev_field rfl) ?_)) | (refine ek_load ?_; first | (refine EK_ev (Ev_load rfl (by (repeat' (first | exact Sel.here | apply Sel.there)); first | done | fail) (by rfl)) ?_) | (refine EK_ev (Ev_loadOld rfl (by assumption)) ?_) | (refine EK_ev (Ev_loadAgg rfl (by (repeat' (first | exact Sel.here | apply Sel.there)); first | done | fail) (by (repeat' (first | exact Cut.nil | apply Cut.cons | apply Cut.skip)); first | done | fail)) ?_)) | (refine ek_build ?_; first | (refine EK_ev (Ev_build (by (repeat' (first | exact EvP.nil | (apply EvP.cons; exact rfl))); first | done | fail) (by (repeat' (first | exact Fills.nil | (apply Fills.cons; exact rfl; (first | exact CellsOf.agg | exact CellsOf.one rfl); exact rfl; (repeat' (first | exact Laid.nil | apply Laid.cons | apply Laid.skip))))); first | done | fail)) ?_)) | (refine ek_len ?_; first | (refine EK_ev (Ev_len_str rfl) ?_) | (refine EK_ev (Ev_len_slice rfl) ?_) | (refine EK_ev (Ev_len_arr rfl) ?_) | (refine EK_ev (Ev_len_map rfl (by (repeat' (first | exact Sel.here | apply Sel.there)); first | done | fail)) ?_)) | (refine ek_add ?_; first | (refine EK_ev (Ev_addV rfl rfl hw1) ?_) | (refine EK_ev (Ev_addI rfl rfl (by omega)) ?_) | (refine EK_ev (Ev_addS rfl rfl (by simp <;> omega)) ?_) | (refine EK_ev (Ev_add rfl rfl) ?_)) | (refine ek_neq ?_; first | (refine EK_ev (Ev_neqI_f rfl rfl q3) ?_) | (refine EK_ev (Ev_neqI rfl rfl) ?_) | (refine EK_ev (Ev_neqS rfl rfl) ?_) | (refine EK_ev (Ev_neqNil rfl rfl) ?_) | (refine EK_ev (Ev_neqB rfl rfl) ?_) | (refine EK_ev (Ev_neqO rfl rfl rfl (fun _ => rfl)) ?_)) | (refine ek_lss ?_; first | (refine EK_ev (Ev_lssI_q rfl rfl q1) ?_) | (refine EK_ev (Ev_lssI rfl rfl) ?_) | (refine EK_ev (Ev_lssS rfl rfl) ?_)) | (refine ek_geq ?_; first | (refine EK_ev (Ev_geqI_q rfl rfl q2) ?_) | (refine EK_ev (Ev_geqI rfl rfl) ?_) | (refine EK_ev (Ev_geqS rfl rfl) ?_)))
    | (refine is_ex ?_; first | (refine KJ_blk_exit' rfl ?_))
    | (refine is_code ?_; first | (refine KJ_cond_dec rfl (fun _ => ?_) (fun _ => ?_) <;> first | (exfalso; omega) | skip) | (refine KJ_cond_t rfl ?_) | (refine KJ_cond_f rfl ?_)))
    all_goals refine KJ_doneR (by first | exact Or.inl rfl | exact Or.inr rfl) rfl (by (repeat' (first | exact Rvs.nil | (apply Rvs.tmp; exact rfl))); first | done | fail) (by rfl) (.slice ad D.n c) (.slice (some ⟨gw, 0, none⟩) (D.und.length + 1) cw) (fun g q => ?_)
    all_goals exact (Ent.of (by (repeat' (first | exact Pick.nil | apply Pick.cons | exact Sel.here | apply Sel.there)); first | done | fail) (by (repeat' (first | exact DropTo.refl | apply DropTo.there)); first | done | fail)) g q
end
end Go.Proofs.YteklldbfdmaafaaDoor
/-
  The document's disk (remitref06): Read, Flush, Crash, Image over plain data.
-/
namespace Go.Proofs.YteklldbfdmaafaaDoor
open Go Go.RowKit
theorem lastW_take (u : List (Nat × List UInt8)) (k j : Nat) (b : List UInt8) (i : Nat) (h : u[k]? = some (j, b)) : lastW (u.take (k + 1)) i = if j = i then some b else lastW (u.take k) i := by
  have h1 := (List.getElem?_eq_some_iff.1 h).1
  have h2 : u[k] = (j, b) := (List.getElem?_eq_some_iff.1 h).2
  rw [List.take_succ_eq_append_getElem h1, h2, lastW_snoc]
theorem starL_nilrow {e size : Nat} {H R : List SP} : ∀ g, starL (H ++ R) g → starL (H ++ [rowP (.slice none 0 0) e size 0 []] ++ R) g := by
  intro g q
  have q2 : starL (rowP (.slice none 0 0) e size 0 [] :: (H ++ R)) g := ⟨fun _ => none, g, (fun _ _ q => by cases q), (fun _ _ q => by cases q), .rfl, ⟨by simp, .inl ⟨rfl, rfl⟩⟩, q⟩
  refine starL_perm ?_ g q2
  have : (H ++ [rowP (.slice none 0 0) e size 0 []] ++ R) = H ++ rowP (.slice none 0 0) e size 0 [] :: R := by simp
  rw [this]
  exact List.perm_middle.symm
section
variable {W : World} {p : Nat} {D : Dsk}
set_option maxHeartbeats 1000000 in
theorem rread_ct (hok : D.ok) (i : Int) (hul : D.und.length < 1073741824) : Ct Tryd.prog W 96 [.pointer (some ⟨p, 0, none⟩), .int .i64 i] [RefP p D] (fun _ : Unit => .tuple #[strV (D.readS i), .int .i64 (D.readE i)]) (fun _ => [RefP p D]) := by
  refine Ct_ref (fun sv wv => ?_)
  have hn1 := hok.n1
  have hn2 := hok.n2
  by_cases hoff : D.off = true
  · have e1 : D.readE i = 12 := by unfold Dsk.readE; rw [if_pos hoff]
    have e2 : D.readS i = [] := by unfold Dsk.readS; rw [if_pos hoff]
    rw [e1, e2]
    show Ct _ _ _ _ [cellsP p [sv, wv, .bool D.off, .bool (decide (0 ≤ D.armed)), .int .i64 (max D.armed 0), .int .i64 D.writes, .int .i64 D.flushes, .int .i64 D.life] 97, rowP (sv) 9 1 D.n (secsV D.img D.n), rowP (wv) 192 2 D.und.length (waysV D.und)] _ _
    rw [hoff]
    refine Ct.enter Tryd.func96 rfl Tryd.ntmps96 (by simp) (fun R => ?_)
    repeat' (first 
    | refine KJ_stp (by first | constructor | fail) ?_
    | (refine is_list ?_; first | (refine KJ_guard_dec_t rfl rfl rfl (fun _ => ?_) (fun _ => ?_) <;> first | (exfalso; omega) | skip) | (refine KJ_guard_dec_f rfl rfl rfl (fun _ => ?_) (fun _ => ?_) <;> first | (exfalso; omega) | skip) | (refine KJ_guard_yes rfl rfl ?_) | (refine KJ_guard_no rfl rfl rfl rfl ?_))
    | (refine is_oper ?_; first | (refine is_store ?_; first | (refine KJ_store rfl rfl (by (repeat' (first | exact Sel.here | apply Sel.there)); first | done | fail) (by first | exact CellsOf.agg | exact CellsOf.one rfl) (by rfl) (by (repeat' (first | exact Ones.nil | exact Ones_bvs _ | refine Ones.cons rfl ?_)); first | done | fail) (by (repeat' (first | exact Laid.nil | apply Laid.cons | apply Laid.skip)); first | done | fail) (by (repeat' (first | exact Rep.here | apply Rep.there)); first | done | fail) ?_)) | (refine is_alloc ?_; first | (refine KJ_alloc rfl (fun _ => ?_))) | (refine KJ_ek rfl ?_) | (refine KJ_ek0 ?_))
    | (refine is_ek ?_; first | (refine ek_move ?_; first | (refine EK_ev (Ev_move rfl) ?_)) | (refine ek_assign ?_; first | (refine EK_ev (Ev_assign rfl) ?_)) | (refine ek_pick ?_; first | (refine EK_ev (Ev_pick_t rfl rfl) ?_) | (refine EK_ev (Ev_pick_f rfl rfl) ?_)) | (refine ek_nilCheck ?_; first | (refine EK_ev (Ev_nilCheck rfl) ?_)) | (refine ek_fieldAddr ?_; first | (refine EK_ev (Ev_field rfl) ?_)) | (refine ek_load ?_; first | (refine EK_ev (Ev_load rfl (by (repeat' (first | exact Sel.here | apply Sel.there)); first | done | fail) (by rfl)) ?_) | (refine EK_ev (Ev_loadOld rfl (by assumption)) ?_) | (refine EK_ev (Ev_loadAgg rfl (by (repeat' (first | exact Sel.here | apply Sel.there)); first | done | fail) (by (repeat' (first | exact Cut.nil | apply Cut.cons | apply Cut.skip)); first | done | fail)) ?_)) | (refine ek_indexAddr ?_; first | (refine EK_ev (Ev_indexSlice rfl rfl (by omega)) ?_) | (refine EK_ev (Ev_indexArr rfl rfl (by omega)) ?_)) | (refine ek_len ?_; first | (refine EK_ev (Ev_len_str rfl) ?_) | (refine EK_ev (Ev_len_slice rfl) ?_) | (refine EK_ev (Ev_len_arr rfl) ?_) | (refine EK_ev (Ev_len_map rfl (by (repeat' (first | exact Sel.here | apply Sel.there)); first | done | fail)) ?_)) | (refine ek_add ?_; first | (refine EK_ev (Ev_addI rfl rfl (by omega)) ?_) | (refine EK_ev (Ev_addS rfl rfl (by simp <;> omega)) ?_) | (refine EK_ev (Ev_add rfl rfl) ?_)) | (refine ek_eql ?_; first | (refine EK_ev (Ev_eqlI rfl rfl) ?_) | (refine EK_ev (Ev_eqlS rfl rfl) ?_) | (refine EK_ev (Ev_eqlNil rfl rfl) ?_) | (refine EK_ev (Ev_eqlB rfl rfl) ?_) | (refine EK_ev (Ev_eqlO rfl rfl rfl (fun _ => rfl)) ?_)) | (refine ek_lss ?_; first | (refine EK_ev (Ev_lssI rfl rfl) ?_) | (refine EK_ev (Ev_lssS rfl rfl) ?_)) | (refine ek_geq ?_; first | (refine EK_ev (Ev_geqI rfl rfl) ?_) | (refine EK_ev (Ev_geqS rfl rfl) ?_)))
    | (refine is_ex ?_; first | (refine KJ_blk_exit' rfl ?_))
    | (refine is_code ?_; first | (refine KJ_cond_dec rfl (fun _ => ?_) (fun _ => ?_) <;> first | (exfalso; omega) | skip) | (refine KJ_cond_t rfl ?_) | (refine KJ_cond_f rfl ?_)))
    all_goals refine KJ_doneR (by first | exact Or.inl rfl | exact Or.inr rfl) rfl (by (repeat' (first | exact Rvs.nil | (apply Rvs.tmp; exact rfl))); first | done | fail) (by rfl) (sv) (wv) (fun g q => ?_)
    all_goals (show starL ([cellsP p [sv, wv, .bool D.off, .bool (decide (0 ≤ D.armed)), .int .i64 (max D.armed 0), .int .i64 D.writes, .int .i64 D.flushes, .int .i64 D.life] 97, rowP (sv) 9 1 D.n (secsV D.img D.n), rowP (wv) 192 2 D.und.length (waysV D.und)] ++ R) g; rw [hoff]; exact (Ent.of (by (repeat' (first | exact Pick.nil | apply Pick.cons | exact Sel.here | apply Sel.there)); first | done | fail) (by (repeat' (first | exact DropTo.refl | apply DropTo.there)); first | done | fail)) g q)
  have hoff : D.off = false := by simpa using hoff
  by_cases hh : D.has i = true
  rotate_left
  · have hh : D.has i = false := by simpa using hh
    have e1 : D.readE i = 6 := by unfold Dsk.readE; rw [if_neg (by rw [hoff]; simp), if_neg (by rw [hh]; simp)]
    have e2 : D.readS i = [] := by unfold Dsk.readS; rw [if_neg (by rw [hoff]; simp), if_neg (by rw [hh]; simp)]
    rw [e1, e2]
    have hc' : ¬ (0 ≤ i ∧ i < D.n) := by unfold Dsk.has at hh; exact of_decide_eq_false hh
    show Ct _ _ _ _ [cellsP p [sv, wv, .bool D.off, .bool (decide (0 ≤ D.armed)), .int .i64 (max D.armed 0), .int .i64 D.writes, .int .i64 D.flushes, .int .i64 D.life] 97, rowP (sv) 9 1 D.n (secsV D.img D.n), rowP (wv) 192 2 D.und.length (waysV D.und)] _ _
    rw [hoff]
    by_cases hi : i < 0
    · have q1 : decide (i < 0) = true := decide_eq_true hi
      refine Ct.enter Tryd.func96 rfl Tryd.ntmps96 (by simp) (fun R => ?_)
      repeat' (first 
    | refine KJ_stp (by first | constructor | fail) ?_
    | (refine is_list ?_; first | (refine KJ_guard_dec_t rfl rfl rfl (fun _ => ?_) (fun _ => ?_) <;> first | (exfalso; omega) | skip) | (refine KJ_guard_dec_f rfl rfl rfl (fun _ => ?_) (fun _ => ?_) <;> first | (exfalso; omega) | skip) | (refine KJ_guard_yes rfl rfl ?_) | (refine KJ_guard_no rfl rfl rfl rfl ?_))
    | (refine is_oper ?_; first | (refine is_store ?_; first | (refine KJ_store rfl rfl (by (repeat' (first | exact Sel.here | apply Sel.there)); first | done | fail) (by first | exact CellsOf.agg | exact CellsOf.one rfl) (by rfl) (by (repeat' (first | exact Ones.nil | exact Ones_bvs _ | refine Ones.cons rfl ?_)); first | done | fail) (by (repeat' (first | exact Laid.nil | apply Laid.cons | apply Laid.skip)); first | done | fail) (by (repeat' (first | exact Rep.here | apply Rep.there)); first | done | fail) ?_)) | (refine is_alloc ?_; first | (refine KJ_alloc rfl (fun _ => ?_))) | (refine KJ_ek rfl ?_) | (refine KJ_ek0 ?_))
    | (refine is_ek ?_; first | (refine ek_move ?_; first | (refine EK_ev (Ev_move rfl) ?_)) | (refine ek_assign ?_; first | (refine EK_ev (Ev_assign rfl) ?_)) | (refine ek_pick ?_; first | (refine EK_ev (Ev_pick_t rfl rfl) ?_) | (refine EK_ev (Ev_pick_f rfl rfl) ?_)) | (refine ek_nilCheck ?_; first | (refine EK_ev (Ev_nilCheck rfl) ?_)) | (refine ek_fieldAddr ?_; first | (refine EK_ev (Ev_field rfl) ?_)) | (refine ek_load ?_; first | (refine EK_ev (Ev_load rfl (by (repeat' (first | exact Sel.here | apply Sel.there)); first | done | fail) (by rfl)) ?_) | (refine EK_ev (Ev_loadOld rfl (by assumption)) ?_) | (refine EK_ev (Ev_loadAgg rfl (by (repeat' (first | exact Sel.here | apply Sel.there)); first | done | fail) (by (repeat' (first | exact Cut.nil | apply Cut.cons | apply Cut.skip)); first | done | fail)) ?_)) | (refine ek_indexAddr ?_; first | (refine EK_ev (Ev_indexSlice rfl rfl (by omega)) ?_) | (refine EK_ev (Ev_indexArr rfl rfl (by omega)) ?_)) | (refine ek_len ?_; first | (refine EK_ev (Ev_len_str rfl) ?_) | (refine EK_ev (Ev_len_slice rfl) ?_) | (refine EK_ev (Ev_len_arr rfl) ?_) | (refine EK_ev (Ev_len_map rfl (by (repeat' (first | exact Sel.here | apply Sel.there)); first | done | fail)) ?_)) | (refine ek_add ?_; first | (refine EK_ev (Ev_addI rfl rfl (by omega)) ?_) | (refine EK_ev (Ev_addS rfl rfl (by simp <;> omega)) ?_) | (refine EK_ev (Ev_add rfl rfl) ?_)) | (refine ek_eql ?_; first | (refine EK_ev (Ev_eqlI rfl rfl) ?_) | (refine EK_ev (Ev_eqlS rfl rfl) ?_) | (refine EK_ev (Ev_eqlNil rfl rfl) ?_) | (refine EK_ev (Ev_eqlB rfl rfl) ?_) | (refine EK_ev (Ev_eqlO rfl rfl rfl (fun _ => rfl)) ?_)) | (refine ek_lss ?_; first | (refine EK_ev (Ev_lssI_q rfl rfl q1) ?_) | (refine EK_ev (Ev_lssI rfl rfl) ?_) | (refine EK_ev (Ev_lssS rfl rfl) ?_)) | (refine ek_geq ?_; first | (refine EK_ev (Ev_geqI rfl rfl) ?_) | (refine EK_ev (Ev_geqS rfl rfl) ?_)))
    | (refine is_ex ?_; first | (refine KJ_blk_exit' rfl ?_))
    | (refine is_code ?_; first | (refine KJ_cond_dec rfl (fun _ => ?_) (fun _ => ?_) <;> first | (exfalso; omega) | skip) | (refine KJ_cond_t rfl ?_) | (refine KJ_cond_f rfl ?_)))
      all_goals refine KJ_doneR (by first | exact Or.inl rfl | exact Or.inr rfl) rfl (by (repeat' (first | exact Rvs.nil | (apply Rvs.tmp; exact rfl))); first | done | fail) (by rfl) (sv) (wv) (fun g q => ?_)
      all_goals (show starL ([cellsP p [sv, wv, .bool D.off, .bool (decide (0 ≤ D.armed)), .int .i64 (max D.armed 0), .int .i64 D.writes, .int .i64 D.flushes, .int .i64 D.life] 97, rowP (sv) 9 1 D.n (secsV D.img D.n), rowP (wv) 192 2 D.und.length (waysV D.und)] ++ R) g; rw [hoff]; exact (Ent.of (by (repeat' (first | exact Pick.nil | apply Pick.cons | exact Sel.here | apply Sel.there)); first | done | fail) (by (repeat' (first | exact DropTo.refl | apply DropTo.there)); first | done | fail)) g q)
    · have q1 : decide (i < 0) = false := decide_eq_false hi
      have q2 : decide ((D.n : Int) ≤ i) = true := decide_eq_true (by omega)
      refine Ct.enter Tryd.func96 rfl Tryd.ntmps96 (by simp) (fun R => ?_)
      refine KJ.row_shape (v := sv) (by (repeat' (first | exact Sel.here | apply Sel.there)); first | done | fail) (by omega) (fun gs c e => ?_)
      subst e
      repeat' (first 
    | refine KJ_stp (by first | constructor | fail) ?_
    | (refine is_list ?_; first | (refine KJ_guard_dec_t rfl rfl rfl (fun _ => ?_) (fun _ => ?_) <;> first | (exfalso; omega) | skip) | (refine KJ_guard_dec_f rfl rfl rfl (fun _ => ?_) (fun _ => ?_) <;> first | (exfalso; omega) | skip) | (refine KJ_guard_yes rfl rfl ?_) | (refine KJ_guard_no rfl rfl rfl rfl ?_))
    | (refine is_oper ?_; first | (refine is_store ?_; first | (refine KJ_store rfl rfl (by (repeat' (first | exact Sel.here | apply Sel.there)); first | done | fail) (by first | exact CellsOf.agg | exact CellsOf.one rfl) (by rfl) (by (repeat' (first | exact Ones.nil | exact Ones_bvs _ | refine Ones.cons rfl ?_)); first | done | fail) (by (repeat' (first | exact Laid.nil | apply Laid.cons | apply Laid.skip)); first | done | fail) (by (repeat' (first | exact Rep.here | apply Rep.there)); first | done | fail) ?_)) | (refine is_alloc ?_; first | (refine KJ_alloc rfl (fun _ => ?_))) | (refine KJ_ek rfl ?_) | (refine KJ_ek0 ?_))
    | (refine is_ek ?_; first | (refine ek_move ?_; first | (refine EK_ev (Ev_move rfl) ?_)) | (refine ek_assign ?_; first | (refine EK_ev (Ev_assign rfl) ?_)) | (refine ek_pick ?_; first | (refine EK_ev (Ev_pick_t rfl rfl) ?_) | (refine EK_ev (Ev_pick_f rfl rfl) ?_)) | (refine ek_nilCheck ?_; first | (refine EK_ev (Ev_nilCheck rfl) ?_)) | (refine ek_fieldAddr ?_; first | (refine EK_ev (Ev_field rfl) ?_)) | (refine ek_load ?_; first | (refine EK_ev (Ev_load rfl (by (repeat' (first | exact Sel.here | apply Sel.there)); first | done | fail) (by rfl)) ?_) | (refine EK_ev (Ev_loadOld rfl (by assumption)) ?_) | (refine EK_ev (Ev_loadAgg rfl (by (repeat' (first | exact Sel.here | apply Sel.there)); first | done | fail) (by (repeat' (first | exact Cut.nil | apply Cut.cons | apply Cut.skip)); first | done | fail)) ?_)) | (refine ek_indexAddr ?_; first | (refine EK_ev (Ev_indexSlice rfl rfl (by omega)) ?_) | (refine EK_ev (Ev_indexArr rfl rfl (by omega)) ?_)) | (refine ek_len ?_; first | (refine EK_ev (Ev_len_str rfl) ?_) | (refine EK_ev (Ev_len_slice rfl) ?_) | (refine EK_ev (Ev_len_arr rfl) ?_) | (refine EK_ev (Ev_len_map rfl (by (repeat' (first | exact Sel.here | apply Sel.there)); first | done | fail)) ?_)) | (refine ek_add ?_; first | (refine EK_ev (Ev_addI rfl rfl (by omega)) ?_) | (refine EK_ev (Ev_addS rfl rfl (by simp <;> omega)) ?_) | (refine EK_ev (Ev_add rfl rfl) ?_)) | (refine ek_eql ?_; first | (refine EK_ev (Ev_eqlI rfl rfl) ?_) | (refine EK_ev (Ev_eqlS rfl rfl) ?_) | (refine EK_ev (Ev_eqlNil rfl rfl) ?_) | (refine EK_ev (Ev_eqlB rfl rfl) ?_) | (refine EK_ev (Ev_eqlO rfl rfl rfl (fun _ => rfl)) ?_)) | (refine ek_lss ?_; first | (refine EK_ev (Ev_lssI_q rfl rfl q1) ?_) | (refine EK_ev (Ev_lssI rfl rfl) ?_) | (refine EK_ev (Ev_lssS rfl rfl) ?_)) | (refine ek_geq ?_; first | (refine EK_ev (Ev_geqI_q rfl rfl q2) ?_) | (refine EK_ev (Ev_geqI rfl rfl) ?_) | (refine EK_ev (Ev_geqS rfl rfl) ?_)))
    | (refine is_ex ?_; first | (refine KJ_blk_exit' rfl ?_))
    | (refine is_code ?_; first | (refine KJ_cond_dec rfl (fun _ => ?_) (fun _ => ?_) <;> first | (exfalso; omega) | skip) | (refine KJ_cond_t rfl ?_) | (refine KJ_cond_f rfl ?_)))
      all_goals refine KJ_doneR (by first | exact Or.inl rfl | exact Or.inr rfl) rfl (by (repeat' (first | exact Rvs.nil | (apply Rvs.tmp; exact rfl))); first | done | fail) (by rfl) (.slice (some ⟨gs, 0, none⟩) D.n c) (wv) (fun g q => ?_)
      all_goals (show starL ([cellsP p [.slice (some ⟨gs, 0, none⟩) D.n c, wv, .bool D.off, .bool (decide (0 ≤ D.armed)), .int .i64 (max D.armed 0), .int .i64 D.writes, .int .i64 D.flushes, .int .i64 D.life] 97, rowP (.slice (some ⟨gs, 0, none⟩) D.n c) 9 1 D.n (secsV D.img D.n), rowP (wv) 192 2 D.und.length (waysV D.und)] ++ R) g; rw [hoff]; exact (Ent.of (by (repeat' (first | exact Pick.nil | apply Pick.cons | exact Sel.here | apply Sel.there)); first | done | fail) (by (repeat' (first | exact DropTo.refl | apply DropTo.there)); first | done | fail)) g q)
  have hc' : 0 ≤ i ∧ i < D.n := by unfold Dsk.has at hh; exact of_decide_eq_true hh
  have q1 : decide (i < 0) = false := decide_eq_false (by omega)
  have q2 : decide ((D.n : Int) ≤ i) = false := decide_eq_false (by omega)
  obtain ⟨j, rfl⟩ : ∃ j : Nat, i = (j : Int) := ⟨i.toNat, by omega⟩
  have hj : j < D.n := by omega
  have e1 : D.readE (j : Int) = 0 := by unfold Dsk.readE; rw [if_neg (by rw [hoff]; simp), if_pos hh]
  have e2 : D.readS (j : Int) = (lastW (D.und.take D.und.length) j).getD (D.sec j) := by unfold Dsk.readS; rw [if_neg (by rw [hoff]; simp), if_pos hh, Int.toNat_natCast, List.take_length]; rfl
  obtain ⟨A, hA⟩ : ∃ A : Nat → List UInt8, A = fun k => (lastW (D.und.take k) j).getD (D.sec j) := ⟨_, rfl⟩
  have hA0 : D.sec j = A 0 := by rw [hA]; simp [lastW_nil]
  have hAl : (lastW (D.und.take D.und.length) j).getD (D.sec j) = A D.und.length := by rw [hA]
  have hAn : ∀ k i b, D.und[k]? = some (i, b) → A (k + 1) = if i = j then b else A k := fun k i b h => by
    rw [hA]
    show (lastW (D.und.take (k + 1)) j).getD _ = _
    rw [lastW_take _ _ _ _ _ h]
    split <;> rfl
  have hS : (secsV D.img D.n)[0 + (j : Int).toNat * 1]? = some (strV (A 0)) := by
    rw [Int.toNat_natCast, Nat.mul_one, Nat.zero_add, secsV_get _ _ _ hj, ← hA0]; rfl
  rw [e1, e2, hAl]
  clear hA hAl e1 e2 hA0
  show Ct _ _ _ _ [cellsP p [sv, wv, .bool D.off, .bool (decide (0 ≤ D.armed)), .int .i64 (max D.armed 0), .int .i64 D.writes, .int .i64 D.flushes, .int .i64 D.life] 97, rowP (sv) 9 1 D.n (secsV D.img D.n), rowP (wv) 192 2 D.und.length (waysV D.und)] _ _
  rw [hoff]
  refine Ct.enter Tryd.func96 rfl Tryd.ntmps96 (by simp) (fun R => ?_)
  refine KJ.row_shape (v := sv) (by (repeat' (first | exact Sel.here | apply Sel.there)); first | done | fail) (by omega) (fun gs c e => ?_)
  subst e
  refine KJ.row_slice (v := wv) (by (repeat' (first | exact Sel.here | apply Sel.there)); first | done | fail) (fun wa wc e => ?_)
  subst e
  repeat' (first 
    | refine KJ_stp (by first | constructor | fail) ?_
    | (refine is_list ?_; first | (refine KJ_guard_dec_t rfl rfl rfl (fun _ => ?_) (fun _ => ?_) <;> first | (exfalso; omega) | skip) | (refine KJ_guard_dec_f rfl rfl rfl (fun _ => ?_) (fun _ => ?_) <;> first | (exfalso; omega) | skip) | (refine KJ_guard_yes rfl rfl ?_) | (refine KJ_guard_no rfl rfl rfl rfl ?_))
    | (refine is_oper ?_; first | (refine is_store ?_; first | (refine KJ_store rfl rfl (by (repeat' (first | exact Sel.here | apply Sel.there)); first | done | fail) (by first | exact CellsOf.agg | exact CellsOf.one rfl) (by rfl) (by (repeat' (first | exact Ones.nil | exact Ones_bvs _ | refine Ones.cons rfl ?_)); first | done | fail) (by (repeat' (first | exact Laid.nil | apply Laid.cons | apply Laid.skip)); first | done | fail) (by (repeat' (first | exact Rep.here | apply Rep.there)); first | done | fail) ?_)) | (refine is_alloc ?_; first | (refine KJ_alloc rfl (fun _ => ?_))) | (refine KJ_ek rfl ?_) | (refine KJ_ek0 ?_))
    | (refine is_ek ?_; first | (refine ek_move ?_; first | (refine EK_ev (Ev_move rfl) ?_)) | (refine ek_assign ?_; first | (refine EK_ev (Ev_assign rfl) ?_)) | (refine ek_pick ?_; first | (refine EK_ev (Ev_pick_t rfl rfl) ?_) | (refine EK_ev (Ev_pick_f rfl rfl) ?_)) | (refine ek_nilCheck ?_; first | (refine EK_ev (Ev_nilCheck rfl) ?_)) | (refine ek_fieldAddr ?_; first | (refine EK_ev (Ev_field rfl) ?_)) | (refine ek_load ?_; first | (refine EK_ev (Ev_loadRow rfl (by (repeat' (first | exact Sel.here | apply Sel.there)); first | done | fail) hS) ?_) | (refine EK_ev (Ev_load rfl (by (repeat' (first | exact Sel.here | apply Sel.there)); first | done | fail) (by rfl)) ?_) | (refine EK_ev (Ev_loadOld rfl (by assumption)) ?_) | (refine EK_ev (Ev_loadAgg rfl (by (repeat' (first | exact Sel.here | apply Sel.there)); first | done | fail) (by (repeat' (first | exact Cut.nil | apply Cut.cons | apply Cut.skip)); first | done | fail)) ?_)) | (refine ek_indexAddr ?_; first | (refine EK_ev (Ev_indexSlice rfl rfl (by omega)) ?_) | (refine EK_ev (Ev_indexArr rfl rfl (by omega)) ?_)) | (refine ek_len ?_; first | (refine EK_ev (Ev_len_str rfl) ?_) | (refine EK_ev (Ev_len_slice rfl) ?_) | (refine EK_ev (Ev_len_arr rfl) ?_) | (refine EK_ev (Ev_len_map rfl (by (repeat' (first | exact Sel.here | apply Sel.there)); first | done | fail)) ?_)) | (refine ek_add ?_; first | (refine EK_ev (Ev_addI rfl rfl (by omega)) ?_) | (refine EK_ev (Ev_addS rfl rfl (by simp <;> omega)) ?_) | (refine EK_ev (Ev_add rfl rfl) ?_)) | (refine ek_eql ?_; first | (refine EK_ev (Ev_eqlI rfl rfl) ?_) | (refine EK_ev (Ev_eqlS rfl rfl) ?_) | (refine EK_ev (Ev_eqlNil rfl rfl) ?_) | (refine EK_ev (Ev_eqlB rfl rfl) ?_) | (refine EK_ev (Ev_eqlO rfl rfl rfl (fun _ => rfl)) ?_)) | (refine ek_lss ?_; first | (refine EK_ev (Ev_lssI_q rfl rfl q1) ?_) | (refine EK_ev (Ev_lssI rfl rfl) ?_) | (refine EK_ev (Ev_lssS rfl rfl) ?_)) | (refine ek_geq ?_; first | (refine EK_ev (Ev_geqI_q rfl rfl q2) ?_) | (refine EK_ev (Ev_geqI rfl rfl) ?_) | (refine EK_ev (Ev_geqS rfl rfl) ?_)))
    | (refine is_ex ?_; first | (refine KJ_blk_exit' rfl ?_))
    | (refine is_code ?_; first | (refine KJ_cond_dec rfl (fun _ => ?_) (fun _ => ?_) <;> first | (exfalso; omega) | skip) | (refine KJ_cond_t rfl ?_) | (refine KJ_cond_f rfl ?_)))
  refine KJ_loop (fun i : {k : Nat // k ≤ D.und.length} => [(1, .int .i64 (j : Nat)), (6, strV (A i.1)), (34, .slice wa D.und.length wc), (35, .int .i64 D.und.length), (36, .int .i64 (i.1 : Nat))]) (fun _ => [cellsP p [.slice (some ⟨gs, 0, none⟩) D.n c, .slice wa D.und.length wc, .bool false, .bool (decide (0 ≤ D.armed)), .int .i64 (max D.armed 0), .int .i64 D.writes, .int .i64 D.flushes, .int .i64 D.life] 97, rowP (.slice (some ⟨gs, 0, none⟩) D.n c) 9 1 D.n (secsV D.img D.n), rowP (.slice wa D.und.length wc) 192 2 D.und.length (waysV D.und)] ++ R) (fun i => D.und.length - i.1) ⟨0, by omega⟩ (by (repeat' (first | exact Subs.nil | refine Subs.cons rfl ?_)); first | done | fail) (Ent.of (by (repeat' (first | exact Pick.nil | apply Pick.cons | exact Sel.here | apply Sel.there)); first | done | fail) (by (repeat' (first | exact DropTo.refl | apply DropTo.there)); first | done | fail)) (fun ⟨k, hk⟩ => ?_)
  dsimp only
  by_cases hlt : k < D.und.length
  · obtain ⟨x, b, hx⟩ : ∃ x b, D.und[k]? = some (x, b) := ⟨(D.und[k]).1, (D.und[k]).2, by rw [List.getElem?_eq_getElem hlt]⟩
    have hnx := hAn k x b hx
    have hW : ∀ z v, [Value.int .i64 (x : Nat), strV b][z]? = some v → (waysV D.und)[0 + (k : Int).toNat * 2 + z]? = some v := fun z v hv => by rw [Int.toNat_natCast, Nat.zero_add]; exact waysV_get _ _ _ _ hx z v hv
    refine KJ.row_shape (v := .slice wa D.und.length wc) (by (repeat' (first | exact Sel.here | apply Sel.there)); first | done | fail) (by omega) (fun gw c' e => ?_)
    obtain ⟨rfl, rfl⟩ : wa = some ⟨gw, 0, none⟩ ∧ wc = c' := by cases e; exact ⟨rfl, rfl⟩
    by_cases hxj : x = j
    · have hq : ((x : Nat) : Int) = ((j : Nat) : Int) := by omega
      rw [if_pos hxj] at hnx
      repeat' (first 
    | refine KJ_stp (by first | constructor | fail) ?_
    | (refine is_list ?_; first | (refine KJ_guard_dec_t rfl rfl rfl (fun _ => ?_) (fun _ => ?_) <;> first | (exfalso; omega) | skip) | (refine KJ_guard_dec_f rfl rfl rfl (fun _ => ?_) (fun _ => ?_) <;> first | (exfalso; omega) | skip) | (refine KJ_guard_yes rfl rfl ?_) | (refine KJ_guard_no rfl rfl rfl rfl ?_))
    | (refine is_oper ?_; first | (refine is_store ?_; first | (refine KJ_store rfl rfl (by (repeat' (first | exact Sel.here | apply Sel.there)); first | done | fail) (by first | exact CellsOf.agg | exact CellsOf.one rfl) (by rfl) (by (repeat' (first | exact Ones.nil | exact Ones_bvs _ | refine Ones.cons rfl ?_)); first | done | fail) (by (repeat' (first | exact Laid.nil | apply Laid.cons | apply Laid.skip)); first | done | fail) (by (repeat' (first | exact Rep.here | apply Rep.there)); first | done | fail) ?_)) | (refine is_alloc ?_; first | (refine KJ_alloc rfl (fun _ => ?_))) | (refine KJ_ek rfl ?_) | (refine KJ_ek0 ?_))
    | (refine is_ek ?_; first | (refine ek_move ?_; first | (refine EK_ev (Ev_move rfl) ?_)) | (refine ek_assign ?_; first | (refine EK_ev (Ev_assign rfl) ?_)) | (refine ek_pick ?_; first | (refine EK_ev (Ev_pick_t rfl rfl) ?_) | (refine EK_ev (Ev_pick_f rfl rfl) ?_)) | (refine ek_nilCheck ?_; first | (refine EK_ev (Ev_nilCheck rfl) ?_)) | (refine ek_fieldAddr ?_; first | (refine EK_ev (Ev_field rfl) ?_)) | (refine ek_load ?_; first | (refine EK_ev (Ev_load rfl (by (repeat' (first | exact Sel.here | apply Sel.there)); first | done | fail) (by rfl)) ?_) | (refine EK_ev (Ev_loadRowAgg rfl (by (repeat' (first | exact Sel.here | apply Sel.there)); first | done | fail) hW (by rfl)) ?_) | (refine EK_ev (Ev_load rfl (by (repeat' (first | exact Sel.here | apply Sel.there)); first | done | fail) (by rfl)) ?_) | (refine EK_ev (Ev_loadOld rfl (by assumption)) ?_) | (refine EK_ev (Ev_loadAgg rfl (by (repeat' (first | exact Sel.here | apply Sel.there)); first | done | fail) (by (repeat' (first | exact Cut.nil | apply Cut.cons | apply Cut.skip)); first | done | fail)) ?_)) | (refine ek_indexAddr ?_; first | (refine EK_ev (Ev_indexSlice rfl rfl (by omega)) ?_) | (refine EK_ev (Ev_indexArr rfl rfl (by omega)) ?_)) | (refine ek_len ?_; first | (refine EK_ev (Ev_len_str rfl) ?_) | (refine EK_ev (Ev_len_slice rfl) ?_) | (refine EK_ev (Ev_len_arr rfl) ?_) | (refine EK_ev (Ev_len_map rfl (by (repeat' (first | exact Sel.here | apply Sel.there)); first | done | fail)) ?_)) | (refine ek_add ?_; first | (refine EK_ev (Ev_addI_v (r := ((k + 1 : Nat) : Int)) rfl rfl (by omega) (by omega)) ?_) | (refine EK_ev (Ev_addI rfl rfl (by omega)) ?_) | (refine EK_ev (Ev_addS rfl rfl (by simp <;> omega)) ?_) | (refine EK_ev (Ev_add rfl rfl) ?_)) | (refine ek_eql ?_; first | (refine EK_ev (Ev_eqlI_t rfl rfl hq) ?_) | (refine EK_ev (Ev_eqlI rfl rfl) ?_) | (refine EK_ev (Ev_eqlS rfl rfl) ?_) | (refine EK_ev (Ev_eqlNil rfl rfl) ?_) | (refine EK_ev (Ev_eqlB rfl rfl) ?_) | (refine EK_ev (Ev_eqlO rfl rfl rfl (fun _ => rfl)) ?_)) | (refine ek_lss ?_; first | (refine EK_ev (Ev_lssI rfl rfl) ?_) | (refine EK_ev (Ev_lssS rfl rfl) ?_)) | (refine ek_geq ?_; first | (refine EK_ev (Ev_geqI rfl rfl) ?_) | (refine EK_ev (Ev_geqS rfl rfl) ?_)))
    | (refine is_ex ?_; first | (refine KJ_blk_exit' rfl ?_))
    | (refine is_code ?_; first | (refine KJ_cond_dec rfl (fun _ => ?_) (fun _ => ?_) <;> first | (exfalso; omega) | skip) | (refine KJ_cond_t rfl ?_) | (refine KJ_cond_f rfl ?_)))
      refine KJ_again ⟨k + 1, by omega⟩ (by show D.und.length - (k + 1) < D.und.length - k; omega) ?_ (Ent.of (by (repeat' (first | exact Pick.nil | apply Pick.cons | exact Sel.here | apply Sel.there)); first | done | fail) (by (repeat' (first | exact DropTo.refl | apply DropTo.there)); first | done | fail))
      rw [hnx]
      exact (by (repeat' (first | exact Subs.nil | refine Subs.cons rfl ?_)); first | done | fail)
    · have hq : ((x : Nat) : Int) ≠ ((j : Nat) : Int) := by omega
      rw [if_neg hxj] at hnx
      repeat' (first 
    | refine KJ_stp (by first | constructor | fail) ?_
    | (refine is_list ?_; first | (refine KJ_guard_dec_t rfl rfl rfl (fun _ => ?_) (fun _ => ?_) <;> first | (exfalso; omega) | skip) | (refine KJ_guard_dec_f rfl rfl rfl (fun _ => ?_) (fun _ => ?_) <;> first | (exfalso; omega) | skip) | (refine KJ_guard_yes rfl rfl ?_) | (refine KJ_guard_no rfl rfl rfl rfl ?_))
    | (refine is_oper ?_; first | (refine is_store ?_; first | (refine KJ_store rfl rfl (by (repeat' (first | exact Sel.here | apply Sel.there)); first | done | fail) (by first | exact CellsOf.agg | exact CellsOf.one rfl) (by rfl) (by (repeat' (first | exact Ones.nil | exact Ones_bvs _ | refine Ones.cons rfl ?_)); first | done | fail) (by (repeat' (first | exact Laid.nil | apply Laid.cons | apply Laid.skip)); first | done | fail) (by (repeat' (first | exact Rep.here | apply Rep.there)); first | done | fail) ?_)) | (refine is_alloc ?_; first | (refine KJ_alloc rfl (fun _ => ?_))) | (refine KJ_ek rfl ?_) | (refine KJ_ek0 ?_))
    | (refine is_ek ?_; first | (refine ek_move ?_; first | (refine EK_ev (Ev_move rfl) ?_)) | (refine ek_assign ?_; first | (refine EK_ev (Ev_assign rfl) ?_)) | (refine ek_pick ?_; first | (refine EK_ev (Ev_pick_t rfl rfl) ?_) | (refine EK_ev (Ev_pick_f rfl rfl) ?_)) | (refine ek_nilCheck ?_; first | (refine EK_ev (Ev_nilCheck rfl) ?_)) | (refine ek_fieldAddr ?_; first | (refine EK_ev (Ev_field rfl) ?_)) | (refine ek_load ?_; first | (refine EK_ev (Ev_load rfl (by (repeat' (first | exact Sel.here | apply Sel.there)); first | done | fail) (by rfl)) ?_) | (refine EK_ev (Ev_loadRowAgg rfl (by (repeat' (first | exact Sel.here | apply Sel.there)); first | done | fail) hW (by rfl)) ?_) | (refine EK_ev (Ev_load rfl (by (repeat' (first | exact Sel.here | apply Sel.there)); first | done | fail) (by rfl)) ?_) | (refine EK_ev (Ev_loadOld rfl (by assumption)) ?_) | (refine EK_ev (Ev_loadAgg rfl (by (repeat' (first | exact Sel.here | apply Sel.there)); first | done | fail) (by (repeat' (first | exact Cut.nil | apply Cut.cons | apply Cut.skip)); first | done | fail)) ?_)) | (refine ek_indexAddr ?_; first | (refine EK_ev (Ev_indexSlice rfl rfl (by omega)) ?_) | (refine EK_ev (Ev_indexArr rfl rfl (by omega)) ?_)) | (refine ek_len ?_; first | (refine EK_ev (Ev_len_str rfl) ?_) | (refine EK_ev (Ev_len_slice rfl) ?_) | (refine EK_ev (Ev_len_arr rfl) ?_) | (refine EK_ev (Ev_len_map rfl (by (repeat' (first | exact Sel.here | apply Sel.there)); first | done | fail)) ?_)) | (refine ek_add ?_; first | (refine EK_ev (Ev_addI_v (r := ((k + 1 : Nat) : Int)) rfl rfl (by omega) (by omega)) ?_) | (refine EK_ev (Ev_addI rfl rfl (by omega)) ?_) | (refine EK_ev (Ev_addS rfl rfl (by simp <;> omega)) ?_) | (refine EK_ev (Ev_add rfl rfl) ?_)) | (refine ek_eql ?_; first | (refine EK_ev (Ev_eqlI_f rfl rfl hq) ?_) | (refine EK_ev (Ev_eqlI rfl rfl) ?_) | (refine EK_ev (Ev_eqlS rfl rfl) ?_) | (refine EK_ev (Ev_eqlNil rfl rfl) ?_) | (refine EK_ev (Ev_eqlB rfl rfl) ?_) | (refine EK_ev (Ev_eqlO rfl rfl rfl (fun _ => rfl)) ?_)) | (refine ek_lss ?_; first | (refine EK_ev (Ev_lssI rfl rfl) ?_) | (refine EK_ev (Ev_lssS rfl rfl) ?_)) | (refine ek_geq ?_; first | (refine EK_ev (Ev_geqI rfl rfl) ?_) | (refine EK_ev (Ev_geqS rfl rfl) ?_)))
    | (refine is_ex ?_; first | (refine KJ_blk_exit' rfl ?_))
    | (refine is_code ?_; first | (refine KJ_cond_dec rfl (fun _ => ?_) (fun _ => ?_) <;> first | (exfalso; omega) | skip) | (refine KJ_cond_t rfl ?_) | (refine KJ_cond_f rfl ?_)))
      refine KJ_again ⟨k + 1, by omega⟩ (by show D.und.length - (k + 1) < D.und.length - k; omega) ?_ (Ent.of (by (repeat' (first | exact Pick.nil | apply Pick.cons | exact Sel.here | apply Sel.there)); first | done | fail) (by (repeat' (first | exact DropTo.refl | apply DropTo.there)); first | done | fail))
      rw [hnx]
      exact (by (repeat' (first | exact Subs.nil | refine Subs.cons rfl ?_)); first | done | fail)
  · have hkl : k = D.und.length := by omega
    subst hkl
    repeat' (first 
    | refine KJ_stp (by first | constructor | fail) ?_
    | (refine is_list ?_; first | (refine KJ_guard_dec_t rfl rfl rfl (fun _ => ?_) (fun _ => ?_) <;> first | (exfalso; omega) | skip) | (refine KJ_guard_dec_f rfl rfl rfl (fun _ => ?_) (fun _ => ?_) <;> first | (exfalso; omega) | skip) | (refine KJ_guard_yes rfl rfl ?_) | (refine KJ_guard_no rfl rfl rfl rfl ?_))
    | (refine is_oper ?_; first | (refine is_store ?_; first | (refine KJ_store rfl rfl (by (repeat' (first | exact Sel.here | apply Sel.there)); first | done | fail) (by first | exact CellsOf.agg | exact CellsOf.one rfl) (by rfl) (by (repeat' (first | exact Ones.nil | exact Ones_bvs _ | refine Ones.cons rfl ?_)); first | done | fail) (by (repeat' (first | exact Laid.nil | apply Laid.cons | apply Laid.skip)); first | done | fail) (by (repeat' (first | exact Rep.here | apply Rep.there)); first | done | fail) ?_)) | (refine is_alloc ?_; first | (refine KJ_alloc rfl (fun _ => ?_))) | (refine KJ_ek rfl ?_) | (refine KJ_ek0 ?_))
    | (refine is_ek ?_; first | (refine ek_move ?_; first | (refine EK_ev (Ev_move rfl) ?_)) | (refine ek_assign ?_; first | (refine EK_ev (Ev_assign rfl) ?_)) | (refine ek_pick ?_; first | (refine EK_ev (Ev_pick_t rfl rfl) ?_) | (refine EK_ev (Ev_pick_f rfl rfl) ?_)) | (refine ek_nilCheck ?_; first | (refine EK_ev (Ev_nilCheck rfl) ?_)) | (refine ek_fieldAddr ?_; first | (refine EK_ev (Ev_field rfl) ?_)) | (refine ek_load ?_; first | (refine EK_ev (Ev_load rfl (by (repeat' (first | exact Sel.here | apply Sel.there)); first | done | fail) (by rfl)) ?_) | (refine EK_ev (Ev_loadOld rfl (by assumption)) ?_) | (refine EK_ev (Ev_loadAgg rfl (by (repeat' (first | exact Sel.here | apply Sel.there)); first | done | fail) (by (repeat' (first | exact Cut.nil | apply Cut.cons | apply Cut.skip)); first | done | fail)) ?_)) | (refine ek_indexAddr ?_; first | (refine EK_ev (Ev_indexSlice rfl rfl (by omega)) ?_) | (refine EK_ev (Ev_indexArr rfl rfl (by omega)) ?_)) | (refine ek_len ?_; first | (refine EK_ev (Ev_len_str rfl) ?_) | (refine EK_ev (Ev_len_slice rfl) ?_) | (refine EK_ev (Ev_len_arr rfl) ?_) | (refine EK_ev (Ev_len_map rfl (by (repeat' (first | exact Sel.here | apply Sel.there)); first | done | fail)) ?_)) | (refine ek_add ?_; first | (refine EK_ev (Ev_addI rfl rfl (by omega)) ?_) | (refine EK_ev (Ev_addS rfl rfl (by simp <;> omega)) ?_) | (refine EK_ev (Ev_add rfl rfl) ?_)) | (refine ek_eql ?_; first | (refine EK_ev (Ev_eqlI rfl rfl) ?_) | (refine EK_ev (Ev_eqlS rfl rfl) ?_) | (refine EK_ev (Ev_eqlNil rfl rfl) ?_) | (refine EK_ev (Ev_eqlB rfl rfl) ?_) | (refine EK_ev (Ev_eqlO rfl rfl rfl (fun _ => rfl)) ?_)) | (refine ek_lss ?_; first | (refine EK_ev (Ev_lssI rfl rfl) ?_) | (refine EK_ev (Ev_lssS rfl rfl) ?_)) | (refine ek_geq ?_; first | (refine EK_ev (Ev_geqI rfl rfl) ?_) | (refine EK_ev (Ev_geqS rfl rfl) ?_)))
    | (refine is_ex ?_; first | (refine KJ_blk_exit' rfl ?_))
    | (refine is_code ?_; first | (refine KJ_cond_dec rfl (fun _ => ?_) (fun _ => ?_) <;> first | (exfalso; omega) | skip) | (refine KJ_cond_t rfl ?_) | (refine KJ_cond_f rfl ?_)))
    all_goals refine KJ_doneR (by first | exact Or.inl rfl | exact Or.inr rfl) rfl (by (repeat' (first | exact Rvs.nil | (apply Rvs.tmp; exact rfl))); first | done | fail) (by rfl) (.slice (some ⟨gs, 0, none⟩) D.n c) (.slice wa D.und.length wc) (fun g q => ?_)
    all_goals (show starL ([cellsP p [.slice (some ⟨gs, 0, none⟩) D.n c, .slice wa D.und.length wc, .bool D.off, .bool (decide (0 ≤ D.armed)), .int .i64 (max D.armed 0), .int .i64 D.writes, .int .i64 D.flushes, .int .i64 D.life] 97, rowP (.slice (some ⟨gs, 0, none⟩) D.n c) 9 1 D.n (secsV D.img D.n), rowP (.slice wa D.und.length wc) 192 2 D.und.length (waysV D.und)] ++ R) g; rw [hoff]; exact (Ent.of (by (repeat' (first | exact Pick.nil | apply Pick.cons | exact Sel.here | apply Sel.there)); first | done | fail) (by (repeat' (first | exact DropTo.refl | apply DropTo.there)); first | done | fail)) g q)
theorem rimage_ct (hok : D.ok) : Ct Tryd.prog W 59 [.pointer (some ⟨p, 0, none⟩)] [RefP p D] (fun _ : Unit => strV D.img) (fun _ => [RefP p D]) := by
  refine Ct_ref (fun sv wv => ?_)
  have hn1 := hok.n1
  have hn2 := hok.n2
  have hlen := hok.len
  have hfull : D.img.take (256 * D.n) = D.img := List.take_of_length_le (by omega)
  have hA0 : ([] : List Value) = bvs (D.img.take (256 * 0)) := rfl
  show Ct _ _ _ _ [cellsP p [sv, wv, .bool D.off, .bool (decide (0 ≤ D.armed)), .int .i64 (max D.armed 0), .int .i64 D.writes, .int .i64 D.flushes, .int .i64 D.life] 97, rowP (sv) 9 1 D.n (secsV D.img D.n), rowP (wv) 192 2 D.und.length (waysV D.und)] _ _
  refine Ct.enter Tryd.func59 rfl Tryd.ntmps59 (by simp) (fun R => ?_)
  refine KJ.row_shape (v := sv) (by (repeat' (first | exact Sel.here | apply Sel.there)); first | done | fail) (by omega) (fun gs c e => ?_)
  subst e
  repeat' (first 
    | refine KJ_stp (by first | constructor | fail) ?_
    | (refine is_oper ?_; first | (refine is_bslice ?_; first | (refine KJ_bslice0 rfl (fun g0 => ?_))) | (refine KJ_ek rfl ?_) | (refine KJ_ek0 ?_))
    | (refine is_ek ?_; first | (refine ek_move ?_; first | (refine EK_ev (Ev_move rfl) ?_)) | (refine ek_assign ?_; first | (refine EK_ev (Ev_assign rfl) ?_)) | (refine ek_nilCheck ?_; first | (refine EK_ev (Ev_nilCheck rfl) ?_)) | (refine ek_fieldAddr ?_; first | (refine EK_ev (Ev_field rfl) ?_)) | (refine ek_load ?_; first | (refine EK_ev (Ev_load rfl (by (repeat' (first | exact Sel.here | apply Sel.there)); first | done | fail) (by rfl)) ?_) | (refine EK_ev (Ev_loadOld rfl (by assumption)) ?_) | (refine EK_ev (Ev_loadAgg rfl (by (repeat' (first | exact Sel.here | apply Sel.there)); first | done | fail) (by (repeat' (first | exact Cut.nil | apply Cut.cons | apply Cut.skip)); first | done | fail)) ?_)) | (refine ek_conv ?_; first | (refine EK_ev (Ev_convI64 rfl (by omega)) ?_) | (refine EK_ev (Ev_convI rfl) ?_) | (refine EK_ev (Ev_convS rfl) ?_)) | (refine ek_indexAddr ?_; first | (refine EK_ev (Ev_indexSlice rfl rfl (by omega)) ?_) | (refine EK_ev (Ev_indexArr rfl rfl (by omega)) ?_)) | (refine ek_len ?_; first | (refine EK_ev (Ev_len_str rfl) ?_) | (refine EK_ev (Ev_len_slice rfl) ?_) | (refine EK_ev (Ev_len_arr rfl) ?_) | (refine EK_ev (Ev_len_map rfl (by (repeat' (first | exact Sel.here | apply Sel.there)); first | done | fail)) ?_)) | (refine ek_add ?_; first | (refine EK_ev (Ev_addI rfl rfl (by omega)) ?_) | (refine EK_ev (Ev_addS rfl rfl (by simp <;> omega)) ?_) | (refine EK_ev (Ev_add rfl rfl) ?_)) | (refine ek_lss ?_; first | (refine EK_ev (Ev_lssI rfl rfl) ?_) | (refine EK_ev (Ev_lssS rfl rfl) ?_)))
    | (refine is_ex ?_; first | (refine KJ_blk_exit' rfl ?_))
    | (refine is_code ?_; first | (refine KJ_cond_dec rfl (fun _ => ?_) (fun _ => ?_) <;> first | (exfalso; omega) | skip) | (refine KJ_cond_t rfl ?_) | (refine KJ_cond_f rfl ?_)))
  refine KJ_loop (fun i : {x : Nat × Nat × Nat // x.1 ≤ D.n} => [(3, .slice (some ⟨i.1.2.1, 0, none⟩) (256 * i.1.1) i.1.2.2), (10, .slice (some ⟨gs, 0, none⟩) D.n c), (11, .int .i64 D.n), (12, .int .i64 (i.1.1 : Nat))]) (fun i => [rowP (.slice (some ⟨i.1.2.1, 0, none⟩) (256 * i.1.1) i.1.2.2) 5 1 (256 * i.1.1) (bvs (D.img.take (256 * i.1.1)))] ++ [cellsP p [.slice (some ⟨gs, 0, none⟩) D.n c, wv, .bool D.off, .bool (decide (0 ≤ D.armed)), .int .i64 (max D.armed 0), .int .i64 D.writes, .int .i64 D.flushes, .int .i64 D.life] 97, rowP (.slice (some ⟨gs, 0, none⟩) D.n c) 9 1 D.n (secsV D.img D.n), rowP (wv) 192 2 D.und.length (waysV D.und)] ++ R) (fun i => D.n - i.1.1) ⟨(0, g0, 0), by omega⟩ (by (repeat' (first | exact Subs.nil | refine Subs.cons rfl ?_)); first | done | fail) ?_ (fun ⟨⟨k, g1, c1⟩, hk⟩ => ?_)
  · exact (Ent.of (by (repeat' (first | exact Pick.nil | apply Pick.cons | exact Sel.here | apply Sel.there)); first | done | fail) (by (repeat' (first | exact DropTo.refl | apply DropTo.there)); first | done | fail))
  dsimp only at hk ⊢
  by_cases hlt : k < D.n
  · have hS : (secsV D.img D.n)[0 + (k : Int).toNat * 1]? = some (strV (cut D.img (k * 256) 256)) := by rw [Int.toNat_natCast, Nat.mul_one, Nat.zero_add, secsV_get _ _ _ hlt]
    have hcl : (cut D.img (k * 256) 256).length = 256 := cut_length _ _ _ (by omega)
    have hnx : bvs (D.img.take (256 * k)) ++ bvs (cut D.img (k * 256) 256) = bvs (D.img.take (256 * (k + 1))) := by rw [← take_cut]; simp [bvs]
    have hnl : 256 * k + (cut D.img (k * 256) 256).length = 256 * (k + 1) := by rw [hcl]; omega
    repeat' (first 
    | refine KJ_stp (by first | constructor | fail) ?_
    | (refine is_oper ?_; first | (refine is_append ?_; first | (refine KJ_appendStr rfl rfl (by (repeat' (first | exact Sel.here | apply Sel.there)); first | done | fail) (.inr rfl) (by rw [hcl]; omega) rfl (fun g2 c2 => ?_))) | (refine KJ_ek rfl ?_) | (refine KJ_ek0 ?_))
    | (refine is_ek ?_; first | (refine ek_move ?_; first | (refine EK_ev (Ev_move rfl) ?_)) | (refine ek_assign ?_; first | (refine EK_ev (Ev_assign rfl) ?_)) | (refine ek_nilCheck ?_; first | (refine EK_ev (Ev_nilCheck rfl) ?_)) | (refine ek_fieldAddr ?_; first | (refine EK_ev (Ev_field rfl) ?_)) | (refine ek_load ?_; first | (refine EK_ev (Ev_loadRow rfl (by (repeat' (first | exact Sel.here | apply Sel.there)); first | done | fail) hS) ?_) | (refine EK_ev (Ev_load rfl (by (repeat' (first | exact Sel.here | apply Sel.there)); first | done | fail) (by rfl)) ?_) | (refine EK_ev (Ev_loadOld rfl (by assumption)) ?_) | (refine EK_ev (Ev_loadAgg rfl (by (repeat' (first | exact Sel.here | apply Sel.there)); first | done | fail) (by (repeat' (first | exact Cut.nil | apply Cut.cons | apply Cut.skip)); first | done | fail)) ?_)) | (refine ek_conv ?_; first | (refine EK_ev (Ev_convI64 rfl (by omega)) ?_) | (refine EK_ev (Ev_convI rfl) ?_) | (refine EK_ev (Ev_convS rfl) ?_)) | (refine ek_indexAddr ?_; first | (refine EK_ev (Ev_indexSlice rfl rfl (by omega)) ?_) | (refine EK_ev (Ev_indexArr rfl rfl (by omega)) ?_)) | (refine ek_len ?_; first | (refine EK_ev (Ev_len_str rfl) ?_) | (refine EK_ev (Ev_len_slice rfl) ?_) | (refine EK_ev (Ev_len_arr rfl) ?_) | (refine EK_ev (Ev_len_map rfl (by (repeat' (first | exact Sel.here | apply Sel.there)); first | done | fail)) ?_)) | (refine ek_add ?_; first | (refine EK_ev (Ev_addI_v (r := ((k + 1 : Nat) : Int)) rfl rfl (by omega) (by omega)) ?_) | (refine EK_ev (Ev_addI rfl rfl (by omega)) ?_) | (refine EK_ev (Ev_addS rfl rfl (by simp <;> omega)) ?_) | (refine EK_ev (Ev_add rfl rfl) ?_)) | (refine ek_lss ?_; first | (refine EK_ev (Ev_lssI rfl rfl) ?_) | (refine EK_ev (Ev_lssS rfl rfl) ?_)))
    | (refine is_ex ?_; first | (refine KJ_blk_exit' rfl ?_))
    | (refine is_code ?_; first | (refine KJ_cond_dec rfl (fun _ => ?_) (fun _ => ?_) <;> first | (exfalso; omega) | skip) | (refine KJ_cond_t rfl ?_) | (refine KJ_cond_f rfl ?_)))
    rw [hnl, hnx]
    refine KJ_again ⟨(k + 1, g2, c2), by omega⟩ (by show D.n - (k + 1) < D.n - k; omega) (by (repeat' (first | exact Subs.nil | refine Subs.cons rfl ?_)); first | done | fail) (Ent.of (by (repeat' (first | exact Pick.nil | apply Pick.cons | exact Sel.here | apply Sel.there)); first | done | fail) (by (repeat' (first | exact DropTo.refl | apply DropTo.there)); first | done | fail))
  · have hkl : k = D.n := by omega
    subst hkl
    rw [hfull]
    repeat' (first 
    | refine KJ_stp (by first | constructor | fail) ?_
    | (refine is_oper ?_; first | (refine KJ_ek rfl ?_) | (refine KJ_ek0 ?_))
    | (refine is_ek ?_; first | (refine ek_move ?_; first | (refine EK_ev (Ev_move rfl) ?_)) | (refine ek_assign ?_; first | (refine EK_ev (Ev_assign rfl) ?_)) | (refine ek_nilCheck ?_; first | (refine EK_ev (Ev_nilCheck rfl) ?_)) | (refine ek_fieldAddr ?_; first | (refine EK_ev (Ev_field rfl) ?_)) | (refine ek_load ?_; first | (refine EK_ev (Ev_load rfl (by (repeat' (first | exact Sel.here | apply Sel.there)); first | done | fail) (by rfl)) ?_) | (refine EK_ev (Ev_loadOld rfl (by assumption)) ?_) | (refine EK_ev (Ev_loadAgg rfl (by (repeat' (first | exact Sel.here | apply Sel.there)); first | done | fail) (by (repeat' (first | exact Cut.nil | apply Cut.cons | apply Cut.skip)); first | done | fail)) ?_)) | (refine ek_conv ?_; first | (refine EK_ev (Ev_bytesRow rfl (by (repeat' (first | exact Sel.here | apply Sel.there)); first | done | fail)) ?_) | (refine EK_ev (Ev_convI64 rfl (by omega)) ?_) | (refine EK_ev (Ev_convI rfl) ?_) | (refine EK_ev (Ev_convS rfl) ?_)) | (refine ek_indexAddr ?_; first | (refine EK_ev (Ev_indexSlice rfl rfl (by omega)) ?_) | (refine EK_ev (Ev_indexArr rfl rfl (by omega)) ?_)) | (refine ek_len ?_; first | (refine EK_ev (Ev_len_str rfl) ?_) | (refine EK_ev (Ev_len_slice rfl) ?_) | (refine EK_ev (Ev_len_arr rfl) ?_) | (refine EK_ev (Ev_len_map rfl (by (repeat' (first | exact Sel.here | apply Sel.there)); first | done | fail)) ?_)) | (refine ek_add ?_; first | (refine EK_ev (Ev_addI rfl rfl (by omega)) ?_) | (refine EK_ev (Ev_addS rfl rfl (by simp <;> omega)) ?_) | (refine EK_ev (Ev_add rfl rfl) ?_)) | (refine ek_lss ?_; first | (refine EK_ev (Ev_lssI rfl rfl) ?_) | (refine EK_ev (Ev_lssS rfl rfl) ?_)))
    | (refine is_ex ?_; first | (refine KJ_blk_exit' rfl ?_))
    | (refine is_code ?_; first | (refine KJ_cond_dec rfl (fun _ => ?_) (fun _ => ?_) <;> first | (exfalso; omega) | skip) | (refine KJ_cond_t rfl ?_) | (refine KJ_cond_f rfl ?_)))
    all_goals refine KJ_doneR (by first | exact Or.inl rfl | exact Or.inr rfl) rfl (by (repeat' (first | exact Rvs.nil | (apply Rvs.tmp; exact rfl))); first | done | fail) (by rfl) (.slice (some ⟨gs, 0, none⟩) D.n c) (wv) (fun g q => ?_)
    all_goals (show starL ([cellsP p [.slice (some ⟨gs, 0, none⟩) D.n c, wv, .bool D.off, .bool (decide (0 ≤ D.armed)), .int .i64 (max D.armed 0), .int .i64 D.writes, .int .i64 D.flushes, .int .i64 D.life] 97, rowP (.slice (some ⟨gs, 0, none⟩) D.n c) 9 1 D.n (secsV D.img D.n), rowP (wv) 192 2 D.und.length (waysV D.und)] ++ R) g; exact (Ent.of (by (repeat' (first | exact Pick.nil | apply Pick.cons | exact Sel.here | apply Sel.there)); first | done | fail) (by (repeat' (first | exact DropTo.refl | apply DropTo.there)); first | done | fail)) g q)
set_option maxHeartbeats 1000000 in
theorem rflush_ct (hok : D.ok) (hul : D.und.length < 1073741824) : Ct Tryd.prog W 93 [.pointer (some ⟨p, 0, none⟩)] [RefP p D] (fun _ : Unit => .int .i64 D.flushE) (fun _ => [RefP p D.flushD]) := by
  refine Ct_ref (fun sv wv => ?_)
  by_cases hoff : D.off = true
  · have e1 : D.flushE = 12 := by unfold Dsk.flushE; rw [hoff]; rfl
    have e2 : D.flushD = D := by unfold Dsk.flushD; rw [if_pos hoff]
    rw [e1, e2]
    show Ct _ _ _ _ [cellsP p [sv, wv, .bool D.off, .bool (decide (0 ≤ D.armed)), .int .i64 (max D.armed 0), .int .i64 D.writes, .int .i64 D.flushes, .int .i64 D.life] 97, rowP (sv) 9 1 D.n (secsV D.img D.n), rowP (wv) 192 2 D.und.length (waysV D.und)] _ _
    rw [hoff]
    refine Ct.enter Tryd.func93 rfl Tryd.ntmps93 (by simp) (fun R => ?_)
    repeat' (first 
    | refine KJ_stp (by first | constructor | fail) ?_
    | (refine is_oper ?_; first | (refine is_store ?_; first | (refine KJ_store rfl rfl (by (repeat' (first | exact Sel.here | apply Sel.there)); first | done | fail) (by first | exact CellsOf.agg | exact CellsOf.one rfl) (by rfl) (by (repeat' (first | exact Ones.nil | exact Ones_bvs _ | refine Ones.cons rfl ?_)); first | done | fail) (by (repeat' (first | exact Laid.nil | apply Laid.cons | apply Laid.skip)); first | done | fail) (by (repeat' (first | exact Rep.here | apply Rep.there)); first | done | fail) ?_)) | (refine is_alloc ?_; first | (refine KJ_alloc rfl (fun _ => ?_))) | (refine KJ_ek rfl ?_) | (refine KJ_ek0 ?_))
    | (refine is_ek ?_; first | (refine ek_move ?_; first | (refine EK_ev (Ev_move rfl) ?_)) | (refine ek_assign ?_; first | (refine EK_ev (Ev_assign rfl) ?_)) | (refine ek_nilCheck ?_; first | (refine EK_ev (Ev_nilCheck rfl) ?_)) | (refine ek_fieldAddr ?_; first | (refine EK_ev (Ev_field rfl) ?_)) | (refine ek_load ?_; first | (refine EK_ev (Ev_load rfl (by (repeat' (first | exact Sel.here | apply Sel.there)); first | done | fail) (by rfl)) ?_) | (refine EK_ev (Ev_loadOld rfl (by assumption)) ?_) | (refine EK_ev (Ev_loadAgg rfl (by (repeat' (first | exact Sel.here | apply Sel.there)); first | done | fail) (by (repeat' (first | exact Cut.nil | apply Cut.cons | apply Cut.skip)); first | done | fail)) ?_)) | (refine ek_indexAddr ?_; first | (refine EK_ev (Ev_indexSlice rfl rfl (by omega)) ?_) | (refine EK_ev (Ev_indexArr rfl rfl (by omega)) ?_)) | (refine ek_len ?_; first | (refine EK_ev (Ev_len_str rfl) ?_) | (refine EK_ev (Ev_len_slice rfl) ?_) | (refine EK_ev (Ev_len_arr rfl) ?_) | (refine EK_ev (Ev_len_map rfl (by (repeat' (first | exact Sel.here | apply Sel.there)); first | done | fail)) ?_)) | (refine ek_add ?_; first | (refine EK_ev (Ev_addI rfl rfl (by omega)) ?_) | (refine EK_ev (Ev_addS rfl rfl (by simp <;> omega)) ?_) | (refine EK_ev (Ev_add rfl rfl) ?_)) | (refine ek_lss ?_; first | (refine EK_ev (Ev_lssI rfl rfl) ?_) | (refine EK_ev (Ev_lssS rfl rfl) ?_)))
    | (refine is_ex ?_; first | (refine KJ_blk_exit' rfl ?_))
    | (refine is_code ?_; first | (refine KJ_cond_dec rfl (fun _ => ?_) (fun _ => ?_) <;> first | (exfalso; omega) | skip) | (refine KJ_cond_t rfl ?_) | (refine KJ_cond_f rfl ?_) | (refine KJ_draws (id := 9) (.op 0 (.op 1 (.op 2 (.op 3 (.op 4 (.op 5 (.op 6 (.op 7 (.op 8 (.ef 9 [] .nil)))))))))) (by kernel_rfl) (by kernel_rfl) ?_))
    | (refine is_fw ?_; first | (refine FW_open rfl ?_) | (refine FW_nil ?_) | (refine FW_ef rfl ?_) | (refine FW_efg rfl rfl rfl ?_) | (refine FW_alt ?_ ?_))
    | (refine is_fo ?_; first | (refine FO_dec_t rfl rfl (fun _ => ?_) (fun _ => ?_) <;> first | (exfalso; omega) | skip) | (refine FO_dec_f rfl rfl (fun _ => ?_) (fun _ => ?_) <;> first | (exfalso; omega) | skip) | (refine FO_no rfl rfl rfl rfl ?_) | (refine FO_ekg rfl rfl rfl ?_) | (refine FO_ek rfl ?_))
    | (refine is_ro ?_; first | (refine RO_no rfl rfl rfl rfl ?_) | (refine RO_ekg rfl rfl ?_) | (refine RO_ek ?_))
    | (refine is_raw ?_; first | (refine KJ_flow ?_ ?_))
    | (refine AtR_mk rfl ?_)
    | exact Rech.nil
    | (refine Rech_open rfl ?_))
    all_goals refine KJ_doneR (by first | exact Or.inl rfl | exact Or.inr rfl) rfl (by (repeat' (first | exact Rvs.nil | (apply Rvs.tmp; exact rfl))); first | done | fail) (by rfl) (sv) (wv) (fun g q => ?_)
    all_goals (show starL ([cellsP p [sv, wv, .bool D.off, .bool (decide (0 ≤ D.armed)), .int .i64 (max D.armed 0), .int .i64 D.writes, .int .i64 D.flushes, .int .i64 D.life] 97, rowP (sv) 9 1 D.n (secsV D.img D.n), rowP (wv) 192 2 D.und.length (waysV D.und)] ++ R) g; rw [hoff]; exact (Ent.of (by (repeat' (first | exact Pick.nil | apply Pick.cons | exact Sel.here | apply Sel.there)); first | done | fail) (by (repeat' (first | exact DropTo.refl | apply DropTo.there)); first | done | fail)) g q)
  have hoff : D.off = false := by simpa using hoff
  have cg : Ct Tryd.prog W 122 [.pointer (some ⟨p, 0, none⟩)] (RefF p D (sv, wv)) (fun _ : Unit => .bool D.dead) (fun _ => RefF p D.gone (sv, wv)) := rgoes_ct ⟨hok.arm1, hok.arm2⟩ hoff sv wv
  have hz : RefF p D (sv, wv) = [cellsP p [sv, wv, .bool false, .bool (decide (0 ≤ D.armed)), .int .i64 (max D.armed 0), .int .i64 D.writes, .int .i64 D.flushes, .int .i64 D.life] 97, rowP (sv) 9 1 D.n (secsV D.img D.n), rowP (wv) 192 2 D.und.length (waysV D.und)] := by simp only [RefF, refC, hoff]
  rw [hz] at cg
  by_cases hd : D.dead = true
  · have e1 : D.flushE = 12 := by unfold Dsk.flushE; rw [hoff, hd]; rfl
    have e2 : D.flushD = D.gone := by unfold Dsk.flushD; rw [if_neg (by rw [hoff]; simp), if_pos hd]
    rw [hd] at cg
    rw [e1, e2]
    show Ct _ _ _ _ [cellsP p [sv, wv, .bool D.off, .bool (decide (0 ≤ D.armed)), .int .i64 (max D.armed 0), .int .i64 D.writes, .int .i64 D.flushes, .int .i64 D.life] 97, rowP (sv) 9 1 D.n (secsV D.img D.n), rowP (wv) 192 2 D.und.length (waysV D.und)] _ _
    rw [hoff]
    refine Ct.enter Tryd.func93 rfl Tryd.ntmps93 (by simp) (fun R => ?_)
    repeat' (first 
    | refine KJ_stp (by first | constructor | fail) ?_
    | (refine is_oper ?_; first | (refine is_store ?_; first | (refine KJ_store rfl rfl (by (repeat' (first | exact Sel.here | apply Sel.there)); first | done | fail) (by first | exact CellsOf.agg | exact CellsOf.one rfl) (by rfl) (by (repeat' (first | exact Ones.nil | exact Ones_bvs _ | refine Ones.cons rfl ?_)); first | done | fail) (by (repeat' (first | exact Laid.nil | apply Laid.cons | apply Laid.skip)); first | done | fail) (by (repeat' (first | exact Rep.here | apply Rep.there)); first | done | fail) ?_)) | (refine is_alloc ?_; first | (refine KJ_alloc rfl (fun _ => ?_))) | (refine is_call ?_; first | (refine KJ_call (by (repeat' (first | exact Evs.nil | refine Evs.cons rfl ?_)); first | done | fail) cg (by (repeat' (first | exact Pick.nil | apply Pick.cons | exact Sel.here | apply Sel.there)); first | done | fail) rfl (fun _ => ?_))) | (refine KJ_ek rfl ?_) | (refine KJ_ek0 ?_))
    | (refine is_ek ?_; first | (refine ek_move ?_; first | (refine EK_ev (Ev_move rfl) ?_)) | (refine ek_assign ?_; first | (refine EK_ev (Ev_assign rfl) ?_)) | (refine ek_nilCheck ?_; first | (refine EK_ev (Ev_nilCheck rfl) ?_)) | (refine ek_fieldAddr ?_; first | (refine EK_ev (Ev_field rfl) ?_)) | (refine ek_load ?_; first | (refine EK_ev (Ev_load rfl (by (repeat' (first | exact Sel.here | apply Sel.there)); first | done | fail) (by rfl)) ?_) | (refine EK_ev (Ev_loadOld rfl (by assumption)) ?_) | (refine EK_ev (Ev_loadAgg rfl (by (repeat' (first | exact Sel.here | apply Sel.there)); first | done | fail) (by (repeat' (first | exact Cut.nil | apply Cut.cons | apply Cut.skip)); first | done | fail)) ?_)) | (refine ek_indexAddr ?_; first | (refine EK_ev (Ev_indexSlice rfl rfl (by omega)) ?_) | (refine EK_ev (Ev_indexArr rfl rfl (by omega)) ?_)) | (refine ek_len ?_; first | (refine EK_ev (Ev_len_str rfl) ?_) | (refine EK_ev (Ev_len_slice rfl) ?_) | (refine EK_ev (Ev_len_arr rfl) ?_) | (refine EK_ev (Ev_len_map rfl (by (repeat' (first | exact Sel.here | apply Sel.there)); first | done | fail)) ?_)) | (refine ek_add ?_; first | (refine EK_ev (Ev_addI rfl rfl (by omega)) ?_) | (refine EK_ev (Ev_addS rfl rfl (by simp <;> omega)) ?_) | (refine EK_ev (Ev_add rfl rfl) ?_)) | (refine ek_lss ?_; first | (refine EK_ev (Ev_lssI rfl rfl) ?_) | (refine EK_ev (Ev_lssS rfl rfl) ?_)))
    | (refine is_ex ?_; first | (refine KJ_blk_exit' rfl ?_))
    | (refine is_code ?_; first | (refine KJ_cond_dec rfl (fun _ => ?_) (fun _ => ?_) <;> first | (exfalso; omega) | skip) | (refine KJ_cond_t rfl ?_) | (refine KJ_cond_f rfl ?_) | (refine KJ_draws (id := 9) (.op 0 (.op 1 (.op 2 (.op 3 (.op 4 (.op 5 (.op 6 (.op 7 (.op 8 (.ef 9 [] .nil)))))))))) (by kernel_rfl) (by kernel_rfl) ?_))
    | (refine is_fw ?_; first | (refine FW_open rfl ?_) | (refine FW_nil ?_) | (refine FW_ef rfl ?_) | (refine FW_efg rfl rfl rfl ?_) | (refine FW_alt ?_ ?_))
    | (refine is_fo ?_; first | (refine FO_dec_t rfl rfl (fun _ => ?_) (fun _ => ?_) <;> first | (exfalso; omega) | skip) | (refine FO_dec_f rfl rfl (fun _ => ?_) (fun _ => ?_) <;> first | (exfalso; omega) | skip) | (refine FO_no rfl rfl rfl rfl ?_) | (refine FO_ekg rfl rfl rfl ?_) | (refine FO_ek rfl ?_))
    | (refine is_ro ?_; first | (refine RO_no rfl rfl rfl rfl ?_) | (refine RO_ekg rfl rfl ?_) | (refine RO_ek ?_))
    | (refine is_raw ?_; first | (refine KJ_flow ?_ ?_))
    | (refine AtR_mk rfl ?_)
    | exact Rech.nil
    | (refine Rech_open rfl ?_))
    all_goals refine KJ_doneR (by first | exact Or.inl rfl | exact Or.inr rfl) rfl (by (repeat' (first | exact Rvs.nil | (apply Rvs.tmp; exact rfl))); first | done | fail) (by rfl) (sv) (wv) (fun g q => ?_)
    all_goals exact (Ent.of (by (repeat' (first | exact Pick.nil | apply Pick.cons | exact Sel.here | apply Sel.there)); first | done | fail) (by (repeat' (first | exact DropTo.refl | apply DropTo.there)); first | done | fail)) g q
  have hd : D.dead = false := by simpa using hd
  have e1 : D.flushE = 0 := by unfold Dsk.flushE; rw [hoff, hd]; rfl
  have e2 : D.flushD = { D.gone with img := layAll D.img D.und, und := [], flushes := w64 (D.flushes + 1) } := by unfold Dsk.flushD; rw [if_neg (by rw [hoff]; simp), if_neg (by rw [hd]; simp)]
  rw [hd] at cg
  have hn1 := hok.n1
  have hn2 := hok.n2
  have hlen := hok.len
  have hund := hok.und
  obtain ⟨G, hG⟩ : ∃ G, G = D.gone := ⟨_, rfl⟩
  have g1 : G.n = D.n := by rw [hG, Dsk.gone_n]
  have g2 : G.img = D.img := by rw [hG, Dsk.gone_img]
  have g3 : G.und = D.und := by rw [hG, Dsk.gone_und]
  have g4 : G.flushes = D.flushes := by rw [hG, Dsk.gone_flushes]
  have hzG : RefF p G (sv, wv) = [cellsP p [sv, wv, .bool G.off, .bool (decide (0 ≤ G.armed)), .int .i64 (max G.armed 0), .int .i64 G.writes, .int .i64 D.flushes, .int .i64 G.life] 97, rowP (sv) 9 1 D.n (secsV D.img D.n), rowP (wv) 192 2 D.und.length (waysV D.und)] := by simp only [RefF, refC, g1, g2, g3, g4]
  rw [e1, e2]
  rw [← hG] at cg ⊢
  rw [hzG] at cg
  have hw1 : IntKind.i64.wrap (D.flushes + 1) = w64 (D.flushes + 1) := w64_wrap _
  show Ct _ _ _ _ [cellsP p [sv, wv, .bool D.off, .bool (decide (0 ≤ D.armed)), .int .i64 (max D.armed 0), .int .i64 D.writes, .int .i64 D.flushes, .int .i64 D.life] 97, rowP (sv) 9 1 D.n (secsV D.img D.n), rowP (wv) 192 2 D.und.length (waysV D.und)] _ _
  rw [hoff]
  refine Ct.enter Tryd.func93 rfl Tryd.ntmps93 (by simp) (fun R => ?_)
  refine KJ.row_shape (v := sv) (by (repeat' (first | exact Sel.here | apply Sel.there)); first | done | fail) (by omega) (fun gs c e => ?_)
  subst e
  refine KJ.row_slice (v := wv) (by (repeat' (first | exact Sel.here | apply Sel.there)); first | done | fail) (fun wa wc e => ?_)
  subst e
  repeat' (first 
    | refine KJ_stp (by first | constructor | fail) ?_
    | (refine is_oper ?_; first | (refine is_store ?_; first | (refine KJ_store rfl rfl (by (repeat' (first | exact Sel.here | apply Sel.there)); first | done | fail) (by first | exact CellsOf.agg | exact CellsOf.one rfl) (by rfl) (by (repeat' (first | exact Ones.nil | exact Ones_bvs _ | refine Ones.cons rfl ?_)); first | done | fail) (by (repeat' (first | exact Laid.nil | apply Laid.cons | apply Laid.skip)); first | done | fail) (by (repeat' (first | exact Rep.here | apply Rep.there)); first | done | fail) ?_)) | (refine is_alloc ?_; first | (refine KJ_alloc rfl (fun _ => ?_))) | (refine is_call ?_; first | (refine KJ_call (by (repeat' (first | exact Evs.nil | refine Evs.cons rfl ?_)); first | done | fail) cg (by (repeat' (first | exact Pick.nil | apply Pick.cons | exact Sel.here | apply Sel.there)); first | done | fail) rfl (fun _ => ?_))) | (refine KJ_ek rfl ?_) | (refine KJ_ek0 ?_))
    | (refine is_ek ?_; first | (refine ek_move ?_; first | (refine EK_ev (Ev_move rfl) ?_)) | (refine ek_assign ?_; first | (refine EK_ev (Ev_assign rfl) ?_)) | (refine ek_nilCheck ?_; first | (refine EK_ev (Ev_nilCheck rfl) ?_)) | (refine ek_fieldAddr ?_; first | (refine EK_ev (Ev_field rfl) ?_)) | (refine ek_load ?_; first | (refine EK_ev (Ev_load rfl (by (repeat' (first | exact Sel.here | apply Sel.there)); first | done | fail) (by rfl)) ?_) | (refine EK_ev (Ev_loadOld rfl (by assumption)) ?_) | (refine EK_ev (Ev_loadAgg rfl (by (repeat' (first | exact Sel.here | apply Sel.there)); first | done | fail) (by (repeat' (first | exact Cut.nil | apply Cut.cons | apply Cut.skip)); first | done | fail)) ?_)) | (refine ek_indexAddr ?_; first | (refine EK_ev (Ev_indexSlice rfl rfl (by omega)) ?_) | (refine EK_ev (Ev_indexArr rfl rfl (by omega)) ?_)) | (refine ek_len ?_; first | (refine EK_ev (Ev_len_str rfl) ?_) | (refine EK_ev (Ev_len_slice rfl) ?_) | (refine EK_ev (Ev_len_arr rfl) ?_) | (refine EK_ev (Ev_len_map rfl (by (repeat' (first | exact Sel.here | apply Sel.there)); first | done | fail)) ?_)) | (refine ek_add ?_; first | (refine EK_ev (Ev_addI rfl rfl (by omega)) ?_) | (refine EK_ev (Ev_addS rfl rfl (by simp <;> omega)) ?_) | (refine EK_ev (Ev_add rfl rfl) ?_)) | (refine ek_lss ?_; first | (refine EK_ev (Ev_lssI rfl rfl) ?_) | (refine EK_ev (Ev_lssS rfl rfl) ?_)))
    | (refine is_ex ?_; first | (refine KJ_blk_exit' rfl ?_))
    | (refine is_code ?_; first | (refine KJ_cond_dec rfl (fun _ => ?_) (fun _ => ?_) <;> first | (exfalso; omega) | skip) | (refine KJ_cond_t rfl ?_) | (refine KJ_cond_f rfl ?_) | (refine KJ_draws (id := 9) (.op 0 (.op 1 (.op 2 (.op 3 (.op 4 (.op 5 (.op 6 (.op 7 (.op 8 (.ef 9 [] .nil)))))))))) (by kernel_rfl) (by kernel_rfl) ?_))
    | (refine is_fw ?_; first | (refine FW_open rfl ?_) | (refine FW_nil ?_) | (refine FW_ef rfl ?_) | (refine FW_efg rfl rfl rfl ?_) | (refine FW_alt ?_ ?_))
    | (refine is_fo ?_; first | (refine FO_dec_t rfl rfl (fun _ => ?_) (fun _ => ?_) <;> first | (exfalso; omega) | skip) | (refine FO_dec_f rfl rfl (fun _ => ?_) (fun _ => ?_) <;> first | (exfalso; omega) | skip) | (refine FO_no rfl rfl rfl rfl ?_) | (refine FO_ekg rfl rfl rfl ?_) | (refine FO_ek rfl ?_))
    | (refine is_ro ?_; first | (refine RO_no rfl rfl rfl rfl ?_) | (refine RO_ekg rfl rfl ?_) | (refine RO_ek ?_))
    | (refine is_raw ?_; first | (refine KJ_flow ?_ ?_))
    | (refine AtR_mk rfl ?_)
    | exact Rech.nil
    | (refine Rech_open rfl ?_))
  refine KJ_loop (fun i : {k : Nat // k ≤ D.und.length} => [(0, .pointer (some ⟨p, 0, none⟩)), (16, .slice wa D.und.length wc), (17, .int .i64 D.und.length), (18, .int .i64 (i.1 : Nat))]) (fun i => [cellsP p [.slice (some ⟨gs, 0, none⟩) D.n c, .slice wa D.und.length wc, .bool G.off, .bool (decide (0 ≤ G.armed)), .int .i64 (max G.armed 0), .int .i64 G.writes, .int .i64 D.flushes, .int .i64 G.life] 97, rowP (.slice (some ⟨gs, 0, none⟩) D.n c) 9 1 D.n (secsV (layAll D.img (D.und.take i.1)) D.n), rowP (.slice wa D.und.length wc) 192 2 D.und.length (waysV D.und)] ++ R) (fun i => D.und.length - i.1) ⟨0, by omega⟩ (by (repeat' (first | exact Subs.nil | refine Subs.cons rfl ?_)); first | done | fail) (Ent.of (by (repeat' (first | exact Pick.nil | apply Pick.cons | exact Sel.here | apply Sel.there)); first | done | fail) (by (repeat' (first | exact DropTo.refl | apply DropTo.there)); first | done | fail)) (fun ⟨k, hk⟩ => ?_)
  dsimp only
  have hli : (layAll D.img (D.und.take k)).length = 256 * D.n := layAll_length _ _ _ hlen (fun x hx => hund x (List.mem_of_mem_take hx))
  by_cases hlt : k < D.und.length
  · obtain ⟨x, b, hx⟩ : ∃ x b, D.und[k]? = some (x, b) := ⟨(D.und[k]).1, (D.und[k]).2, by rw [List.getElem?_eq_getElem hlt]⟩
    have hxb := hund _ (List.mem_of_getElem? hx)
    have hxn : x < D.n := hxb.1
    have hb : b.length = 256 := hxb.2
    have hnx := secsV_lay (b := b) hli hxn (by omega)
    rw [List.drop_of_length_le (by rw [hb, cut_length _ _ _ (by omega)]; omega), List.append_nil, ← layAll_take _ _ _ _ _ hx] at hnx
    have hnx' : lay (secsV (layAll D.img (D.und.take k)) D.n) (0 + (x : Int).toNat * 1) [strV b] = secsV (layAll D.img (D.und.take (k + 1))) D.n := by rw [Int.toNat_natCast, Nat.mul_one, Nat.zero_add]; exact hnx
    have hW : ∀ z v, [Value.int .i64 (x : Nat), strV b][z]? = some v → (waysV D.und)[0 + (k : Int).toNat * 2 + z]? = some v := fun z v hv => by rw [Int.toNat_natCast, Nat.zero_add]; exact waysV_get _ _ _ _ hx z v hv
    refine KJ.row_shape (v := .slice wa D.und.length wc) (by (repeat' (first | exact Sel.here | apply Sel.there)); first | done | fail) (by omega) (fun gw c' e => ?_)
    obtain ⟨rfl, rfl⟩ : wa = some ⟨gw, 0, none⟩ ∧ wc = c' := by cases e; exact ⟨rfl, rfl⟩
    repeat' (first 
    | refine KJ_stp (by first | constructor | fail) ?_
    | (refine is_oper ?_; first | (refine is_store ?_; first | (refine KJ_storeRow rfl rfl (by (repeat' (first | exact Sel.here | apply Sel.there)); first | done | fail) (by first | exact CellsOf.agg | exact CellsOf.one rfl) (by rfl) (by (repeat' (first | exact Ones.nil | exact Ones_bvs _ | refine Ones.cons rfl ?_)); first | done | fail) (by rw [secsV_length]; simp; omega) ?_) | (refine KJ_store rfl rfl (by (repeat' (first | exact Sel.here | apply Sel.there)); first | done | fail) (by first | exact CellsOf.agg | exact CellsOf.one rfl) (by rfl) (by (repeat' (first | exact Ones.nil | exact Ones_bvs _ | refine Ones.cons rfl ?_)); first | done | fail) (by (repeat' (first | exact Laid.nil | apply Laid.cons | apply Laid.skip)); first | done | fail) (by (repeat' (first | exact Rep.here | apply Rep.there)); first | done | fail) ?_)) | (refine is_alloc ?_; first | (refine KJ_alloc rfl (fun _ => ?_))) | (refine KJ_ek rfl ?_) | (refine KJ_ek0 ?_))
    | (refine is_ek ?_; first | (refine ek_move ?_; first | (refine EK_ev (Ev_move rfl) ?_)) | (refine ek_assign ?_; first | (refine EK_ev (Ev_assign rfl) ?_)) | (refine ek_nilCheck ?_; first | (refine EK_ev (Ev_nilCheck rfl) ?_)) | (refine ek_fieldAddr ?_; first | (refine EK_ev (Ev_field rfl) ?_)) | (refine ek_load ?_; first | (refine EK_ev (Ev_load rfl (by (repeat' (first | exact Sel.here | apply Sel.there)); first | done | fail) (by rfl)) ?_) | (refine EK_ev (Ev_loadRowAgg rfl (by (repeat' (first | exact Sel.here | apply Sel.there)); first | done | fail) hW (by rfl)) ?_) | (refine EK_ev (Ev_load rfl (by (repeat' (first | exact Sel.here | apply Sel.there)); first | done | fail) (by rfl)) ?_) | (refine EK_ev (Ev_loadOld rfl (by assumption)) ?_) | (refine EK_ev (Ev_loadAgg rfl (by (repeat' (first | exact Sel.here | apply Sel.there)); first | done | fail) (by (repeat' (first | exact Cut.nil | apply Cut.cons | apply Cut.skip)); first | done | fail)) ?_)) | (refine ek_indexAddr ?_; first | (refine EK_ev (Ev_indexSlice rfl rfl (by omega)) ?_) | (refine EK_ev (Ev_indexArr rfl rfl (by omega)) ?_)) | (refine ek_len ?_; first | (refine EK_ev (Ev_len_str rfl) ?_) | (refine EK_ev (Ev_len_slice rfl) ?_) | (refine EK_ev (Ev_len_arr rfl) ?_) | (refine EK_ev (Ev_len_map rfl (by (repeat' (first | exact Sel.here | apply Sel.there)); first | done | fail)) ?_)) | (refine ek_add ?_; first | (refine EK_ev (Ev_addI_v (r := ((k + 1 : Nat) : Int)) rfl rfl (by omega) (by omega)) ?_) | (refine EK_ev (Ev_addI rfl rfl (by omega)) ?_) | (refine EK_ev (Ev_addS rfl rfl (by simp <;> omega)) ?_) | (refine EK_ev (Ev_add rfl rfl) ?_)) | (refine ek_lss ?_; first | (refine EK_ev (Ev_lssI rfl rfl) ?_) | (refine EK_ev (Ev_lssS rfl rfl) ?_)))
    | (refine is_ex ?_; first | (refine KJ_blk_exit' rfl ?_))
    | (refine is_code ?_; first | (refine KJ_cond_dec rfl (fun _ => ?_) (fun _ => ?_) <;> first | (exfalso; omega) | skip) | (refine KJ_cond_t rfl ?_) | (refine KJ_cond_f rfl ?_) | (refine KJ_draws (id := 9) (.op 0 (.op 1 (.op 2 (.op 3 (.op 4 (.op 5 (.op 6 (.op 7 (.op 8 (.ef 9 [] .nil)))))))))) (by kernel_rfl) (by kernel_rfl) ?_))
    | (refine is_fw ?_; first | (refine FW_open rfl ?_) | (refine FW_nil ?_) | (refine FW_ef rfl ?_) | (refine FW_efg rfl rfl rfl ?_) | (refine FW_alt ?_ ?_))
    | (refine is_fo ?_; first | (refine FO_dec_t rfl rfl (fun _ => ?_) (fun _ => ?_) <;> first | (exfalso; omega) | skip) | (refine FO_dec_f rfl rfl (fun _ => ?_) (fun _ => ?_) <;> first | (exfalso; omega) | skip) | (refine FO_no rfl rfl rfl rfl ?_) | (refine FO_ekg rfl rfl rfl ?_) | (refine FO_ek rfl ?_))
    | (refine is_ro ?_; first | (refine RO_no rfl rfl rfl rfl ?_) | (refine RO_ekg rfl rfl ?_) | (refine RO_ek ?_))
    | (refine is_raw ?_; first | (refine KJ_flow ?_ ?_))
    | (refine AtR_mk rfl ?_)
    | exact Rech.nil
    | (refine Rech_open rfl ?_))
    all_goals try rw [hnx']
    all_goals refine KJ_again ⟨k + 1, by omega⟩ (by show D.und.length - (k + 1) < D.und.length - k; omega) (by (repeat' (first | exact Subs.nil | refine Subs.cons rfl ?_)); first | done | fail) (Ent.of (by (repeat' (first | exact Pick.nil | apply Pick.cons | exact Sel.here | apply Sel.there)); first | done | fail) (by (repeat' (first | exact DropTo.refl | apply DropTo.there)); first | done | fail))
  · have hkl : k = D.und.length := by omega
    subst hkl
    rw [List.take_length]
    repeat' (first 
    | refine KJ_stp (by first | constructor | fail) ?_
    | (refine is_oper ?_; first | (refine is_store ?_; first | (refine KJ_store rfl rfl (by (repeat' (first | exact Sel.here | apply Sel.there)); first | done | fail) (by first | exact CellsOf.agg | exact CellsOf.one rfl) (by rfl) (by (repeat' (first | exact Ones.nil | exact Ones_bvs _ | refine Ones.cons rfl ?_)); first | done | fail) (by (repeat' (first | exact Laid.nil | apply Laid.cons | apply Laid.skip)); first | done | fail) (by (repeat' (first | exact Rep.here | apply Rep.there)); first | done | fail) ?_)) | (refine is_alloc ?_; first | (refine KJ_alloc rfl (fun _ => ?_))) | (refine KJ_ek rfl ?_) | (refine KJ_ek0 ?_))
    | (refine is_ek ?_; first | (refine ek_move ?_; first | (refine EK_ev (Ev_move rfl) ?_)) | (refine ek_assign ?_; first | (refine EK_ev (Ev_assign rfl) ?_)) | (refine ek_nilCheck ?_; first | (refine EK_ev (Ev_nilCheck rfl) ?_)) | (refine ek_fieldAddr ?_; first | (refine EK_ev (Ev_field rfl) ?_)) | (refine ek_load ?_; first | (refine EK_ev (Ev_load rfl (by (repeat' (first | exact Sel.here | apply Sel.there)); first | done | fail) (by rfl)) ?_) | (refine EK_ev (Ev_loadOld rfl (by assumption)) ?_) | (refine EK_ev (Ev_loadAgg rfl (by (repeat' (first | exact Sel.here | apply Sel.there)); first | done | fail) (by (repeat' (first | exact Cut.nil | apply Cut.cons | apply Cut.skip)); first | done | fail)) ?_)) | (refine ek_indexAddr ?_; first | (refine EK_ev (Ev_indexSlice rfl rfl (by omega)) ?_) | (refine EK_ev (Ev_indexArr rfl rfl (by omega)) ?_)) | (refine ek_len ?_; first | (refine EK_ev (Ev_len_str rfl) ?_) | (refine EK_ev (Ev_len_slice rfl) ?_) | (refine EK_ev (Ev_len_arr rfl) ?_) | (refine EK_ev (Ev_len_map rfl (by (repeat' (first | exact Sel.here | apply Sel.there)); first | done | fail)) ?_)) | (refine ek_add ?_; first | (refine EK_ev (Ev_addV rfl rfl hw1) ?_) | (refine EK_ev (Ev_addI rfl rfl (by omega)) ?_) | (refine EK_ev (Ev_addS rfl rfl (by simp <;> omega)) ?_) | (refine EK_ev (Ev_add rfl rfl) ?_)) | (refine ek_lss ?_; first | (refine EK_ev (Ev_lssI rfl rfl) ?_) | (refine EK_ev (Ev_lssS rfl rfl) ?_)))
    | (refine is_ex ?_; first | (refine KJ_blk_exit' rfl ?_))
    | (refine is_code ?_; first | (refine KJ_cond_dec rfl (fun _ => ?_) (fun _ => ?_) <;> first | (exfalso; omega) | skip) | (refine KJ_cond_t rfl ?_) | (refine KJ_cond_f rfl ?_) | (refine KJ_draws (id := 9) (.op 0 (.op 1 (.op 2 (.op 3 (.op 4 (.op 5 (.op 6 (.op 7 (.op 8 (.ef 9 [] .nil)))))))))) (by kernel_rfl) (by kernel_rfl) ?_))
    | (refine is_fw ?_; first | (refine FW_open rfl ?_) | (refine FW_nil ?_) | (refine FW_ef rfl ?_) | (refine FW_efg rfl rfl rfl ?_) | (refine FW_alt ?_ ?_))
    | (refine is_fo ?_; first | (refine FO_dec_t rfl rfl (fun _ => ?_) (fun _ => ?_) <;> first | (exfalso; omega) | skip) | (refine FO_dec_f rfl rfl (fun _ => ?_) (fun _ => ?_) <;> first | (exfalso; omega) | skip) | (refine FO_no rfl rfl rfl rfl ?_) | (refine FO_ekg rfl rfl rfl ?_) | (refine FO_ek rfl ?_))
    | (refine is_ro ?_; first | (refine RO_no rfl rfl rfl rfl ?_) | (refine RO_ekg rfl rfl ?_) | (refine RO_ek ?_))
    | (refine is_raw ?_; first | (refine KJ_flow ?_ ?_))
    | (refine AtR_mk rfl ?_)
    | exact Rech.nil
    | (refine Rech_open rfl ?_))
    all_goals refine KJ_doneR (by first | exact Or.inl rfl | exact Or.inr rfl) rfl (by (repeat' (first | exact Rvs.nil | (apply Rvs.tmp; exact rfl))); first | done | fail) (by rfl) (.slice (some ⟨gs, 0, none⟩) D.n c) (.slice none 0 0) (fun g q => ?_)
    all_goals (have e9 : RefF p ({ G with img := layAll D.img D.und, und := [], flushes := w64 (D.flushes + 1) } : Dsk) (.slice (some ⟨gs, 0, none⟩) D.n c, .slice none 0 0) = [cellsP p [.slice (some ⟨gs, 0, none⟩) D.n c, .slice none 0 0, .bool G.off, .bool (decide (0 ≤ G.armed)), .int .i64 (max G.armed 0), .int .i64 G.writes, .int .i64 (w64 (D.flushes + 1)), .int .i64 G.life] 97, rowP (.slice (some ⟨gs, 0, none⟩) D.n c) 9 1 D.n (secsV (layAll D.img D.und) D.n), rowP (.slice none 0 0) 192 2 0 []] := by simp only [RefF, refC, g1]; rfl)
    all_goals rw [e9]
    all_goals refine starL_nilrow (H := [cellsP p [.slice (some ⟨gs, 0, none⟩) D.n c, .slice none 0 0, .bool G.off, .bool (decide (0 ≤ G.armed)), .int .i64 (max G.armed 0), .int .i64 G.writes, .int .i64 (w64 (D.flushes + 1)), .int .i64 G.life] 97, rowP (.slice (some ⟨gs, 0, none⟩) D.n c) 9 1 D.n (secsV (layAll D.img D.und) D.n)]) g ((Ent.of (by (repeat' (first | exact Pick.nil | apply Pick.cons | exact Sel.here | apply Sel.there)); first | done | fail) (by (repeat' (first | exact DropTo.refl | apply DropTo.there)); first | done | fail)) g q)
end
end Go.Proofs.YteklldbfdmaafaaDoor
/-
  What a crash may make of a sector, as plain data.
-/
namespace Go.Proofs.YteklldbfdmaafaaDoor
open Go Go.RowKit
theorem done_le (kept : List Bool) (torn bytes : Int) (k : Nat) : done kept torn bytes k ≤ 256 := by
  unfold done
  split
  · omega
  · split <;> omega
end Go.Proofs.YteklldbfdmaafaaDoor
/-
  The document's disk (remitref06): Crash, New, From over plain data.
-/
namespace Go.Proofs.YteklldbfdmaafaaDoor
open Go Go.RowKit
section
variable {P : Program} {W : World} {n b off : Nat} {T t : TypeId} {E : Env} {H R : List SP} {x : Operand}
theorem Ev_load_v {cs : List Value} {v v' : Value} (hx : Env.ev E x = some (.pointer (some ⟨b, off, none⟩))) [hu : ScIs P t] (hs : Sel (cellsP b cs T) H R) (hv : cs[off]? = some v) (h : v = v') : Ev P W n E H (.load t x) v' := by
  subst h; exact Ev_load hx hs hv
end
section
variable {W : World} {p : Nat} {D : Dsk}
set_option maxHeartbeats 2000000 in
set_option maxRecDepth 100000 in
theorem rcrash_ct (hok : D.ok) (hul : D.und.length < 1073741824) {kv : Value} {kept : List Bool} (torn bytes : Int) (hk : BoolsAt W kv kept) : Ct Tryd.prog W 95 [.pointer (some ⟨p, 0, none⟩), .agg #[kv, .int .i64 torn, .int .i64 bytes]] [RefP p D] (fun _ : Unit => .tuple #[]) (fun _ => [RefP p (D.crash kept torn bytes)]) := by
  refine Ct_ref (fun sv wv => ?_)
  obtain ⟨ka, kc, rfl, hkr, -⟩ := hk
  have hn1 := hok.n1
  have hn2 := hok.n2
  have hlen := hok.len
  have hund := hok.und
  have hw1 : IntKind.i64.wrap (D.life + 1) = w64 (D.life + 1) := w64_wrap _
  show Ct _ _ _ _ [cellsP p [sv, wv, .bool D.off, .bool (decide (0 ≤ D.armed)), .int .i64 (max D.armed 0), .int .i64 D.writes, .int .i64 D.flushes, .int .i64 D.life] 97, rowP (sv) 9 1 D.n (secsV D.img D.n), rowP (wv) 192 2 D.und.length (waysV D.und)] _ _
  refine Ct.enter Tryd.func95 rfl Tryd.ntmps95 (by simp) (fun R => ?_)
  refine KJ.row_shape (v := sv) (by (repeat' (first | exact Sel.here | apply Sel.there)); first | done | fail) (by omega) (fun gs c e => ?_)
  subst e
  refine KJ.row_slice (v := wv) (by (repeat' (first | exact Sel.here | apply Sel.there)); first | done | fail) (fun wa wc e => ?_)
  subst e
  repeat' (first 
    | refine KJ_stp (by first | constructor | fail) ?_
    | (refine is_list ?_; first | (refine KJ_guard_dec_t rfl rfl rfl (fun _ => ?_) (fun _ => ?_) <;> first | (exfalso; omega) | skip) | (refine KJ_guard_dec_f rfl rfl rfl (fun _ => ?_) (fun _ => ?_) <;> first | (exfalso; omega) | skip) | (refine KJ_guard_yes rfl rfl ?_) | (refine KJ_guard_no rfl rfl rfl rfl ?_))
    | (refine is_oper ?_; first | (refine is_store ?_; first | (refine KJ_store rfl rfl (by (repeat' (first | exact Sel.here | apply Sel.there)); first | done | fail) (by first | exact CellsOf.agg | exact CellsOf.one rfl) (by rfl) (by (repeat' (first | exact Ones.nil | exact Ones_bvs _ | refine Ones.cons rfl ?_)); first | done | fail) (by (repeat' (first | exact Laid.nil | apply Laid.cons | apply Laid.skip)); first | done | fail) (by (repeat' (first | exact Rep.here | apply Rep.there)); first | done | fail) ?_)) | (refine is_alloc ?_; first | (refine KJ_alloc rfl (fun _ => ?_))) | (refine is_box ?_; first | (refine KJ_box rfl (by first | exact CellsOf.agg | exact CellsOf.one rfl) rfl (fun gF => ?_)) | (refine KJ_box rfl (by first | exact CellsOf.agg | exact CellsOf.one rfl) rfl (fun _ => ?_))) | (refine KJ_ek rfl ?_) | (refine KJ_ek0 ?_))
    | (refine is_ek ?_; first | (refine ek_move ?_; first | (refine EK_ev (Ev_move rfl) ?_)) | (refine ek_assign ?_; first | (refine EK_ev (Ev_assign rfl) ?_)) | (refine ek_pick ?_; first | (refine EK_ev (Ev_pick_t rfl rfl) ?_) | (refine EK_ev (Ev_pick_f rfl rfl) ?_)) | (refine ek_nilCheck ?_; first | (refine EK_ev (Ev_nilCheck rfl) ?_)) | (refine ek_fieldAddr ?_; first | (refine EK_ev (Ev_field rfl) ?_)) | (refine ek_load ?_; first | (refine EK_ev (Ev_load rfl (by (repeat' (first | exact Sel.here | apply Sel.there)); first | done | fail) (by rfl)) ?_) | (refine EK_ev (Ev_loadOld rfl (by assumption)) ?_) | (refine EK_ev (Ev_loadAgg rfl (by (repeat' (first | exact Sel.here | apply Sel.there)); first | done | fail) (by (repeat' (first | exact Cut.nil | apply Cut.cons | apply Cut.skip)); first | done | fail)) ?_)) | (refine ek_indexAddr ?_; first | (refine EK_ev (Ev_indexSlice rfl rfl (by omega)) ?_) | (refine EK_ev (Ev_indexArr rfl rfl (by omega)) ?_)) | (refine ek_len ?_; first | (refine EK_ev (Ev_len_str rfl) ?_) | (refine EK_ev (Ev_len_slice rfl) ?_) | (refine EK_ev (Ev_len_arr rfl) ?_) | (refine EK_ev (Ev_len_map rfl (by (repeat' (first | exact Sel.here | apply Sel.there)); first | done | fail)) ?_)) | (refine ek_min ?_; first | (refine EK_ev (Ev_min rfl rfl) ?_)) | (refine ek_max ?_; first | (refine EK_ev (Ev_max rfl rfl) ?_)) | (refine ek_add ?_; first | (refine EK_ev (Ev_addI rfl rfl (by omega)) ?_) | (refine EK_ev (Ev_addS rfl rfl (by simp <;> omega)) ?_) | (refine EK_ev (Ev_add rfl rfl) ?_)) | (refine ek_eql ?_; first | (refine EK_ev (Ev_eqlI rfl rfl) ?_) | (refine EK_ev (Ev_eqlS rfl rfl) ?_) | (refine EK_ev (Ev_eqlNil rfl rfl) ?_) | (refine EK_ev (Ev_eqlB rfl rfl) ?_) | (refine EK_ev (Ev_eqlO rfl rfl rfl (fun _ => rfl)) ?_)) | (refine ek_lss ?_; first | (refine EK_ev (Ev_lssI rfl rfl) ?_) | (refine EK_ev (Ev_lssS rfl rfl) ?_)))
    | (refine is_ex ?_; first | (refine KJ_blk_exit' rfl ?_))
    | (refine is_code ?_; first | (refine KJ_cond_dec rfl (fun _ => ?_) (fun _ => ?_) <;> first | (exfalso; omega) | skip) | (refine KJ_cond_t rfl ?_) | (refine KJ_cond_f rfl ?_) | (refine KJ_draws (id := 9) (.op 0 (.op 1 (.op 2 (.op 3 (.op 4 (.op 5 (.op 6 (.op 7 (.op 8 (.op 9 (.op 10 (.op 11 (.op 12 (.op 13 (.op 14 (.op 15 (.op 16 (.op 17 (.op 18 (.op 19 (.op 20 (.op 21 (.ef 22 [] .nil))))))))))))))))))))))) (by kernel_rfl) (by kernel_rfl) ?_))
    | (refine is_fw ?_; first | (refine FW_open rfl ?_) | (refine FW_nil ?_) | (refine FW_ef rfl ?_) | (refine FW_efg rfl rfl rfl ?_) | (refine FW_alt ?_ ?_))
    | (refine is_fo ?_; first | (refine FO_dec_t rfl rfl (fun _ => ?_) (fun _ => ?_) <;> first | (exfalso; omega) | skip) | (refine FO_dec_f rfl rfl (fun _ => ?_) (fun _ => ?_) <;> first | (exfalso; omega) | skip) | (refine FO_no rfl rfl rfl rfl ?_) | (refine FO_ekg rfl rfl rfl ?_) | (refine FO_ek rfl ?_))
    | (refine is_ro ?_; first | (refine RO_no rfl rfl rfl rfl ?_) | (refine RO_ekg rfl rfl ?_) | (refine RO_ek ?_))
    | (refine is_raw ?_; first | (refine KJ_flow ?_ ?_))
    | (refine AtR_mk rfl ?_)
    | exact Rech.nil
    | (refine Rech_open rfl ?_))
  refine KJ_loop (fun i : {k : Nat // k ≤ D.und.length} => [(0, .pointer (some ⟨p, 0, none⟩)), (3, .pointer (some ⟨gF, 0, none⟩)), (10, .slice wa D.und.length wc), (11, .int .i64 D.und.length), (12, .int .i64 (i.1 : Nat))]) (fun i => [cellsP gF [.slice ka kept.length kc, .int .i64 torn, .int .i64 bytes] 25] ++ [cellsP p [.slice (some ⟨gs, 0, none⟩) D.n c, .slice wa D.und.length wc, .bool D.off, .bool (decide (0 ≤ D.armed)), .int .i64 (max D.armed 0), .int .i64 D.writes, .int .i64 D.flushes, .int .i64 D.life] 97, rowP (.slice (some ⟨gs, 0, none⟩) D.n c) 9 1 D.n (secsV (layDone D.img kept torn bytes (D.und.take i.1)) D.n), rowP (.slice wa D.und.length wc) 192 2 D.und.length (waysV D.und)] ++ R) (fun i => D.und.length - i.1) ⟨0, by omega⟩ (by (repeat' (first | exact Subs.nil | refine Subs.cons rfl ?_)); first | done | fail) (Ent.of (by (repeat' (first | exact Pick.nil | apply Pick.cons | exact Sel.here | apply Sel.there)); first | done | fail) (by (repeat' (first | exact DropTo.refl | apply DropTo.there)); first | done | fail)) (fun ⟨k, hkk⟩ => ?_)
  dsimp only
  have hli : (layDone D.img kept torn bytes (D.und.take k)).length = 256 * D.n := layDone_length _ _ _ _ _ _ hlen (fun x hx => hund x (List.mem_of_mem_take hx))
  by_cases hlt : k < D.und.length
  · obtain ⟨x, b, hx⟩ : ∃ x b, D.und[k]? = some (x, b) := ⟨(D.und[k]).1, (D.und[k]).2, by rw [List.getElem?_eq_getElem hlt]⟩
    have hxb := hund _ (List.mem_of_getElem? hx)
    have hxn : x < D.n := hxb.1
    have hb : b.length = 256 := hxb.2
    have hd256 := done_le kept torn bytes k
    have hdd : done kept torn bytes k = if (k : Int) = torn then (min (max bytes 0) 256).toNat else if kept.getD k false then 256 else 0 := rfl
    have hsnx := layDone_take D.img kept torn bytes D.und k x b hx
    obtain ⟨d, hd⟩ : ∃ d, d = done kept torn bytes k := ⟨_, rfl⟩
    rw [← hd] at hd256 hdd hsnx
    have hnx := secsV_lay (b := b.take d) hli hxn (by rw [List.length_take]; omega)
    rw [← hsnx, List.length_take, Nat.min_eq_left (by omega)] at hnx
    obtain ⟨I, hI⟩ : ∃ I, I = layDone D.img kept torn bytes (D.und.take k) := ⟨_, rfl⟩
    rw [← hI] at hnx hli ⊢
    have hnx' : lay (secsV I D.n) (0 + (x : Int).toNat * 1) [strV (b.take ((d : Nat) : Int).toNat ++ (cut I (x * 256) 256).drop ((d : Nat) : Int).toNat)] = secsV (layDone D.img kept torn bytes (D.und.take (k + 1))) D.n := by rw [Int.toNat_natCast, Int.toNat_natCast, Nat.mul_one, Nat.zero_add]; exact hnx
    have hcl : (cut I (x * 256) 256).length = 256 := cut_length _ _ _ (by omega)
    have hS : (secsV I D.n)[0 + (x : Int).toNat * 1]? = some (strV (cut I (x * 256) 256)) := by rw [Int.toNat_natCast, Nat.mul_one, Nat.zero_add, secsV_get _ _ _ hxn]
    have hW : ∀ z v, [Value.int .i64 (x : Nat), strV b][z]? = some v → (waysV D.und)[0 + (k : Int).toNat * 2 + z]? = some v := fun z v hv => by rw [Int.toNat_natCast, Nat.zero_add]; exact waysV_get _ _ _ _ hx z v hv
    refine KJ.row_shape (v := .slice wa D.und.length wc) (by (repeat' (first | exact Sel.here | apply Sel.there)); first | done | fail) (by omega) (fun gw c' e => ?_)
    obtain ⟨rfl, rfl⟩ : wa = some ⟨gw, 0, none⟩ ∧ wc = c' := by cases e; exact ⟨rfl, rfl⟩
    apply KJ_rest (fun K => ∀ g5 : Nat, KJ W 79 K [(0, .pointer (some ⟨p, 0, none⟩)), (3, .pointer (some ⟨gF, 0, none⟩)), (10, .slice (some ⟨gw, 0, none⟩) D.und.length wc), (11, .int .i64 D.und.length), (5, .pointer (some ⟨g5, 0, none⟩)), (6, .int .i64 (d : Nat)), (12, .int .i64 (k : Nat))] ([cellsP gF [.slice ka kept.length kc, .int .i64 torn, .int .i64 bytes] 25, cellsP g5 [.int .i64 (x : Nat), strV b] 192] ++ [cellsP p [.slice (some ⟨gs, 0, none⟩) D.n c, .slice (some ⟨gw, 0, none⟩) D.und.length wc, .bool D.off, .bool (decide (0 ≤ D.armed)), .int .i64 (max D.armed 0), .int .i64 D.writes, .int .i64 D.flushes, .int .i64 D.life] 97, rowP (.slice (some ⟨gs, 0, none⟩) D.n c) 9 1 D.n (secsV I D.n), rowP (.slice (some ⟨gw, 0, none⟩) D.und.length wc) 192 2 D.und.length (waysV D.und)] ++ R))
    · intro rest
      by_cases hkl : k < kept.length
      · have ql : decide ((k : Int) < (kept.length : Nat)) = true := decide_eq_true (by omega)
        obtain ⟨z, hz⟩ : ∃ z, kept[k]? = some z := ⟨_, List.getElem?_eq_getElem hkl⟩
        have hgd : kept.getD k false = z := by rw [List.getD, hz]; rfl
        rw [hgd] at hdd
        obtain ⟨kb, ko, hka, hkb, hkc⟩ := hkr (by intro e; rw [e] at hkl; simp at hkl)
        have hkv : Value.slice ka kept.length kc = .slice (some ⟨kb, ko, none⟩) kept.length kc := by rw [hka]
        have Hk : W.cell? ⟨kb, ko + (k : Int).toNat * 1, none⟩ = some (.bool z) := by rw [Int.toNat_natCast, Nat.mul_one]; exact hkc k _ (by simp [hz])
        by_cases ht : (k : Int) = torn
        · rw [if_pos ht] at hdd
          have hmin : min (max bytes 0) 256 = ((d : Nat) : Int) := by omega
          cases z with
          | false => repeat' (first 
    | (refine at_region (id := 9) ?_; exact KJ.weak (rest _) (by (repeat' (first | exact Subs.nil | refine Subs.cons rfl ?_)); first | done | fail) (Ent.of (by (repeat' (first | exact Pick.nil | apply Pick.cons | exact Sel.here | apply Sel.there)); first | done | fail) (by (repeat' (first | exact DropTo.refl | apply DropTo.there)); first | done | fail)))
    | refine KJ_stp (by first | constructor | fail) ?_
    | (refine is_list ?_; first | (refine KJ_guard_dec_t rfl rfl rfl (fun _ => ?_) (fun _ => ?_) <;> first | (exfalso; omega) | skip) | (refine KJ_guard_dec_f rfl rfl rfl (fun _ => ?_) (fun _ => ?_) <;> first | (exfalso; omega) | skip) | (refine KJ_guard_yes rfl rfl ?_) | (refine KJ_guard_no rfl rfl rfl rfl ?_))
    | (refine is_oper ?_; first | (refine is_store ?_; first | (refine KJ_store rfl rfl (by (repeat' (first | exact Sel.here | apply Sel.there)); first | done | fail) (by first | exact CellsOf.agg | exact CellsOf.one rfl) (by rfl) (by (repeat' (first | exact Ones.nil | exact Ones_bvs _ | refine Ones.cons rfl ?_)); first | done | fail) (by (repeat' (first | exact Laid.nil | apply Laid.cons | apply Laid.skip)); first | done | fail) (by (repeat' (first | exact Rep.here | apply Rep.there)); first | done | fail) ?_)) | (refine is_alloc ?_; first | (refine KJ_alloc rfl (fun _ => ?_))) | (refine is_box ?_; first | (refine KJ_box rfl (by first | exact CellsOf.agg | exact CellsOf.one rfl) rfl (fun _ => ?_))) | (refine KJ_ek rfl ?_) | (refine KJ_ek0 ?_))
    | (refine is_ek ?_; first | (refine ek_move ?_; first | (refine EK_ev (Ev_move rfl) ?_)) | (refine ek_assign ?_; first | (refine EK_ev (Ev_assign rfl) ?_)) | (refine ek_pick ?_; first | (refine EK_ev (Ev_pick_t rfl rfl) ?_) | (refine EK_ev (Ev_pick_f rfl rfl) ?_)) | (refine ek_nilCheck ?_; first | (refine EK_ev (Ev_nilCheck rfl) ?_)) | (refine ek_fieldAddr ?_; first | (refine EK_ev (Ev_field rfl) ?_)) | (refine ek_load ?_; first | (refine EK_ev (Ev_loadOld rfl Hk) ?_) | (refine EK_ev (Ev_load_v rfl (by (repeat' (first | exact Sel.here | apply Sel.there)); first | done | fail) (by rfl) hkv) ?_) | (refine EK_ev (Ev_loadRowAgg rfl (by (repeat' (first | exact Sel.here | apply Sel.there)); first | done | fail) hW (by rfl)) ?_) | (refine EK_ev (Ev_load rfl (by (repeat' (first | exact Sel.here | apply Sel.there)); first | done | fail) (by rfl)) ?_) | (refine EK_ev (Ev_load rfl (by (repeat' (first | exact Sel.here | apply Sel.there)); first | done | fail) (by rfl)) ?_) | (refine EK_ev (Ev_loadOld rfl (by assumption)) ?_) | (refine EK_ev (Ev_loadAgg rfl (by (repeat' (first | exact Sel.here | apply Sel.there)); first | done | fail) (by (repeat' (first | exact Cut.nil | apply Cut.cons | apply Cut.skip)); first | done | fail)) ?_)) | (refine ek_indexAddr ?_; first | (refine EK_ev (Ev_indexSlice rfl rfl (by omega)) ?_) | (refine EK_ev (Ev_indexArr rfl rfl (by omega)) ?_)) | (refine ek_len ?_; first | (refine EK_ev (Ev_len_str rfl) ?_) | (refine EK_ev (Ev_len_slice rfl) ?_) | (refine EK_ev (Ev_len_arr rfl) ?_) | (refine EK_ev (Ev_len_map rfl (by (repeat' (first | exact Sel.here | apply Sel.there)); first | done | fail)) ?_)) | (refine ek_min ?_; first | (refine EK_ev (Ev_minV rfl rfl hmin) ?_) | (refine EK_ev (Ev_min rfl rfl) ?_)) | (refine ek_max ?_; first | (refine EK_ev (Ev_max rfl rfl) ?_) | (refine EK_ev (Ev_max rfl rfl) ?_)) | (refine ek_add ?_; first | (refine EK_ev (Ev_addI rfl rfl (by omega)) ?_) | (refine EK_ev (Ev_addS rfl rfl (by simp <;> omega)) ?_) | (refine EK_ev (Ev_add rfl rfl) ?_)) | (refine ek_eql ?_; first | (refine EK_ev (Ev_eqlI_t rfl rfl ht) ?_) | (refine EK_ev (Ev_eqlI rfl rfl) ?_) | (refine EK_ev (Ev_eqlS rfl rfl) ?_) | (refine EK_ev (Ev_eqlNil rfl rfl) ?_) | (refine EK_ev (Ev_eqlB rfl rfl) ?_) | (refine EK_ev (Ev_eqlO rfl rfl rfl (fun _ => rfl)) ?_)) | (refine ek_lss ?_; first | (refine EK_ev (Ev_lssI_q rfl rfl ql) ?_) | (refine EK_ev (Ev_lssI rfl rfl) ?_) | (refine EK_ev (Ev_lssS rfl rfl) ?_)))
    | (refine is_ex ?_; first | (refine KJ_blk_exit' rfl ?_))
    | (refine is_code ?_; first | (refine KJ_cond_dec rfl (fun _ => ?_) (fun _ => ?_) <;> first | (exfalso; omega) | skip) | (refine KJ_cond_t rfl ?_) | (refine KJ_cond_f rfl ?_) | (refine KJ_draws (id := 9) (.op 0 (.op 1 (.op 2 (.op 3 (.op 4 (.op 5 (.op 6 (.op 7 (.op 8 (.op 9 (.op 10 (.op 11 (.op 12 (.op 13 (.op 14 (.op 15 (.op 16 (.op 17 (.op 18 (.op 19 (.op 20 (.op 21 (.ef 22 [] .nil))))))))))))))))))))))) (by kernel_rfl) (by kernel_rfl) ?_))
    | (refine is_fw ?_; first | (refine FW_open rfl ?_) | (refine FW_nil ?_) | (refine FW_ef rfl ?_) | (refine FW_efg rfl rfl rfl ?_) | (refine FW_alt ?_ ?_))
    | (refine is_fo ?_; first | (refine FO_dec_t rfl rfl (fun _ => ?_) (fun _ => ?_) <;> first | (exfalso; omega) | skip) | (refine FO_dec_f rfl rfl (fun _ => ?_) (fun _ => ?_) <;> first | (exfalso; omega) | skip) | (refine FO_no rfl rfl rfl rfl ?_) | (refine FO_ekg rfl rfl rfl ?_) | (refine FO_ek rfl ?_))
    | (refine is_ro ?_; first | (refine RO_no rfl rfl rfl rfl ?_) | (refine RO_ekg rfl rfl ?_) | (refine RO_ek ?_))
    | (refine is_raw ?_; first | (refine KJ_flow ?_ ?_))
    | (refine AtR_mk rfl ?_)
    | exact Rech.nil
    | (refine Rech_open rfl ?_))
          | true => repeat' (first 
    | (refine at_region (id := 9) ?_; exact KJ.weak (rest _) (by (repeat' (first | exact Subs.nil | refine Subs.cons rfl ?_)); first | done | fail) (Ent.of (by (repeat' (first | exact Pick.nil | apply Pick.cons | exact Sel.here | apply Sel.there)); first | done | fail) (by (repeat' (first | exact DropTo.refl | apply DropTo.there)); first | done | fail)))
    | refine KJ_stp (by first | constructor | fail) ?_
    | (refine is_list ?_; first | (refine KJ_guard_dec_t rfl rfl rfl (fun _ => ?_) (fun _ => ?_) <;> first | (exfalso; omega) | skip) | (refine KJ_guard_dec_f rfl rfl rfl (fun _ => ?_) (fun _ => ?_) <;> first | (exfalso; omega) | skip) | (refine KJ_guard_yes rfl rfl ?_) | (refine KJ_guard_no rfl rfl rfl rfl ?_))
    | (refine is_oper ?_; first | (refine is_store ?_; first | (refine KJ_store rfl rfl (by (repeat' (first | exact Sel.here | apply Sel.there)); first | done | fail) (by first | exact CellsOf.agg | exact CellsOf.one rfl) (by rfl) (by (repeat' (first | exact Ones.nil | exact Ones_bvs _ | refine Ones.cons rfl ?_)); first | done | fail) (by (repeat' (first | exact Laid.nil | apply Laid.cons | apply Laid.skip)); first | done | fail) (by (repeat' (first | exact Rep.here | apply Rep.there)); first | done | fail) ?_)) | (refine is_alloc ?_; first | (refine KJ_alloc rfl (fun _ => ?_))) | (refine is_box ?_; first | (refine KJ_box rfl (by first | exact CellsOf.agg | exact CellsOf.one rfl) rfl (fun _ => ?_))) | (refine KJ_ek rfl ?_) | (refine KJ_ek0 ?_))
    | (refine is_ek ?_; first | (refine ek_move ?_; first | (refine EK_ev (Ev_move rfl) ?_)) | (refine ek_assign ?_; first | (refine EK_ev (Ev_assign rfl) ?_)) | (refine ek_pick ?_; first | (refine EK_ev (Ev_pick_t rfl rfl) ?_) | (refine EK_ev (Ev_pick_f rfl rfl) ?_)) | (refine ek_nilCheck ?_; first | (refine EK_ev (Ev_nilCheck rfl) ?_)) | (refine ek_fieldAddr ?_; first | (refine EK_ev (Ev_field rfl) ?_)) | (refine ek_load ?_; first | (refine EK_ev (Ev_loadOld rfl Hk) ?_) | (refine EK_ev (Ev_load_v rfl (by (repeat' (first | exact Sel.here | apply Sel.there)); first | done | fail) (by rfl) hkv) ?_) | (refine EK_ev (Ev_loadRowAgg rfl (by (repeat' (first | exact Sel.here | apply Sel.there)); first | done | fail) hW (by rfl)) ?_) | (refine EK_ev (Ev_load rfl (by (repeat' (first | exact Sel.here | apply Sel.there)); first | done | fail) (by rfl)) ?_) | (refine EK_ev (Ev_load rfl (by (repeat' (first | exact Sel.here | apply Sel.there)); first | done | fail) (by rfl)) ?_) | (refine EK_ev (Ev_loadOld rfl (by assumption)) ?_) | (refine EK_ev (Ev_loadAgg rfl (by (repeat' (first | exact Sel.here | apply Sel.there)); first | done | fail) (by (repeat' (first | exact Cut.nil | apply Cut.cons | apply Cut.skip)); first | done | fail)) ?_)) | (refine ek_indexAddr ?_; first | (refine EK_ev (Ev_indexSlice rfl rfl (by omega)) ?_) | (refine EK_ev (Ev_indexArr rfl rfl (by omega)) ?_)) | (refine ek_len ?_; first | (refine EK_ev (Ev_len_str rfl) ?_) | (refine EK_ev (Ev_len_slice rfl) ?_) | (refine EK_ev (Ev_len_arr rfl) ?_) | (refine EK_ev (Ev_len_map rfl (by (repeat' (first | exact Sel.here | apply Sel.there)); first | done | fail)) ?_)) | (refine ek_min ?_; first | (refine EK_ev (Ev_minV rfl rfl hmin) ?_) | (refine EK_ev (Ev_min rfl rfl) ?_)) | (refine ek_max ?_; first | (refine EK_ev (Ev_max rfl rfl) ?_) | (refine EK_ev (Ev_max rfl rfl) ?_)) | (refine ek_add ?_; first | (refine EK_ev (Ev_addI rfl rfl (by omega)) ?_) | (refine EK_ev (Ev_addS rfl rfl (by simp <;> omega)) ?_) | (refine EK_ev (Ev_add rfl rfl) ?_)) | (refine ek_eql ?_; first | (refine EK_ev (Ev_eqlI_t rfl rfl ht) ?_) | (refine EK_ev (Ev_eqlI rfl rfl) ?_) | (refine EK_ev (Ev_eqlS rfl rfl) ?_) | (refine EK_ev (Ev_eqlNil rfl rfl) ?_) | (refine EK_ev (Ev_eqlB rfl rfl) ?_) | (refine EK_ev (Ev_eqlO rfl rfl rfl (fun _ => rfl)) ?_)) | (refine ek_lss ?_; first | (refine EK_ev (Ev_lssI_q rfl rfl ql) ?_) | (refine EK_ev (Ev_lssI rfl rfl) ?_) | (refine EK_ev (Ev_lssS rfl rfl) ?_)))
    | (refine is_ex ?_; first | (refine KJ_blk_exit' rfl ?_))
    | (refine is_code ?_; first | (refine KJ_cond_dec rfl (fun _ => ?_) (fun _ => ?_) <;> first | (exfalso; omega) | skip) | (refine KJ_cond_t rfl ?_) | (refine KJ_cond_f rfl ?_) | (refine KJ_draws (id := 9) (.op 0 (.op 1 (.op 2 (.op 3 (.op 4 (.op 5 (.op 6 (.op 7 (.op 8 (.op 9 (.op 10 (.op 11 (.op 12 (.op 13 (.op 14 (.op 15 (.op 16 (.op 17 (.op 18 (.op 19 (.op 20 (.op 21 (.ef 22 [] .nil))))))))))))))))))))))) (by kernel_rfl) (by kernel_rfl) ?_))
    | (refine is_fw ?_; first | (refine FW_open rfl ?_) | (refine FW_nil ?_) | (refine FW_ef rfl ?_) | (refine FW_efg rfl rfl rfl ?_) | (refine FW_alt ?_ ?_))
    | (refine is_fo ?_; first | (refine FO_dec_t rfl rfl (fun _ => ?_) (fun _ => ?_) <;> first | (exfalso; omega) | skip) | (refine FO_dec_f rfl rfl (fun _ => ?_) (fun _ => ?_) <;> first | (exfalso; omega) | skip) | (refine FO_no rfl rfl rfl rfl ?_) | (refine FO_ekg rfl rfl rfl ?_) | (refine FO_ek rfl ?_))
    | (refine is_ro ?_; first | (refine RO_no rfl rfl rfl rfl ?_) | (refine RO_ekg rfl rfl ?_) | (refine RO_ek ?_))
    | (refine is_raw ?_; first | (refine KJ_flow ?_ ?_))
    | (refine AtR_mk rfl ?_)
    | exact Rech.nil
    | (refine Rech_open rfl ?_))
        · rw [if_neg ht] at hdd
          cases z with
          | false =>
            have hd0 : d = 0 := hdd
            subst hd0
            repeat' (first 
    | (refine at_region (id := 9) ?_; exact KJ.weak (rest _) (by (repeat' (first | exact Subs.nil | refine Subs.cons rfl ?_)); first | done | fail) (Ent.of (by (repeat' (first | exact Pick.nil | apply Pick.cons | exact Sel.here | apply Sel.there)); first | done | fail) (by (repeat' (first | exact DropTo.refl | apply DropTo.there)); first | done | fail)))
    | refine KJ_stp (by first | constructor | fail) ?_
    | (refine is_list ?_; first | (refine KJ_guard_dec_t rfl rfl rfl (fun _ => ?_) (fun _ => ?_) <;> first | (exfalso; omega) | skip) | (refine KJ_guard_dec_f rfl rfl rfl (fun _ => ?_) (fun _ => ?_) <;> first | (exfalso; omega) | skip) | (refine KJ_guard_yes rfl rfl ?_) | (refine KJ_guard_no rfl rfl rfl rfl ?_))
    | (refine is_oper ?_; first | (refine is_store ?_; first | (refine KJ_store rfl rfl (by (repeat' (first | exact Sel.here | apply Sel.there)); first | done | fail) (by first | exact CellsOf.agg | exact CellsOf.one rfl) (by rfl) (by (repeat' (first | exact Ones.nil | exact Ones_bvs _ | refine Ones.cons rfl ?_)); first | done | fail) (by (repeat' (first | exact Laid.nil | apply Laid.cons | apply Laid.skip)); first | done | fail) (by (repeat' (first | exact Rep.here | apply Rep.there)); first | done | fail) ?_)) | (refine is_alloc ?_; first | (refine KJ_alloc rfl (fun _ => ?_))) | (refine is_box ?_; first | (refine KJ_box rfl (by first | exact CellsOf.agg | exact CellsOf.one rfl) rfl (fun _ => ?_))) | (refine KJ_ek rfl ?_) | (refine KJ_ek0 ?_))
    | (refine is_ek ?_; first | (refine ek_move ?_; first | (refine EK_ev (Ev_move rfl) ?_)) | (refine ek_assign ?_; first | (refine EK_ev (Ev_assign rfl) ?_)) | (refine ek_pick ?_; first | (refine EK_ev (Ev_pick_t rfl rfl) ?_) | (refine EK_ev (Ev_pick_f rfl rfl) ?_)) | (refine ek_nilCheck ?_; first | (refine EK_ev (Ev_nilCheck rfl) ?_)) | (refine ek_fieldAddr ?_; first | (refine EK_ev (Ev_field rfl) ?_)) | (refine ek_load ?_; first | (refine EK_ev (Ev_loadOld rfl Hk) ?_) | (refine EK_ev (Ev_load_v rfl (by (repeat' (first | exact Sel.here | apply Sel.there)); first | done | fail) (by rfl) hkv) ?_) | (refine EK_ev (Ev_loadRowAgg rfl (by (repeat' (first | exact Sel.here | apply Sel.there)); first | done | fail) hW (by rfl)) ?_) | (refine EK_ev (Ev_load rfl (by (repeat' (first | exact Sel.here | apply Sel.there)); first | done | fail) (by rfl)) ?_) | (refine EK_ev (Ev_load rfl (by (repeat' (first | exact Sel.here | apply Sel.there)); first | done | fail) (by rfl)) ?_) | (refine EK_ev (Ev_loadOld rfl (by assumption)) ?_) | (refine EK_ev (Ev_loadAgg rfl (by (repeat' (first | exact Sel.here | apply Sel.there)); first | done | fail) (by (repeat' (first | exact Cut.nil | apply Cut.cons | apply Cut.skip)); first | done | fail)) ?_)) | (refine ek_indexAddr ?_; first | (refine EK_ev (Ev_indexSlice rfl rfl (by omega)) ?_) | (refine EK_ev (Ev_indexArr rfl rfl (by omega)) ?_)) | (refine ek_len ?_; first | (refine EK_ev (Ev_len_str rfl) ?_) | (refine EK_ev (Ev_len_slice rfl) ?_) | (refine EK_ev (Ev_len_arr rfl) ?_) | (refine EK_ev (Ev_len_map rfl (by (repeat' (first | exact Sel.here | apply Sel.there)); first | done | fail)) ?_)) | (refine ek_min ?_; first | (refine EK_ev (Ev_min rfl rfl) ?_)) | (refine ek_max ?_; first | (refine EK_ev (Ev_max rfl rfl) ?_)) | (refine ek_add ?_; first | (refine EK_ev (Ev_addI rfl rfl (by omega)) ?_) | (refine EK_ev (Ev_addS rfl rfl (by simp <;> omega)) ?_) | (refine EK_ev (Ev_add rfl rfl) ?_)) | (refine ek_eql ?_; first | (refine EK_ev (Ev_eqlI_f rfl rfl ht) ?_) | (refine EK_ev (Ev_eqlI rfl rfl) ?_) | (refine EK_ev (Ev_eqlS rfl rfl) ?_) | (refine EK_ev (Ev_eqlNil rfl rfl) ?_) | (refine EK_ev (Ev_eqlB rfl rfl) ?_) | (refine EK_ev (Ev_eqlO rfl rfl rfl (fun _ => rfl)) ?_)) | (refine ek_lss ?_; first | (refine EK_ev (Ev_lssI_q rfl rfl ql) ?_) | (refine EK_ev (Ev_lssI rfl rfl) ?_) | (refine EK_ev (Ev_lssS rfl rfl) ?_)))
    | (refine is_ex ?_; first | (refine KJ_blk_exit' rfl ?_))
    | (refine is_code ?_; first | (refine KJ_cond_dec rfl (fun _ => ?_) (fun _ => ?_) <;> first | (exfalso; omega) | skip) | (refine KJ_cond_t rfl ?_) | (refine KJ_cond_f rfl ?_) | (refine KJ_draws (id := 9) (.op 0 (.op 1 (.op 2 (.op 3 (.op 4 (.op 5 (.op 6 (.op 7 (.op 8 (.op 9 (.op 10 (.op 11 (.op 12 (.op 13 (.op 14 (.op 15 (.op 16 (.op 17 (.op 18 (.op 19 (.op 20 (.op 21 (.ef 22 [] .nil))))))))))))))))))))))) (by kernel_rfl) (by kernel_rfl) ?_))
    | (refine is_fw ?_; first | (refine FW_open rfl ?_) | (refine FW_nil ?_) | (refine FW_ef rfl ?_) | (refine FW_efg rfl rfl rfl ?_) | (refine FW_alt ?_ ?_))
    | (refine is_fo ?_; first | (refine FO_dec_t rfl rfl (fun _ => ?_) (fun _ => ?_) <;> first | (exfalso; omega) | skip) | (refine FO_dec_f rfl rfl (fun _ => ?_) (fun _ => ?_) <;> first | (exfalso; omega) | skip) | (refine FO_no rfl rfl rfl rfl ?_) | (refine FO_ekg rfl rfl rfl ?_) | (refine FO_ek rfl ?_))
    | (refine is_ro ?_; first | (refine RO_no rfl rfl rfl rfl ?_) | (refine RO_ekg rfl rfl ?_) | (refine RO_ek ?_))
    | (refine is_raw ?_; first | (refine KJ_flow ?_ ?_))
    | (refine AtR_mk rfl ?_)
    | exact Rech.nil
    | (refine Rech_open rfl ?_))
          | true =>
            have hd0 : d = 256 := hdd
            subst hd0
            repeat' (first 
    | (refine at_region (id := 9) ?_; exact KJ.weak (rest _) (by (repeat' (first | exact Subs.nil | refine Subs.cons rfl ?_)); first | done | fail) (Ent.of (by (repeat' (first | exact Pick.nil | apply Pick.cons | exact Sel.here | apply Sel.there)); first | done | fail) (by (repeat' (first | exact DropTo.refl | apply DropTo.there)); first | done | fail)))
    | refine KJ_stp (by first | constructor | fail) ?_
    | (refine is_list ?_; first | (refine KJ_guard_dec_t rfl rfl rfl (fun _ => ?_) (fun _ => ?_) <;> first | (exfalso; omega) | skip) | (refine KJ_guard_dec_f rfl rfl rfl (fun _ => ?_) (fun _ => ?_) <;> first | (exfalso; omega) | skip) | (refine KJ_guard_yes rfl rfl ?_) | (refine KJ_guard_no rfl rfl rfl rfl ?_))
    | (refine is_oper ?_; first | (refine is_store ?_; first | (refine KJ_store rfl rfl (by (repeat' (first | exact Sel.here | apply Sel.there)); first | done | fail) (by first | exact CellsOf.agg | exact CellsOf.one rfl) (by rfl) (by (repeat' (first | exact Ones.nil | exact Ones_bvs _ | refine Ones.cons rfl ?_)); first | done | fail) (by (repeat' (first | exact Laid.nil | apply Laid.cons | apply Laid.skip)); first | done | fail) (by (repeat' (first | exact Rep.here | apply Rep.there)); first | done | fail) ?_)) | (refine is_alloc ?_; first | (refine KJ_alloc rfl (fun _ => ?_))) | (refine is_box ?_; first | (refine KJ_box rfl (by first | exact CellsOf.agg | exact CellsOf.one rfl) rfl (fun _ => ?_))) | (refine KJ_ek rfl ?_) | (refine KJ_ek0 ?_))
    | (refine is_ek ?_; first | (refine ek_move ?_; first | (refine EK_ev (Ev_move rfl) ?_)) | (refine ek_assign ?_; first | (refine EK_ev (Ev_assign rfl) ?_)) | (refine ek_pick ?_; first | (refine EK_ev (Ev_pick_t rfl rfl) ?_) | (refine EK_ev (Ev_pick_f rfl rfl) ?_)) | (refine ek_nilCheck ?_; first | (refine EK_ev (Ev_nilCheck rfl) ?_)) | (refine ek_fieldAddr ?_; first | (refine EK_ev (Ev_field rfl) ?_)) | (refine ek_load ?_; first | (refine EK_ev (Ev_loadOld rfl Hk) ?_) | (refine EK_ev (Ev_load_v rfl (by (repeat' (first | exact Sel.here | apply Sel.there)); first | done | fail) (by rfl) hkv) ?_) | (refine EK_ev (Ev_loadRowAgg rfl (by (repeat' (first | exact Sel.here | apply Sel.there)); first | done | fail) hW (by rfl)) ?_) | (refine EK_ev (Ev_load rfl (by (repeat' (first | exact Sel.here | apply Sel.there)); first | done | fail) (by rfl)) ?_) | (refine EK_ev (Ev_load rfl (by (repeat' (first | exact Sel.here | apply Sel.there)); first | done | fail) (by rfl)) ?_) | (refine EK_ev (Ev_loadOld rfl (by assumption)) ?_) | (refine EK_ev (Ev_loadAgg rfl (by (repeat' (first | exact Sel.here | apply Sel.there)); first | done | fail) (by (repeat' (first | exact Cut.nil | apply Cut.cons | apply Cut.skip)); first | done | fail)) ?_)) | (refine ek_indexAddr ?_; first | (refine EK_ev (Ev_indexSlice rfl rfl (by omega)) ?_) | (refine EK_ev (Ev_indexArr rfl rfl (by omega)) ?_)) | (refine ek_len ?_; first | (refine EK_ev (Ev_len_str rfl) ?_) | (refine EK_ev (Ev_len_slice rfl) ?_) | (refine EK_ev (Ev_len_arr rfl) ?_) | (refine EK_ev (Ev_len_map rfl (by (repeat' (first | exact Sel.here | apply Sel.there)); first | done | fail)) ?_)) | (refine ek_min ?_; first | (refine EK_ev (Ev_min rfl rfl) ?_)) | (refine ek_max ?_; first | (refine EK_ev (Ev_max rfl rfl) ?_)) | (refine ek_add ?_; first | (refine EK_ev (Ev_addI rfl rfl (by omega)) ?_) | (refine EK_ev (Ev_addS rfl rfl (by simp <;> omega)) ?_) | (refine EK_ev (Ev_add rfl rfl) ?_)) | (refine ek_eql ?_; first | (refine EK_ev (Ev_eqlI_f rfl rfl ht) ?_) | (refine EK_ev (Ev_eqlI rfl rfl) ?_) | (refine EK_ev (Ev_eqlS rfl rfl) ?_) | (refine EK_ev (Ev_eqlNil rfl rfl) ?_) | (refine EK_ev (Ev_eqlB rfl rfl) ?_) | (refine EK_ev (Ev_eqlO rfl rfl rfl (fun _ => rfl)) ?_)) | (refine ek_lss ?_; first | (refine EK_ev (Ev_lssI_q rfl rfl ql) ?_) | (refine EK_ev (Ev_lssI rfl rfl) ?_) | (refine EK_ev (Ev_lssS rfl rfl) ?_)))
    | (refine is_ex ?_; first | (refine KJ_blk_exit' rfl ?_))
    | (refine is_code ?_; first | (refine KJ_cond_dec rfl (fun _ => ?_) (fun _ => ?_) <;> first | (exfalso; omega) | skip) | (refine KJ_cond_t rfl ?_) | (refine KJ_cond_f rfl ?_) | (refine KJ_draws (id := 9) (.op 0 (.op 1 (.op 2 (.op 3 (.op 4 (.op 5 (.op 6 (.op 7 (.op 8 (.op 9 (.op 10 (.op 11 (.op 12 (.op 13 (.op 14 (.op 15 (.op 16 (.op 17 (.op 18 (.op 19 (.op 20 (.op 21 (.ef 22 [] .nil))))))))))))))))))))))) (by kernel_rfl) (by kernel_rfl) ?_))
    | (refine is_fw ?_; first | (refine FW_open rfl ?_) | (refine FW_nil ?_) | (refine FW_ef rfl ?_) | (refine FW_efg rfl rfl rfl ?_) | (refine FW_alt ?_ ?_))
    | (refine is_fo ?_; first | (refine FO_dec_t rfl rfl (fun _ => ?_) (fun _ => ?_) <;> first | (exfalso; omega) | skip) | (refine FO_dec_f rfl rfl (fun _ => ?_) (fun _ => ?_) <;> first | (exfalso; omega) | skip) | (refine FO_no rfl rfl rfl rfl ?_) | (refine FO_ekg rfl rfl rfl ?_) | (refine FO_ek rfl ?_))
    | (refine is_ro ?_; first | (refine RO_no rfl rfl rfl rfl ?_) | (refine RO_ekg rfl rfl ?_) | (refine RO_ek ?_))
    | (refine is_raw ?_; first | (refine KJ_flow ?_ ?_))
    | (refine AtR_mk rfl ?_)
    | exact Rech.nil
    | (refine Rech_open rfl ?_))
      · have ql : decide ((k : Int) < (kept.length : Nat)) = false := decide_eq_false (by omega)
        have hgd : kept.getD k false = false := by rw [List.getD, List.getElem?_eq_none (by omega)]; rfl
        rw [hgd] at hdd
        by_cases ht : (k : Int) = torn
        · rw [if_pos ht] at hdd
          have hmin : min (max bytes 0) 256 = ((d : Nat) : Int) := by omega
          repeat' (first 
    | (refine at_region (id := 9) ?_; exact KJ.weak (rest _) (by (repeat' (first | exact Subs.nil | refine Subs.cons rfl ?_)); first | done | fail) (Ent.of (by (repeat' (first | exact Pick.nil | apply Pick.cons | exact Sel.here | apply Sel.there)); first | done | fail) (by (repeat' (first | exact DropTo.refl | apply DropTo.there)); first | done | fail)))
    | refine KJ_stp (by first | constructor | fail) ?_
    | (refine is_list ?_; first | (refine KJ_guard_dec_t rfl rfl rfl (fun _ => ?_) (fun _ => ?_) <;> first | (exfalso; omega) | skip) | (refine KJ_guard_dec_f rfl rfl rfl (fun _ => ?_) (fun _ => ?_) <;> first | (exfalso; omega) | skip) | (refine KJ_guard_yes rfl rfl ?_) | (refine KJ_guard_no rfl rfl rfl rfl ?_))
    | (refine is_oper ?_; first | (refine is_store ?_; first | (refine KJ_store rfl rfl (by (repeat' (first | exact Sel.here | apply Sel.there)); first | done | fail) (by first | exact CellsOf.agg | exact CellsOf.one rfl) (by rfl) (by (repeat' (first | exact Ones.nil | exact Ones_bvs _ | refine Ones.cons rfl ?_)); first | done | fail) (by (repeat' (first | exact Laid.nil | apply Laid.cons | apply Laid.skip)); first | done | fail) (by (repeat' (first | exact Rep.here | apply Rep.there)); first | done | fail) ?_)) | (refine is_alloc ?_; first | (refine KJ_alloc rfl (fun _ => ?_))) | (refine is_box ?_; first | (refine KJ_box rfl (by first | exact CellsOf.agg | exact CellsOf.one rfl) rfl (fun _ => ?_))) | (refine KJ_ek rfl ?_) | (refine KJ_ek0 ?_))
    | (refine is_ek ?_; first | (refine ek_move ?_; first | (refine EK_ev (Ev_move rfl) ?_)) | (refine ek_assign ?_; first | (refine EK_ev (Ev_assign rfl) ?_)) | (refine ek_pick ?_; first | (refine EK_ev (Ev_pick_t rfl rfl) ?_) | (refine EK_ev (Ev_pick_f rfl rfl) ?_)) | (refine ek_nilCheck ?_; first | (refine EK_ev (Ev_nilCheck rfl) ?_)) | (refine ek_fieldAddr ?_; first | (refine EK_ev (Ev_field rfl) ?_)) | (refine ek_load ?_; first | (refine EK_ev (Ev_loadRowAgg rfl (by (repeat' (first | exact Sel.here | apply Sel.there)); first | done | fail) hW (by rfl)) ?_) | (refine EK_ev (Ev_load rfl (by (repeat' (first | exact Sel.here | apply Sel.there)); first | done | fail) (by rfl)) ?_) | (refine EK_ev (Ev_load rfl (by (repeat' (first | exact Sel.here | apply Sel.there)); first | done | fail) (by rfl)) ?_) | (refine EK_ev (Ev_loadOld rfl (by assumption)) ?_) | (refine EK_ev (Ev_loadAgg rfl (by (repeat' (first | exact Sel.here | apply Sel.there)); first | done | fail) (by (repeat' (first | exact Cut.nil | apply Cut.cons | apply Cut.skip)); first | done | fail)) ?_)) | (refine ek_indexAddr ?_; first | (refine EK_ev (Ev_indexSlice rfl rfl (by omega)) ?_) | (refine EK_ev (Ev_indexArr rfl rfl (by omega)) ?_)) | (refine ek_len ?_; first | (refine EK_ev (Ev_len_str rfl) ?_) | (refine EK_ev (Ev_len_slice rfl) ?_) | (refine EK_ev (Ev_len_arr rfl) ?_) | (refine EK_ev (Ev_len_map rfl (by (repeat' (first | exact Sel.here | apply Sel.there)); first | done | fail)) ?_)) | (refine ek_min ?_; first | (refine EK_ev (Ev_minV rfl rfl hmin) ?_) | (refine EK_ev (Ev_min rfl rfl) ?_)) | (refine ek_max ?_; first | (refine EK_ev (Ev_max rfl rfl) ?_) | (refine EK_ev (Ev_max rfl rfl) ?_)) | (refine ek_add ?_; first | (refine EK_ev (Ev_addI rfl rfl (by omega)) ?_) | (refine EK_ev (Ev_addS rfl rfl (by simp <;> omega)) ?_) | (refine EK_ev (Ev_add rfl rfl) ?_)) | (refine ek_eql ?_; first | (refine EK_ev (Ev_eqlI_t rfl rfl ht) ?_) | (refine EK_ev (Ev_eqlI rfl rfl) ?_) | (refine EK_ev (Ev_eqlS rfl rfl) ?_) | (refine EK_ev (Ev_eqlNil rfl rfl) ?_) | (refine EK_ev (Ev_eqlB rfl rfl) ?_) | (refine EK_ev (Ev_eqlO rfl rfl rfl (fun _ => rfl)) ?_)) | (refine ek_lss ?_; first | (refine EK_ev (Ev_lssI_q rfl rfl ql) ?_) | (refine EK_ev (Ev_lssI rfl rfl) ?_) | (refine EK_ev (Ev_lssS rfl rfl) ?_)))
    | (refine is_ex ?_; first | (refine KJ_blk_exit' rfl ?_))
    | (refine is_code ?_; first | (refine KJ_cond_dec rfl (fun _ => ?_) (fun _ => ?_) <;> first | (exfalso; omega) | skip) | (refine KJ_cond_t rfl ?_) | (refine KJ_cond_f rfl ?_) | (refine KJ_draws (id := 9) (.op 0 (.op 1 (.op 2 (.op 3 (.op 4 (.op 5 (.op 6 (.op 7 (.op 8 (.op 9 (.op 10 (.op 11 (.op 12 (.op 13 (.op 14 (.op 15 (.op 16 (.op 17 (.op 18 (.op 19 (.op 20 (.op 21 (.ef 22 [] .nil))))))))))))))))))))))) (by kernel_rfl) (by kernel_rfl) ?_))
    | (refine is_fw ?_; first | (refine FW_open rfl ?_) | (refine FW_nil ?_) | (refine FW_ef rfl ?_) | (refine FW_efg rfl rfl rfl ?_) | (refine FW_alt ?_ ?_))
    | (refine is_fo ?_; first | (refine FO_dec_t rfl rfl (fun _ => ?_) (fun _ => ?_) <;> first | (exfalso; omega) | skip) | (refine FO_dec_f rfl rfl (fun _ => ?_) (fun _ => ?_) <;> first | (exfalso; omega) | skip) | (refine FO_no rfl rfl rfl rfl ?_) | (refine FO_ekg rfl rfl rfl ?_) | (refine FO_ek rfl ?_))
    | (refine is_ro ?_; first | (refine RO_no rfl rfl rfl rfl ?_) | (refine RO_ekg rfl rfl ?_) | (refine RO_ek ?_))
    | (refine is_raw ?_; first | (refine KJ_flow ?_ ?_))
    | (refine AtR_mk rfl ?_)
    | exact Rech.nil
    | (refine Rech_open rfl ?_))
        · rw [if_neg ht] at hdd
          have hd0 : d = 0 := hdd
          subst hd0
          repeat' (first 
    | (refine at_region (id := 9) ?_; exact KJ.weak (rest _) (by (repeat' (first | exact Subs.nil | refine Subs.cons rfl ?_)); first | done | fail) (Ent.of (by (repeat' (first | exact Pick.nil | apply Pick.cons | exact Sel.here | apply Sel.there)); first | done | fail) (by (repeat' (first | exact DropTo.refl | apply DropTo.there)); first | done | fail)))
    | refine KJ_stp (by first | constructor | fail) ?_
    | (refine is_list ?_; first | (refine KJ_guard_dec_t rfl rfl rfl (fun _ => ?_) (fun _ => ?_) <;> first | (exfalso; omega) | skip) | (refine KJ_guard_dec_f rfl rfl rfl (fun _ => ?_) (fun _ => ?_) <;> first | (exfalso; omega) | skip) | (refine KJ_guard_yes rfl rfl ?_) | (refine KJ_guard_no rfl rfl rfl rfl ?_))
    | (refine is_oper ?_; first | (refine is_store ?_; first | (refine KJ_store rfl rfl (by (repeat' (first | exact Sel.here | apply Sel.there)); first | done | fail) (by first | exact CellsOf.agg | exact CellsOf.one rfl) (by rfl) (by (repeat' (first | exact Ones.nil | exact Ones_bvs _ | refine Ones.cons rfl ?_)); first | done | fail) (by (repeat' (first | exact Laid.nil | apply Laid.cons | apply Laid.skip)); first | done | fail) (by (repeat' (first | exact Rep.here | apply Rep.there)); first | done | fail) ?_)) | (refine is_alloc ?_; first | (refine KJ_alloc rfl (fun _ => ?_))) | (refine is_box ?_; first | (refine KJ_box rfl (by first | exact CellsOf.agg | exact CellsOf.one rfl) rfl (fun _ => ?_))) | (refine KJ_ek rfl ?_) | (refine KJ_ek0 ?_))
    | (refine is_ek ?_; first | (refine ek_move ?_; first | (refine EK_ev (Ev_move rfl) ?_)) | (refine ek_assign ?_; first | (refine EK_ev (Ev_assign rfl) ?_)) | (refine ek_pick ?_; first | (refine EK_ev (Ev_pick_t rfl rfl) ?_) | (refine EK_ev (Ev_pick_f rfl rfl) ?_)) | (refine ek_nilCheck ?_; first | (refine EK_ev (Ev_nilCheck rfl) ?_)) | (refine ek_fieldAddr ?_; first | (refine EK_ev (Ev_field rfl) ?_)) | (refine ek_load ?_; first | (refine EK_ev (Ev_loadRowAgg rfl (by (repeat' (first | exact Sel.here | apply Sel.there)); first | done | fail) hW (by rfl)) ?_) | (refine EK_ev (Ev_load rfl (by (repeat' (first | exact Sel.here | apply Sel.there)); first | done | fail) (by rfl)) ?_) | (refine EK_ev (Ev_load rfl (by (repeat' (first | exact Sel.here | apply Sel.there)); first | done | fail) (by rfl)) ?_) | (refine EK_ev (Ev_loadOld rfl (by assumption)) ?_) | (refine EK_ev (Ev_loadAgg rfl (by (repeat' (first | exact Sel.here | apply Sel.there)); first | done | fail) (by (repeat' (first | exact Cut.nil | apply Cut.cons | apply Cut.skip)); first | done | fail)) ?_)) | (refine ek_indexAddr ?_; first | (refine EK_ev (Ev_indexSlice rfl rfl (by omega)) ?_) | (refine EK_ev (Ev_indexArr rfl rfl (by omega)) ?_)) | (refine ek_len ?_; first | (refine EK_ev (Ev_len_str rfl) ?_) | (refine EK_ev (Ev_len_slice rfl) ?_) | (refine EK_ev (Ev_len_arr rfl) ?_) | (refine EK_ev (Ev_len_map rfl (by (repeat' (first | exact Sel.here | apply Sel.there)); first | done | fail)) ?_)) | (refine ek_min ?_; first | (refine EK_ev (Ev_min rfl rfl) ?_)) | (refine ek_max ?_; first | (refine EK_ev (Ev_max rfl rfl) ?_)) | (refine ek_add ?_; first | (refine EK_ev (Ev_addI rfl rfl (by omega)) ?_) | (refine EK_ev (Ev_addS rfl rfl (by simp <;> omega)) ?_) | (refine EK_ev (Ev_add rfl rfl) ?_)) | (refine ek_eql ?_; first | (refine EK_ev (Ev_eqlI_f rfl rfl ht) ?_) | (refine EK_ev (Ev_eqlI rfl rfl) ?_) | (refine EK_ev (Ev_eqlS rfl rfl) ?_) | (refine EK_ev (Ev_eqlNil rfl rfl) ?_) | (refine EK_ev (Ev_eqlB rfl rfl) ?_) | (refine EK_ev (Ev_eqlO rfl rfl rfl (fun _ => rfl)) ?_)) | (refine ek_lss ?_; first | (refine EK_ev (Ev_lssI_q rfl rfl ql) ?_) | (refine EK_ev (Ev_lssI rfl rfl) ?_) | (refine EK_ev (Ev_lssS rfl rfl) ?_)))
    | (refine is_ex ?_; first | (refine KJ_blk_exit' rfl ?_))
    | (refine is_code ?_; first | (refine KJ_cond_dec rfl (fun _ => ?_) (fun _ => ?_) <;> first | (exfalso; omega) | skip) | (refine KJ_cond_t rfl ?_) | (refine KJ_cond_f rfl ?_) | (refine KJ_draws (id := 9) (.op 0 (.op 1 (.op 2 (.op 3 (.op 4 (.op 5 (.op 6 (.op 7 (.op 8 (.op 9 (.op 10 (.op 11 (.op 12 (.op 13 (.op 14 (.op 15 (.op 16 (.op 17 (.op 18 (.op 19 (.op 20 (.op 21 (.ef 22 [] .nil))))))))))))))))))))))) (by kernel_rfl) (by kernel_rfl) ?_))
    | (refine is_fw ?_; first | (refine FW_open rfl ?_) | (refine FW_nil ?_) | (refine FW_ef rfl ?_) | (refine FW_efg rfl rfl rfl ?_) | (refine FW_alt ?_ ?_))
    | (refine is_fo ?_; first | (refine FO_dec_t rfl rfl (fun _ => ?_) (fun _ => ?_) <;> first | (exfalso; omega) | skip) | (refine FO_dec_f rfl rfl (fun _ => ?_) (fun _ => ?_) <;> first | (exfalso; omega) | skip) | (refine FO_no rfl rfl rfl rfl ?_) | (refine FO_ekg rfl rfl rfl ?_) | (refine FO_ek rfl ?_))
    | (refine is_ro ?_; first | (refine RO_no rfl rfl rfl rfl ?_) | (refine RO_ekg rfl rfl ?_) | (refine RO_ek ?_))
    | (refine is_raw ?_; first | (refine KJ_flow ?_ ?_))
    | (refine AtR_mk rfl ?_)
    | exact Rech.nil
    | (refine Rech_open rfl ?_))
    intro g5
    repeat' (first 
    | refine KJ_stp (by first | constructor | fail) ?_
    | (refine is_list ?_; first | (refine KJ_guard_dec_t rfl rfl rfl (fun _ => ?_) (fun _ => ?_) <;> first | (exfalso; omega) | skip) | (refine KJ_guard_dec_f rfl rfl rfl (fun _ => ?_) (fun _ => ?_) <;> first | (exfalso; omega) | skip) | (refine KJ_guard_yes rfl rfl ?_) | (refine KJ_guard_no rfl rfl rfl rfl ?_))
    | (refine is_oper ?_; first | (refine is_store ?_; first | (refine KJ_storeRow rfl rfl (by (repeat' (first | exact Sel.here | apply Sel.there)); first | done | fail) (by first | exact CellsOf.agg | exact CellsOf.one rfl) (by rfl) (by (repeat' (first | exact Ones.nil | exact Ones_bvs _ | refine Ones.cons rfl ?_)); first | done | fail) (by rw [secsV_length]; simp; omega) ?_) | (refine KJ_store rfl rfl (by (repeat' (first | exact Sel.here | apply Sel.there)); first | done | fail) (by first | exact CellsOf.agg | exact CellsOf.one rfl) (by rfl) (by (repeat' (first | exact Ones.nil | exact Ones_bvs _ | refine Ones.cons rfl ?_)); first | done | fail) (by (repeat' (first | exact Laid.nil | apply Laid.cons | apply Laid.skip)); first | done | fail) (by (repeat' (first | exact Rep.here | apply Rep.there)); first | done | fail) ?_)) | (refine is_alloc ?_; first | (refine KJ_alloc rfl (fun _ => ?_))) | (refine is_box ?_; first | (refine KJ_box rfl (by first | exact CellsOf.agg | exact CellsOf.one rfl) rfl (fun _ => ?_))) | (refine KJ_ek rfl ?_) | (refine KJ_ek0 ?_))
    | (refine is_ek ?_; first | (refine ek_move ?_; first | (refine EK_ev (Ev_move rfl) ?_)) | (refine ek_assign ?_; first | (refine EK_ev (Ev_assign rfl) ?_)) | (refine ek_pick ?_; first | (refine EK_ev (Ev_pick_t rfl rfl) ?_) | (refine EK_ev (Ev_pick_f rfl rfl) ?_)) | (refine ek_nilCheck ?_; first | (refine EK_ev (Ev_nilCheck rfl) ?_)) | (refine ek_fieldAddr ?_; first | (refine EK_ev (Ev_field rfl) ?_)) | (refine ek_load ?_; first | (refine EK_ev (Ev_load rfl (by (repeat' (first | exact Sel.here | apply Sel.there)); first | done | fail) (by rfl)) ?_) | (refine EK_ev (Ev_loadRow rfl (by (repeat' (first | exact Sel.here | apply Sel.there)); first | done | fail) hS) ?_) | (refine EK_ev (Ev_load rfl (by (repeat' (first | exact Sel.here | apply Sel.there)); first | done | fail) (by rfl)) ?_) | (refine EK_ev (Ev_loadOld rfl (by assumption)) ?_) | (refine EK_ev (Ev_loadAgg rfl (by (repeat' (first | exact Sel.here | apply Sel.there)); first | done | fail) (by (repeat' (first | exact Cut.nil | apply Cut.cons | apply Cut.skip)); first | done | fail)) ?_)) | (refine ek_indexAddr ?_; first | (refine EK_ev (Ev_indexSlice rfl rfl (by omega)) ?_) | (refine EK_ev (Ev_indexArr rfl rfl (by omega)) ?_)) | (refine ek_slice ?_; first | (refine EK_ev (Ev_sliceStrFrom rfl rfl (by omega)) ?_) | (refine EK_ev (Ev_sliceStrTo rfl rfl (by omega)) ?_)) | (refine ek_len ?_; first | (refine EK_ev (Ev_len_str rfl) ?_) | (refine EK_ev (Ev_len_slice rfl) ?_) | (refine EK_ev (Ev_len_arr rfl) ?_) | (refine EK_ev (Ev_len_map rfl (by (repeat' (first | exact Sel.here | apply Sel.there)); first | done | fail)) ?_)) | (refine ek_min ?_; first | (refine EK_ev (Ev_min rfl rfl) ?_)) | (refine ek_max ?_; first | (refine EK_ev (Ev_max rfl rfl) ?_)) | (refine ek_add ?_; first | (refine EK_ev (Ev_addS rfl rfl (by simp only [List.length_take, List.length_drop]; omega)) ?_) | (refine EK_ev (Ev_addI_v (r := ((k + 1 : Nat) : Int)) rfl rfl (by omega) (by omega)) ?_) | (refine EK_ev (Ev_addI rfl rfl (by omega)) ?_) | (refine EK_ev (Ev_addS rfl rfl (by simp <;> omega)) ?_) | (refine EK_ev (Ev_add rfl rfl) ?_)) | (refine ek_eql ?_; first | (refine EK_ev (Ev_eqlI rfl rfl) ?_) | (refine EK_ev (Ev_eqlS rfl rfl) ?_) | (refine EK_ev (Ev_eqlNil rfl rfl) ?_) | (refine EK_ev (Ev_eqlB rfl rfl) ?_) | (refine EK_ev (Ev_eqlO rfl rfl rfl (fun _ => rfl)) ?_)) | (refine ek_lss ?_; first | (refine EK_ev (Ev_lssI rfl rfl) ?_) | (refine EK_ev (Ev_lssS rfl rfl) ?_)))
    | (refine is_ex ?_; first | (refine KJ_blk_exit' rfl ?_))
    | (refine is_code ?_; first | (refine KJ_cond_dec rfl (fun _ => ?_) (fun _ => ?_) <;> first | (exfalso; omega) | skip) | (refine KJ_cond_t rfl ?_) | (refine KJ_cond_f rfl ?_) | (refine KJ_draws (id := 9) (.op 0 (.op 1 (.op 2 (.op 3 (.op 4 (.op 5 (.op 6 (.op 7 (.op 8 (.op 9 (.op 10 (.op 11 (.op 12 (.op 13 (.op 14 (.op 15 (.op 16 (.op 17 (.op 18 (.op 19 (.op 20 (.op 21 (.ef 22 [] .nil))))))))))))))))))))))) (by kernel_rfl) (by kernel_rfl) ?_))
    | (refine is_fw ?_; first | (refine FW_open rfl ?_) | (refine FW_nil ?_) | (refine FW_ef rfl ?_) | (refine FW_efg rfl rfl rfl ?_) | (refine FW_alt ?_ ?_))
    | (refine is_fo ?_; first | (refine FO_dec_t rfl rfl (fun _ => ?_) (fun _ => ?_) <;> first | (exfalso; omega) | skip) | (refine FO_dec_f rfl rfl (fun _ => ?_) (fun _ => ?_) <;> first | (exfalso; omega) | skip) | (refine FO_no rfl rfl rfl rfl ?_) | (refine FO_ekg rfl rfl rfl ?_) | (refine FO_ek rfl ?_))
    | (refine is_ro ?_; first | (refine RO_no rfl rfl rfl rfl ?_) | (refine RO_ekg rfl rfl ?_) | (refine RO_ek ?_))
    | (refine is_raw ?_; first | (refine KJ_flow ?_ ?_))
    | (refine AtR_mk rfl ?_)
    | exact Rech.nil
    | (refine Rech_open rfl ?_))
    all_goals try rw [hnx']
    all_goals refine KJ_again ⟨k + 1, by omega⟩ (by show D.und.length - (k + 1) < D.und.length - k; omega) (by (repeat' (first | exact Subs.nil | refine Subs.cons rfl ?_)); first | done | fail) (Ent.of (by (repeat' (first | exact Pick.nil | apply Pick.cons | exact Sel.here | apply Sel.there)); first | done | fail) (by (repeat' (first | exact DropTo.refl | apply DropTo.there)); first | done | fail))
  · have hkl : k = D.und.length := by omega
    subst hkl
    rw [List.take_length]
    repeat' (first 
    | refine KJ_stp (by first | constructor | fail) ?_
    | (refine is_list ?_; first | (refine KJ_guard_dec_t rfl rfl rfl (fun _ => ?_) (fun _ => ?_) <;> first | (exfalso; omega) | skip) | (refine KJ_guard_dec_f rfl rfl rfl (fun _ => ?_) (fun _ => ?_) <;> first | (exfalso; omega) | skip) | (refine KJ_guard_yes rfl rfl ?_) | (refine KJ_guard_no rfl rfl rfl rfl ?_))
    | (refine is_oper ?_; first | (refine is_store ?_; first | (refine KJ_store rfl rfl (by (repeat' (first | exact Sel.here | apply Sel.there)); first | done | fail) (by first | exact CellsOf.agg | exact CellsOf.one rfl) (by rfl) (by (repeat' (first | exact Ones.nil | exact Ones_bvs _ | refine Ones.cons rfl ?_)); first | done | fail) (by (repeat' (first | exact Laid.nil | apply Laid.cons | apply Laid.skip)); first | done | fail) (by (repeat' (first | exact Rep.here | apply Rep.there)); first | done | fail) ?_)) | (refine is_alloc ?_; first | (refine KJ_alloc rfl (fun _ => ?_))) | (refine is_box ?_; first | (refine KJ_box rfl (by first | exact CellsOf.agg | exact CellsOf.one rfl) rfl (fun _ => ?_))) | (refine KJ_ek rfl ?_) | (refine KJ_ek0 ?_))
    | (refine is_ek ?_; first | (refine ek_move ?_; first | (refine EK_ev (Ev_move rfl) ?_)) | (refine ek_assign ?_; first | (refine EK_ev (Ev_assign rfl) ?_)) | (refine ek_pick ?_; first | (refine EK_ev (Ev_pick_t rfl rfl) ?_) | (refine EK_ev (Ev_pick_f rfl rfl) ?_)) | (refine ek_nilCheck ?_; first | (refine EK_ev (Ev_nilCheck rfl) ?_)) | (refine ek_fieldAddr ?_; first | (refine EK_ev (Ev_field rfl) ?_)) | (refine ek_load ?_; first | (refine EK_ev (Ev_load rfl (by (repeat' (first | exact Sel.here | apply Sel.there)); first | done | fail) (by rfl)) ?_) | (refine EK_ev (Ev_loadOld rfl (by assumption)) ?_) | (refine EK_ev (Ev_loadAgg rfl (by (repeat' (first | exact Sel.here | apply Sel.there)); first | done | fail) (by (repeat' (first | exact Cut.nil | apply Cut.cons | apply Cut.skip)); first | done | fail)) ?_)) | (refine ek_indexAddr ?_; first | (refine EK_ev (Ev_indexSlice rfl rfl (by omega)) ?_) | (refine EK_ev (Ev_indexArr rfl rfl (by omega)) ?_)) | (refine ek_len ?_; first | (refine EK_ev (Ev_len_str rfl) ?_) | (refine EK_ev (Ev_len_slice rfl) ?_) | (refine EK_ev (Ev_len_arr rfl) ?_) | (refine EK_ev (Ev_len_map rfl (by (repeat' (first | exact Sel.here | apply Sel.there)); first | done | fail)) ?_)) | (refine ek_min ?_; first | (refine EK_ev (Ev_min rfl rfl) ?_)) | (refine ek_max ?_; first | (refine EK_ev (Ev_max rfl rfl) ?_)) | (refine ek_add ?_; first | (refine EK_ev (Ev_addV rfl rfl hw1) ?_) | (refine EK_ev (Ev_addI rfl rfl (by omega)) ?_) | (refine EK_ev (Ev_addS rfl rfl (by simp <;> omega)) ?_) | (refine EK_ev (Ev_add rfl rfl) ?_)) | (refine ek_eql ?_; first | (refine EK_ev (Ev_eqlI rfl rfl) ?_) | (refine EK_ev (Ev_eqlS rfl rfl) ?_) | (refine EK_ev (Ev_eqlNil rfl rfl) ?_) | (refine EK_ev (Ev_eqlB rfl rfl) ?_) | (refine EK_ev (Ev_eqlO rfl rfl rfl (fun _ => rfl)) ?_)) | (refine ek_lss ?_; first | (refine EK_ev (Ev_lssI rfl rfl) ?_) | (refine EK_ev (Ev_lssS rfl rfl) ?_)))
    | (refine is_ex ?_; first | (refine KJ_blk_exit' rfl ?_))
    | (refine is_code ?_; first | (refine KJ_cond_dec rfl (fun _ => ?_) (fun _ => ?_) <;> first | (exfalso; omega) | skip) | (refine KJ_cond_t rfl ?_) | (refine KJ_cond_f rfl ?_) | (refine KJ_draws (id := 9) (.op 0 (.op 1 (.op 2 (.op 3 (.op 4 (.op 5 (.op 6 (.op 7 (.op 8 (.op 9 (.op 10 (.op 11 (.op 12 (.op 13 (.op 14 (.op 15 (.op 16 (.op 17 (.op 18 (.op 19 (.op 20 (.op 21 (.ef 22 [] .nil))))))))))))))))))))))) (by kernel_rfl) (by kernel_rfl) ?_))
    | (refine is_fw ?_; first | (refine FW_open rfl ?_) | (refine FW_nil ?_) | (refine FW_ef rfl ?_) | (refine FW_efg rfl rfl rfl ?_) | (refine FW_alt ?_ ?_))
    | (refine is_fo ?_; first | (refine FO_dec_t rfl rfl (fun _ => ?_) (fun _ => ?_) <;> first | (exfalso; omega) | skip) | (refine FO_dec_f rfl rfl (fun _ => ?_) (fun _ => ?_) <;> first | (exfalso; omega) | skip) | (refine FO_no rfl rfl rfl rfl ?_) | (refine FO_ekg rfl rfl rfl ?_) | (refine FO_ek rfl ?_))
    | (refine is_ro ?_; first | (refine RO_no rfl rfl rfl rfl ?_) | (refine RO_ekg rfl rfl ?_) | (refine RO_ek ?_))
    | (refine is_raw ?_; first | (refine KJ_flow ?_ ?_))
    | (refine AtR_mk rfl ?_)
    | exact Rech.nil
    | (refine Rech_open rfl ?_))
    all_goals refine KJ_doneR (by first | exact Or.inl rfl | exact Or.inr rfl) rfl (by (repeat' (first | exact Rvs.nil | (apply Rvs.tmp; exact rfl))); first | done | fail) (by rfl) (.slice (some ⟨gs, 0, none⟩) D.n c) (.slice none 0 0) (fun g q => ?_)
    all_goals (have e9 : RefF p (D.crash kept torn bytes) (.slice (some ⟨gs, 0, none⟩) D.n c, .slice none 0 0) = [cellsP p [.slice (some ⟨gs, 0, none⟩) D.n c, .slice none 0 0, .bool false, .bool false, .int .i64 0, .int .i64 D.writes, .int .i64 D.flushes, .int .i64 (w64 (D.life + 1))] 97, rowP (.slice (some ⟨gs, 0, none⟩) D.n c) 9 1 D.n (secsV (layDone D.img kept torn bytes D.und) D.n), rowP (.slice none 0 0) 192 2 0 []] := by rfl)
    all_goals rw [e9]
    all_goals refine starL_nilrow (H := [cellsP p [.slice (some ⟨gs, 0, none⟩) D.n c, .slice none 0 0, .bool false, .bool false, .int .i64 0, .int .i64 D.writes, .int .i64 D.flushes, .int .i64 (w64 (D.life + 1))] 97, rowP (.slice (some ⟨gs, 0, none⟩) D.n c) 9 1 D.n (secsV (layDone D.img kept torn bytes D.und) D.n)]) g ((Ent.of (by (repeat' (first | exact Pick.nil | apply Pick.cons | exact Sel.here | apply Sel.there)); first | done | fail) (by (repeat' (first | exact DropTo.refl | apply DropTo.there)); first | done | fail)) g q)
end
end Go.Proofs.YteklldbfdmaafaaDoor
/-
  The check sum bit by bit is the one by nibbles; plain data.
-/
namespace Go.Proofs.YteklldbfdmaafaaDoor
open Go Go.RowKit
theorem u32_of_lt (n : Nat) (h : n < 2 ^ 32) : IntKind.u32.wrap (n : Int) = (n : Int) := by
  have e : IntKind.u32.wrap (n : Int) = (n : Int) % 4294967296 := rfl
  rw [e]; omega
theorem xor32 (x y : Nat) (hx : x < 2 ^ 32) (hy : y < 2 ^ 32) : bits .xor .u32 (x : Int) (y : Int) = ((x ^^^ y : Nat) : Int) := by
  have e : bits .xor .u32 (x : Int) (y : Int) = IntKind.u32.wrap ((BitVec.ofInt 32 (x : Int) ^^^ BitVec.ofInt 32 (y : Int)).toNat : Int) := rfl
  have b1 : (BitVec.ofInt 32 (x : Int)).toNat = x := by rw [BitVec.toNat_ofInt]; omega
  have b2 : (BitVec.ofInt 32 (y : Int)).toNat = y := by rw [BitVec.toNat_ofInt]; omega
  rw [e, BitVec.toNat_xor, b1, b2]
  exact u32_of_lt _ (Nat.xor_lt_two_pow hx hy)
theorem and32_15 (x : Nat) (hx : x < 2 ^ 32) : bits .and .u32 (x : Int) 15 = ((x % 16 : Nat) : Int) := by
  have e : bits .and .u32 (x : Int) 15 = IntKind.u32.wrap ((BitVec.ofInt 32 (x : Int) &&& BitVec.ofInt 32 15).toNat : Int) := rfl
  have b1 : (BitVec.ofInt 32 (x : Int)).toNat = x := by rw [BitVec.toNat_ofInt]; omega
  have b2 : (BitVec.ofInt 32 15).toNat = 2 ^ 4 - 1 := rfl
  rw [e, BitVec.toNat_and, b1, b2, Nat.and_two_pow_sub_one_eq_mod]
  exact u32_of_lt _ (by omega)
def bitN (a : Nat) : Nat := (a / 2) ^^^ (if a % 2 = 1 then 2197175160 else 0)
theorem bitN_lt (a : Nat) (h : a < 2 ^ 32) : bitN a < 2 ^ 32 := by
  unfold bitN
  exact Nat.xor_lt_two_pow (by omega) (by split <;> omega)
theorem xor_half (x y : Nat) : (x ^^^ y) / 2 = x / 2 ^^^ y / 2 := by
  have := Nat.shiftRight_xor_distrib (a := x) (b := y) (i := 1)
  simpa [Nat.shiftRight_eq_div_pow] using this
theorem xor_low (x y : Nat) : (x ^^^ y) % 2 = (x % 2 ^^^ y % 2) := by
  have := Nat.xor_mod_two_pow (a := x) (b := y) (n := 1)
  simpa using this
theorem bitN_lin (x y : Nat) : bitN (x ^^^ y) = bitN x ^^^ bitN y := by
  unfold bitN
  rw [xor_half, xor_low]
  obtain ⟨p, hp⟩ : ∃ p : Nat, p = 2197175160 := ⟨_, rfl⟩
  rw [← hp]
  obtain ⟨u, hu⟩ : ∃ u, u = x / 2 := ⟨_, rfl⟩
  obtain ⟨v, hv⟩ : ∃ v, v = y / 2 := ⟨_, rfl⟩
  rw [← hu, ← hv]
  rcases Nat.mod_two_eq_zero_or_one x with h1 | h1 <;> rcases Nat.mod_two_eq_zero_or_one y with h2 | h2 <;> rw [h1, h2]
  · simp
  · simp [Nat.xor_assoc]
  · have e : u ^^^ v ^^^ p = u ^^^ p ^^^ v := by rw [Nat.xor_assoc, Nat.xor_comm v p, ← Nat.xor_assoc]
    simpa using e
  · have e : (u ^^^ p) ^^^ (v ^^^ p) = u ^^^ v := by
      rw [Nat.xor_assoc, Nat.xor_comm v p, ← Nat.xor_assoc p p v, Nat.xor_self, Nat.zero_xor]
    simp [e]
def bitIt : Nat → Nat → Nat
  | 0, r => r
  | k + 1, r => bitN (bitIt k r)
theorem bitIt_lt (k a : Nat) (h : a < 2 ^ 32) : bitIt k a < 2 ^ 32 := by
  induction k with
  | zero => exact h
  | succ k ih => exact bitN_lt _ ih
theorem bitIt_lin (k x y : Nat) : bitIt k (x ^^^ y) = bitIt k x ^^^ bitIt k y := by
  induction k with
  | zero => rfl
  | succ k ih => show bitN (bitIt k (x ^^^ y)) = _; rw [ih, bitN_lin]; rfl
theorem bitIt_add (j k a : Nat) : bitIt (j + k) a = bitIt j (bitIt k a) := by
  induction j with
  | zero => rw [Nat.zero_add]; rfl
  | succ j ih => rw [Nat.add_right_comm]; show bitN (bitIt (j + k) a) = _; rw [ih]; rfl
theorem bitN_even (m : Nat) : bitN (2 * m) = m := by
  unfold bitN
  have h1 : 2 * m / 2 = m := by omega
  have h2 : ¬ (2 * m % 2 = 1) := by omega
  rw [h1, if_neg h2, Nat.xor_zero]
theorem bit4_high (h : Nat) : bitIt 4 (16 * h) = h := by
  show bitN (bitN (bitN (bitN (16 * h)))) = h
  rw [show 16 * h = 2 * (2 * (2 * (2 * h))) by omega, bitN_even, bitN_even, bitN_even, bitN_even]
theorem bit4_low : ∀ l, l < 16 → nibT.getD l 0 = ((bitIt 4 l : Nat) : Int) := by decide
theorem xor_add (h l : Nat) (hl : l < 16) : (16 * h) ^^^ l = 16 * h + l := by
  apply Nat.eq_of_testBit_eq
  intro j
  rw [Nat.testBit_xor, show 16 * h = 2 ^ 4 * h from rfl, Nat.testBit_two_pow_mul_add h (i := 4) hl, Nat.testBit_two_pow_mul]
  by_cases hj : j < 4
  · simp [hj, show ¬ 4 ≤ j by omega]
  · have : l.testBit j = false := Nat.testBit_lt_two_pow (Nat.lt_of_lt_of_le hl (show 2 ^ 4 ≤ 2 ^ j from Nat.pow_le_pow_right (by omega) (by omega)))
    simp [hj, this]
    omega
theorem nib_bits (a : Nat) (h : a < 2 ^ 32) : nibStep (a : Int) = ((bitIt 4 a : Nat) : Int) := by
  unfold nibStep
  have e1 : (a : Int).fdiv (2 ^ (min (4 : Int).toNat IntKind.u32.bits)) = ((a / 16 : Nat) : Int) := by
    rw [Int.fdiv_eq_ediv_of_nonneg _ (by exact Int.pow_nonneg (by decide))]
    rfl
  rw [e1, and32_15 a h, Int.toNat_natCast, bit4_low _ (Nat.mod_lt _ (by omega)), xor32 _ _ (by omega) (bitIt_lt _ _ (by omega))]
  congr 1
  have e2 : a = (16 * (a / 16)) ^^^ (a % 16) := by rw [xor_add _ _ (Nat.mod_lt _ (by omega))]; omega
  conv => rhs; rw [e2, bitIt_lin, bit4_high]
/-- one byte, bit by bit -/
def byteN (r : Nat) (c : UInt8) : Nat := bitIt 8 (r ^^^ c.toNat)
theorem byteN_lt (r : Nat) (c : UInt8) (h : r < 2 ^ 32) : byteN r c < 2 ^ 32 := by
  have := UInt8.toNat_lt c
  exact bitIt_lt _ _ (Nat.xor_lt_two_pow h (by omega))
theorem crcStep_bits (r : Nat) (c : UInt8) (h : r < 2 ^ 32) : crcStep (r : Int) c = ((byteN r c : Nat) : Int) := by
  have hc := UInt8.toNat_lt c
  have hx : r ^^^ c.toNat < 2 ^ 32 := Nat.xor_lt_two_pow h (by omega)
  unfold crcStep byteN
  rw [u32_of_lt _ (by omega), xor32 _ _ h (by omega), nib_bits _ hx, nib_bits _ (bitIt_lt _ _ hx), ← bitIt_add]
def crcN (r : Nat) (l : List UInt8) : Nat := l.foldl byteN r
theorem crcN_bits (l : List UInt8) : ∀ (r : Nat), r < 2 ^ 32 → crcAll (r : Int) l = ((crcN r l : Nat) : Int) ∧ crcN r l < 2 ^ 32 := by
  unfold crcAll crcN
  induction l with
  | nil => intro r h; exact ⟨rfl, h⟩
  | cons c l ih =>
    intro r h
    simp only [List.foldl_cons]
    rw [crcStep_bits r c h]
    exact ih _ (byteN_lt r c h)
theorem crcN_next (s : Nat) (l : List UInt8) (i : Nat) (c : UInt8) (h : l[i]? = some c) : crcN s (l.take (i + 1)) = byteN (crcN s (l.take i)) c := by
  unfold crcN
  rw [List.take_add_one, h]
  simp
def notN (s : Nat) : Nat := s ^^^ 4294967295
theorem notN_lt (s : Nat) (h : s < 2 ^ 32) : notN s < 2 ^ 32 := Nat.xor_lt_two_pow h (by omega)
theorem crcNot_bits (s : Nat) (h : s < 2 ^ 32) : crcNot (s : Int) = ((notN s : Nat) : Int) := by
  have := xor32 4294967295 s (by omega) h
  unfold crcNot notN
  rw [Nat.xor_comm]
  exact this
theorem crcSum_bits (l : List UInt8) : crcSum l = ((notN (crcN (notN 0) l) : Nat) : Int) := by
  unfold crcSum
  have h0 := crcNot_bits 0 (by omega)
  have h1 := crcN_bits l (notN 0) (notN_lt 0 (by omega))
  rw [show (0 : Int) = ((0 : Nat) : Int) from rfl, h0, h1.1, crcNot_bits _ h1.2]
theorem crcSum_bounds (l : List UInt8) : 0 ≤ crcSum l ∧ crcSum l < 4294967296 := by
  have h1 := crcN_bits l (notN 0) (notN_lt 0 (by omega))
  have h2 := notN_lt _ h1.2
  rw [crcSum_bits]
  omega
end Go.Proofs.YteklldbfdmaafaaDoor
/-
  Slots over a disk that nobody armed, as plain data: a write lays one sector; what a slot tells then.
-/
namespace Go.Proofs.YteklldbfdmaafaaDoor
open Go Go.RowKit
/-- a disk at rest: power on, nobody armed it, nothing under way -/
structure Rest (D : Dsk) : Prop where
  calm : Calm D
  und : D.und = []
  ok : D.ok
theorem Rest.rd {D : Dsk} (h : Rest D) (i : Nat) : D.rd i = D.sec i := by simp [Dsk.rd, h.und, lastW_nil]
/-- a write of a version at rest -/
theorem rest_write {D : Dsk} (h : Rest D) (a v : Nat) (s : List UInt8) (ha : a + 2 ≤ D.n) (hv : 1 ≤ v) (hv2 : v ≤ 1099511627776) (hs : s.length ≤ 234) :
    slotWE D a v s = 0 ∧ Rest (slotWD D a v s) ∧ (slotWD D a v s).n = D.n ∧ (slotWD D a v s).sec (a + v % 2) = sealB v s ∧ ∀ j, j ≠ a + v % 2 → j < D.n → (slotWD D a v s).sec j = D.sec j := by
  have hn := h.ok.n2
  have hroom : D.roomB (a : Int) = true := by unfold Dsk.roomB; exact decide_eq_true (by omega)
  have hmay : slotMay D (a : Int) (v : Int) = true := by
    unfold slotMay; rw [hroom, decide_eq_true (show (1 : Int) ≤ v by omega), decide_eq_true (show (v : Int) ≤ 1099511627776 by omega)]; rfl
  have hb : ¬ (slotMay D (a : Int) (v : Int) = false) := by rw [hmay]; simp
  have hi : ((a : Int) + (v : Int) % 2) = ((a + v % 2 : Nat) : Int) := by omega
  have hlen := sealB_length (v : Int) s hs
  have hi2 : a + v % 2 < D.n := by omega
  have hhas : D.has ((a + v % 2 : Nat) : Int) = true := by unfold Dsk.has; exact decide_eq_true (by omega)
  have hwE : D.writeE ((a : Int) + (v : Int) % 2) (sealB v s) = 0 := by
    rw [hi]; unfold Dsk.writeE; rw [if_neg (by rw [h.calm.1]; simp), if_pos hhas, if_pos hlen, if_neg (by rw [dead_calm h.calm]; simp)]
  have hD1 : Calm ({ D with und := D.und ++ [(a + v % 2, sealB (v : Int) s)] } : Dsk) := h.calm
  have hw : slotW1 D (a : Int) (v : Int) s = { D with und := [(a + v % 2, sealB (v : Int) s)], writes := w64 (D.writes + 1) } := by
    unfold slotW1 Dsk.writeD
    rw [hi, if_neg (by rw [h.calm.1]; simp), if_pos hhas, if_pos hlen]
    simp only [dead_calm h.calm, gone_calm hD1, Int.toNat_natCast]
    simp [h.und]
  have hok1 : (slotW1 D (a : Int) (v : Int) s).ok := Dsk.writeD_ok h.ok _ _
  have hc1 : Calm (slotW1 D (a : Int) (v : Int) s) := by rw [hw]; exact h.calm
  have hf := flushD_calm hc1
  have hl := h.ok.len
  have e1 : slotWE D a v s = 0 := by
    unfold slotWE
    rw [if_neg hb, if_neg (by omega), if_neg (by rw [hwE]; simp)]
    exact hf.2.2.1
  have e2 : slotWD D a v s = (slotW1 D (a : Int) (v : Int) s).flushD := by
    unfold slotWD
    rw [if_neg hb, if_neg (by omega), if_neg (by rw [hwE]; simp)]
  have hn1 : (slotW1 D (a : Int) (v : Int) s).n = D.n := by rw [hw]
  have himg : (slotWD D a v s).img = lay D.img ((a + v % 2) * 256) (sealB (v : Int) s) := by
    rw [e2, hf.2.2.2.2, hw]; rfl
  refine ⟨e1, ⟨by rw [e2]; exact hf.1, by rw [e2]; exact hf.2.2.2.1, by rw [e2]; exact Dsk.flushD_ok hok1⟩, by rw [e2, hf.2.1, hn1], ?_, fun j hj hjn => ?_⟩
  · unfold Dsk.sec
    rw [himg]
    have := cut_lay_same D.img (sealB (v : Int) s) ((a + v % 2) * 256) (by rw [hlen]; omega)
    rw [hlen] at this
    exact this
  · unfold Dsk.sec
    rw [himg]
    rcases Nat.lt_or_ge j (a + v % 2) with hlt | hge
    · exact cut_lay_before _ _ _ _ _ (by rw [hlen]; omega) (by omega)
    · exact cut_lay_behind _ _ _ _ _ (by rw [hlen]; omega) (by rw [hlen]; omega)

/-- a slot that holds version c (0: none) and its value -/
structure Holds (D : Dsk) (a c : Nat) (l : List UInt8) : Prop where
  here : 0 < c → countO (D.sec (a + c % 2)) ((c % 2 : Nat) : Int) = some ((c : Int), l)
  other : countV (D.sec (a + (c + 1) % 2)) (((c + 1) % 2 : Nat) : Int) < (if c = 0 then 1 else (c : Int))
  none_ : c = 0 → countV (D.sec a) 0 = 0
theorem Holds.keep {D D' : Dsk} {a c : Nat} {l : List UInt8} (h : Holds D a c l) (hs : ∀ k, k < 2 → D'.sec (a + k) = D.sec (a + k)) : Holds D' a c l := by
  have h0 : D'.sec a = D.sec a := hs 0 (by omega)
  exact ⟨fun q => by rw [hs _ (Nat.mod_lt _ (by omega))]; exact h.here q, by rw [hs _ (Nat.mod_lt _ (by omega))]; exact h.other, fun q => by rw [h0]; exact h.none_ q⟩
/-- the next version is written -/
theorem Holds.next {D : Dsk} {a c : Nat} {l s : List UInt8} (hr : Rest D) (ha : a + 2 ≤ D.n) (h : Holds D a c l) (hc : c + 1 ≤ 1099511627776) (hs : s.length ≤ 234) : Holds (slotWD D a (c + 1 : Nat) s) a (c + 1) s := by
  obtain ⟨_, _, _, h1, h2⟩ := rest_write hr a (c + 1) s ha (by omega) hc hs
  refine ⟨fun _ => ?_, ?_, fun q => by omega⟩
  · rw [h1, show (((c + 1) % 2 : Nat) : Int) = ((c + 1 : Nat) : Int) % 2 by omega]
    exact seal_count (c + 1) s hs (by omega) hc
  · have e : (c + 1 + 1) % 2 = c % 2 := by omega
    rw [e, h2 _ (by omega) (by omega), if_neg (by omega)]
    by_cases hz : c = 0
    · subst hz
      have : countV (D.sec a) 0 = 0 := h.none_ rfl
      show countV (D.sec a) 0 < ((0 + 1 : Nat) : Int)
      omega
    · have hh := h.here (by omega)
      have : countV (D.sec (a + c % 2)) ((c % 2 : Nat) : Int) = c := by unfold countV; rw [hh]; rfl
      rw [this]
      omega
theorem blank_sec (n i : Nat) (h : i < n) : (Dsk.blank n).sec i = zs 256 := zs_cut _ _ _ (by omega)
theorem count_zero0 : countV (zs 256) 0 = 0 := by kernel_rfl
theorem count_zero1 : countV (zs 256) 1 = 0 := by kernel_rfl
theorem Holds.blank (n a : Nat) (h : a + 2 ≤ n) : Holds (Dsk.blank n) a 0 [] := by
  refine ⟨fun q => by omega, ?_, fun _ => ?_⟩
  · show countV ((Dsk.blank n).sec (a + 1)) 1 < 1
    rw [blank_sec _ _ (by omega), count_zero1]
    omega
  · rw [blank_sec _ _ (by omega), count_zero0]
theorem blank_rest (n : Nat) (h1 : 1 ≤ n) (h2 : n ≤ 65536) : Rest (Dsk.blank n) := ⟨blank_calm n, rfl, Dsk.blank_ok n h1 h2⟩
end Go.Proofs.YteklldbfdmaafaaDoor
/-
  Slots behind crashes, as plain data: a torn sector counts for the new version only if it is whole.
-/
namespace Go.Proofs.YteklldbfdmaafaaDoor
open Go Go.RowKit
theorem ext_getD (a b : List UInt8) (h : a.length = b.length) (e : ∀ i, i < a.length → a.getD i 0 = b.getD i 0) : a = b := by
  apply List.ext_getElem h
  intro i h1 h2
  have := e i h1
  rw [List.getD, List.getElem?_eq_getElem h1, List.getD, List.getElem?_eq_getElem h2] at this
  simpa using this

/-- the first k bytes of the new one, the rest of the old one -/
def tornB (new old : List UInt8) (k : Nat) : List UInt8 := new.take k ++ old.drop k
theorem torn_length {new old : List UInt8} {k : Nat} (h1 : new.length = 256) (h2 : old.length = 256) (hk : k ≤ 256) : (tornB new old k).length = 256 := by
  simp [tornB]; omega
theorem torn_get {new old : List UInt8} {k : Nat} (h1 : new.length = 256) (hk : k ≤ 256) (i : Nat) : (tornB new old k).getD i 0 = if i < k then new.getD i 0 else old.getD i 0 := by
  unfold tornB
  simp only [List.getD]
  split
  · rw [List.getElem?_append_left (by simp; omega), List.getElem?_take_of_lt (by omega)]
  · rw [List.getElem?_append_right (by simp; omega), List.length_take, Nat.min_eq_left (by omega), List.getElem?_drop]
    congr 2
    omega
theorem torn_torn {new old : List UInt8} {k d : Nat} (h1 : new.length = 256) (h2 : old.length = 256) (hk : k ≤ 256) (hd : d ≤ 256) : new.take d ++ (tornB new old k).drop d = tornB new old (max k d) := by
  have hl := torn_length h1 h2 hk
  have e : new.take d ++ (tornB new old k).drop d = tornB new (tornB new old k) d := rfl
  have hm : max k d ≤ 256 := by omega
  rw [e]
  refine ext_getD _ _ (by rw [torn_length h1 hl hd, torn_length h1 h2 hm]) fun i _ => ?_
  rw [torn_get h1 hd, torn_get h1 hm, torn_get h1 hk]
  repeat' split
  all_goals first | rfl | omega
/-- an old sector of a version two below -/
structure Old (c : Nat) (old : List UInt8) : Prop where
  len : old.length = 256
  tail : ∀ i, i < 8 → old.getD (248 + i) 0 = byteAt ((c - 1 : Nat) : Int) i
/-- power on, nothing under way; it may be armed -/
structure Still (D : Dsk) : Prop where
  on : D.off = false
  und : D.und = []
  ok : D.ok
theorem Still.rest {D : Dsk} (h : Still D) : Rest ({ D with armed := -1 } : Dsk) := ⟨⟨h.on, rfl⟩, h.und, ⟨h.ok.n1, h.ok.n2, h.ok.len, h.ok.und, by simp, by simp⟩⟩
theorem arm_still {D : Dsk} (h : Still D) (k : Int) (hk : k ≤ 9223372036854775807) : Still (D.arm k) := ⟨h.on, h.und, Dsk.arm_ok h.ok k hk⟩
/-- a write to a disk at rest that may be armed: the three ways -/
theorem slot_three {D : Dsk} (h : Still D) (a v : Nat) (s : List UInt8) (ha : a + 2 ≤ D.n) (hv : 1 ≤ v) (hv2 : v ≤ 1099511627776) (hs : s.length ≤ 234) :
    (D.armed = 0 → slotWE D a v s = 12 ∧ slotWD D a v s = { D with off := true, und := [(a + v % 2, sealB v s)] }) ∧
    (D.armed = 1 → slotWE D a v s = 12 ∧ slotWD D a v s = { D with armed := 0, off := true, und := [(a + v % 2, sealB v s)], writes := w64 (D.writes + 1) }) ∧
    (D.armed ≠ 0 → D.armed ≠ 1 → slotWE D a v s = 0 ∧ ∃ r, slotWD D a v s = { D with armed := r, img := lay D.img ((a + v % 2) * 256) (sealB v s), writes := w64 (D.writes + 1), flushes := w64 (D.flushes + 1) }) := by
  have hroom : D.roomB (a : Int) = true := by unfold Dsk.roomB; exact decide_eq_true (by omega)
  have hmay : slotMay D (a : Int) (v : Int) = true := by
    unfold slotMay; rw [hroom, decide_eq_true (show (1 : Int) ≤ v by omega), decide_eq_true (show (v : Int) ≤ 1099511627776 by omega)]; rfl
  have hi : ((a : Int) + (v : Int) % 2) = ((a + v % 2 : Nat) : Int) := by omega
  have hlen := sealB_length (v : Int) s hs
  have hhas : D.has ((a + v % 2 : Nat) : Int) = true := by unfold Dsk.has; exact decide_eq_true (by omega)
  have ha1 := h.ok.arm1
  obtain ⟨n, img, und, off, armed, wr, fl, lf⟩ := D
  obtain rfl : off = false := h.on
  obtain rfl : und = [] := h.und
  have hb : ¬ (slotMay ({ n := n, img := img, und := [], off := false, armed := armed, writes := wr, flushes := fl, life := lf } : Dsk) (a : Int) (v : Int) = false) := by rw [hmay]; simp
  obtain ⟨q, hq⟩ : ∃ q, q = sealB (v : Int) s := ⟨_, rfl⟩
  have h234 : ¬ (234 < s.length) := by omega
  unfold slotWE slotWD slotW1
  rw [if_neg hb, if_neg h234, if_neg hb, if_neg h234, hi, ← hq]
  rw [← hq] at hlen
  obtain ⟨i, hii⟩ : ∃ i, i = a + v % 2 := ⟨_, rfl⟩
  rw [← hii] at hhas ⊢
  dsimp only at ha1
  refine ⟨fun h0 => ?_, fun h0 => ?_, fun h0 h1 => ?_⟩
  · dsimp only at h0
    subst h0
    simp [Dsk.writeE, Dsk.writeD, Dsk.dead, Dsk.gone, hhas, hlen]
  · dsimp only at h0
    subst h0
    simp [Dsk.writeE, Dsk.writeD, Dsk.flushE, Dsk.flushD, Dsk.dead, Dsk.gone, hhas, hlen]
  · dsimp only at h0 h1
    by_cases hp : 0 < armed
    · have h2 : 0 < armed - 1 := by omega
      have h3 : ¬ (armed - 1 = 0) := by omega
      have h4 : 1 < armed := by omega
      simp [h4, Dsk.writeE, Dsk.writeD, Dsk.flushE, Dsk.flushD, Dsk.dead, Dsk.gone, hhas, hlen, h0, hp, h3, layAll]
    · simp [Dsk.writeE, Dsk.writeD, Dsk.flushE, Dsk.flushD, Dsk.dead, Dsk.gone, hhas, hlen, h0, hp, layAll]

/-- a slot at place 1 of a disk of three sectors: version c with value l, and, if a next value is chosen, some of it -/
structure Kp (c : Nat) (l : List UInt8) (nx : Option (List UInt8)) (D : Dsk) : Prop where
  still : Still D
  n : D.n = 3
  len : l.length ≤ 234
  here : 0 < c → D.sec (1 + c % 2) = sealB c l
  none_ : c = 0 → D.sec 1 = zs 256
  other : ∃ old k s, Old c old ∧ k ≤ 256 ∧ s.length ≤ 234 ∧ D.sec (1 + (c + 1) % 2) = tornB (sealB (c + 1 : Nat) s) old k ∧ (∀ x, nx = some x → s = x) ∧ (nx = none → k = 0)
theorem zs_old : Old 0 (zs 256) := by
  refine ⟨zs_length _, fun i hi => ?_⟩
  have h1 : (zs 256).getD (248 + i) 0 = 0 := by
    rw [List.getD, zs, List.getElem?_replicate, if_pos (by omega)]; rfl
  rw [h1]
  apply UInt8.toNat_inj.1
  rw [byteAt_val _ _ hi]
  simp
theorem zs_old1 : Old 1 (zs 256) := ⟨zs_old.len, zs_old.tail⟩
theorem seal_old {c : Nat} {l : List UInt8} (hl : l.length ≤ 234) : Old (c + 1) (sealB c l) :=
  ⟨sealB_length _ _ hl, fun i hi => by rw [seal_tail c l hl _ (by omega) (by omega), Nat.add_sub_cancel_left, Nat.add_sub_cancel]⟩
theorem Kp.start : Kp 0 [] none (Dsk.blank 3) :=
  ⟨⟨rfl, rfl, Dsk.blank_ok 3 (by omega) (by omega)⟩, rfl, by simp, fun h => by omega, fun _ => blank_sec 3 1 (by omega), zs 256, 0, [], zs_old, by omega, by simp, by
    rw [blank_sec 3 _ (by omega)]; simp [tornB], fun x h => (by cases h), fun _ => rfl⟩
theorem Kp.choose {c : Nat} {l s : List UInt8} {D : Dsk} (h : Kp c l none D) (hs : s.length ≤ 234) : Kp c l (some s) D := by
  obtain ⟨old, k, s', ho, hk, hs', e, -, hz⟩ := h.other
  have hz := hz rfl
  subst hz
  exact ⟨h.still, h.n, h.len, h.here, h.none_, old, 0, s, ho, by omega, hs, by rw [e]; simp [tornB], fun x hx => (by cases hx; rfl), fun hx => by cases hx⟩
theorem Kp.arm {c : Nat} {l : List UInt8} {nx : Option (List UInt8)} {D : Dsk} (h : Kp c l nx D) (k : Int) (hk : k ≤ 9223372036854775807) : Kp c l nx (D.arm k) :=
  ⟨arm_still h.still k hk, h.n, h.len, h.here, h.none_, h.other⟩
/-- the new version is there -/
theorem Kp.newer {c : Nat} {l s : List UInt8} {nx : Option (List UInt8)} {D D' : Dsk} (h : Kp c l nx D) (hs : s.length ≤ 234) (hst : Still D') (hn : D'.n = 3) (h1 : D'.sec (1 + (c + 1) % 2) = sealB (c + 1 : Nat) s) (h2 : D'.sec (1 + c % 2) = D.sec (1 + c % 2)) : Kp (c + 1) s none D' := by
  refine ⟨hst, hn, hs, fun _ => h1, fun q => by omega, ?_⟩
  have e : (c + 1 + 1) % 2 = c % 2 := by omega
  rw [e, h2]
  by_cases hc : c = 0
  · subst hc
    exact ⟨zs 256, 0, [], zs_old1, by omega, by simp, by rw [show 1 + 0 % 2 = 1 from rfl, h.none_ rfl]; simp [tornB], fun x hx => (by cases hx), fun _ => rfl⟩
  · exact ⟨sealB c l, 0, [], seal_old h.len, by omega, by simp, by rw [h.here (by omega)]; simp [tornB], fun x hx => (by cases hx), fun _ => rfl⟩
theorem Kp.ok {c : Nat} {l s : List UInt8} {D : Dsk} (h : Kp c l (some s) D) (hc : c + 1 ≤ 1099511627776) (hs : s.length ≤ 234) (h0 : D.armed ≠ 0) (h1 : D.armed ≠ 1) :
    slotWE D (1 : Nat) (c + 1 : Nat) s = 0 ∧ Kp (c + 1) s none (slotWD D (1 : Nat) (c + 1 : Nat) s) := by
  have hn := h.n
  obtain ⟨e, r, hD⟩ := (slot_three h.still 1 (c + 1) s (by omega) (by omega) hc hs).2.2 h0 h1
  refine ⟨e, ?_⟩
  have hlen := sealB_length ((c + 1 : Nat) : Int) s hs
  have hl := h.still.ok.len
  have hok : (slotWD D (1 : Nat) (c + 1 : Nat) s).ok := by
    unfold slotWD slotW1
    split
    · exact h.still.ok
    split
    · exact h.still.ok
    split
    · exact Dsk.writeD_ok h.still.ok _ _
    · exact Dsk.flushD_ok (Dsk.writeD_ok h.still.ok _ _)
  refine h.newer hs ⟨by rw [hD]; exact h.still.on, by rw [hD]; exact h.still.und, hok⟩ (by rw [hD]; exact hn) ?_ ?_
  · unfold Dsk.sec
    rw [hD]
    have := cut_lay_same D.img (sealB ((c + 1 : Nat) : Int) s) ((1 + (c + 1) % 2) * 256) (by rw [hlen]; omega)
    rw [hlen] at this
    exact this
  · unfold Dsk.sec
    rw [hD]
    rcases Nat.lt_or_ge (1 + c % 2) (1 + (c + 1) % 2) with hlt | hge
    · exact cut_lay_before _ _ _ _ _ (by rw [hlen]; omega) (by omega)
    · exact cut_lay_behind _ _ _ _ _ (by rw [hlen]; omega) (by rw [hlen]; omega)
/-- a crash of a disk at rest -/
theorem Kp.crash {c : Nat} {l : List UInt8} {nx : Option (List UInt8)} {D : Dsk} (h : Kp c l nx D) (kept : List Bool) (torn bytes : Int) : Kp c l nx (D.crash kept torn bytes) := by
  have hi := crash_clean D h.still.und kept torn bytes
  have hsec : ∀ i, (D.crash kept torn bytes).sec i = D.sec i := fun i => by unfold Dsk.sec; rw [hi]
  exact ⟨⟨rfl, rfl, Dsk.crash_ok h.still.ok _ _ _⟩, h.n, h.len, fun q => by rw [hsec]; exact h.here q, fun q => by rw [hsec]; exact h.none_ q, by obtain ⟨o, k, s, a1, a2, a3, a4, a5⟩ := h.other; exact ⟨o, k, s, a1, a2, a3, by rw [hsec]; exact a4, a5⟩⟩
/-- the power goes in a write -/
theorem Kp.dead {c : Nat} {l s : List UInt8} {D : Dsk} (h : Kp c l (some s) D) (hc : c + 1 ≤ 1099511627776) (hs : s.length ≤ 234) (h0 : D.armed = 0 ∨ D.armed = 1) :
    slotWE D (1 : Nat) (c + 1 : Nat) s = 12 ∧ (slotWD D (1 : Nat) (c + 1 : Nat) s).und.length = 1 ∧ (slotWD D (1 : Nat) (c + 1 : Nat) s).n = 3 ∧ ∀ kept torn bytes, Kp c l (some s) ((slotWD D (1 : Nat) (c + 1 : Nat) s).crash kept torn bytes) := by
  have hn := h.n
  have h3 := slot_three h.still 1 (c + 1) s (by omega) (by omega) hc hs
  have hok : (slotWD D (1 : Nat) (c + 1 : Nat) s).ok := by
    unfold slotWD slotW1
    split
    · exact h.still.ok
    split
    · exact h.still.ok
    split
    · exact Dsk.writeD_ok h.still.ok _ _
    · exact Dsk.flushD_ok (Dsk.writeD_ok h.still.ok _ _)
  obtain ⟨e, hu, him, hN⟩ : slotWE D (1 : Nat) (c + 1 : Nat) s = 12 ∧ (slotWD D (1 : Nat) (c + 1 : Nat) s).und = [(1 + (c + 1) % 2, sealB (c + 1 : Nat) s)] ∧ (slotWD D (1 : Nat) (c + 1 : Nat) s).img = D.img ∧ (slotWD D (1 : Nat) (c + 1 : Nat) s).n = D.n := by
    rcases h0 with h0 | h0
    · obtain ⟨e, hD⟩ := h3.1 h0
      exact ⟨e, by rw [hD], by rw [hD], by rw [hD]⟩
    · obtain ⟨e, hD⟩ := h3.2.1 h0
      exact ⟨e, by rw [hD], by rw [hD], by rw [hD]⟩
  refine ⟨e, by rw [hu]; rfl, by rw [hN, hn], fun kept torn bytes => ?_⟩
  have hlen := sealB_length ((c + 1 : Nat) : Int) s hs
  have hl := h.still.ok.len
  have hd : done kept torn bytes 0 ≤ 256 := by
    unfold done
    split
    · omega
    · split <;> omega
  obtain ⟨d, hdd⟩ : ∃ d, d = done kept torn bytes 0 := ⟨_, rfl⟩
  rw [← hdd] at hd
  have hci : ((slotWD D (1 : Nat) (c + 1 : Nat) s).crash kept torn bytes).img = lay D.img ((1 + (c + 1) % 2) * 256) ((sealB (c + 1 : Nat) s).take d) := by
    show layDone _ _ _ _ _ = _
    rw [hu, him, hdd]
    simp [layDone]
  have htl : ((sealB ((c + 1 : Nat) : Int) s).take d).length = d := by rw [List.length_take]; omega
  have hN' : ((slotWD D (1 : Nat) (c + 1 : Nat) s).crash kept torn bytes).n = 3 := by show (slotWD D (1 : Nat) (c + 1 : Nat) s).n = 3; rw [hN, hn]
  have hfar : ((slotWD D (1 : Nat) (c + 1 : Nat) s).crash kept torn bytes).sec (1 + c % 2) = D.sec (1 + c % 2) := by
    unfold Dsk.sec
    rw [hci]
    rcases Nat.lt_or_ge (1 + c % 2) (1 + (c + 1) % 2) with hlt | hge
    · exact cut_lay_before _ _ _ _ _ (by rw [htl]; omega) (by omega)
    · exact cut_lay_behind _ _ _ _ _ (by rw [htl]; omega) (by rw [htl]; omega)
  have hnear : ((slotWD D (1 : Nat) (c + 1 : Nat) s).crash kept torn bytes).sec (1 + (c + 1) % 2) = (sealB (c + 1 : Nat) s).take d ++ (D.sec (1 + (c + 1) % 2)).drop d := by
    unfold Dsk.sec
    rw [hci]
    have hb : (1 + (c + 1) % 2) * 256 + 256 ≤ D.img.length := by omega
    obtain ⟨o, hoo⟩ : ∃ o, o = (1 + (c + 1) % 2) * 256 := ⟨_, rfl⟩
    rw [← hoo] at hb ⊢
    unfold cut lay
    rw [List.drop_left' (by simp; omega), htl, List.take_append, htl, List.take_of_length_le (by omega), List.drop_take, List.drop_drop]
  obtain ⟨old, k, s', ho, hk, hs', eo, hx, -⟩ := h.other
  have hx := hx s rfl
  subst hx
  rw [eo, torn_torn hlen ho.len hk hd] at hnear
  exact ⟨⟨rfl, rfl, Dsk.crash_ok hok _ _ _⟩, hN', h.len, fun q => by rw [hfar]; exact h.here q, fun q => by
    have := h.none_ q
    subst q
    rw [← this]; exact hfar, old, max k d, s', ho, by omega, hs', hnear, fun x hx => (by cases hx; rfl), fun hx => by cases hx⟩
end Go.Proofs.YteklldbfdmaafaaDoor
/-
  A sealed sector as the pieces that the document lays one behind the other; plain data.
-/
namespace Go.Proofs.YteklldbfdmaafaaDoor
open Go Go.RowKit
theorem lay_app (a z b : List UInt8) : lay (a ++ z) a.length b = a ++ (b ++ z.drop b.length) := by
  unfold lay
  rw [List.take_left' rfl, List.drop_append, List.drop_of_length_le (by omega), Nat.add_sub_cancel_left, List.nil_append]
def sealHead (v : Int) (s : List UInt8) : List UInt8 := putB v 8 ++ (putB (IntKind.u64.wrap s.length) 2 ++ (s ++ zs (234 - s.length)))
theorem sealHead_length (v : Int) (s : List UInt8) (h : s.length ≤ 234) : (sealHead v s).length = 244 := by
  unfold sealHead
  simp only [List.length_append, putB_length, zs_length]
  omega
theorem zs_drop (n m : Nat) : (zs n).drop m = zs (n - m) := by simp [zs]
theorem seal_concat (v : Int) (s : List UInt8) (h : s.length ≤ 234) : sealB v s = sealHead v s ++ (putB (IntKind.u64.wrap (crcSum (sealHead v s))) 4 ++ putB v 8) := by
  have e1 : sealB1 v = putB v 8 ++ zs 248 := by
    have := lay_app [] (zs 256) (putB v 8)
    rw [putB_length, zs_drop] at this
    exact this
  have e2 : sealB2 v s = putB v 8 ++ (putB (IntKind.u64.wrap s.length) 2 ++ zs 246) := by
    unfold sealB2
    rw [e1]
    have := lay_app (putB v 8) (zs 248) (putB (IntKind.u64.wrap s.length) 2)
    rw [putB_length, putB_length, zs_drop] at this
    exact this
  have e3 : sealB3 v s = sealHead v s ++ zs 12 := by
    unfold sealB3
    rw [e2, ← List.append_assoc]
    have := lay_app (putB v 8 ++ putB (IntKind.u64.wrap s.length) 2) (zs 246) s
    rw [List.length_append, putB_length, putB_length, zs_drop] at this
    rw [this]
    unfold sealHead
    simp only [List.append_assoc]
    congr 3
    have : zs (246 - s.length) = zs (234 - s.length) ++ zs 12 := by
      unfold zs; rw [List.replicate_append_replicate]; congr 1; omega
    rw [this]
  have hl := sealHead_length v s h
  have e3t : (sealB3 v s).take 244 = sealHead v s := by rw [e3, List.take_left' hl]
  have e4 : sealB4 v s = sealHead v s ++ (putB (IntKind.u64.wrap (crcSum (sealHead v s))) 4 ++ zs 8) := by
    unfold sealB4
    rw [e3t, e3]
    have := lay_app (sealHead v s) (zs 12) (putB (IntKind.u64.wrap (crcSum (sealHead v s))) 4)
    rw [hl, putB_length, zs_drop] at this
    exact this
  unfold sealB
  rw [e4, ← List.append_assoc]
  have := lay_app (sealHead v s ++ putB (IntKind.u64.wrap (crcSum (sealHead v s))) 4) (zs 8) (putB v 8)
  rw [List.length_append, hl, putB_length, putB_length, zs_drop] at this
  rw [this]
  simp [zs]
/-- two bytes' number -/
theorem getB_two_val (l : List UInt8) : getB l 2 = (((l.getD 0 0).toNat + 256 * (l.getD 1 0).toNat : Nat) : Int) := by
  have h0 := UInt8.toNat_lt (l.getD 0 0)
  obtain ⟨a, ha⟩ : ∃ a, a = l.getD 0 0 := ⟨_, rfl⟩
  obtain ⟨b, hb⟩ : ∃ b, b = l.getD 1 0 := ⟨_, rfl⟩
  rw [← ha] at h0
  have h1 := getPart_val 0 0 a (by omega) (by omega)
  have h2 := getPart_val (0 + a.toNat * 2 ^ (8 * 0)) 1 b (by omega) (by show 0 + a.toNat * 1 < 256; omega)
  show getPart (getPart 0 0 (l.getD 0 0)) 1 (l.getD 1 0) = _
  rw [← ha, ← hb]
  rw [show (0 : Int) = ((0 : Nat) : Int) from rfl, h1, h2]
  show ((0 + a.toNat * 1 + b.toNat * 256 : Nat) : Int) = _
  omega
theorem openN_val (raw : List UInt8) : openN raw = (raw.getD 8 0).toNat + 256 * (raw.getD 9 0).toNat := by
  unfold openN
  rw [getB_two_val, getD_drop, getD_drop, Int.toNat_natCast]
/-- a byte of a number, by division -/
theorem byteAt_div (v i : Nat) (hi : i < 8) : byteAt (v : Int) i = UInt8.ofNat (v / 256 ^ i % 256) := by
  apply UInt8.toNat_inj.1
  rw [byteAt_val v i hi, UInt8.toNat_ofNat', show (256 : Nat) ^ i = 2 ^ (8 * i) by rw [show (256 : Nat) = 2 ^ 8 from rfl, ← Nat.pow_mul]]
  omega
end Go.Proofs.YteklldbfdmaafaaDoor
/-
  The document's sectors (remitref03's sum, remitref07): contracts over the plain data of the program's own.
-/
namespace Go.Proofs.YteklldbfdmaafaaDoor
open Go Go.RowKit
section
variable {P : Program} {W : World} {n : Nat} {k : KK} {E : Env} {H R : List SP} {x y z : Operand} {t u : TypeId} {kd : IntKind}
theorem Ev_xor_v {i j r : Int} (hx : Env.ev E x = some (.int kd i)) (hy : Env.ev E y = some (.int kd j)) (h : bits .xor kd i j = r) : Ev P W n E H (.binOp .xor t x y u) (.int kd r) := by subst h; exact Ev_xor hx hy
theorem Ev_rem_v {i j r : Int} (hx : Env.ev E x = some (.int kd i)) (hy : Env.ev E y = some (.int kd j)) (hb : 0 ≤ i ∧ 0 < j) (h : i % j = r) : Ev P W n E H (.binOp .rem t x y u) (.int kd r) := by subst h; exact Ev_remI hx hy hb
theorem Ev_quo_v {i j r : Int} (hx : Env.ev E x = some (.int kd i)) (hy : Env.ev E y = some (.int kd j)) (hj : j ≠ 0) (h : kd.wrap (i.tdiv j) = r) : Ev P W n E H (.binOp .quo t x y u) (.int kd r) := by subst h; exact Ev_quo hx hy hj
theorem KJ.row_shape3 {v : Value} {e size m : Nat} {xs : List Value} (hsel : Sel (rowP v e size m xs) H R) (hm : 0 < m) (h : ∀ g c, v = .slice (some ⟨g, 0, none⟩) m c → KJ W n k E H) : KJ W n k E H :=
  ⟨fun a w p s => by
    rcases (s.row hsel).2 with ⟨_, q⟩ | ⟨g, c, _, q, _⟩
    · omega
    · exact (h g c q).go a w p s⟩
theorem nilrow3 {e size : Nat} {H R : List SP} : ∀ g, starL (H ++ R) g → starL (H ++ [rowP (.slice none 0 0) e size 0 []] ++ R) g := by
  intro g q
  have q2 : starL (rowP (.slice none 0 0) e size 0 [] :: (H ++ R)) g := ⟨fun _ => none, g, (fun _ _ q => by cases q), (fun _ _ q => by cases q), .rfl, ⟨by simp, .inl ⟨rfl, rfl⟩⟩, q⟩
  refine starL_perm ?_ g q2
  have : (H ++ [rowP (.slice none 0 0) e size 0 []] ++ R) = H ++ rowP (.slice none 0 0) e size 0 [] :: R := by simp
  rw [this]
  exact List.perm_middle.symm
end
theorem u32_tdiv (a : Nat) (h : a < 2 ^ 32) : IntKind.u32.wrap (((a : Nat) : Int).tdiv 2) = ((a / 2 : Nat) : Int) := by
  have : ((a : Nat) : Int).tdiv 2 = ((a / 2 : Nat) : Int) := by rw [Int.tdiv_eq_ediv_of_nonneg (by omega)]; rfl
  rw [this]
  exact u32_of_lt _ (by omega)
theorem u64_tdiv (a : Nat) (h : a < 2 ^ 64) : IntKind.u64.wrap (((a : Nat) : Int).tdiv 256) = ((a / 256 : Nat) : Int) := by
  have : ((a : Nat) : Int).tdiv 256 = ((a / 256 : Nat) : Int) := by rw [Int.tdiv_eq_ediv_of_nonneg (by omega)]; rfl
  rw [this]
  exact u64_of_lt _ (by omega)
theorem u8_wrap (z : Nat) : IntKind.u8.wrap (z : Int) = ((z % 256 : Nat) : Int) := by
  have : IntKind.u8.wrap (z : Int) = (z : Int) % 256 := rfl
  rw [this]; omega

section
variable {W : World}
set_option maxHeartbeats 1000000 in
set_option maxRecDepth 100000 in
theorem rextend_ct (s : Nat) (hs : s < 2 ^ 32) (l : List UInt8) (hl : l.length < 4611686018427387904) : Ct Tryd.prog W 132 [.int .u32 (s : Nat), strV l] [] (fun _ : Unit => .int .u32 ((notN (crcN (notN s) l) : Nat) : Int)) (fun _ => []) := by
  obtain ⟨A, hA⟩ : ∃ A : Nat → Nat, A = fun i => crcN (notN s) (l.take i) := ⟨_, rfl⟩
  have hA0 : notN s = A 0 := by rw [hA]; simp [crcN]
  have hAl : crcN (notN s) l = A l.length := by rw [hA]; simp
  have hAn : ∀ i c, l[i]? = some c → A (i + 1) = byteN (A i) c := fun i c h => by rw [hA]; exact crcN_next _ l i c h
  have hAb : ∀ i, A i < 2 ^ 32 := fun i => by rw [hA]; exact (crcN_bits _ _ (notN_lt s hs)).2
  have hx0 : bits .xor .u32 (s : Nat) 4294967295 = ((A 0 : Nat) : Int) := by rw [← hA0]; exact xor32 s 4294967295 hs (by omega)
  have hxl : bits .xor .u32 ((A l.length : Nat) : Int) 4294967295 = ((notN (A l.length) : Nat) : Int) := xor32 _ 4294967295 (hAb _) (by omega)
  rw [hAl]
  clear hA hAl hA0
  refine Ct.enter Tryd.func132 rfl Tryd.ntmps132 (by simp) (fun R => ?_)
  repeat' (first 
    | refine KJ_stp (by first | constructor | fail) ?_
    | (refine is_oper ?_; first | (refine KJ_ek rfl ?_) | (refine KJ_ek0 ?_))
    | (refine is_ek ?_; first | (refine ek_move ?_; first | (refine EK_ev (Ev_move rfl) ?_)) | (refine ek_assign ?_; first | (refine EK_ev (Ev_assign rfl) ?_)) | (refine ek_conv ?_; first | (refine EK_ev (Ev_convI64 rfl (by omega)) ?_) | (refine EK_ev (Ev_convI rfl) ?_) | (refine EK_ev (Ev_convS rfl) ?_)) | (refine ek_len ?_; first | (refine EK_ev (Ev_len_str rfl) ?_) | (refine EK_ev (Ev_len_slice rfl) ?_) | (refine EK_ev (Ev_len_arr rfl) ?_) | (refine EK_ev (Ev_len_map rfl (by (repeat' (first | exact Sel.here | apply Sel.there)); first | done | fail)) ?_)) | (refine ek_add ?_; first | (refine EK_ev (Ev_addI rfl rfl (by omega)) ?_) | (refine EK_ev (Ev_addS rfl rfl (by simp <;> omega)) ?_) | (refine EK_ev (Ev_add rfl rfl) ?_)) | (refine ek_quo ?_; first | (refine EK_ev (Ev_quoI rfl rfl (by omega)) ?_) | (refine EK_ev (Ev_quo rfl rfl (by omega)) ?_)) | (refine ek_rem ?_; first | (refine EK_ev (Ev_remI rfl rfl (by omega)) ?_) | (refine EK_ev (Ev_rem rfl rfl (by omega)) ?_)) | (refine ek_xor ?_; first | (refine EK_ev (Ev_xor_v rfl rfl hx0) ?_)) | (refine ek_eql ?_; first | (refine EK_ev (Ev_eqlI rfl rfl) ?_) | (refine EK_ev (Ev_eqlS rfl rfl) ?_) | (refine EK_ev (Ev_eqlNil rfl rfl) ?_) | (refine EK_ev (Ev_eqlB rfl rfl) ?_) | (refine EK_ev (Ev_eqlO rfl rfl rfl (fun _ => rfl)) ?_)) | (refine ek_lss ?_; first | (refine EK_ev (Ev_lssI rfl rfl) ?_) | (refine EK_ev (Ev_lssS rfl rfl) ?_)))
    | (refine is_ex ?_; first | (refine KJ_blk_exit' rfl ?_))
    | (refine is_code ?_; first | (refine KJ_cond_dec rfl (fun _ => ?_) (fun _ => ?_) <;> first | (exfalso; omega) | skip) | (refine KJ_cond_t rfl ?_) | (refine KJ_cond_f rfl ?_)))
  refine KJ_loop (fun i : {k : Nat // k ≤ l.length} => [(1, strV l), (5, .int .u32 ((A i.1 : Nat) : Int)), (6, .int .i64 (i.1 : Nat))]) (fun _ => R) (fun i => l.length - i.1) ⟨0, by omega⟩ (by (repeat' (first | exact Subs.nil | refine Subs.cons rfl ?_)); first | done | fail) (fun _ q => q) (fun ⟨i, hi⟩ => ?_)
  dsimp only
  by_cases hlt : i < l.length
  · obtain ⟨c, hc⟩ : ∃ c, l[i]? = some c := ⟨_, List.getElem?_eq_getElem hlt⟩
    have hcb := UInt8.toNat_lt c
    have hnx := hAn i c hc
    have hc' : l[(i : Int).toNat]? = some c := by rw [Int.toNat_natCast]; exact hc
    obtain ⟨r, hr⟩ : ∃ r, r = A i ^^^ c.toNat := ⟨_, rfl⟩
    have hrb : r < 2 ^ 32 := by rw [hr]; exact Nat.xor_lt_two_pow (hAb i) (by omega)
    have hcv : IntKind.u32.wrap ((c.toNat : Nat) : Int) = ((c.toNat : Nat) : Int) := u32_of_lt _ (by omega)
    have hxc : bits .xor .u32 ((A i : Nat) : Int) ((c.toNat : Nat) : Int) = ((bitIt 0 r : Nat) : Int) := by rw [xor32 _ _ (hAb i) (by omega), hr]; rfl
    have hnx : A (i + 1) = bitIt 8 r := by rw [hnx, hr]; rfl
    clear hr
    repeat' (first 
    | refine KJ_stp (by first | constructor | fail) ?_
    | (refine is_oper ?_; first | (refine KJ_ek rfl ?_) | (refine KJ_ek0 ?_))
    | (refine is_ek ?_; first | (refine ek_move ?_; first | (refine EK_ev (Ev_move rfl) ?_)) | (refine ek_assign ?_; first | (refine EK_ev (Ev_assign rfl) ?_)) | (refine ek_conv ?_; first | (refine EK_ev (Ev_convI_v rfl hcv) ?_) | (refine EK_ev (Ev_convI64 rfl (by omega)) ?_) | (refine EK_ev (Ev_convI rfl) ?_) | (refine EK_ev (Ev_convS rfl) ?_)) | (refine ek_index ?_; first | (refine EK_ev (Ev_indexStr rfl rfl (by omega) hc') ?_)) | (refine ek_len ?_; first | (refine EK_ev (Ev_len_str rfl) ?_) | (refine EK_ev (Ev_len_slice rfl) ?_) | (refine EK_ev (Ev_len_arr rfl) ?_) | (refine EK_ev (Ev_len_map rfl (by (repeat' (first | exact Sel.here | apply Sel.there)); first | done | fail)) ?_)) | (refine ek_add ?_; first | (refine EK_ev (Ev_addI rfl rfl (by omega)) ?_) | (refine EK_ev (Ev_addS rfl rfl (by simp <;> omega)) ?_) | (refine EK_ev (Ev_add rfl rfl) ?_)) | (refine ek_quo ?_; first | (refine EK_ev (Ev_quoI rfl rfl (by omega)) ?_) | (refine EK_ev (Ev_quo rfl rfl (by omega)) ?_)) | (refine ek_rem ?_; first | (refine EK_ev (Ev_remI rfl rfl (by omega)) ?_) | (refine EK_ev (Ev_rem rfl rfl (by omega)) ?_)) | (refine ek_xor ?_; first | (refine EK_ev (Ev_xor_v rfl rfl hxc) ?_)) | (refine ek_eql ?_; first | (refine EK_ev (Ev_eqlI rfl rfl) ?_) | (refine EK_ev (Ev_eqlS rfl rfl) ?_) | (refine EK_ev (Ev_eqlNil rfl rfl) ?_) | (refine EK_ev (Ev_eqlB rfl rfl) ?_) | (refine EK_ev (Ev_eqlO rfl rfl rfl (fun _ => rfl)) ?_)) | (refine ek_lss ?_; first | (refine EK_ev (Ev_lssI rfl rfl) ?_) | (refine EK_ev (Ev_lssS rfl rfl) ?_)))
    | (refine is_ex ?_; first | (refine KJ_blk_exit' rfl ?_))
    | (refine is_code ?_; first | (refine KJ_cond_dec rfl (fun _ => ?_) (fun _ => ?_) <;> first | (exfalso; omega) | skip) | (refine KJ_cond_t rfl ?_) | (refine KJ_cond_f rfl ?_)))
    refine KJ_loop (fun k : {k : Nat // k ≤ 8} => [(1, strV l), (5, .int .u32 ((bitIt k.1 r : Nat) : Int)), (6, .int .i64 (i : Nat)), (7, .int .i64 (k.1 : Nat))]) (fun _ => R) (fun k => 8 - k.1) ⟨0, by omega⟩ (by (repeat' (first | exact Subs.nil | refine Subs.cons rfl ?_)); first | done | fail) (fun _ q => q) (fun ⟨k, hk⟩ => ?_)
    dsimp only
    by_cases hk8 : k < 8
    · have hab := bitIt_lt k r hrb
      have hst : bitIt (k + 1) r = bitN (bitIt k r) := rfl
      obtain ⟨a, ha⟩ : ∃ a, a = bitIt k r := ⟨_, rfl⟩
      rw [← ha] at hab hst ⊢
      have hrem : ((a : Nat) : Int) % 2 = ((a % 2 : Nat) : Int) := by omega
      have hquo := u32_tdiv a hab
      by_cases hp : a % 2 = 1
      · have hq : ((a % 2 : Nat) : Int) = 1 := by omega
        have hxp : bits .xor .u32 ((a / 2 : Nat) : Int) 2197175160 = ((bitIt (k + 1) r : Nat) : Int) := by rw [hst, bitN, if_pos hp]; exact xor32 (a / 2) 2197175160 (by omega) (by omega)
        repeat' (first 
    | refine KJ_stp (by first | constructor | fail) ?_
    | (refine is_oper ?_; first | (refine KJ_ek rfl ?_) | (refine KJ_ek0 ?_))
    | (refine is_ek ?_; first | (refine ek_move ?_; first | (refine EK_ev (Ev_move rfl) ?_)) | (refine ek_assign ?_; first | (refine EK_ev (Ev_assign rfl) ?_)) | (refine ek_conv ?_; first | (refine EK_ev (Ev_convI64 rfl (by omega)) ?_) | (refine EK_ev (Ev_convI rfl) ?_) | (refine EK_ev (Ev_convS rfl) ?_)) | (refine ek_len ?_; first | (refine EK_ev (Ev_len_str rfl) ?_) | (refine EK_ev (Ev_len_slice rfl) ?_) | (refine EK_ev (Ev_len_arr rfl) ?_) | (refine EK_ev (Ev_len_map rfl (by (repeat' (first | exact Sel.here | apply Sel.there)); first | done | fail)) ?_)) | (refine ek_add ?_; first | (refine EK_ev (Ev_addI_v (r := ((k + 1 : Nat) : Int)) rfl rfl (by omega) (by omega)) ?_) | (refine EK_ev (Ev_addI rfl rfl (by omega)) ?_) | (refine EK_ev (Ev_addS rfl rfl (by simp <;> omega)) ?_) | (refine EK_ev (Ev_add rfl rfl) ?_)) | (refine ek_quo ?_; first | (refine EK_ev (Ev_quo_v rfl rfl (by omega) hquo) ?_) | (refine EK_ev (Ev_quoI rfl rfl (by omega)) ?_) | (refine EK_ev (Ev_quo rfl rfl (by omega)) ?_)) | (refine ek_rem ?_; first | (refine EK_ev (Ev_rem_v rfl rfl (by omega) hrem) ?_) | (refine EK_ev (Ev_remI rfl rfl (by omega)) ?_) | (refine EK_ev (Ev_rem rfl rfl (by omega)) ?_)) | (refine ek_xor ?_; first | (refine EK_ev (Ev_xor_v rfl rfl hxp) ?_)) | (refine ek_eql ?_; first | (refine EK_ev (Ev_eqlI_t rfl rfl hq) ?_) | (refine EK_ev (Ev_eqlI rfl rfl) ?_) | (refine EK_ev (Ev_eqlS rfl rfl) ?_) | (refine EK_ev (Ev_eqlNil rfl rfl) ?_) | (refine EK_ev (Ev_eqlB rfl rfl) ?_) | (refine EK_ev (Ev_eqlO rfl rfl rfl (fun _ => rfl)) ?_)) | (refine ek_lss ?_; first | (refine EK_ev (Ev_lssI rfl rfl) ?_) | (refine EK_ev (Ev_lssS rfl rfl) ?_)))
    | (refine is_ex ?_; first | (refine KJ_blk_exit' rfl ?_))
    | (refine is_code ?_; first | (refine KJ_cond_dec rfl (fun _ => ?_) (fun _ => ?_) <;> first | (exfalso; omega) | skip) | (refine KJ_cond_t rfl ?_) | (refine KJ_cond_f rfl ?_)))
        all_goals refine KJ_again ⟨k + 1, by omega⟩ (by show 8 - (k + 1) < 8 - k; omega) (by (repeat' (first | exact Subs.nil | refine Subs.cons rfl ?_)); first | done | fail) (fun _ q => q)
      · have hq : ((a % 2 : Nat) : Int) ≠ 1 := by omega
        have hsp : bitIt (k + 1) r = a / 2 := by rw [hst, bitN, if_neg hp, Nat.xor_zero]
        repeat' (first 
    | refine KJ_stp (by first | constructor | fail) ?_
    | (refine is_oper ?_; first | (refine KJ_ek rfl ?_) | (refine KJ_ek0 ?_))
    | (refine is_ek ?_; first | (refine ek_move ?_; first | (refine EK_ev (Ev_move rfl) ?_)) | (refine ek_assign ?_; first | (refine EK_ev (Ev_assign rfl) ?_)) | (refine ek_conv ?_; first | (refine EK_ev (Ev_convI64 rfl (by omega)) ?_) | (refine EK_ev (Ev_convI rfl) ?_) | (refine EK_ev (Ev_convS rfl) ?_)) | (refine ek_len ?_; first | (refine EK_ev (Ev_len_str rfl) ?_) | (refine EK_ev (Ev_len_slice rfl) ?_) | (refine EK_ev (Ev_len_arr rfl) ?_) | (refine EK_ev (Ev_len_map rfl (by (repeat' (first | exact Sel.here | apply Sel.there)); first | done | fail)) ?_)) | (refine ek_add ?_; first | (refine EK_ev (Ev_addI_v (r := ((k + 1 : Nat) : Int)) rfl rfl (by omega) (by omega)) ?_) | (refine EK_ev (Ev_addI rfl rfl (by omega)) ?_) | (refine EK_ev (Ev_addS rfl rfl (by simp <;> omega)) ?_) | (refine EK_ev (Ev_add rfl rfl) ?_)) | (refine ek_quo ?_; first | (refine EK_ev (Ev_quo_v rfl rfl (by omega) hquo) ?_) | (refine EK_ev (Ev_quoI rfl rfl (by omega)) ?_) | (refine EK_ev (Ev_quo rfl rfl (by omega)) ?_)) | (refine ek_rem ?_; first | (refine EK_ev (Ev_rem_v rfl rfl (by omega) hrem) ?_) | (refine EK_ev (Ev_remI rfl rfl (by omega)) ?_) | (refine EK_ev (Ev_rem rfl rfl (by omega)) ?_)) | (refine ek_eql ?_; first | (refine EK_ev (Ev_eqlI_f rfl rfl hq) ?_) | (refine EK_ev (Ev_eqlI rfl rfl) ?_) | (refine EK_ev (Ev_eqlS rfl rfl) ?_) | (refine EK_ev (Ev_eqlNil rfl rfl) ?_) | (refine EK_ev (Ev_eqlB rfl rfl) ?_) | (refine EK_ev (Ev_eqlO rfl rfl rfl (fun _ => rfl)) ?_)) | (refine ek_lss ?_; first | (refine EK_ev (Ev_lssI rfl rfl) ?_) | (refine EK_ev (Ev_lssS rfl rfl) ?_)))
    | (refine is_ex ?_; first | (refine KJ_blk_exit' rfl ?_))
    | (refine is_code ?_; first | (refine KJ_cond_dec rfl (fun _ => ?_) (fun _ => ?_) <;> first | (exfalso; omega) | skip) | (refine KJ_cond_t rfl ?_) | (refine KJ_cond_f rfl ?_)))
        all_goals refine KJ_again ⟨k + 1, by omega⟩ (by show 8 - (k + 1) < 8 - k; omega) ?_ (fun _ q => q)
        all_goals rw [hsp]
        all_goals exact (by (repeat' (first | exact Subs.nil | refine Subs.cons rfl ?_)); first | done | fail)
    · have hk8 : k = 8 := by omega
      subst hk8
      rw [← hnx]
      repeat' (first 
    | refine KJ_stp (by first | constructor | fail) ?_
    | (refine is_oper ?_; first | (refine KJ_ek rfl ?_) | (refine KJ_ek0 ?_))
    | (refine is_ek ?_; first | (refine ek_move ?_; first | (refine EK_ev (Ev_move rfl) ?_)) | (refine ek_assign ?_; first | (refine EK_ev (Ev_assign rfl) ?_)) | (refine ek_conv ?_; first | (refine EK_ev (Ev_convI64 rfl (by omega)) ?_) | (refine EK_ev (Ev_convI rfl) ?_) | (refine EK_ev (Ev_convS rfl) ?_)) | (refine ek_len ?_; first | (refine EK_ev (Ev_len_str rfl) ?_) | (refine EK_ev (Ev_len_slice rfl) ?_) | (refine EK_ev (Ev_len_arr rfl) ?_) | (refine EK_ev (Ev_len_map rfl (by (repeat' (first | exact Sel.here | apply Sel.there)); first | done | fail)) ?_)) | (refine ek_add ?_; first | (refine EK_ev (Ev_addI_v (r := ((i + 1 : Nat) : Int)) rfl rfl (by omega) (by omega)) ?_) | (refine EK_ev (Ev_addI rfl rfl (by omega)) ?_) | (refine EK_ev (Ev_addS rfl rfl (by simp <;> omega)) ?_) | (refine EK_ev (Ev_add rfl rfl) ?_)) | (refine ek_quo ?_; first | (refine EK_ev (Ev_quoI rfl rfl (by omega)) ?_) | (refine EK_ev (Ev_quo rfl rfl (by omega)) ?_)) | (refine ek_rem ?_; first | (refine EK_ev (Ev_remI rfl rfl (by omega)) ?_) | (refine EK_ev (Ev_rem rfl rfl (by omega)) ?_)) | (refine ek_eql ?_; first | (refine EK_ev (Ev_eqlI rfl rfl) ?_) | (refine EK_ev (Ev_eqlS rfl rfl) ?_) | (refine EK_ev (Ev_eqlNil rfl rfl) ?_) | (refine EK_ev (Ev_eqlB rfl rfl) ?_) | (refine EK_ev (Ev_eqlO rfl rfl rfl (fun _ => rfl)) ?_)) | (refine ek_lss ?_; first | (refine EK_ev (Ev_lssI rfl rfl) ?_) | (refine EK_ev (Ev_lssS rfl rfl) ?_)))
    | (refine is_ex ?_; first | (refine KJ_blk_exit' rfl ?_))
    | (refine is_code ?_; first | (refine KJ_cond_dec rfl (fun _ => ?_) (fun _ => ?_) <;> first | (exfalso; omega) | skip) | (refine KJ_cond_t rfl ?_) | (refine KJ_cond_f rfl ?_)))
      all_goals refine KJ_again ⟨i + 1, by omega⟩ (by show l.length - (i + 1) < l.length - i; omega) (by (repeat' (first | exact Subs.nil | refine Subs.cons rfl ?_)); first | done | fail) (fun _ q => q)
  · have hkl : i = l.length := by omega
    subst hkl
    repeat' (first 
    | refine KJ_stp (by first | constructor | fail) ?_
    | (refine is_oper ?_; first | (refine KJ_ek rfl ?_) | (refine KJ_ek0 ?_))
    | (refine is_ek ?_; first | (refine ek_move ?_; first | (refine EK_ev (Ev_move rfl) ?_)) | (refine ek_assign ?_; first | (refine EK_ev (Ev_assign rfl) ?_)) | (refine ek_conv ?_; first | (refine EK_ev (Ev_convI64 rfl (by omega)) ?_) | (refine EK_ev (Ev_convI rfl) ?_) | (refine EK_ev (Ev_convS rfl) ?_)) | (refine ek_len ?_; first | (refine EK_ev (Ev_len_str rfl) ?_) | (refine EK_ev (Ev_len_slice rfl) ?_) | (refine EK_ev (Ev_len_arr rfl) ?_) | (refine EK_ev (Ev_len_map rfl (by (repeat' (first | exact Sel.here | apply Sel.there)); first | done | fail)) ?_)) | (refine ek_add ?_; first | (refine EK_ev (Ev_addI rfl rfl (by omega)) ?_) | (refine EK_ev (Ev_addS rfl rfl (by simp <;> omega)) ?_) | (refine EK_ev (Ev_add rfl rfl) ?_)) | (refine ek_quo ?_; first | (refine EK_ev (Ev_quoI rfl rfl (by omega)) ?_) | (refine EK_ev (Ev_quo rfl rfl (by omega)) ?_)) | (refine ek_rem ?_; first | (refine EK_ev (Ev_remI rfl rfl (by omega)) ?_) | (refine EK_ev (Ev_rem rfl rfl (by omega)) ?_)) | (refine ek_xor ?_; first | (refine EK_ev (Ev_xor_v rfl rfl hxl) ?_)) | (refine ek_eql ?_; first | (refine EK_ev (Ev_eqlI rfl rfl) ?_) | (refine EK_ev (Ev_eqlS rfl rfl) ?_) | (refine EK_ev (Ev_eqlNil rfl rfl) ?_) | (refine EK_ev (Ev_eqlB rfl rfl) ?_) | (refine EK_ev (Ev_eqlO rfl rfl rfl (fun _ => rfl)) ?_)) | (refine ek_lss ?_; first | (refine EK_ev (Ev_lssI rfl rfl) ?_) | (refine EK_ev (Ev_lssS rfl rfl) ?_)))
    | (refine is_ex ?_; first | (refine KJ_blk_exit' rfl ?_))
    | (refine is_code ?_; first | (refine KJ_cond_dec rfl (fun _ => ?_) (fun _ => ?_) <;> first | (exfalso; omega) | skip) | (refine KJ_cond_t rfl ?_) | (refine KJ_cond_f rfl ?_)))
    all_goals (refine is_ex ?_; exact KJ_done (by first | exact Or.inl rfl | exact Or.inr rfl) rfl (by (repeat' (first | exact Rvs.nil | (apply Rvs.tmp; exact rfl))); first | done | fail) () (by rfl) (Ent.of (by (repeat' (first | exact Pick.nil | apply Pick.cons | exact Sel.here | apply Sel.there)); first | done | fail) (by (repeat' (first | exact DropTo.refl | apply DropTo.there)); first | done | fail)))
theorem rsum_ct (l : List UInt8) (hl : l.length < 4611686018427387904) : Ct Tryd.prog W 120 [strV l] [] (fun _ : Unit => .int .u32 (crcSum l)) (fun _ => []) := by
  have c1 : Ct Tryd.prog W 132 [.int .u32 0, strV l] [] (fun _ : Unit => .int .u32 (crcSum l)) (fun _ => []) := (rextend_ct 0 (by omega) l hl).val fun _ => by rw [crcSum_bits]
  refine Ct.enter Tryd.func120 rfl Tryd.ntmps120 (by simp) (fun R => ?_)
  repeat' (first 
    | refine KJ_stp (by first | constructor | fail) ?_
    | (refine is_oper ?_; first | (refine is_call ?_; first | (refine KJ_call (by (repeat' (first | exact Evs.nil | refine Evs.cons rfl ?_)); first | done | fail) c1 (by (repeat' (first | exact Pick.nil | apply Pick.cons | exact Sel.here | apply Sel.there)); first | done | fail) rfl (fun _ => ?_))) | (refine KJ_ek rfl ?_) | (refine KJ_ek0 ?_))
    | (refine is_ek ?_; first | (refine ek_move ?_; first | (refine EK_ev (Ev_move rfl) ?_)) | (refine ek_assign ?_; first | (refine EK_ev (Ev_assign rfl) ?_)))
    | (refine is_ex ?_; first | (refine KJ_blk_exit' rfl ?_))
    | (refine is_code ?_; first | (refine KJ_cond_dec rfl (fun _ => ?_) (fun _ => ?_) <;> first | (exfalso; omega) | skip) | (refine KJ_cond_t rfl ?_) | (refine KJ_cond_f rfl ?_)))
  all_goals (refine is_ex ?_; exact KJ_done (by first | exact Or.inl rfl | exact Or.inr rfl) rfl (by (repeat' (first | exact Rvs.nil | (apply Rvs.tmp; exact rfl))); first | done | fail) () (by rfl) (Ent.of (by (repeat' (first | exact Pick.nil | apply Pick.cons | exact Sel.here | apply Sel.there)); first | done | fail) (by (repeat' (first | exact DropTo.refl | apply DropTo.there)); first | done | fail)))
set_option maxRecDepth 100000 in
theorem rlow_ct (x : Nat) (hx : x < 2 ^ 64) (n : Nat) (hn0 : 0 < n) (hn : n ≤ 8) : Ct Tryd.prog W 119 [.int .u64 (x : Nat), .int .i64 (n : Nat)] [] (fun _ : Unit => strV (putB (x : Nat) n)) (fun _ => []) := by
  refine Ct.enter Tryd.func119 rfl Tryd.ntmps119 (by simp) (fun R => ?_)
  repeat' (first 
    | refine KJ_stp (by first | constructor | fail) ?_
    | (refine is_oper ?_; first | (refine KJ_ek rfl ?_) | (refine KJ_ek0 ?_))
    | (refine is_ek ?_; first | (refine ek_move ?_; first | (refine EK_ev (Ev_move rfl) ?_)) | (refine ek_assign ?_; first | (refine EK_ev (Ev_assign rfl) ?_)) | (refine ek_conv ?_; first | (refine EK_ev (Ev_convI64 rfl (by omega)) ?_) | (refine EK_ev (Ev_convI rfl) ?_) | (refine EK_ev (Ev_convS rfl) ?_)) | (refine ek_add ?_; first | (refine EK_ev (Ev_addI rfl rfl (by omega)) ?_) | (refine EK_ev (Ev_addS rfl rfl (by simp <;> omega)) ?_) | (refine EK_ev (Ev_add rfl rfl) ?_)) | (refine ek_quo ?_; first | (refine EK_ev (Ev_quoI rfl rfl (by omega)) ?_) | (refine EK_ev (Ev_quo rfl rfl (by omega)) ?_)) | (refine ek_lss ?_; first | (refine EK_ev (Ev_lssI rfl rfl) ?_) | (refine EK_ev (Ev_lssS rfl rfl) ?_)))
    | (refine is_ex ?_; first | (refine KJ_blk_exit' rfl ?_))
    | (refine is_code ?_; first | (refine KJ_cond_dec rfl (fun _ => ?_) (fun _ => ?_) <;> first | (exfalso; omega) | skip) | (refine KJ_cond_t rfl ?_) | (refine KJ_cond_f rfl ?_)))
  refine KJ_loop (fun i : {y : Nat × Value // y.1 ≤ n} => [(0, .int .u64 ((x / 256 ^ i.1.1 : Nat) : Int)), (1, .int .i64 (n : Nat)), (5, i.1.2), (6, .int .i64 (i.1.1 : Nat))]) (fun i => [] ++ [rowP i.1.2 5 1 i.1.1 (bvs (putB (x : Nat) i.1.1))] ++ R) (fun i => n - i.1.1) ⟨(0, .slice none 0 0), by omega⟩ ?_ (fun g q => nilrow3 (H := []) g q) (fun ⟨⟨k, v⟩, hk⟩ => ?_)
  · have e : ((x / 256 ^ 0 : Nat) : Int) = (x : Nat) := by simp
    dsimp only
    rw [e]
    exact (by (repeat' (first | exact Subs.nil | refine Subs.cons rfl ?_)); first | done | fail)
  dsimp only at hk ⊢
  by_cases hlt : k < n
  · have hxk : x / 256 ^ k < 2 ^ 64 := Nat.lt_of_le_of_lt (Nat.div_le_self _ _) hx
    have hcv : IntKind.u8.wrap ((x / 256 ^ k : Nat) : Int) = (((byteAt (x : Nat) k).toNat : Nat) : Int) := by
      rw [u8_wrap, byteAt_div _ _ (by omega), UInt8.toNat_ofNat']
      congr 1
      omega
    have hq : IntKind.u64.wrap (((x / 256 ^ k : Nat) : Int).tdiv 256) = ((x / 256 ^ (k + 1) : Nat) : Int) := by
      rw [u64_tdiv _ hxk, Nat.div_div_eq_div_mul, Nat.pow_succ]
    have hnx : bvs (putB (x : Nat) k) ++ [.int .u8 ((byteAt (x : Nat) k).toNat : Int)] = bvs (putB (x : Nat) (k + 1)) := by rw [putB_next]; simp [bvs, bv]
    repeat' (first 
    | refine KJ_stp (by first | constructor | fail) ?_
    | (refine is_oper ?_; first | (refine is_append ?_; first | (refine KJ_append (a2 := 0) rfl rfl (by rfl) (by omega) (by (repeat' (first | exact Sel.here | apply Sel.there)); first | done | fail) (Src.cells (i := 1) (by (repeat' (first | exact Sel.here | apply Sel.there)); first | done | fail) (by (repeat' (first | exact Cut.nil | apply Cut.cons | apply Cut.skip)); first | done | fail)) (by rfl) (by omega) (by (repeat' (first | exact Ones.nil | exact Ones_bvs _ | refine Ones.cons rfl ?_)); first | done | fail) (by omega) (by omega) rfl rfl (fun gw cw => ?_))) | (refine is_bslice ?_; first | (refine KJ_bslice1 rfl (by first | exact CellsOf.agg | exact CellsOf.one rfl) (by rfl) (by omega) rfl (fun _ => ?_))) | (refine KJ_ek rfl ?_) | (refine KJ_ek0 ?_))
    | (refine is_ek ?_; first | (refine ek_move ?_; first | (refine EK_ev (Ev_move rfl) ?_)) | (refine ek_assign ?_; first | (refine EK_ev (Ev_assign rfl) ?_)) | (refine ek_conv ?_; first | (refine EK_ev (Ev_convI_v rfl hcv) ?_) | (refine EK_ev (Ev_convI64 rfl (by omega)) ?_) | (refine EK_ev (Ev_convI rfl) ?_) | (refine EK_ev (Ev_convS rfl) ?_)) | (refine ek_add ?_; first | (refine EK_ev (Ev_addI_v (r := ((k + 1 : Nat) : Int)) rfl rfl (by omega) (by omega)) ?_) | (refine EK_ev (Ev_addI rfl rfl (by omega)) ?_) | (refine EK_ev (Ev_addS rfl rfl (by simp <;> omega)) ?_) | (refine EK_ev (Ev_add rfl rfl) ?_)) | (refine ek_quo ?_; first | (refine EK_ev (Ev_quo_v rfl rfl (by omega) hq) ?_) | (refine EK_ev (Ev_quoI rfl rfl (by omega)) ?_) | (refine EK_ev (Ev_quo rfl rfl (by omega)) ?_)) | (refine ek_lss ?_; first | (refine EK_ev (Ev_lssI rfl rfl) ?_) | (refine EK_ev (Ev_lssS rfl rfl) ?_)))
    | (refine is_ex ?_; first | (refine KJ_blk_exit' rfl ?_))
    | (refine is_code ?_; first | (refine KJ_cond_dec rfl (fun _ => ?_) (fun _ => ?_) <;> first | (exfalso; omega) | skip) | (refine KJ_cond_t rfl ?_) | (refine KJ_cond_f rfl ?_)))
    all_goals rw [hnx]
    all_goals refine KJ_again ⟨(k + 1, _), by omega⟩ (by show n - (k + 1) < n - k; omega) (by (repeat' (first | exact Subs.nil | refine Subs.cons rfl ?_)); first | done | fail) (Ent.of (by (repeat' (first | exact Pick.nil | apply Pick.cons | exact Sel.here | apply Sel.there)); first | done | fail) (by (repeat' (first | exact DropTo.refl | apply DropTo.there)); first | done | fail))
  · have hkn : k = n := by omega
    subst hkn
    refine KJ.row_shape3 (v := v) (by (repeat' (first | exact Sel.here | apply Sel.there)); first | done | fail) hn0 (fun g c e => ?_)
    subst e
    repeat' (first 
    | refine KJ_stp (by first | constructor | fail) ?_
    | (refine is_oper ?_; first | (refine KJ_ek rfl ?_) | (refine KJ_ek0 ?_))
    | (refine is_ek ?_; first | (refine ek_move ?_; first | (refine EK_ev (Ev_move rfl) ?_)) | (refine ek_assign ?_; first | (refine EK_ev (Ev_assign rfl) ?_)) | (refine ek_conv ?_; first | (refine EK_ev (Ev_bytesRow rfl (by (repeat' (first | exact Sel.here | apply Sel.there)); first | done | fail)) ?_) | (refine EK_ev (Ev_convI64 rfl (by omega)) ?_) | (refine EK_ev (Ev_convI rfl) ?_) | (refine EK_ev (Ev_convS rfl) ?_)) | (refine ek_add ?_; first | (refine EK_ev (Ev_addI rfl rfl (by omega)) ?_) | (refine EK_ev (Ev_addS rfl rfl (by simp <;> omega)) ?_) | (refine EK_ev (Ev_add rfl rfl) ?_)) | (refine ek_quo ?_; first | (refine EK_ev (Ev_quoI rfl rfl (by omega)) ?_) | (refine EK_ev (Ev_quo rfl rfl (by omega)) ?_)) | (refine ek_lss ?_; first | (refine EK_ev (Ev_lssI rfl rfl) ?_) | (refine EK_ev (Ev_lssS rfl rfl) ?_)))
    | (refine is_ex ?_; first | (refine KJ_blk_exit' rfl ?_))
    | (refine is_code ?_; first | (refine KJ_cond_dec rfl (fun _ => ?_) (fun _ => ?_) <;> first | (exfalso; omega) | skip) | (refine KJ_cond_t rfl ?_) | (refine KJ_cond_f rfl ?_)))
    all_goals (refine is_ex ?_; exact KJ_done (by first | exact Or.inl rfl | exact Or.inr rfl) rfl (by (repeat' (first | exact Rvs.nil | (apply Rvs.tmp; exact rfl))); first | done | fail) () (by rfl) (Ent.of (by (repeat' (first | exact Pick.nil | apply Pick.cons | exact Sel.here | apply Sel.there)); first | done | fail) (by (repeat' (first | exact DropTo.refl | apply DropTo.there)); first | done | fail)))
end
end Go.Proofs.YteklldbfdmaafaaDoor
/-
  The document's sectors (remitref07): Seal, Open, Ends.
-/
namespace Go.Proofs.YteklldbfdmaafaaDoor
open Go Go.RowKit
section
variable {P : Program} {W : World} {n d m : Nat} {k : KK} {E : Env} {H : List SP} {x y z : Operand} {t e : TypeId}
theorem KJ_makeBytesV {C : Int} {l : List UInt8} (hx : Env.ev E x = some (.int .i64 C)) (hy : Env.ev E y = some (.int .i64 C)) [hu : UIs P t (.slice e)] [hs : SzIs P e 1] [hb : ByIs P e 1] [hz : ZcIs P e [.int .u8 0]] (_ : t = t) (hC : C = (m : Int)) (hm : m ≤ 140737488355328) (hl : List.replicate m 0 = l) (hn : Nat.blt d n = true)
    (h : ∀ g, KJ W n k ((d, .slice (some ⟨g, 0, none⟩) m m) :: E) (cellsP g (bvs l) e :: H)) : KJ W n (.oper P (.makeSlice t x y) (some d) k) E H := by
  subst hl; exact KJ_makeBytes hx hy hC hm hn h
theorem Ev_sliceStr_v7 {l r : List UInt8} {i j : Int} {ki kj : IntKind} (hx : Env.ev E x = some (strV l)) (hy : Env.ev E y = some (.int ki i)) (hz : Env.ev E z = some (.int kj j)) [hu : UIs P t .string] (hb : 0 ≤ i ∧ i ≤ j ∧ j ≤ l.length) (h : (l.take j.toNat).drop i.toNat = r) : Ev P W n E H (.slice t x (some y) (some z) none) (strV r) := by
  subst h; exact Ev_sliceStr hx hy hz hb
end
section
variable {W : World}
theorem rseal_zero (pl : List UInt8) : Ct Tryd.prog W 90 [.int .u64 0, strV pl] [] (fun _ : Unit => .tuple #[strV [], .int .i64 6]) (fun _ => []) := by
  refine Ct.enter Tryd.func90 rfl Tryd.ntmps90 (by simp) (fun R => ?_)
  repeat' (first 
    | refine KJ_stp (by first | constructor | fail) ?_
    | (refine is_oper ?_; first | (refine KJ_ek rfl ?_) | (refine KJ_ek0 ?_))
    | (refine is_ek ?_; first | (refine ek_move ?_; first | (refine EK_ev (Ev_move rfl) ?_)) | (refine ek_assign ?_; first | (refine EK_ev (Ev_assign rfl) ?_)) | (refine ek_conv ?_; first | (refine EK_ev (Ev_convI64 rfl (by omega)) ?_) | (refine EK_ev (Ev_convI rfl) ?_) | (refine EK_ev (Ev_convS rfl) ?_)) | (refine ek_len ?_; first | (refine EK_ev (Ev_len_str rfl) ?_) | (refine EK_ev (Ev_len_slice rfl) ?_) | (refine EK_ev (Ev_len_arr rfl) ?_) | (refine EK_ev (Ev_len_map rfl (by (repeat' (first | exact Sel.here | apply Sel.there)); first | done | fail)) ?_)) | (refine ek_add ?_; first | (refine EK_ev (Ev_addI rfl rfl (by omega)) ?_) | (refine EK_ev (Ev_addS rfl rfl (by simp <;> omega)) ?_) | (refine EK_ev (Ev_add rfl rfl) ?_)) | (refine ek_sub ?_; first | (refine EK_ev (Ev_subI rfl rfl (by omega)) ?_) | (refine EK_ev (Ev_sub rfl rfl) ?_)) | (refine ek_eql ?_; first | (refine EK_ev (Ev_eqlI_t rfl rfl rfl) ?_) | (refine EK_ev (Ev_eqlI rfl rfl) ?_) | (refine EK_ev (Ev_eqlS rfl rfl) ?_) | (refine EK_ev (Ev_eqlNil rfl rfl) ?_) | (refine EK_ev (Ev_eqlB rfl rfl) ?_) | (refine EK_ev (Ev_eqlO rfl rfl rfl (fun _ => rfl)) ?_)) | (refine ek_gtr ?_; first | (refine EK_ev (Ev_gtrI rfl rfl) ?_) | (refine EK_ev (Ev_gtrS rfl rfl) ?_)))
    | (refine is_ex ?_; first | (refine KJ_blk_exit' rfl ?_))
    | (refine is_code ?_; first | (refine KJ_cond_dec rfl (fun _ => ?_) (fun _ => ?_) <;> first | (exfalso; omega) | skip) | (refine KJ_cond_t rfl ?_) | (refine KJ_cond_f rfl ?_) | (refine KJ_draws (id := 5) (.op 0 (.op 2 (.op 3 (.op 4 (.op 7 (.op 9 (.op 10 (.op 11 (.alt (.ef 1 [11, 10, 9, 7, 4, 3, 2] (.alt (.ef 5 [11, 10, 9, 7] (.op 6 (.op 8 (.ef 12 [8, 6, 7] (.op 13 (.op 14 (.op 15 .nil))))))) (.ef 12 [7, 4, 3, 2] (.op 13 (.ef 5 [13, 7] (.op 6 (.op 8 (.op 14 (.op 15 .nil))))))))) (.ef 12 [7, 4, 3, 2, 0] (.op 13 (.ef 1 [13, 7, 4, 3, 2] (.ef 5 [13, 7] (.op 6 (.op 8 (.op 14 (.op 15 .nil))))))))))))))))) (by kernel_rfl) (by kernel_rfl) ?_))
    | (refine is_fw ?_; first | (refine FW_open rfl ?_) | (refine FW_nil ?_) | (refine FW_ef rfl ?_) | (refine FW_efg rfl rfl rfl ?_) | (refine FW_alt ?_ ?_))
    | (refine is_fo ?_; first | (refine FO_dec_t rfl rfl (fun _ => ?_) (fun _ => ?_) <;> first | (exfalso; omega) | skip) | (refine FO_dec_f rfl rfl (fun _ => ?_) (fun _ => ?_) <;> first | (exfalso; omega) | skip) | (refine FO_no rfl rfl rfl rfl ?_) | (refine FO_ekg rfl rfl rfl ?_) | (refine FO_ek rfl ?_))
    | (refine is_ro ?_; first | (refine RO_no rfl rfl rfl rfl ?_) | (refine RO_ekg rfl rfl ?_) | (refine RO_ek ?_))
    | (refine is_raw ?_; first | (refine KJ_flow ?_ ?_))
    | (refine AtR_mk rfl ?_)
    | exact Rech.nil
    | (refine Rech_open rfl ?_))
  all_goals (refine is_ex ?_; exact KJ_done (by first | exact Or.inl rfl | exact Or.inr rfl) rfl (by (repeat' (first | exact Rvs.nil | (apply Rvs.tmp; exact rfl))); first | done | fail) () (by rfl) (Ent.of (by (repeat' (first | exact Pick.nil | apply Pick.cons | exact Sel.here | apply Sel.there)); first | done | fail) (by (repeat' (first | exact DropTo.refl | apply DropTo.there)); first | done | fail)))
set_option maxHeartbeats 1000000 in
set_option maxRecDepth 100000 in
theorem rseal_ok (stamp : Nat) (h0 : stamp ≠ 0) (hst : stamp < 2 ^ 64) (pl : List UInt8) (h : pl.length ≤ 234) : Ct Tryd.prog W 90 [.int .u64 (stamp : Nat), strV pl] [] (fun _ : Unit => .tuple #[strV (sealB (stamp : Nat) pl), .int .i64 0]) (fun _ => []) := by
  have q1 : ((stamp : Nat) : Int) ≠ 0 := by omega
  have q2 : decide ((234 : Int) < (pl.length : Nat)) = false := decide_eq_false (by omega)
  have hw : IntKind.u64.wrap (pl.length : Nat) = ((pl.length : Nat) : Int) := u64_of_lt _ (by omega)
  obtain ⟨L8, hL8⟩ : ∃ L, L = putB (stamp : Nat) 8 := ⟨_, rfl⟩
  obtain ⟨L2, hL2⟩ : ∃ L, L = putB ((pl.length : Nat) : Int) 2 := ⟨_, rfl⟩
  obtain ⟨Z, hZ⟩ : ∃ Z : List UInt8, Z = List.replicate (234 - pl.length) 0 := ⟨_, rfl⟩
  have l8 : L8.length = 8 := by rw [hL8, putB_length]
  have l2 : L2.length = 2 := by rw [hL2, putB_length]
  have lz : Z.length = 234 - pl.length := by rw [hZ, List.length_replicate]
  have c8 : Ct Tryd.prog W 119 [.int .u64 (stamp : Nat), .int .i64 8] [] (fun _ : Unit => strV L8) (fun _ => []) := by rw [hL8]; exact rlow_ct stamp hst 8 (by omega) (by omega)
  have c2 : Ct Tryd.prog W 119 [.int .u64 (pl.length : Nat), .int .i64 2] [] (fun _ : Unit => strV L2) (fun _ => []) := by rw [hL2]; exact rlow_ct pl.length (by omega) 2 (by omega) (by omega)
  have hhead : L8 ++ L2 ++ pl ++ Z = sealHead (stamp : Nat) pl := by
    unfold sealHead
    rw [hL8, hL2, hZ, hw]
    simp only [List.append_assoc]
    rfl
  have hsl := sealHead_length ((stamp : Nat) : Int) pl h
  have hcb := crcSum_bounds (sealHead (stamp : Nat) pl)
  obtain ⟨C, hC⟩ : ∃ C : Nat, crcSum (sealHead (stamp : Nat) pl) = (C : Nat) := ⟨(crcSum (sealHead (stamp : Nat) pl)).toNat, by omega⟩
  have hcC : C < 4294967296 := by omega
  have cs : Ct Tryd.prog W 120 [strV (L8 ++ L2 ++ pl ++ Z)] [] (fun _ : Unit => .int .u32 (C : Nat)) (fun _ => []) := by
    rw [hhead, ← hC]; exact rsum_ct _ (by omega)
  have hwc : IntKind.u64.wrap (C : Nat) = ((C : Nat) : Int) := u64_of_lt _ (by omega)
  obtain ⟨L4, hL4⟩ : ∃ L, L = putB (C : Nat) 4 := ⟨_, rfl⟩
  have l4 : L4.length = 4 := by rw [hL4, putB_length]
  have c4 : Ct Tryd.prog W 119 [.int .u64 (C : Nat), .int .i64 4] [] (fun _ : Unit => strV L4) (fun _ => []) := by rw [hL4]; exact rlow_ct C (by omega) 4 (by omega) (by omega)
  have hall : L8 ++ L2 ++ pl ++ Z ++ L4 ++ L8 = sealB (stamp : Nat) pl := by
    rw [seal_concat _ _ h, hhead, hC, hwc, hL4, hL8]
    simp only [List.append_assoc]
  rw [← hall]
  have hZ' : List.replicate (234 - pl.length) (0 : UInt8) = Z := hZ.symm
  clear hall hhead hsl hcb hC hL4 hL8 hL2
  refine Ct.enter Tryd.func90 rfl Tryd.ntmps90 (by simp) (fun R => ?_)
  repeat' (first 
    | refine KJ_stp (by first | constructor | fail) ?_
    | (refine is_oper ?_; first | (refine is_call ?_; first | (refine KJ_call (by (repeat' (first | exact Evs.nil | refine Evs.cons rfl ?_)); first | done | fail) c4 (by (repeat' (first | exact Pick.nil | apply Pick.cons | exact Sel.here | apply Sel.there)); first | done | fail) rfl (fun _ => ?_)) | (refine KJ_call (by (repeat' (first | exact Evs.nil | refine Evs.cons rfl ?_)); first | done | fail) cs (by (repeat' (first | exact Pick.nil | apply Pick.cons | exact Sel.here | apply Sel.there)); first | done | fail) rfl (fun _ => ?_)) | (refine KJ_call (by (repeat' (first | exact Evs.nil | refine Evs.cons rfl ?_)); first | done | fail) c2 (by (repeat' (first | exact Pick.nil | apply Pick.cons | exact Sel.here | apply Sel.there)); first | done | fail) rfl (fun _ => ?_)) | (refine KJ_call (by (repeat' (first | exact Evs.nil | refine Evs.cons rfl ?_)); first | done | fail) c8 (by (repeat' (first | exact Pick.nil | apply Pick.cons | exact Sel.here | apply Sel.there)); first | done | fail) rfl (fun _ => ?_))) | (refine is_mkSlice ?_; first | (refine KJ_makeBytesV (m := 234 - pl.length) rfl rfl rfl (by omega) (by omega) hZ' rfl (fun g => ?_))) | (refine KJ_ek rfl ?_) | (refine KJ_ek0 ?_))
    | (refine is_ek ?_; first | (refine ek_move ?_; first | (refine EK_ev (Ev_move rfl) ?_)) | (refine ek_assign ?_; first | (refine EK_ev (Ev_assign rfl) ?_)) | (refine ek_conv ?_; first | (refine EK_ev (Ev_bytesAll rfl (by (repeat' (first | exact Sel.here | apply Sel.there)); first | done | fail) lz) ?_) | (refine EK_ev (Ev_convI_v rfl hwc) ?_) | (refine EK_ev (Ev_convI_v rfl hw) ?_) | (refine EK_ev (Ev_convI64 rfl (by omega)) ?_) | (refine EK_ev (Ev_convI rfl) ?_) | (refine EK_ev (Ev_convS rfl) ?_)) | (refine ek_len ?_; first | (refine EK_ev (Ev_len_str rfl) ?_) | (refine EK_ev (Ev_len_slice rfl) ?_) | (refine EK_ev (Ev_len_arr rfl) ?_) | (refine EK_ev (Ev_len_map rfl (by (repeat' (first | exact Sel.here | apply Sel.there)); first | done | fail)) ?_)) | (refine ek_add ?_; first | (refine EK_ev (Ev_addS rfl rfl (by first | omega | (simp only [List.length_append]; omega))) ?_) | (refine EK_ev (Ev_addI rfl rfl (by omega)) ?_) | (refine EK_ev (Ev_addS rfl rfl (by simp <;> omega)) ?_) | (refine EK_ev (Ev_add rfl rfl) ?_)) | (refine ek_sub ?_; first | (refine EK_ev (Ev_subI rfl rfl (by omega)) ?_) | (refine EK_ev (Ev_sub rfl rfl) ?_)) | (refine ek_eql ?_; first | (refine EK_ev (Ev_eqlI_f rfl rfl q1) ?_) | (refine EK_ev (Ev_eqlI rfl rfl) ?_) | (refine EK_ev (Ev_eqlS rfl rfl) ?_) | (refine EK_ev (Ev_eqlNil rfl rfl) ?_) | (refine EK_ev (Ev_eqlB rfl rfl) ?_) | (refine EK_ev (Ev_eqlO rfl rfl rfl (fun _ => rfl)) ?_)) | (refine ek_gtr ?_; first | (refine EK_ev (Ev_gtrI_q rfl rfl q2) ?_) | (refine EK_ev (Ev_gtrI rfl rfl) ?_) | (refine EK_ev (Ev_gtrS rfl rfl) ?_)))
    | (refine is_ex ?_; first | (refine KJ_blk_exit' rfl ?_))
    | (refine is_code ?_; first | (refine KJ_cond_dec rfl (fun _ => ?_) (fun _ => ?_) <;> first | (exfalso; omega) | skip) | (refine KJ_cond_t rfl ?_) | (refine KJ_cond_f rfl ?_) | (refine KJ_draws (id := 5) (.op 0 (.op 2 (.op 3 (.op 4 (.op 7 (.op 9 (.op 10 (.op 11 (.alt (.ef 1 [11, 10, 9, 7, 4, 3, 2] (.alt (.ef 5 [11, 10, 9, 7] (.op 6 (.op 8 (.ef 12 [8, 6, 7] (.op 13 (.op 14 (.op 15 .nil))))))) (.ef 12 [7, 4, 3, 2] (.op 13 (.ef 5 [13, 7] (.op 6 (.op 8 (.op 14 (.op 15 .nil))))))))) (.ef 12 [7, 4, 3, 2, 0] (.op 13 (.ef 1 [13, 7, 4, 3, 2] (.ef 5 [13, 7] (.op 6 (.op 8 (.op 14 (.op 15 .nil))))))))))))))))) (by kernel_rfl) (by kernel_rfl) ?_))
    | (refine is_fw ?_; first | (refine FW_open rfl ?_) | (refine FW_nil ?_) | (refine FW_ef rfl ?_) | (refine FW_efg rfl rfl rfl ?_) | (refine FW_alt ?_ ?_))
    | (refine is_fo ?_; first | (refine FO_dec_t rfl rfl (fun _ => ?_) (fun _ => ?_) <;> first | (exfalso; omega) | skip) | (refine FO_dec_f rfl rfl (fun _ => ?_) (fun _ => ?_) <;> first | (exfalso; omega) | skip) | (refine FO_no rfl rfl rfl rfl ?_) | (refine FO_ekg rfl rfl rfl ?_) | (refine FO_ek rfl ?_))
    | (refine is_ro ?_; first | (refine RO_no rfl rfl rfl rfl ?_) | (refine RO_ekg rfl rfl ?_) | (refine RO_ek ?_))
    | (refine is_raw ?_; first | (refine KJ_flow ?_ ?_))
    | (refine AtR_mk rfl ?_)
    | exact Rech.nil
    | (refine Rech_open rfl ?_))
  all_goals (refine is_ex ?_; exact KJ_done (by first | exact Or.inl rfl | exact Or.inr rfl) rfl (by (repeat' (first | exact Rvs.nil | (apply Rvs.tmp; exact rfl))); first | done | fail) () (by rfl) (Ent.of (by (repeat' (first | exact Pick.nil | apply Pick.cons | exact Sel.here | apply Sel.there)); first | done | fail) (by (repeat' (first | exact DropTo.refl | apply DropTo.there)); first | done | fail)))
theorem ropen_len (stamp : Int) (raw : List UInt8) (h : raw.length ≠ 256) : Ct Tryd.prog W 116 [.int .u64 stamp, strV raw] [] (fun _ : Unit => .tuple #[strV [], .bool false]) (fun _ => []) := by
  have q1 : ((raw.length : Nat) : Int) ≠ 256 := by omega
  refine Ct.enter Tryd.func116 rfl Tryd.ntmps116 (by simp) (fun R => ?_)
  repeat' (first 
    | refine KJ_stp (by first | constructor | fail) ?_
    | (refine is_list ?_; first | (refine KJ_guard_dec_t rfl rfl rfl (fun _ => ?_) (fun _ => ?_) <;> first | (exfalso; omega) | skip) | (refine KJ_guard_dec_f rfl rfl rfl (fun _ => ?_) (fun _ => ?_) <;> first | (exfalso; omega) | skip) | (refine KJ_guard_yes rfl rfl ?_) | (refine KJ_guard_no rfl rfl rfl rfl ?_))
    | (refine is_oper ?_; first | (refine KJ_ek rfl ?_) | (refine KJ_ek0 ?_))
    | (refine is_ek ?_; first | (refine ek_move ?_; first | (refine EK_ev (Ev_move rfl) ?_)) | (refine ek_assign ?_; first | (refine EK_ev (Ev_assign rfl) ?_)) | (refine ek_pick ?_; first | (refine EK_ev (Ev_pick_t rfl rfl) ?_) | (refine EK_ev (Ev_pick_f rfl rfl) ?_)) | (refine ek_conv ?_; first | (refine EK_ev (Ev_convI64 rfl (by omega)) ?_) | (refine EK_ev (Ev_convI rfl) ?_) | (refine EK_ev (Ev_convS rfl) ?_)) | (refine ek_extract ?_; first | (refine EK_ev (Ev_extract rfl rfl) ?_)) | (refine ek_len ?_; first | (refine EK_ev (Ev_len_str rfl) ?_) | (refine EK_ev (Ev_len_slice rfl) ?_) | (refine EK_ev (Ev_len_arr rfl) ?_) | (refine EK_ev (Ev_len_map rfl (by (repeat' (first | exact Sel.here | apply Sel.there)); first | done | fail)) ?_)) | (refine ek_add ?_; first | (refine EK_ev (Ev_addI rfl rfl (by omega)) ?_) | (refine EK_ev (Ev_addS rfl rfl (by simp <;> omega)) ?_) | (refine EK_ev (Ev_add rfl rfl) ?_)) | (refine ek_mul ?_; first | (refine EK_ev (Ev_mulI rfl rfl (by omega)) ?_) | (refine EK_ev (Ev_mul rfl rfl) ?_)) | (refine ek_neq ?_; first | (refine EK_ev (Ev_neqI_t rfl rfl q1) ?_) | (refine EK_ev (Ev_neqI rfl rfl) ?_) | (refine EK_ev (Ev_neqS rfl rfl) ?_) | (refine EK_ev (Ev_neqNil rfl rfl) ?_) | (refine EK_ev (Ev_neqB rfl rfl) ?_) | (refine EK_ev (Ev_neqO rfl rfl rfl (fun _ => rfl)) ?_)) | (refine ek_gtr ?_; first | (refine EK_ev (Ev_gtrI rfl rfl) ?_) | (refine EK_ev (Ev_gtrS rfl rfl) ?_)))
    | (refine is_ex ?_; first | (refine KJ_blk_exit' rfl ?_))
    | (refine is_code ?_; first | (refine KJ_cond_dec rfl (fun _ => ?_) (fun _ => ?_) <;> first | (exfalso; omega) | skip) | (refine KJ_cond_t rfl ?_) | (refine KJ_cond_f rfl ?_) | (refine KJ_draws (id := 3) (.op 0 (.op 1 (.op 2 (.op 3 (.op 4 (.op 5 (.op 6 (.op 7 (.op 8 .nil))))))))) (by kernel_rfl) (by kernel_rfl) ?_))
    | (refine is_fw ?_; first | (refine FW_open rfl ?_) | (refine FW_nil ?_) | (refine FW_ef rfl ?_) | (refine FW_efg rfl rfl rfl ?_) | (refine FW_alt ?_ ?_))
    | (refine is_fo ?_; first | (refine FO_dec_t rfl rfl (fun _ => ?_) (fun _ => ?_) <;> first | (exfalso; omega) | skip) | (refine FO_dec_f rfl rfl (fun _ => ?_) (fun _ => ?_) <;> first | (exfalso; omega) | skip) | (refine FO_no rfl rfl rfl rfl ?_) | (refine FO_ekg rfl rfl rfl ?_) | (refine FO_ek rfl ?_))
    | (refine is_ro ?_; first | (refine RO_no rfl rfl rfl rfl ?_) | (refine RO_ekg rfl rfl ?_) | (refine RO_ek ?_))
    | (refine is_raw ?_; first | (refine KJ_flow ?_ ?_))
    | (refine AtR_mk rfl ?_)
    | exact Rech.nil
    | (refine Rech_open rfl ?_))
  all_goals (refine is_ex ?_; exact KJ_done (by first | exact Or.inl rfl | exact Or.inr rfl) rfl (by (repeat' (first | exact Rvs.nil | (apply Rvs.tmp; exact rfl))); first | done | fail) () (by rfl) (Ent.of (by (repeat' (first | exact Pick.nil | apply Pick.cons | exact Sel.here | apply Sel.there)); first | done | fail) (by (repeat' (first | exact DropTo.refl | apply DropTo.there)); first | done | fail)))
set_option maxHeartbeats 1000000 in
theorem ropen_ct (stamp : Nat) (hst : stamp < 2 ^ 64) (raw : List UInt8) : Ct Tryd.prog W 116 [.int .u64 (stamp : Nat), strV raw] [] (fun _ : Unit => .tuple #[strV ((openS (stamp : Nat) raw).getD []), .bool (openS (stamp : Nat) raw).isSome]) (fun _ => []) := by
  by_cases hl : raw.length ≠ 256
  · have e : openS (stamp : Nat) raw = none := by unfold openS; rw [if_pos hl]; split <;> rfl
    rw [e]; exact ropen_len _ raw hl
  have hl : raw.length = 256 := by omega
  have q1 : ((raw.length : Nat) : Int) = 256 := by omega
  obtain ⟨c8, h8⟩ : ∃ c, raw[8]? = some c := ⟨_, List.getElem?_eq_getElem (by omega)⟩
  obtain ⟨c9, h9⟩ : ∃ c, raw[9]? = some c := ⟨_, List.getElem?_eq_getElem (by omega)⟩
  have hN : openN raw = c8.toNat + 256 * c9.toNat := by rw [openN_val]; simp [List.getD, h8, h9]
  have b8 := UInt8.toNat_lt c8
  have b9 := UInt8.toNat_lt c9
  have hm : (256 : Int) * ((c9.toNat : Nat) : Int) = ((256 * c9.toNat : Nat) : Int) := by omega
  have ha : ((c8.toNat : Nat) : Int) + ((256 * c9.toNat : Nat) : Int) = ((openN raw : Nat) : Int) := by rw [hN]; omega
  have i8 : raw[(8 : Int).toNat]? = some c8 := h8
  have i9 : raw[(9 : Int).toNat]? = some c9 := h9
  have hn : openN raw < 65536 + 256 := by omega
  obtain ⟨n, hnn⟩ : ∃ n, n = openN raw := ⟨_, rfl⟩
  by_cases hbig : 234 < openN raw
  · have q2 : decide ((234 : Int) < ((n : Nat) : Int)) = true := decide_eq_true (by omega)
    have e : openS (stamp : Nat) raw = none := by unfold openS; rw [if_neg (show ¬ raw.length ≠ 256 by omega), if_pos hbig]; split <;> rfl
    rw [e]
    rw [← hnn] at ha hn
    refine Ct.enter Tryd.func116 rfl Tryd.ntmps116 (by simp) (fun R => ?_)
    repeat' (first 
    | refine KJ_stp (by first | constructor | fail) ?_
    | (refine is_list ?_; first | (refine KJ_guard_dec_t rfl rfl rfl (fun _ => ?_) (fun _ => ?_) <;> first | (exfalso; omega) | skip) | (refine KJ_guard_dec_f rfl rfl rfl (fun _ => ?_) (fun _ => ?_) <;> first | (exfalso; omega) | skip) | (refine KJ_guard_yes rfl rfl ?_) | (refine KJ_guard_no rfl rfl rfl rfl ?_))
    | (refine is_oper ?_; first | (refine KJ_ek rfl ?_) | (refine KJ_ek0 ?_))
    | (refine is_ek ?_; first | (refine ek_move ?_; first | (refine EK_ev (Ev_move rfl) ?_)) | (refine ek_assign ?_; first | (refine EK_ev (Ev_assign rfl) ?_)) | (refine ek_pick ?_; first | (refine EK_ev (Ev_pick_t rfl rfl) ?_) | (refine EK_ev (Ev_pick_f rfl rfl) ?_)) | (refine ek_conv ?_; first | (refine EK_ev (Ev_convI64 rfl (by omega)) ?_) | (refine EK_ev (Ev_convI rfl) ?_) | (refine EK_ev (Ev_convS rfl) ?_)) | (refine ek_extract ?_; first | (refine EK_ev (Ev_extract rfl rfl) ?_)) | (refine ek_index ?_; first | (refine EK_ev (Ev_indexStr rfl rfl (by omega) i9) ?_) | (refine EK_ev (Ev_indexStr rfl rfl (by omega) i8) ?_)) | (refine ek_len ?_; first | (refine EK_ev (Ev_len_str rfl) ?_) | (refine EK_ev (Ev_len_slice rfl) ?_) | (refine EK_ev (Ev_len_arr rfl) ?_) | (refine EK_ev (Ev_len_map rfl (by (repeat' (first | exact Sel.here | apply Sel.there)); first | done | fail)) ?_)) | (refine ek_add ?_; first | (refine EK_ev (Ev_addI_v rfl rfl ha (by omega)) ?_) | (refine EK_ev (Ev_addI rfl rfl (by omega)) ?_) | (refine EK_ev (Ev_addS rfl rfl (by simp <;> omega)) ?_) | (refine EK_ev (Ev_add rfl rfl) ?_)) | (refine ek_mul ?_; first | (refine EK_ev (Ev_mulI_v rfl rfl hm (by omega)) ?_) | (refine EK_ev (Ev_mulI rfl rfl (by omega)) ?_) | (refine EK_ev (Ev_mul rfl rfl) ?_)) | (refine ek_neq ?_; first | (refine EK_ev (Ev_neqI_f rfl rfl q1) ?_) | (refine EK_ev (Ev_neqI rfl rfl) ?_) | (refine EK_ev (Ev_neqS rfl rfl) ?_) | (refine EK_ev (Ev_neqNil rfl rfl) ?_) | (refine EK_ev (Ev_neqB rfl rfl) ?_) | (refine EK_ev (Ev_neqO rfl rfl rfl (fun _ => rfl)) ?_)) | (refine ek_gtr ?_; first | (refine EK_ev (Ev_gtrI_q rfl rfl q2) ?_) | (refine EK_ev (Ev_gtrI rfl rfl) ?_) | (refine EK_ev (Ev_gtrS rfl rfl) ?_)))
    | (refine is_ex ?_; first | (refine KJ_blk_exit' rfl ?_))
    | (refine is_code ?_; first | (refine KJ_cond_dec rfl (fun _ => ?_) (fun _ => ?_) <;> first | (exfalso; omega) | skip) | (refine KJ_cond_t rfl ?_) | (refine KJ_cond_f rfl ?_) | (refine KJ_draws (id := 3) (.op 0 (.op 1 (.op 2 (.op 3 (.op 4 (.op 5 (.op 6 (.op 7 (.op 8 .nil))))))))) (by kernel_rfl) (by kernel_rfl) ?_))
    | (refine is_fw ?_; first | (refine FW_open rfl ?_) | (refine FW_nil ?_) | (refine FW_ef rfl ?_) | (refine FW_efg rfl rfl rfl ?_) | (refine FW_alt ?_ ?_))
    | (refine is_fo ?_; first | (refine FO_dec_t rfl rfl (fun _ => ?_) (fun _ => ?_) <;> first | (exfalso; omega) | skip) | (refine FO_dec_f rfl rfl (fun _ => ?_) (fun _ => ?_) <;> first | (exfalso; omega) | skip) | (refine FO_no rfl rfl rfl rfl ?_) | (refine FO_ekg rfl rfl rfl ?_) | (refine FO_ek rfl ?_))
    | (refine is_ro ?_; first | (refine RO_no rfl rfl rfl rfl ?_) | (refine RO_ekg rfl rfl ?_) | (refine RO_ek ?_))
    | (refine is_raw ?_; first | (refine KJ_flow ?_ ?_))
    | (refine AtR_mk rfl ?_)
    | exact Rech.nil
    | (refine Rech_open rfl ?_))
    all_goals (refine is_ex ?_; exact KJ_done (by first | exact Or.inl rfl | exact Or.inr rfl) rfl (by (repeat' (first | exact Rvs.nil | (apply Rvs.tmp; exact rfl))); first | done | fail) () (by rfl) (Ent.of (by (repeat' (first | exact Pick.nil | apply Pick.cons | exact Sel.here | apply Sel.there)); first | done | fail) (by (repeat' (first | exact DropTo.refl | apply DropTo.there)); first | done | fail)))
  · have q2 : decide ((234 : Int) < ((n : Nat) : Int)) = false := decide_eq_false (by omega)
    have hP : (raw.take (((10 + n : Nat) : Int)).toNat).drop (10 : Int).toNat = openP raw := by rw [Int.toNat_natCast, hnn]; rfl
    have hPl : (openP raw).length ≤ 234 := by rw [openP_length raw hl (by omega)]; omega
    rw [← hnn] at ha hn
    obtain ⟨pl, hpl⟩ : ∃ pl, pl = openP raw := ⟨_, rfl⟩
    have e : openS (stamp : Nat) raw = if ((stamp : Nat) : Int) = 0 then none else if sealB (stamp : Nat) pl = raw then some pl else none := by
      unfold openS
      rw [if_neg (show ¬ raw.length ≠ 256 by omega), if_neg hbig, hpl]
    rw [← hpl] at hP hPl
    rw [e]
    by_cases h0 : stamp = 0
    · subst h0
      rw [if_pos (by simp)]
      have c1 := rseal_zero (W := W) pl
      refine Ct.enter Tryd.func116 rfl Tryd.ntmps116 (by simp) (fun R => ?_)
      repeat' (first 
    | refine KJ_stp (by first | constructor | fail) ?_
    | (refine is_list ?_; first | (refine KJ_guard_dec_t rfl rfl rfl (fun _ => ?_) (fun _ => ?_) <;> first | (exfalso; omega) | skip) | (refine KJ_guard_dec_f rfl rfl rfl (fun _ => ?_) (fun _ => ?_) <;> first | (exfalso; omega) | skip) | (refine KJ_guard_yes rfl rfl ?_) | (refine KJ_guard_no rfl rfl rfl rfl ?_))
    | (refine is_oper ?_; first | (refine is_call ?_; first | (refine KJ_call (by (repeat' (first | exact Evs.nil | refine Evs.cons rfl ?_)); first | done | fail) c1 (by (repeat' (first | exact Pick.nil | apply Pick.cons | exact Sel.here | apply Sel.there)); first | done | fail) rfl (fun _ => ?_))) | (refine KJ_ek rfl ?_) | (refine KJ_ek0 ?_))
    | (refine is_ek ?_; first | (refine ek_move ?_; first | (refine EK_ev (Ev_move rfl) ?_)) | (refine ek_assign ?_; first | (refine EK_ev (Ev_assign rfl) ?_)) | (refine ek_pick ?_; first | (refine EK_ev (Ev_pick_t rfl rfl) ?_) | (refine EK_ev (Ev_pick_f rfl rfl) ?_)) | (refine ek_conv ?_; first | (refine EK_ev (Ev_convI64 rfl (by omega)) ?_) | (refine EK_ev (Ev_convI rfl) ?_) | (refine EK_ev (Ev_convS rfl) ?_)) | (refine ek_extract ?_; first | (refine EK_ev (Ev_extract rfl rfl) ?_)) | (refine ek_index ?_; first | (refine EK_ev (Ev_indexStr rfl rfl (by omega) i9) ?_) | (refine EK_ev (Ev_indexStr rfl rfl (by omega) i8) ?_)) | (refine ek_slice ?_; first | (refine EK_ev (Ev_sliceStr_v7 rfl rfl rfl (by omega) hP) ?_)) | (refine ek_len ?_; first | (refine EK_ev (Ev_len_str rfl) ?_) | (refine EK_ev (Ev_len_slice rfl) ?_) | (refine EK_ev (Ev_len_arr rfl) ?_) | (refine EK_ev (Ev_len_map rfl (by (repeat' (first | exact Sel.here | apply Sel.there)); first | done | fail)) ?_)) | (refine ek_add ?_; first | (refine EK_ev (Ev_addI_v (r := ((10 + n : Nat) : Int)) rfl rfl (by omega) (by omega)) ?_) | (refine EK_ev (Ev_addI_v rfl rfl ha (by omega)) ?_) | (refine EK_ev (Ev_addI rfl rfl (by omega)) ?_) | (refine EK_ev (Ev_addS rfl rfl (by simp <;> omega)) ?_) | (refine EK_ev (Ev_add rfl rfl) ?_)) | (refine ek_mul ?_; first | (refine EK_ev (Ev_mulI_v rfl rfl hm (by omega)) ?_) | (refine EK_ev (Ev_mulI rfl rfl (by omega)) ?_) | (refine EK_ev (Ev_mul rfl rfl) ?_)) | (refine ek_neq ?_; first | (refine EK_ev (Ev_neqI_t rfl rfl (by decide)) ?_) | (refine EK_ev (Ev_neqI_f rfl rfl q1) ?_) | (refine EK_ev (Ev_neqI rfl rfl) ?_) | (refine EK_ev (Ev_neqS rfl rfl) ?_) | (refine EK_ev (Ev_neqNil rfl rfl) ?_) | (refine EK_ev (Ev_neqB rfl rfl) ?_) | (refine EK_ev (Ev_neqO rfl rfl rfl (fun _ => rfl)) ?_)) | (refine ek_gtr ?_; first | (refine EK_ev (Ev_gtrI_q rfl rfl q2) ?_) | (refine EK_ev (Ev_gtrI rfl rfl) ?_) | (refine EK_ev (Ev_gtrS rfl rfl) ?_)))
    | (refine is_ex ?_; first | (refine KJ_blk_exit' rfl ?_))
    | (refine is_code ?_; first | (refine KJ_cond_dec rfl (fun _ => ?_) (fun _ => ?_) <;> first | (exfalso; omega) | skip) | (refine KJ_cond_t rfl ?_) | (refine KJ_cond_f rfl ?_) | (refine KJ_draws (id := 3) (.op 0 (.op 1 (.op 2 (.op 3 (.op 4 (.op 5 (.op 6 (.op 7 (.op 8 .nil))))))))) (by kernel_rfl) (by kernel_rfl) ?_))
    | (refine is_fw ?_; first | (refine FW_open rfl ?_) | (refine FW_nil ?_) | (refine FW_ef rfl ?_) | (refine FW_efg rfl rfl rfl ?_) | (refine FW_alt ?_ ?_))
    | (refine is_fo ?_; first | (refine FO_dec_t rfl rfl (fun _ => ?_) (fun _ => ?_) <;> first | (exfalso; omega) | skip) | (refine FO_dec_f rfl rfl (fun _ => ?_) (fun _ => ?_) <;> first | (exfalso; omega) | skip) | (refine FO_no rfl rfl rfl rfl ?_) | (refine FO_ekg rfl rfl rfl ?_) | (refine FO_ek rfl ?_))
    | (refine is_ro ?_; first | (refine RO_no rfl rfl rfl rfl ?_) | (refine RO_ekg rfl rfl ?_) | (refine RO_ek ?_))
    | (refine is_raw ?_; first | (refine KJ_flow ?_ ?_))
    | (refine AtR_mk rfl ?_)
    | exact Rech.nil
    | (refine Rech_open rfl ?_))
      all_goals (refine is_ex ?_; exact KJ_done (by first | exact Or.inl rfl | exact Or.inr rfl) rfl (by (repeat' (first | exact Rvs.nil | (apply Rvs.tmp; exact rfl))); first | done | fail) () (by rfl) (Ent.of (by (repeat' (first | exact Pick.nil | apply Pick.cons | exact Sel.here | apply Sel.there)); first | done | fail) (by (repeat' (first | exact DropTo.refl | apply DropTo.there)); first | done | fail)))
    · rw [if_neg (by omega)]
      have c1 := rseal_ok (W := W) stamp h0 hst pl hPl
      by_cases hs : sealB (stamp : Nat) pl = raw
      · rw [if_pos hs]
        refine Ct.enter Tryd.func116 rfl Tryd.ntmps116 (by simp) (fun R => ?_)
        repeat' (first 
    | refine KJ_stp (by first | constructor | fail) ?_
    | (refine is_list ?_; first | (refine KJ_guard_dec_t rfl rfl rfl (fun _ => ?_) (fun _ => ?_) <;> first | (exfalso; omega) | skip) | (refine KJ_guard_dec_f rfl rfl rfl (fun _ => ?_) (fun _ => ?_) <;> first | (exfalso; omega) | skip) | (refine KJ_guard_yes rfl rfl ?_) | (refine KJ_guard_no rfl rfl rfl rfl ?_))
    | (refine is_oper ?_; first | (refine is_call ?_; first | (refine KJ_call (by (repeat' (first | exact Evs.nil | refine Evs.cons rfl ?_)); first | done | fail) c1 (by (repeat' (first | exact Pick.nil | apply Pick.cons | exact Sel.here | apply Sel.there)); first | done | fail) rfl (fun _ => ?_))) | (refine KJ_ek rfl ?_) | (refine KJ_ek0 ?_))
    | (refine is_ek ?_; first | (refine ek_move ?_; first | (refine EK_ev (Ev_move rfl) ?_)) | (refine ek_assign ?_; first | (refine EK_ev (Ev_assign rfl) ?_)) | (refine ek_pick ?_; first | (refine EK_ev (Ev_pick_t rfl rfl) ?_) | (refine EK_ev (Ev_pick_f rfl rfl) ?_)) | (refine ek_conv ?_; first | (refine EK_ev (Ev_convI64 rfl (by omega)) ?_) | (refine EK_ev (Ev_convI rfl) ?_) | (refine EK_ev (Ev_convS rfl) ?_)) | (refine ek_extract ?_; first | (refine EK_ev (Ev_extract rfl rfl) ?_)) | (refine ek_index ?_; first | (refine EK_ev (Ev_indexStr rfl rfl (by omega) i9) ?_) | (refine EK_ev (Ev_indexStr rfl rfl (by omega) i8) ?_)) | (refine ek_slice ?_; first | (refine EK_ev (Ev_sliceStr_v7 rfl rfl rfl (by omega) hP) ?_)) | (refine ek_len ?_; first | (refine EK_ev (Ev_len_str rfl) ?_) | (refine EK_ev (Ev_len_slice rfl) ?_) | (refine EK_ev (Ev_len_arr rfl) ?_) | (refine EK_ev (Ev_len_map rfl (by (repeat' (first | exact Sel.here | apply Sel.there)); first | done | fail)) ?_)) | (refine ek_add ?_; first | (refine EK_ev (Ev_addI_v (r := ((10 + n : Nat) : Int)) rfl rfl (by omega) (by omega)) ?_) | (refine EK_ev (Ev_addI_v rfl rfl ha (by omega)) ?_) | (refine EK_ev (Ev_addI rfl rfl (by omega)) ?_) | (refine EK_ev (Ev_addS rfl rfl (by simp <;> omega)) ?_) | (refine EK_ev (Ev_add rfl rfl) ?_)) | (refine ek_mul ?_; first | (refine EK_ev (Ev_mulI_v rfl rfl hm (by omega)) ?_) | (refine EK_ev (Ev_mulI rfl rfl (by omega)) ?_) | (refine EK_ev (Ev_mul rfl rfl) ?_)) | (refine ek_neq ?_; first | (refine EK_ev (Ev_neqS_f rfl rfl hs) ?_) | (refine EK_ev (Ev_neqI_f rfl rfl (by rfl)) ?_) | (refine EK_ev (Ev_neqI_f rfl rfl q1) ?_) | (refine EK_ev (Ev_neqI rfl rfl) ?_) | (refine EK_ev (Ev_neqS rfl rfl) ?_) | (refine EK_ev (Ev_neqNil rfl rfl) ?_) | (refine EK_ev (Ev_neqB rfl rfl) ?_) | (refine EK_ev (Ev_neqO rfl rfl rfl (fun _ => rfl)) ?_)) | (refine ek_gtr ?_; first | (refine EK_ev (Ev_gtrI_q rfl rfl q2) ?_) | (refine EK_ev (Ev_gtrI rfl rfl) ?_) | (refine EK_ev (Ev_gtrS rfl rfl) ?_)))
    | (refine is_ex ?_; first | (refine KJ_blk_exit' rfl ?_))
    | (refine is_code ?_; first | (refine KJ_cond_dec rfl (fun _ => ?_) (fun _ => ?_) <;> first | (exfalso; omega) | skip) | (refine KJ_cond_t rfl ?_) | (refine KJ_cond_f rfl ?_) | (refine KJ_draws (id := 3) (.op 0 (.op 1 (.op 2 (.op 3 (.op 4 (.op 5 (.op 6 (.op 7 (.op 8 .nil))))))))) (by kernel_rfl) (by kernel_rfl) ?_))
    | (refine is_fw ?_; first | (refine FW_open rfl ?_) | (refine FW_nil ?_) | (refine FW_ef rfl ?_) | (refine FW_efg rfl rfl rfl ?_) | (refine FW_alt ?_ ?_))
    | (refine is_fo ?_; first | (refine FO_dec_t rfl rfl (fun _ => ?_) (fun _ => ?_) <;> first | (exfalso; omega) | skip) | (refine FO_dec_f rfl rfl (fun _ => ?_) (fun _ => ?_) <;> first | (exfalso; omega) | skip) | (refine FO_no rfl rfl rfl rfl ?_) | (refine FO_ekg rfl rfl rfl ?_) | (refine FO_ek rfl ?_))
    | (refine is_ro ?_; first | (refine RO_no rfl rfl rfl rfl ?_) | (refine RO_ekg rfl rfl ?_) | (refine RO_ek ?_))
    | (refine is_raw ?_; first | (refine KJ_flow ?_ ?_))
    | (refine AtR_mk rfl ?_)
    | exact Rech.nil
    | (refine Rech_open rfl ?_))
        all_goals (refine is_ex ?_; exact KJ_done (by first | exact Or.inl rfl | exact Or.inr rfl) rfl (by (repeat' (first | exact Rvs.nil | (apply Rvs.tmp; exact rfl))); first | done | fail) () (by rfl) (Ent.of (by (repeat' (first | exact Pick.nil | apply Pick.cons | exact Sel.here | apply Sel.there)); first | done | fail) (by (repeat' (first | exact DropTo.refl | apply DropTo.there)); first | done | fail)))
      · rw [if_neg hs]
        refine Ct.enter Tryd.func116 rfl Tryd.ntmps116 (by simp) (fun R => ?_)
        repeat' (first 
    | refine KJ_stp (by first | constructor | fail) ?_
    | (refine is_list ?_; first | (refine KJ_guard_dec_t rfl rfl rfl (fun _ => ?_) (fun _ => ?_) <;> first | (exfalso; omega) | skip) | (refine KJ_guard_dec_f rfl rfl rfl (fun _ => ?_) (fun _ => ?_) <;> first | (exfalso; omega) | skip) | (refine KJ_guard_yes rfl rfl ?_) | (refine KJ_guard_no rfl rfl rfl rfl ?_))
    | (refine is_oper ?_; first | (refine is_call ?_; first | (refine KJ_call (by (repeat' (first | exact Evs.nil | refine Evs.cons rfl ?_)); first | done | fail) c1 (by (repeat' (first | exact Pick.nil | apply Pick.cons | exact Sel.here | apply Sel.there)); first | done | fail) rfl (fun _ => ?_))) | (refine KJ_ek rfl ?_) | (refine KJ_ek0 ?_))
    | (refine is_ek ?_; first | (refine ek_move ?_; first | (refine EK_ev (Ev_move rfl) ?_)) | (refine ek_assign ?_; first | (refine EK_ev (Ev_assign rfl) ?_)) | (refine ek_pick ?_; first | (refine EK_ev (Ev_pick_t rfl rfl) ?_) | (refine EK_ev (Ev_pick_f rfl rfl) ?_)) | (refine ek_conv ?_; first | (refine EK_ev (Ev_convI64 rfl (by omega)) ?_) | (refine EK_ev (Ev_convI rfl) ?_) | (refine EK_ev (Ev_convS rfl) ?_)) | (refine ek_extract ?_; first | (refine EK_ev (Ev_extract rfl rfl) ?_)) | (refine ek_index ?_; first | (refine EK_ev (Ev_indexStr rfl rfl (by omega) i9) ?_) | (refine EK_ev (Ev_indexStr rfl rfl (by omega) i8) ?_)) | (refine ek_slice ?_; first | (refine EK_ev (Ev_sliceStr_v7 rfl rfl rfl (by omega) hP) ?_)) | (refine ek_len ?_; first | (refine EK_ev (Ev_len_str rfl) ?_) | (refine EK_ev (Ev_len_slice rfl) ?_) | (refine EK_ev (Ev_len_arr rfl) ?_) | (refine EK_ev (Ev_len_map rfl (by (repeat' (first | exact Sel.here | apply Sel.there)); first | done | fail)) ?_)) | (refine ek_add ?_; first | (refine EK_ev (Ev_addI_v (r := ((10 + n : Nat) : Int)) rfl rfl (by omega) (by omega)) ?_) | (refine EK_ev (Ev_addI_v rfl rfl ha (by omega)) ?_) | (refine EK_ev (Ev_addI rfl rfl (by omega)) ?_) | (refine EK_ev (Ev_addS rfl rfl (by simp <;> omega)) ?_) | (refine EK_ev (Ev_add rfl rfl) ?_)) | (refine ek_mul ?_; first | (refine EK_ev (Ev_mulI_v rfl rfl hm (by omega)) ?_) | (refine EK_ev (Ev_mulI rfl rfl (by omega)) ?_) | (refine EK_ev (Ev_mul rfl rfl) ?_)) | (refine ek_neq ?_; first | (refine EK_ev (Ev_neqS_t rfl rfl hs) ?_) | (refine EK_ev (Ev_neqI_f rfl rfl (by rfl)) ?_) | (refine EK_ev (Ev_neqI_f rfl rfl q1) ?_) | (refine EK_ev (Ev_neqI rfl rfl) ?_) | (refine EK_ev (Ev_neqS rfl rfl) ?_) | (refine EK_ev (Ev_neqNil rfl rfl) ?_) | (refine EK_ev (Ev_neqB rfl rfl) ?_) | (refine EK_ev (Ev_neqO rfl rfl rfl (fun _ => rfl)) ?_)) | (refine ek_gtr ?_; first | (refine EK_ev (Ev_gtrI_q rfl rfl q2) ?_) | (refine EK_ev (Ev_gtrI rfl rfl) ?_) | (refine EK_ev (Ev_gtrS rfl rfl) ?_)))
    | (refine is_ex ?_; first | (refine KJ_blk_exit' rfl ?_))
    | (refine is_code ?_; first | (refine KJ_cond_dec rfl (fun _ => ?_) (fun _ => ?_) <;> first | (exfalso; omega) | skip) | (refine KJ_cond_t rfl ?_) | (refine KJ_cond_f rfl ?_) | (refine KJ_draws (id := 3) (.op 0 (.op 1 (.op 2 (.op 3 (.op 4 (.op 5 (.op 6 (.op 7 (.op 8 .nil))))))))) (by kernel_rfl) (by kernel_rfl) ?_))
    | (refine is_fw ?_; first | (refine FW_open rfl ?_) | (refine FW_nil ?_) | (refine FW_ef rfl ?_) | (refine FW_efg rfl rfl rfl ?_) | (refine FW_alt ?_ ?_))
    | (refine is_fo ?_; first | (refine FO_dec_t rfl rfl (fun _ => ?_) (fun _ => ?_) <;> first | (exfalso; omega) | skip) | (refine FO_dec_f rfl rfl (fun _ => ?_) (fun _ => ?_) <;> first | (exfalso; omega) | skip) | (refine FO_no rfl rfl rfl rfl ?_) | (refine FO_ekg rfl rfl rfl ?_) | (refine FO_ek rfl ?_))
    | (refine is_ro ?_; first | (refine RO_no rfl rfl rfl rfl ?_) | (refine RO_ekg rfl rfl ?_) | (refine RO_ek ?_))
    | (refine is_raw ?_; first | (refine KJ_flow ?_ ?_))
    | (refine AtR_mk rfl ?_)
    | exact Rech.nil
    | (refine Rech_open rfl ?_))
        all_goals (refine is_ex ?_; exact KJ_done (by first | exact Or.inl rfl | exact Or.inr rfl) rfl (by (repeat' (first | exact Rvs.nil | (apply Rvs.tmp; exact rfl))); first | done | fail) () (by rfl) (Ent.of (by (repeat' (first | exact Pick.nil | apply Pick.cons | exact Sel.here | apply Sel.there)); first | done | fail) (by (repeat' (first | exact DropTo.refl | apply DropTo.there)); first | done | fail)))
end
end Go.Proofs.YteklldbfdmaafaaDoor
/-
  Rules of the walk with a value of one's choice.
-/
namespace Go.Proofs.YteklldbfdmaafaaDoor
open Go Go.RowKit
section
variable {P : Program} {W : World} {n : Nat} {E : Env} {H : List SP} {t u : TypeId} {x y : Operand} {kd : IntKind}
theorem Ev_rem_w {i j r : Int} (hx : Env.ev E x = some (.int kd i)) (hy : Env.ev E y = some (.int kd j)) (hb : 0 ≤ i ∧ 0 < j) (h : i % j = r) : Ev P W n E H (.binOp .rem t x y u) (.int kd r) := by subst h; exact Ev_remI hx hy hb
theorem Ev_or_w {i j r : Int} (hx : Env.ev E x = some (.int kd i)) (hy : Env.ev E y = some (.int kd j)) (h : bits .or kd i j = r) : Ev P W n E H (.binOp .or t x y u) (.int kd r) := by subst h; exact Ev_or hx hy
end
end Go.Proofs.YteklldbfdmaafaaDoor
