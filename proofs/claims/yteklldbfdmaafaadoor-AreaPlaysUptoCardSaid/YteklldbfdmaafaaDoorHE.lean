/-
  AreR, Kpt, Mrk, Opens, Apart, Open8, Open9, AreS, Liv09, Rdk5, AreP, Facts.
-/
import Derived.Deep.Upon
import Derived.JoinedOf
import Derived.Test.YteklldbfdmaafaaDoorHD
/-
  The document's area (remitref09): contracts over the plain data of the program's own.
-/
namespace Go.Proofs.YteklldbfdmaafaaDoor
open Go Go.RowKit
section
variable {P : Program} {W : World} {n : Nat} {E : Env} {H R : List SP} {x y z : Operand} {t : TypeId} {p off : Nat} {D : Dsk} {k : KK}
/-- a field of the document's disk -/
theorem Ev_loadRef {v : Value} (hx : Env.ev E x = some (.pointer (some ⟨p, off, none⟩))) [hu : ScIs P t] (hs : Sel (RefP p D) H R)
    (hv : ∀ sv wv : Value, [sv, wv, .bool D.off, .bool (decide (0 ≤ D.armed)), .int .i64 (max D.armed 0), .int .i64 D.writes, .int .i64 D.flushes, .int .i64 D.life][off]? = some v) : Ev P W n E H (.load t x) v :=
  Ev.mk fun o ho a w q s => by
    obtain ⟨⟨sv, wv⟩, s2⟩ := (s.perm hs.perm).unpack
    have s3 : St W (cellsP p [sv, wv, .bool D.off, .bool (decide (0 ≤ D.armed)), .int .i64 (max D.armed 0), .int .i64 D.writes, .int .i64 D.flushes, .int .i64 D.life] 97 :: (rowP sv 9 1 D.n (secsV D.img D.n) :: rowP wv 192 2 D.und.length (waysV D.und) :: R)) w := s2
    have hc : w.cell? ⟨p, off, none⟩ = some v := by rw [(s3.blk .here).2.cell]; exact hv sv wv
    obtain ⟨d, hu, hd⟩ := hu.h
    simp [execOp, ho, q.ev hx, run_loadAt_one w hc hu hd, Result.andThen]
theorem Ev_sliceStr_w {l r : List UInt8} {i j : Int} {ki kj : IntKind} (hx : Env.ev E x = some (strV l)) (hy : Env.ev E y = some (.int ki i)) (hz : Env.ev E z = some (.int kj j)) [hu : UIs P t .string] (hb : 0 ≤ i ∧ i ≤ j ∧ j ≤ l.length) (h : (l.take j.toNat).drop i.toNat = r) : Ev P W n E H (.slice t x (some y) (some z) none) (strV r) := by
  subst h; exact Ev_sliceStr hx hy hz hb
end
theorem aw_off (at_ stamp : Int) : ∀ (f : Nat) (D : Dsk) (i : Int) (v : List UInt8), D.off = true → awGo at_ stamp f D i v = (12, D) := by
  intro f D i v h
  have h1 : D.flushE = 12 := by simp [Dsk.flushE, h]
  have h2 : D.flushD = D := by simp [Dsk.flushD, h]
  have h3 : ∀ j s, D.writeE j s = 12 := fun j s => by simp [Dsk.writeE, h]
  have h4 : ∀ j s, D.writeD j s = D := fun j s => by simp [Dsk.writeD, h]
  cases f with
  | zero => simp [awGo, h1, h2]
  | succ f =>
    by_cases hv : v = []
    · simp [awGo, hv, h1, h2]
    · simp [awGo, hv, h3, h4]
theorem aw_keep (at_ stamp : Int) : ∀ (f : Nat) (D : Dsk) (i : Int) (v : List UInt8), D.ok → (awGo at_ stamp f D i v).2.ok ∧ (awGo at_ stamp f D i v).2.und.length ≤ D.und.length + (v.length + 233) / 234 := by
  have hfu : ∀ D : Dsk, D.flushD.und.length ≤ D.und.length := fun D => by
    unfold Dsk.flushD
    split
    · omega
    split
    · rw [Dsk.gone_und]; omega
    · simp
  intro f
  induction f with
  | zero =>
    intro D i v h
    have := hfu D
    exact ⟨Dsk.flushD_ok h, by show D.flushD.und.length ≤ _; omega⟩
  | succ f ih =>
    intro D i v h
    by_cases hv : v = []
    · rw [hv, awGo_nil]
      have := hfu D
      exact ⟨Dsk.flushD_ok h, by show D.flushD.und.length ≤ _; omega⟩
    · have hp := List.length_pos_iff.2 hv
      have hu : awGo at_ stamp (f + 1) D i v = if D.writeE (at_ + i) (sealB stamp (v.take 234)) ≠ 0 then (D.writeE (at_ + i) (sealB stamp (v.take 234)), D.writeD (at_ + i) (sealB stamp (v.take 234)))
          else awGo at_ stamp f (D.writeD (at_ + i) (sealB stamp (v.take 234))) (i + 1) (v.drop 234) := by
        show (if v = [] then _ else _) = _
        rw [if_neg hv]
      rw [hu]
      have h1 := Dsk.writeD_ok h (at_ + i) (sealB stamp (v.take 234))
      have h2 := writeD_und D (at_ + i) (sealB stamp (v.take 234))
      split
      · exact ⟨h1, by dsimp only; omega⟩
      · obtain ⟨h3, h4⟩ := ih _ (i + 1) (v.drop 234) h1
        rw [List.length_drop] at h4
        exact ⟨h3, by omega⟩
theorem areaW_keep {D : Dsk} (h : D.ok) (at_ n stamp : Int) (v : List UInt8) : (areaW D at_ n stamp v).2.ok ∧ (areaW D at_ n stamp v).2.und.length ≤ D.und.length + (v.length + 233) / 234 := by
  unfold areaW
  repeat' split
  · exact ⟨h, by dsimp only; omega⟩
  · exact ⟨h, by dsimp only; omega⟩
  · exact ⟨h, by dsimp only; omega⟩
  · exact ⟨h, by dsimp only; omega⟩
  · exact aw_keep _ _ _ _ _ _ h
section
variable {W : World} {E : Nat → Addr} {p : Nat} {D : Dsk}
theorem r9place_ct (at_ n stamp : Int) (hn : D.n ≤ 65536) : Ct Tryd.prog W 121 [.pointer (some ⟨p, 0, none⟩), .int .i64 at_, .int .i64 n, .int .u64 stamp] [RefP p D] (fun _ : Unit => .bool (D.mayB at_ n && decide (stamp ≠ 0))) (fun _ => [RefP p D]) := by
  have c1 := rsize_ct (W := W) (p := p) (D := D)
  obtain ⟨q, hq⟩ : ∃ q, q = (D.mayB at_ n && decide (stamp ≠ 0)) := ⟨_, rfl⟩
  rw [← hq]
  by_cases h1 : 0 ≤ at_
  rotate_left
  · have q1 : decide (0 ≤ at_) = false := decide_eq_false h1
    have hr : q = false := by rw [hq]; unfold Dsk.mayB; simp [h1]
    rw [hr]
    refine Ct.enter Tryd.func121 rfl Tryd.ntmps121 (by simp) (fun R => ?_)
    repeat' (first 
    | refine KJ_stp (by first | constructor | fail) ?_
    | (refine is_list ?_; first | (refine KJ_guard_dec_t rfl rfl rfl (fun _ => ?_) (fun _ => ?_) <;> first | (exfalso; omega) | skip) | (refine KJ_guard_dec_f rfl rfl rfl (fun _ => ?_) (fun _ => ?_) <;> first | (exfalso; omega) | skip) | (refine KJ_guard_yes rfl rfl ?_) | (refine KJ_guard_no rfl rfl rfl rfl ?_))
    | (refine is_oper ?_; first | (refine KJ_ek rfl ?_) | (refine KJ_ek0 ?_))
    | (refine is_ek ?_; first | (refine ek_move ?_; first | (refine EK_ev (Ev_move rfl) ?_)) | (refine ek_assign ?_; first | (refine EK_ev (Ev_assign rfl) ?_)) | (refine ek_pick ?_; first | (refine EK_ev (Ev_pick_t rfl rfl) ?_) | (refine EK_ev (Ev_pick_f rfl rfl) ?_)) | (refine ek_sub ?_; first | (refine EK_ev (Ev_subI rfl rfl (by omega)) ?_) | (refine EK_ev (Ev_sub rfl rfl) ?_)) | (refine ek_neq ?_; first | (refine EK_ev (Ev_neqI rfl rfl) ?_) | (refine EK_ev (Ev_neqS rfl rfl) ?_) | (refine EK_ev (Ev_neqNil rfl rfl) ?_) | (refine EK_ev (Ev_neqB rfl rfl) ?_) | (refine EK_ev (Ev_neqO rfl rfl rfl (fun _ => rfl)) ?_)) | (refine ek_leq ?_; first | (refine EK_ev (Ev_leqI rfl rfl) ?_) | (refine EK_ev (Ev_leqS rfl rfl) ?_)) | (refine ek_geq ?_; first | (refine EK_ev (Ev_geqI_q rfl rfl q1) ?_) | (refine EK_ev (Ev_geqI rfl rfl) ?_) | (refine EK_ev (Ev_geqS rfl rfl) ?_)))
    | (refine is_ex ?_; first | (refine KJ_blk_exit' rfl ?_))
    | (refine is_code ?_; first | (refine KJ_cond_dec rfl (fun _ => ?_) (fun _ => ?_) <;> first | (exfalso; omega) | skip) | (refine KJ_cond_t rfl ?_) | (refine KJ_cond_f rfl ?_)))
    all_goals (refine is_ex ?_; exact KJ_done (by first | exact Or.inl rfl | exact Or.inr rfl) rfl (by (repeat' (first | exact Rvs.nil | (apply Rvs.tmp; exact rfl))); first | done | fail) () (by rfl) (Ent.of (by (repeat' (first | exact Pick.nil | apply Pick.cons | exact Sel.here | apply Sel.there)); first | done | fail) (by (repeat' (first | exact DropTo.refl | apply DropTo.there)); first | done | fail)))
  have q1 : decide (0 ≤ at_) = true := decide_eq_true h1
  by_cases h2 : 0 ≤ n
  rotate_left
  · have q2 : decide (0 ≤ n) = false := decide_eq_false h2
    have hr : q = false := by rw [hq]; unfold Dsk.mayB; simp [h2]
    rw [hr]
    refine Ct.enter Tryd.func121 rfl Tryd.ntmps121 (by simp) (fun R => ?_)
    repeat' (first 
    | refine KJ_stp (by first | constructor | fail) ?_
    | (refine is_list ?_; first | (refine KJ_guard_dec_t rfl rfl rfl (fun _ => ?_) (fun _ => ?_) <;> first | (exfalso; omega) | skip) | (refine KJ_guard_dec_f rfl rfl rfl (fun _ => ?_) (fun _ => ?_) <;> first | (exfalso; omega) | skip) | (refine KJ_guard_yes rfl rfl ?_) | (refine KJ_guard_no rfl rfl rfl rfl ?_))
    | (refine is_oper ?_; first | (refine KJ_ek rfl ?_) | (refine KJ_ek0 ?_))
    | (refine is_ek ?_; first | (refine ek_move ?_; first | (refine EK_ev (Ev_move rfl) ?_)) | (refine ek_assign ?_; first | (refine EK_ev (Ev_assign rfl) ?_)) | (refine ek_pick ?_; first | (refine EK_ev (Ev_pick_t rfl rfl) ?_) | (refine EK_ev (Ev_pick_f rfl rfl) ?_)) | (refine ek_sub ?_; first | (refine EK_ev (Ev_subI rfl rfl (by omega)) ?_) | (refine EK_ev (Ev_sub rfl rfl) ?_)) | (refine ek_neq ?_; first | (refine EK_ev (Ev_neqI rfl rfl) ?_) | (refine EK_ev (Ev_neqS rfl rfl) ?_) | (refine EK_ev (Ev_neqNil rfl rfl) ?_) | (refine EK_ev (Ev_neqB rfl rfl) ?_) | (refine EK_ev (Ev_neqO rfl rfl rfl (fun _ => rfl)) ?_)) | (refine ek_leq ?_; first | (refine EK_ev (Ev_leqI rfl rfl) ?_) | (refine EK_ev (Ev_leqS rfl rfl) ?_)) | (refine ek_geq ?_; first | (refine EK_ev (Ev_geqI_q rfl rfl q1) ?_) | (refine EK_ev (Ev_geqI_q rfl rfl q2) ?_) | (refine EK_ev (Ev_geqI rfl rfl) ?_) | (refine EK_ev (Ev_geqS rfl rfl) ?_)))
    | (refine is_ex ?_; first | (refine KJ_blk_exit' rfl ?_))
    | (refine is_code ?_; first | (refine KJ_cond_dec rfl (fun _ => ?_) (fun _ => ?_) <;> first | (exfalso; omega) | skip) | (refine KJ_cond_t rfl ?_) | (refine KJ_cond_f rfl ?_)))
    all_goals (refine is_ex ?_; exact KJ_done (by first | exact Or.inl rfl | exact Or.inr rfl) rfl (by (repeat' (first | exact Rvs.nil | (apply Rvs.tmp; exact rfl))); first | done | fail) () (by rfl) (Ent.of (by (repeat' (first | exact Pick.nil | apply Pick.cons | exact Sel.here | apply Sel.there)); first | done | fail) (by (repeat' (first | exact DropTo.refl | apply DropTo.there)); first | done | fail)))
  have q2 : decide (0 ≤ n) = true := decide_eq_true h2
  by_cases h3 : at_ ≤ D.n
  rotate_left
  · have q3 : decide (at_ ≤ (D.n : Int)) = false := decide_eq_false h3
    have hr : q = false := by rw [hq]; unfold Dsk.mayB; simp [h3]
    rw [hr]
    refine Ct.enter Tryd.func121 rfl Tryd.ntmps121 (by simp) (fun R => ?_)
    repeat' (first 
    | refine KJ_stp (by first | constructor | fail) ?_
    | (refine is_list ?_; first | (refine KJ_guard_dec_t rfl rfl rfl (fun _ => ?_) (fun _ => ?_) <;> first | (exfalso; omega) | skip) | (refine KJ_guard_dec_f rfl rfl rfl (fun _ => ?_) (fun _ => ?_) <;> first | (exfalso; omega) | skip) | (refine KJ_guard_yes rfl rfl ?_) | (refine KJ_guard_no rfl rfl rfl rfl ?_))
    | (refine is_oper ?_; first | (refine is_call ?_; first | (refine KJ_call (by (repeat' (first | exact Evs.nil | refine Evs.cons rfl ?_)); first | done | fail) c1 (by (repeat' (first | exact Pick.nil | apply Pick.cons | exact Sel.here | apply Sel.there)); first | done | fail) rfl (fun _ => ?_))) | (refine KJ_ek rfl ?_) | (refine KJ_ek0 ?_))
    | (refine is_ek ?_; first | (refine ek_move ?_; first | (refine EK_ev (Ev_move rfl) ?_)) | (refine ek_assign ?_; first | (refine EK_ev (Ev_assign rfl) ?_)) | (refine ek_pick ?_; first | (refine EK_ev (Ev_pick_t rfl rfl) ?_) | (refine EK_ev (Ev_pick_f rfl rfl) ?_)) | (refine ek_sub ?_; first | (refine EK_ev (Ev_subI rfl rfl (by omega)) ?_) | (refine EK_ev (Ev_sub rfl rfl) ?_)) | (refine ek_neq ?_; first | (refine EK_ev (Ev_neqI rfl rfl) ?_) | (refine EK_ev (Ev_neqS rfl rfl) ?_) | (refine EK_ev (Ev_neqNil rfl rfl) ?_) | (refine EK_ev (Ev_neqB rfl rfl) ?_) | (refine EK_ev (Ev_neqO rfl rfl rfl (fun _ => rfl)) ?_)) | (refine ek_leq ?_; first | (refine EK_ev (Ev_leqI_q rfl rfl q3) ?_) | (refine EK_ev (Ev_leqI rfl rfl) ?_) | (refine EK_ev (Ev_leqS rfl rfl) ?_)) | (refine ek_geq ?_; first | (refine EK_ev (Ev_geqI_q rfl rfl q1) ?_) | (refine EK_ev (Ev_geqI_q rfl rfl q2) ?_) | (refine EK_ev (Ev_geqI rfl rfl) ?_) | (refine EK_ev (Ev_geqS rfl rfl) ?_)))
    | (refine is_ex ?_; first | (refine KJ_blk_exit' rfl ?_))
    | (refine is_code ?_; first | (refine KJ_cond_dec rfl (fun _ => ?_) (fun _ => ?_) <;> first | (exfalso; omega) | skip) | (refine KJ_cond_t rfl ?_) | (refine KJ_cond_f rfl ?_)))
    all_goals (refine is_ex ?_; exact KJ_done (by first | exact Or.inl rfl | exact Or.inr rfl) rfl (by (repeat' (first | exact Rvs.nil | (apply Rvs.tmp; exact rfl))); first | done | fail) () (by rfl) (Ent.of (by (repeat' (first | exact Pick.nil | apply Pick.cons | exact Sel.here | apply Sel.there)); first | done | fail) (by (repeat' (first | exact DropTo.refl | apply DropTo.there)); first | done | fail)))
  have q3 : decide (at_ ≤ (D.n : Int)) = true := decide_eq_true h3
  by_cases h4 : n ≤ (D.n : Int) - at_
  rotate_left
  · have q4 : decide (n ≤ (D.n : Int) - at_) = false := decide_eq_false h4
    have hr : q = false := by rw [hq]; unfold Dsk.mayB; simp [h4]
    rw [hr]
    refine Ct.enter Tryd.func121 rfl Tryd.ntmps121 (by simp) (fun R => ?_)
    repeat' (first 
    | refine KJ_stp (by first | constructor | fail) ?_
    | (refine is_list ?_; first | (refine KJ_guard_dec_t rfl rfl rfl (fun _ => ?_) (fun _ => ?_) <;> first | (exfalso; omega) | skip) | (refine KJ_guard_dec_f rfl rfl rfl (fun _ => ?_) (fun _ => ?_) <;> first | (exfalso; omega) | skip) | (refine KJ_guard_yes rfl rfl ?_) | (refine KJ_guard_no rfl rfl rfl rfl ?_))
    | (refine is_oper ?_; first | (refine is_call ?_; first | (refine KJ_call (by (repeat' (first | exact Evs.nil | refine Evs.cons rfl ?_)); first | done | fail) c1 (by (repeat' (first | exact Pick.nil | apply Pick.cons | exact Sel.here | apply Sel.there)); first | done | fail) rfl (fun _ => ?_))) | (refine KJ_ek rfl ?_) | (refine KJ_ek0 ?_))
    | (refine is_ek ?_; first | (refine ek_move ?_; first | (refine EK_ev (Ev_move rfl) ?_)) | (refine ek_assign ?_; first | (refine EK_ev (Ev_assign rfl) ?_)) | (refine ek_pick ?_; first | (refine EK_ev (Ev_pick_t rfl rfl) ?_) | (refine EK_ev (Ev_pick_f rfl rfl) ?_)) | (refine ek_sub ?_; first | (refine EK_ev (Ev_subI rfl rfl (by omega)) ?_) | (refine EK_ev (Ev_sub rfl rfl) ?_)) | (refine ek_neq ?_; first | (refine EK_ev (Ev_neqI rfl rfl) ?_) | (refine EK_ev (Ev_neqS rfl rfl) ?_) | (refine EK_ev (Ev_neqNil rfl rfl) ?_) | (refine EK_ev (Ev_neqB rfl rfl) ?_) | (refine EK_ev (Ev_neqO rfl rfl rfl (fun _ => rfl)) ?_)) | (refine ek_leq ?_; first | (refine EK_ev (Ev_leqI_q rfl rfl q3) ?_) | (refine EK_ev (Ev_leqI_q rfl rfl q4) ?_) | (refine EK_ev (Ev_leqI rfl rfl) ?_) | (refine EK_ev (Ev_leqS rfl rfl) ?_)) | (refine ek_geq ?_; first | (refine EK_ev (Ev_geqI_q rfl rfl q1) ?_) | (refine EK_ev (Ev_geqI_q rfl rfl q2) ?_) | (refine EK_ev (Ev_geqI rfl rfl) ?_) | (refine EK_ev (Ev_geqS rfl rfl) ?_)))
    | (refine is_ex ?_; first | (refine KJ_blk_exit' rfl ?_))
    | (refine is_code ?_; first | (refine KJ_cond_dec rfl (fun _ => ?_) (fun _ => ?_) <;> first | (exfalso; omega) | skip) | (refine KJ_cond_t rfl ?_) | (refine KJ_cond_f rfl ?_)))
    all_goals (refine is_ex ?_; exact KJ_done (by first | exact Or.inl rfl | exact Or.inr rfl) rfl (by (repeat' (first | exact Rvs.nil | (apply Rvs.tmp; exact rfl))); first | done | fail) () (by rfl) (Ent.of (by (repeat' (first | exact Pick.nil | apply Pick.cons | exact Sel.here | apply Sel.there)); first | done | fail) (by (repeat' (first | exact DropTo.refl | apply DropTo.there)); first | done | fail)))
  have q4 : decide (n ≤ (D.n : Int) - at_) = true := decide_eq_true h4
  have hm : D.mayB at_ n = true := by unfold Dsk.mayB; simp [h1, h2, h3, h4]
  by_cases h5 : stamp = 0
  · have hr : q = false := by rw [hq, hm]; simp [h5]
    rw [hr]
    refine Ct.enter Tryd.func121 rfl Tryd.ntmps121 (by simp) (fun R => ?_)
    repeat' (first 
    | refine KJ_stp (by first | constructor | fail) ?_
    | (refine is_list ?_; first | (refine KJ_guard_dec_t rfl rfl rfl (fun _ => ?_) (fun _ => ?_) <;> first | (exfalso; omega) | skip) | (refine KJ_guard_dec_f rfl rfl rfl (fun _ => ?_) (fun _ => ?_) <;> first | (exfalso; omega) | skip) | (refine KJ_guard_yes rfl rfl ?_) | (refine KJ_guard_no rfl rfl rfl rfl ?_))
    | (refine is_oper ?_; first | (refine is_call ?_; first | (refine KJ_call (by (repeat' (first | exact Evs.nil | refine Evs.cons rfl ?_)); first | done | fail) c1 (by (repeat' (first | exact Pick.nil | apply Pick.cons | exact Sel.here | apply Sel.there)); first | done | fail) rfl (fun _ => ?_))) | (refine KJ_ek rfl ?_) | (refine KJ_ek0 ?_))
    | (refine is_ek ?_; first | (refine ek_move ?_; first | (refine EK_ev (Ev_move rfl) ?_)) | (refine ek_assign ?_; first | (refine EK_ev (Ev_assign rfl) ?_)) | (refine ek_pick ?_; first | (refine EK_ev (Ev_pick_t rfl rfl) ?_) | (refine EK_ev (Ev_pick_f rfl rfl) ?_)) | (refine ek_sub ?_; first | (refine EK_ev (Ev_subI rfl rfl (by omega)) ?_) | (refine EK_ev (Ev_sub rfl rfl) ?_)) | (refine ek_neq ?_; first | (refine EK_ev (Ev_neqI_f rfl rfl h5) ?_) | (refine EK_ev (Ev_neqI rfl rfl) ?_) | (refine EK_ev (Ev_neqS rfl rfl) ?_) | (refine EK_ev (Ev_neqNil rfl rfl) ?_) | (refine EK_ev (Ev_neqB rfl rfl) ?_) | (refine EK_ev (Ev_neqO rfl rfl rfl (fun _ => rfl)) ?_)) | (refine ek_leq ?_; first | (refine EK_ev (Ev_leqI_q rfl rfl q3) ?_) | (refine EK_ev (Ev_leqI_q rfl rfl q4) ?_) | (refine EK_ev (Ev_leqI rfl rfl) ?_) | (refine EK_ev (Ev_leqS rfl rfl) ?_)) | (refine ek_geq ?_; first | (refine EK_ev (Ev_geqI_q rfl rfl q1) ?_) | (refine EK_ev (Ev_geqI_q rfl rfl q2) ?_) | (refine EK_ev (Ev_geqI rfl rfl) ?_) | (refine EK_ev (Ev_geqS rfl rfl) ?_)))
    | (refine is_ex ?_; first | (refine KJ_blk_exit' rfl ?_))
    | (refine is_code ?_; first | (refine KJ_cond_dec rfl (fun _ => ?_) (fun _ => ?_) <;> first | (exfalso; omega) | skip) | (refine KJ_cond_t rfl ?_) | (refine KJ_cond_f rfl ?_)))
    all_goals (refine is_ex ?_; exact KJ_done (by first | exact Or.inl rfl | exact Or.inr rfl) rfl (by (repeat' (first | exact Rvs.nil | (apply Rvs.tmp; exact rfl))); first | done | fail) () (by rfl) (Ent.of (by (repeat' (first | exact Pick.nil | apply Pick.cons | exact Sel.here | apply Sel.there)); first | done | fail) (by (repeat' (first | exact DropTo.refl | apply DropTo.there)); first | done | fail)))
  · have hr : q = true := by rw [hq, hm]; simp [h5]
    rw [hr]
    refine Ct.enter Tryd.func121 rfl Tryd.ntmps121 (by simp) (fun R => ?_)
    repeat' (first 
    | refine KJ_stp (by first | constructor | fail) ?_
    | (refine is_list ?_; first | (refine KJ_guard_dec_t rfl rfl rfl (fun _ => ?_) (fun _ => ?_) <;> first | (exfalso; omega) | skip) | (refine KJ_guard_dec_f rfl rfl rfl (fun _ => ?_) (fun _ => ?_) <;> first | (exfalso; omega) | skip) | (refine KJ_guard_yes rfl rfl ?_) | (refine KJ_guard_no rfl rfl rfl rfl ?_))
    | (refine is_oper ?_; first | (refine is_call ?_; first | (refine KJ_call (by (repeat' (first | exact Evs.nil | refine Evs.cons rfl ?_)); first | done | fail) c1 (by (repeat' (first | exact Pick.nil | apply Pick.cons | exact Sel.here | apply Sel.there)); first | done | fail) rfl (fun _ => ?_))) | (refine KJ_ek rfl ?_) | (refine KJ_ek0 ?_))
    | (refine is_ek ?_; first | (refine ek_move ?_; first | (refine EK_ev (Ev_move rfl) ?_)) | (refine ek_assign ?_; first | (refine EK_ev (Ev_assign rfl) ?_)) | (refine ek_pick ?_; first | (refine EK_ev (Ev_pick_t rfl rfl) ?_) | (refine EK_ev (Ev_pick_f rfl rfl) ?_)) | (refine ek_sub ?_; first | (refine EK_ev (Ev_subI rfl rfl (by omega)) ?_) | (refine EK_ev (Ev_sub rfl rfl) ?_)) | (refine ek_neq ?_; first | (refine EK_ev (Ev_neqI_t rfl rfl h5) ?_) | (refine EK_ev (Ev_neqI rfl rfl) ?_) | (refine EK_ev (Ev_neqS rfl rfl) ?_) | (refine EK_ev (Ev_neqNil rfl rfl) ?_) | (refine EK_ev (Ev_neqB rfl rfl) ?_) | (refine EK_ev (Ev_neqO rfl rfl rfl (fun _ => rfl)) ?_)) | (refine ek_leq ?_; first | (refine EK_ev (Ev_leqI_q rfl rfl q3) ?_) | (refine EK_ev (Ev_leqI_q rfl rfl q4) ?_) | (refine EK_ev (Ev_leqI rfl rfl) ?_) | (refine EK_ev (Ev_leqS rfl rfl) ?_)) | (refine ek_geq ?_; first | (refine EK_ev (Ev_geqI_q rfl rfl q1) ?_) | (refine EK_ev (Ev_geqI_q rfl rfl q2) ?_) | (refine EK_ev (Ev_geqI rfl rfl) ?_) | (refine EK_ev (Ev_geqS rfl rfl) ?_)))
    | (refine is_ex ?_; first | (refine KJ_blk_exit' rfl ?_))
    | (refine is_code ?_; first | (refine KJ_cond_dec rfl (fun _ => ?_) (fun _ => ?_) <;> first | (exfalso; omega) | skip) | (refine KJ_cond_t rfl ?_) | (refine KJ_cond_f rfl ?_)))
    all_goals (refine is_ex ?_; exact KJ_done (by first | exact Or.inl rfl | exact Or.inr rfl) rfl (by (repeat' (first | exact Rvs.nil | (apply Rvs.tmp; exact rfl))); first | done | fail) () (by rfl) (Ent.of (by (repeat' (first | exact Pick.nil | apply Pick.cons | exact Sel.here | apply Sel.there)); first | done | fail) (by (repeat' (first | exact DropTo.refl | apply DropTo.there)); first | done | fail)))
set_option maxHeartbeats 1000000 in
set_option maxRecDepth 100000 in
theorem r9write_ct (hok : D.ok) (hul : D.und.length + 65536 < 1073741823) (at_ n : Int) (st : Nat) (hst : st < 2 ^ 64) (v : List UInt8) : Ct Tryd.prog W 91 [.pointer (some ⟨p, 0, none⟩), .int .i64 at_, .int .i64 n, .int .u64 (st : Nat), strV v] [RefP p D] (fun _ : Unit => .int .i64 ((areaW D at_ n st v).1 : Nat)) (fun _ => [RefP p (areaW D at_ n st v).2]) := by
  have hn := hok.n2
  have c1 := r9place_ct (W := W) (p := p) at_ n (st : Nat) hn
  by_cases hp : (D.mayB at_ n && decide ((st : Int) ≠ 0)) = false
  · have e : areaW D at_ n st v = (6, D) := by
      unfold areaW
      by_cases h1 : D.mayB at_ n = false
      · rw [if_pos h1]
      · rw [if_neg h1, if_pos (by simp at h1; rw [h1] at hp; simpa using hp)]
    rw [e]
    rw [hp] at c1
    refine Ct.enter Tryd.func91 rfl Tryd.ntmps91 (by simp) (fun R => ?_)
    repeat' (first 
    | refine KJ_stp (by first | constructor | fail) ?_
    | (refine is_oper ?_; first | (refine is_call ?_; first | (refine KJ_call (by (repeat' (first | exact Evs.nil | refine Evs.cons rfl ?_)); first | done | fail) c1 (by (repeat' (first | exact Pick.nil | apply Pick.cons | exact Sel.here | apply Sel.there)); first | done | fail) rfl (fun _ => ?_))) | (refine KJ_ek rfl ?_) | (refine KJ_ek0 ?_))
    | (refine is_ek ?_; first | (refine ek_move ?_; first | (refine EK_ev (Ev_move rfl) ?_)) | (refine ek_assign ?_; first | (refine EK_ev (Ev_assign rfl) ?_)) | (refine ek_un ?_; first | (refine EK_ev (Ev_notD rfl) ?_) | (refine EK_ev (Ev_not rfl) ?_) | (refine EK_ev (Ev_neg rfl) ?_)) | (refine ek_extract ?_; first | (refine EK_ev (Ev_extract rfl rfl) ?_)) | (refine ek_len ?_; first | (refine EK_ev (Ev_len_str rfl) ?_) | (refine EK_ev (Ev_len_slice rfl) ?_) | (refine EK_ev (Ev_len_arr rfl) ?_) | (refine EK_ev (Ev_len_map rfl (by (repeat' (first | exact Sel.here | apply Sel.there)); first | done | fail)) ?_)) | (refine ek_min ?_; first | (refine EK_ev (Ev_min rfl rfl) ?_)) | (refine ek_add ?_; first | (refine EK_ev (Ev_addI rfl rfl (by omega)) ?_) | (refine EK_ev (Ev_addS rfl rfl (by simp <;> omega)) ?_) | (refine EK_ev (Ev_add rfl rfl) ?_)) | (refine ek_mul ?_; first | (refine EK_ev (Ev_mulI rfl rfl (by omega)) ?_) | (refine EK_ev (Ev_mul rfl rfl) ?_)) | (refine ek_neq ?_; first | (refine EK_ev (Ev_neqI rfl rfl) ?_) | (refine EK_ev (Ev_neqS rfl rfl) ?_) | (refine EK_ev (Ev_neqNil rfl rfl) ?_) | (refine EK_ev (Ev_neqB rfl rfl) ?_) | (refine EK_ev (Ev_neqO rfl rfl rfl (fun _ => rfl)) ?_)) | (refine ek_lss ?_; first | (refine EK_ev (Ev_lssI rfl rfl) ?_) | (refine EK_ev (Ev_lssS rfl rfl) ?_)) | (refine ek_gtr ?_; first | (refine EK_ev (Ev_gtrI rfl rfl) ?_) | (refine EK_ev (Ev_gtrS rfl rfl) ?_)))
    | (refine is_ex ?_; first | (refine KJ_blk_exit' rfl ?_))
    | (refine is_code ?_; first | (refine KJ_cond_dec rfl (fun _ => ?_) (fun _ => ?_) <;> first | (exfalso; omega) | skip) | (refine KJ_cond_t rfl ?_) | (refine KJ_cond_f rfl ?_)))
    all_goals (refine is_ex ?_; exact KJ_done (by first | exact Or.inl rfl | exact Or.inr rfl) rfl (by (repeat' (first | exact Rvs.nil | (apply Rvs.tmp; exact rfl))); first | done | fail) () (by rfl) (Ent.of (by (repeat' (first | exact Pick.nil | apply Pick.cons | exact Sel.here | apply Sel.there)); first | done | fail) (by (repeat' (first | exact DropTo.refl | apply DropTo.there)); first | done | fail)))
  have hp : (D.mayB at_ n && decide ((st : Int) ≠ 0)) = true := by simpa using hp
  rw [hp] at c1
  have h1 : D.mayB at_ n = true := by rw [Bool.and_eq_true] at hp; exact hp.1
  have h2 : st ≠ 0 := by rw [Bool.and_eq_true] at hp; have := of_decide_eq_true hp.2; omega
  have c2 := room9r_ct (W := W) n
  by_cases h3 : roomI n < (v.length : Int)
  · have e : areaW D at_ n st v = (3, D) := by unfold areaW; rw [if_neg (by rw [h1]; simp), if_neg (by omega), if_pos h3]
    rw [e]
    have q3 : decide (roomI n < (v.length : Int)) = true := decide_eq_true h3
    refine Ct.enter Tryd.func91 rfl Tryd.ntmps91 (by simp) (fun R => ?_)
    repeat' (first 
    | refine KJ_stp (by first | constructor | fail) ?_
    | (refine is_oper ?_; first | (refine is_call ?_; first | (refine KJ_call (by (repeat' (first | exact Evs.nil | refine Evs.cons rfl ?_)); first | done | fail) c2 (by (repeat' (first | exact Pick.nil | apply Pick.cons | exact Sel.here | apply Sel.there)); first | done | fail) rfl (fun _ => ?_)) | (refine KJ_call (by (repeat' (first | exact Evs.nil | refine Evs.cons rfl ?_)); first | done | fail) c1 (by (repeat' (first | exact Pick.nil | apply Pick.cons | exact Sel.here | apply Sel.there)); first | done | fail) rfl (fun _ => ?_))) | (refine KJ_ek rfl ?_) | (refine KJ_ek0 ?_))
    | (refine is_ek ?_; first | (refine ek_move ?_; first | (refine EK_ev (Ev_move rfl) ?_)) | (refine ek_assign ?_; first | (refine EK_ev (Ev_assign rfl) ?_)) | (refine ek_un ?_; first | (refine EK_ev (Ev_notD rfl) ?_) | (refine EK_ev (Ev_not rfl) ?_) | (refine EK_ev (Ev_neg rfl) ?_)) | (refine ek_extract ?_; first | (refine EK_ev (Ev_extract rfl rfl) ?_)) | (refine ek_len ?_; first | (refine EK_ev (Ev_len_str rfl) ?_) | (refine EK_ev (Ev_len_slice rfl) ?_) | (refine EK_ev (Ev_len_arr rfl) ?_) | (refine EK_ev (Ev_len_map rfl (by (repeat' (first | exact Sel.here | apply Sel.there)); first | done | fail)) ?_)) | (refine ek_min ?_; first | (refine EK_ev (Ev_min rfl rfl) ?_)) | (refine ek_add ?_; first | (refine EK_ev (Ev_addI rfl rfl (by omega)) ?_) | (refine EK_ev (Ev_addS rfl rfl (by simp <;> omega)) ?_) | (refine EK_ev (Ev_add rfl rfl) ?_)) | (refine ek_mul ?_; first | (refine EK_ev (Ev_mulI rfl rfl (by omega)) ?_) | (refine EK_ev (Ev_mul rfl rfl) ?_)) | (refine ek_neq ?_; first | (refine EK_ev (Ev_neqI rfl rfl) ?_) | (refine EK_ev (Ev_neqS rfl rfl) ?_) | (refine EK_ev (Ev_neqNil rfl rfl) ?_) | (refine EK_ev (Ev_neqB rfl rfl) ?_) | (refine EK_ev (Ev_neqO rfl rfl rfl (fun _ => rfl)) ?_)) | (refine ek_lss ?_; first | (refine EK_ev (Ev_lssI rfl rfl) ?_) | (refine EK_ev (Ev_lssS rfl rfl) ?_)) | (refine ek_gtr ?_; first | (refine EK_ev (Ev_gtrI_q rfl rfl q3) ?_) | (refine EK_ev (Ev_gtrI rfl rfl) ?_) | (refine EK_ev (Ev_gtrS rfl rfl) ?_)))
    | (refine is_ex ?_; first | (refine KJ_blk_exit' rfl ?_))
    | (refine is_code ?_; first | (refine KJ_cond_dec rfl (fun _ => ?_) (fun _ => ?_) <;> first | (exfalso; omega) | skip) | (refine KJ_cond_t rfl ?_) | (refine KJ_cond_f rfl ?_)))
    all_goals (refine is_ex ?_; exact KJ_done (by first | exact Or.inl rfl | exact Or.inr rfl) rfl (by (repeat' (first | exact Rvs.nil | (apply Rvs.tmp; exact rfl))); first | done | fail) () (by rfl) (Ent.of (by (repeat' (first | exact Pick.nil | apply Pick.cons | exact Sel.here | apply Sel.there)); first | done | fail) (by (repeat' (first | exact DropTo.refl | apply DropTo.there)); first | done | fail)))
  have q3 : decide (roomI n < (v.length : Int)) = false := decide_eq_false h3
  have hW : areaW D at_ n st v = awGo at_ st v.length D ((0 : Nat) : Int) (v.drop (234 * 0)) := by
    unfold areaW
    rw [if_neg (by rw [h1]; simp), if_neg (by omega), if_neg h3]
    by_cases h4 : D.off = true
    · rw [if_pos h4, aw_off _ _ _ _ _ _ h4]
    · rw [if_neg h4]; rfl
  rw [hW]
  obtain ⟨res, hres⟩ : ∃ res, res = awGo at_ st v.length D ((0 : Nat) : Int) (v.drop (234 * 0)) := ⟨_, rfl⟩
  rw [← hres]
  have hat : 0 ≤ at_ ∧ at_ ≤ 65536 := by
    unfold Dsk.mayB at h1
    have := of_decide_eq_true h1
    omega
  have hvl : v.length ≤ 234 * 65536 := by unfold roomI at h3; omega
  clear hW
  refine Ct.enter Tryd.func91 rfl Tryd.ntmps91 (by simp) (fun R => ?_)
  repeat' (first 
    | refine KJ_stp (by first | constructor | fail) ?_
    | (refine is_oper ?_; first | (refine is_call ?_; first | (refine KJ_call (by (repeat' (first | exact Evs.nil | refine Evs.cons rfl ?_)); first | done | fail) c2 (by (repeat' (first | exact Pick.nil | apply Pick.cons | exact Sel.here | apply Sel.there)); first | done | fail) rfl (fun _ => ?_)) | (refine KJ_call (by (repeat' (first | exact Evs.nil | refine Evs.cons rfl ?_)); first | done | fail) c1 (by (repeat' (first | exact Pick.nil | apply Pick.cons | exact Sel.here | apply Sel.there)); first | done | fail) rfl (fun _ => ?_))) | (refine KJ_ek rfl ?_) | (refine KJ_ek0 ?_))
    | (refine is_ek ?_; first | (refine ek_move ?_; first | (refine EK_ev (Ev_move rfl) ?_)) | (refine ek_assign ?_; first | (refine EK_ev (Ev_assign rfl) ?_)) | (refine ek_un ?_; first | (refine EK_ev (Ev_notD rfl) ?_) | (refine EK_ev (Ev_not rfl) ?_) | (refine EK_ev (Ev_neg rfl) ?_)) | (refine ek_extract ?_; first | (refine EK_ev (Ev_extract rfl rfl) ?_)) | (refine ek_len ?_; first | (refine EK_ev (Ev_len_str rfl) ?_) | (refine EK_ev (Ev_len_slice rfl) ?_) | (refine EK_ev (Ev_len_arr rfl) ?_) | (refine EK_ev (Ev_len_map rfl (by (repeat' (first | exact Sel.here | apply Sel.there)); first | done | fail)) ?_)) | (refine ek_min ?_; first | (refine EK_ev (Ev_min rfl rfl) ?_)) | (refine ek_add ?_; first | (refine EK_ev (Ev_addI rfl rfl (by omega)) ?_) | (refine EK_ev (Ev_addS rfl rfl (by simp <;> omega)) ?_) | (refine EK_ev (Ev_add rfl rfl) ?_)) | (refine ek_mul ?_; first | (refine EK_ev (Ev_mulI rfl rfl (by omega)) ?_) | (refine EK_ev (Ev_mul rfl rfl) ?_)) | (refine ek_neq ?_; first | (refine EK_ev (Ev_neqI rfl rfl) ?_) | (refine EK_ev (Ev_neqS rfl rfl) ?_) | (refine EK_ev (Ev_neqNil rfl rfl) ?_) | (refine EK_ev (Ev_neqB rfl rfl) ?_) | (refine EK_ev (Ev_neqO rfl rfl rfl (fun _ => rfl)) ?_)) | (refine ek_lss ?_; first | (refine EK_ev (Ev_lssI rfl rfl) ?_) | (refine EK_ev (Ev_lssS rfl rfl) ?_)) | (refine ek_gtr ?_; first | (refine EK_ev (Ev_gtrI_q rfl rfl q3) ?_) | (refine EK_ev (Ev_gtrI rfl rfl) ?_) | (refine EK_ev (Ev_gtrS rfl rfl) ?_)))
    | (refine is_ex ?_; first | (refine KJ_blk_exit' rfl ?_))
    | (refine is_code ?_; first | (refine KJ_cond_dec rfl (fun _ => ?_) (fun _ => ?_) <;> first | (exfalso; omega) | skip) | (refine KJ_cond_t rfl ?_) | (refine KJ_cond_f rfl ?_)))
  refine KJ_loop (fun i : {s : Nat × Nat × Dsk // awGo at_ st s.2.1 s.2.2 (s.1 : Nat) (v.drop (234 * s.1)) = res ∧ s.2.2.ok ∧ s.2.2.und.length ≤ D.und.length + s.1 ∧ v.length ≤ 234 * (s.1 + s.2.1) ∧ s.1 ≤ 65536} =>
      [(0, .pointer (some ⟨p, 0, none⟩)), (1, .int .i64 at_), (3, .int .u64 (st : Nat)), (4, strV v), (12, .int .i64 (i.1.1 : Nat))]) (fun i => [RefP p i.1.2.2] ++ R) (fun i => i.1.2.1) ⟨(0, v.length, D), hres.symm, hok, by dsimp only; omega, by dsimp only; omega, by dsimp only; omega⟩ (by (repeat' (first | exact Subs.nil | refine Subs.cons rfl ?_)); first | done | fail) (Ent.of (by (repeat' (first | exact Pick.nil | apply Pick.cons | exact Sel.here | apply Sel.there)); first | done | fail) (by (repeat' (first | exact DropTo.refl | apply DropTo.there)); first | done | fail)) (fun ⟨(k, f, Dk), hr, hkk, hu, hf, hk⟩ => ?_)
  dsimp only at hr hkk hu hf hk ⊢
  by_cases hlt : 234 * k < v.length
  rotate_left
  · have hnil : v.drop (234 * k) = [] := List.drop_of_length_le (by omega)
    rw [hnil, awGo_nil] at hr
    have ql : decide ((k : Int) * 234 < (v.length : Int)) = false := decide_eq_false (by omega)
    have hD2 : res.2 = Dk.flushD := by rw [← hr]
    have hE2 : res.1 = Dk.flushE := by rw [← hr]
    rw [hD2, hE2]
    have c4 := rflush_ct (W := W) (p := p) hkk (by omega)
    repeat' (first 
    | refine KJ_stp (by first | constructor | fail) ?_
    | (refine is_oper ?_; first | (refine is_call ?_; first | (refine KJ_call (by (repeat' (first | exact Evs.nil | refine Evs.cons rfl ?_)); first | done | fail) c4 (by (repeat' (first | exact Pick.nil | apply Pick.cons | exact Sel.here | apply Sel.there)); first | done | fail) rfl (fun _ => ?_))) | (refine KJ_ek rfl ?_) | (refine KJ_ek0 ?_))
    | (refine is_ek ?_; first | (refine ek_move ?_; first | (refine EK_ev (Ev_move rfl) ?_)) | (refine ek_assign ?_; first | (refine EK_ev (Ev_assign rfl) ?_)) | (refine ek_un ?_; first | (refine EK_ev (Ev_notD rfl) ?_) | (refine EK_ev (Ev_not rfl) ?_) | (refine EK_ev (Ev_neg rfl) ?_)) | (refine ek_extract ?_; first | (refine EK_ev (Ev_extract rfl rfl) ?_)) | (refine ek_len ?_; first | (refine EK_ev (Ev_len_str rfl) ?_) | (refine EK_ev (Ev_len_slice rfl) ?_) | (refine EK_ev (Ev_len_arr rfl) ?_) | (refine EK_ev (Ev_len_map rfl (by (repeat' (first | exact Sel.here | apply Sel.there)); first | done | fail)) ?_)) | (refine ek_min ?_; first | (refine EK_ev (Ev_min rfl rfl) ?_)) | (refine ek_add ?_; first | (refine EK_ev (Ev_addI rfl rfl (by omega)) ?_) | (refine EK_ev (Ev_addS rfl rfl (by simp <;> omega)) ?_) | (refine EK_ev (Ev_add rfl rfl) ?_)) | (refine ek_mul ?_; first | (refine EK_ev (Ev_mulI rfl rfl (by omega)) ?_) | (refine EK_ev (Ev_mul rfl rfl) ?_)) | (refine ek_neq ?_; first | (refine EK_ev (Ev_neqI rfl rfl) ?_) | (refine EK_ev (Ev_neqS rfl rfl) ?_) | (refine EK_ev (Ev_neqNil rfl rfl) ?_) | (refine EK_ev (Ev_neqB rfl rfl) ?_) | (refine EK_ev (Ev_neqO rfl rfl rfl (fun _ => rfl)) ?_)) | (refine ek_lss ?_; first | (refine EK_ev (Ev_lssI_q rfl rfl ql) ?_) | (refine EK_ev (Ev_lssI rfl rfl) ?_) | (refine EK_ev (Ev_lssS rfl rfl) ?_)) | (refine ek_gtr ?_; first | (refine EK_ev (Ev_gtrI rfl rfl) ?_) | (refine EK_ev (Ev_gtrS rfl rfl) ?_)))
    | (refine is_ex ?_; first | (refine KJ_blk_exit' rfl ?_))
    | (refine is_code ?_; first | (refine KJ_cond_dec rfl (fun _ => ?_) (fun _ => ?_) <;> first | (exfalso; omega) | skip) | (refine KJ_cond_t rfl ?_) | (refine KJ_cond_f rfl ?_)))
    all_goals (refine is_ex ?_; exact KJ_done (by first | exact Or.inl rfl | exact Or.inr rfl) rfl (by (repeat' (first | exact Rvs.nil | (apply Rvs.tmp; exact rfl))); first | done | fail) () (by rfl) (Ent.of (by (repeat' (first | exact Pick.nil | apply Pick.cons | exact Sel.here | apply Sel.there)); first | done | fail) (by (repeat' (first | exact DropTo.refl | apply DropTo.there)); first | done | fail)))
  have ql : decide ((k : Int) * 234 < (v.length : Int)) = true := decide_eq_true (by omega)
  obtain ⟨f', rfl⟩ : ∃ f', f = f' + 1 := ⟨f - 1, by omega⟩
  have hne : v.drop (234 * k) ≠ [] := by
    intro q
    have := congrArg List.length q
    rw [List.length_drop] at this
    simp at this
    omega
  obtain ⟨pc, hpc⟩ : ∃ pc, pc = (v.drop (234 * k)).take 234 := ⟨_, rfl⟩
  have hunf : awGo at_ st (f' + 1) Dk (k : Nat) (v.drop (234 * k)) = if Dk.writeE (at_ + (k : Nat)) (sealB st pc) ≠ 0 then (Dk.writeE (at_ + (k : Nat)) (sealB st pc), Dk.writeD (at_ + (k : Nat)) (sealB st pc))
      else awGo at_ st f' (Dk.writeD (at_ + (k : Nat)) (sealB st pc)) ((k + 1 : Nat) : Int) (v.drop (234 * (k + 1))) := by
    show (if v.drop (234 * k) = [] then _ else _) = _
    rw [if_neg hne, ← hpc, List.drop_drop, show 234 * k + 234 = 234 * (k + 1) by omega]
    rfl
  rw [hunf] at hr
  clear hunf
  obtain ⟨hi, hhi⟩ : ∃ hi : Nat, hi = min ((k + 1) * 234) v.length := ⟨_, rfl⟩
  have hmin : min (((k : Int) + 1) * 234) (v.length : Int) = (hi : Nat) := by omega
  have hslc : (v.take ((hi : Nat) : Int).toNat).drop ((k : Int) * 234).toNat = pc := by
    rw [Int.toNat_natCast, show ((k : Int) * 234).toNat = 234 * k by omega, hpc, List.drop_take, hhi]
    apply List.take_eq_take_iff.2
    rw [List.length_drop]
    omega
  have hpl : pc.length ≤ 234 := by rw [hpc, List.length_take]; omega
  have c5 := rseal_ok (W := W) st h2 hst pc hpl
  have c6 := rwrite_ct (W := W) (p := p) hkk (at_ + (k : Nat)) (sealB st pc) (by omega)
  have hu1 := writeD_und Dk (at_ + (k : Nat)) (sealB st pc)
  have hk1 := Dsk.writeD_ok hkk (at_ + (k : Nat)) (sealB st pc)
  obtain ⟨D1, hD1⟩ : ∃ D1, D1 = Dk.writeD (at_ + (k : Nat)) (sealB st pc) := ⟨_, rfl⟩
  obtain ⟨e, he⟩ : ∃ e, e = Dk.writeE (at_ + (k : Nat)) (sealB st pc) := ⟨_, rfl⟩
  obtain ⟨raw, hraw⟩ : ∃ raw, raw = sealB st pc := ⟨_, rfl⟩
  rw [← hD1] at c6 hr hu1 hk1
  rw [← he] at c6 hr
  rw [← hraw] at c5 c6
  clear hpc hD1 he hraw hres
  have hbk : 0 ≤ (k : Int) ∧ (k : Int) ≤ 65535 := by omega
  by_cases hz : e = 0
  · rw [if_neg (by simpa using hz)] at hr
    repeat' (first 
    | refine KJ_stp (by first | constructor | fail) ?_
    | (refine is_oper ?_; first | (refine is_call ?_; first | (refine KJ_call (by (repeat' (first | exact Evs.nil | refine Evs.cons rfl ?_)); first | done | fail) c6 (by (repeat' (first | exact Pick.nil | apply Pick.cons | exact Sel.here | apply Sel.there)); first | done | fail) rfl (fun _ => ?_)) | (refine KJ_call (by (repeat' (first | exact Evs.nil | refine Evs.cons rfl ?_)); first | done | fail) c5 (by (repeat' (first | exact Pick.nil | apply Pick.cons | exact Sel.here | apply Sel.there)); first | done | fail) rfl (fun _ => ?_))) | (refine KJ_ek rfl ?_) | (refine KJ_ek0 ?_))
    | (refine is_ek ?_; first | (refine ek_move ?_; first | (refine EK_ev (Ev_move rfl) ?_)) | (refine ek_assign ?_; first | (refine EK_ev (Ev_assign rfl) ?_)) | (refine ek_un ?_; first | (refine EK_ev (Ev_notD rfl) ?_) | (refine EK_ev (Ev_not rfl) ?_) | (refine EK_ev (Ev_neg rfl) ?_)) | (refine ek_extract ?_; first | (refine EK_ev (Ev_extract rfl rfl) ?_)) | (refine ek_slice ?_; first | (refine EK_ev (Ev_sliceStr_w rfl rfl rfl (by omega) hslc) ?_)) | (refine ek_len ?_; first | (refine EK_ev (Ev_len_str rfl) ?_) | (refine EK_ev (Ev_len_slice rfl) ?_) | (refine EK_ev (Ev_len_arr rfl) ?_) | (refine EK_ev (Ev_len_map rfl (by (repeat' (first | exact Sel.here | apply Sel.there)); first | done | fail)) ?_)) | (refine ek_min ?_; first | (refine EK_ev (Ev_min_v rfl rfl hmin) ?_) | (refine EK_ev (Ev_min rfl rfl) ?_)) | (refine ek_add ?_; first | (refine EK_ev (Ev_addI rfl rfl (by omega)) ?_) | (refine EK_ev (Ev_addS rfl rfl (by simp <;> omega)) ?_) | (refine EK_ev (Ev_add rfl rfl) ?_)) | (refine ek_mul ?_; first | (refine EK_ev (Ev_mulI rfl rfl (by omega)) ?_) | (refine EK_ev (Ev_mul rfl rfl) ?_)) | (refine ek_neq ?_; first | (refine EK_ev (Ev_neqI_f rfl rfl (by omega)) ?_) | (refine EK_ev (Ev_neqI rfl rfl) ?_) | (refine EK_ev (Ev_neqS rfl rfl) ?_) | (refine EK_ev (Ev_neqNil rfl rfl) ?_) | (refine EK_ev (Ev_neqB rfl rfl) ?_) | (refine EK_ev (Ev_neqO rfl rfl rfl (fun _ => rfl)) ?_)) | (refine ek_lss ?_; first | (refine EK_ev (Ev_lssI_q rfl rfl ql) ?_) | (refine EK_ev (Ev_lssI rfl rfl) ?_) | (refine EK_ev (Ev_lssS rfl rfl) ?_)) | (refine ek_gtr ?_; first | (refine EK_ev (Ev_gtrI rfl rfl) ?_) | (refine EK_ev (Ev_gtrS rfl rfl) ?_)))
    | (refine is_ex ?_; first | (refine KJ_blk_exit' rfl ?_))
    | (refine is_code ?_; first | (refine KJ_cond_dec rfl (fun _ => ?_) (fun _ => ?_) <;> first | (exfalso; omega) | skip) | (refine KJ_cond_t rfl ?_) | (refine KJ_cond_f rfl ?_)))
    all_goals exact KJ_again ⟨(k + 1, f', D1), hr, hk1, by dsimp only; omega, by dsimp only; omega, by dsimp only; omega⟩ (by show f' < f' + 1; omega) (by (repeat' (first | exact Subs.nil | refine Subs.cons rfl ?_)); first | done | fail) (Ent.of (by (repeat' (first | exact Pick.nil | apply Pick.cons | exact Sel.here | apply Sel.there)); first | done | fail) (by (repeat' (first | exact DropTo.refl | apply DropTo.there)); first | done | fail))
  · rw [if_pos hz] at hr
    have hD2 : res.2 = D1 := by rw [← hr]
    have hE2 : res.1 = e := by rw [← hr]
    rw [hD2, hE2]
    repeat' (first 
    | refine KJ_stp (by first | constructor | fail) ?_
    | (refine is_oper ?_; first | (refine is_call ?_; first | (refine KJ_call (by (repeat' (first | exact Evs.nil | refine Evs.cons rfl ?_)); first | done | fail) c6 (by (repeat' (first | exact Pick.nil | apply Pick.cons | exact Sel.here | apply Sel.there)); first | done | fail) rfl (fun _ => ?_)) | (refine KJ_call (by (repeat' (first | exact Evs.nil | refine Evs.cons rfl ?_)); first | done | fail) c5 (by (repeat' (first | exact Pick.nil | apply Pick.cons | exact Sel.here | apply Sel.there)); first | done | fail) rfl (fun _ => ?_))) | (refine KJ_ek rfl ?_) | (refine KJ_ek0 ?_))
    | (refine is_ek ?_; first | (refine ek_move ?_; first | (refine EK_ev (Ev_move rfl) ?_)) | (refine ek_assign ?_; first | (refine EK_ev (Ev_assign rfl) ?_)) | (refine ek_un ?_; first | (refine EK_ev (Ev_notD rfl) ?_) | (refine EK_ev (Ev_not rfl) ?_) | (refine EK_ev (Ev_neg rfl) ?_)) | (refine ek_extract ?_; first | (refine EK_ev (Ev_extract rfl rfl) ?_)) | (refine ek_slice ?_; first | (refine EK_ev (Ev_sliceStr_w rfl rfl rfl (by omega) hslc) ?_)) | (refine ek_len ?_; first | (refine EK_ev (Ev_len_str rfl) ?_) | (refine EK_ev (Ev_len_slice rfl) ?_) | (refine EK_ev (Ev_len_arr rfl) ?_) | (refine EK_ev (Ev_len_map rfl (by (repeat' (first | exact Sel.here | apply Sel.there)); first | done | fail)) ?_)) | (refine ek_min ?_; first | (refine EK_ev (Ev_min_v rfl rfl hmin) ?_) | (refine EK_ev (Ev_min rfl rfl) ?_)) | (refine ek_add ?_; first | (refine EK_ev (Ev_addI rfl rfl (by omega)) ?_) | (refine EK_ev (Ev_addS rfl rfl (by simp <;> omega)) ?_) | (refine EK_ev (Ev_add rfl rfl) ?_)) | (refine ek_mul ?_; first | (refine EK_ev (Ev_mulI rfl rfl (by omega)) ?_) | (refine EK_ev (Ev_mul rfl rfl) ?_)) | (refine ek_neq ?_; first | (refine EK_ev (Ev_neqI_t rfl rfl (by omega)) ?_) | (refine EK_ev (Ev_neqI rfl rfl) ?_) | (refine EK_ev (Ev_neqS rfl rfl) ?_) | (refine EK_ev (Ev_neqNil rfl rfl) ?_) | (refine EK_ev (Ev_neqB rfl rfl) ?_) | (refine EK_ev (Ev_neqO rfl rfl rfl (fun _ => rfl)) ?_)) | (refine ek_lss ?_; first | (refine EK_ev (Ev_lssI_q rfl rfl ql) ?_) | (refine EK_ev (Ev_lssI rfl rfl) ?_) | (refine EK_ev (Ev_lssS rfl rfl) ?_)) | (refine ek_gtr ?_; first | (refine EK_ev (Ev_gtrI rfl rfl) ?_) | (refine EK_ev (Ev_gtrS rfl rfl) ?_)))
    | (refine is_ex ?_; first | (refine KJ_blk_exit' rfl ?_))
    | (refine is_code ?_; first | (refine KJ_cond_dec rfl (fun _ => ?_) (fun _ => ?_) <;> first | (exfalso; omega) | skip) | (refine KJ_cond_t rfl ?_) | (refine KJ_cond_f rfl ?_)))
    all_goals (refine is_ex ?_; exact KJ_done (by first | exact Or.inl rfl | exact Or.inr rfl) rfl (by (repeat' (first | exact Rvs.nil | (apply Rvs.tmp; exact rfl))); first | done | fail) () (by rfl) (Ent.of (by (repeat' (first | exact Pick.nil | apply Pick.cons | exact Sel.here | apply Sel.there)); first | done | fail) (by (repeat' (first | exact DropTo.refl | apply DropTo.there)); first | done | fail)))
set_option maxHeartbeats 1000000 in
set_option maxRecDepth 100000 in
theorem r9read_ct (hok : D.ok) (hul : D.und.length < 1073741824) (at_ n : Int) (st : Nat) (hst : st < 2 ^ 64) (bytes : Int) : Ct Tryd.prog W 92 [.pointer (some ⟨p, 0, none⟩), .int .i64 at_, .int .i64 n, .int .u64 (st : Nat), .int .i64 bytes] [RefP p D] (fun _ : Unit => .tuple #[strV (areaR D at_ n st bytes).1, .int .i64 ((areaR D at_ n st bytes).2 : Nat)]) (fun _ => [RefP p D]) := by
  have hn := hok.n2
  have c1 := r9place_ct (W := W) (p := p) at_ n (st : Nat) hn
  by_cases hp : (D.mayB at_ n && decide ((st : Int) ≠ 0)) = false
  · have e : areaR D at_ n st bytes = ([], 6) := by
      unfold areaR
      by_cases h1 : D.mayB at_ n = false
      · rw [if_pos h1]
      · rw [if_neg h1, if_pos (by simp at h1; rw [h1] at hp; simpa using hp)]
    rw [e]
    rw [hp] at c1
    refine Ct.enter Tryd.func92 rfl Tryd.ntmps92 (by simp) (fun R => ?_)
    repeat' (first 
    | refine KJ_stp (by first | constructor | fail) ?_
    | (refine is_list ?_; first | (refine KJ_guard_dec_t rfl rfl rfl (fun _ => ?_) (fun _ => ?_) <;> first | (exfalso; omega) | skip) | (refine KJ_guard_dec_f rfl rfl rfl (fun _ => ?_) (fun _ => ?_) <;> first | (exfalso; omega) | skip) | (refine KJ_guard_yes rfl rfl ?_) | (refine KJ_guard_no rfl rfl rfl rfl ?_))
    | (refine is_oper ?_; first | (refine is_call ?_; first | (refine KJ_call (by (repeat' (first | exact Evs.nil | refine Evs.cons rfl ?_)); first | done | fail) c1 (by (repeat' (first | exact Pick.nil | apply Pick.cons | exact Sel.here | apply Sel.there)); first | done | fail) rfl (fun _ => ?_))) | (refine KJ_ek rfl ?_) | (refine KJ_ek0 ?_))
    | (refine is_ek ?_; first | (refine ek_move ?_; first | (refine EK_ev (Ev_move rfl) ?_)) | (refine ek_assign ?_; first | (refine EK_ev (Ev_assign rfl) ?_)) | (refine ek_pick ?_; first | (refine EK_ev (Ev_pick_t rfl rfl) ?_) | (refine EK_ev (Ev_pick_f rfl rfl) ?_)) | (refine ek_nilCheck ?_; first | (refine EK_ev (Ev_nilCheck rfl) ?_)) | (refine ek_fieldAddr ?_; first | (refine EK_ev (Ev_field rfl) ?_)) | (refine ek_load ?_; first | (refine EK_ev (Ev_load rfl (by (repeat' (first | exact Sel.here | apply Sel.there)); first | done | fail) (by rfl)) ?_) | (refine EK_ev (Ev_load rfl (by (repeat' (first | exact Sel.here | apply Sel.there)); first | done | fail) (by rfl)) ?_) | (refine EK_ev (Ev_loadOld rfl (by assumption)) ?_) | (refine EK_ev (Ev_loadAgg rfl (by (repeat' (first | exact Sel.here | apply Sel.there)); first | done | fail) (by (repeat' (first | exact Cut.nil | apply Cut.cons | apply Cut.skip)); first | done | fail)) ?_)) | (refine ek_un ?_; first | (refine EK_ev (Ev_notD rfl) ?_) | (refine EK_ev (Ev_not rfl) ?_) | (refine EK_ev (Ev_neg rfl) ?_)) | (refine ek_conv ?_; first | (refine EK_ev (Ev_convI64 rfl (by omega)) ?_) | (refine EK_ev (Ev_convI rfl) ?_) | (refine EK_ev (Ev_convS rfl) ?_)) | (refine ek_extract ?_; first | (refine EK_ev (Ev_extract rfl rfl) ?_)) | (refine ek_len ?_; first | (refine EK_ev (Ev_len_str rfl) ?_) | (refine EK_ev (Ev_len_slice rfl) ?_) | (refine EK_ev (Ev_len_arr rfl) ?_) | (refine EK_ev (Ev_len_map rfl (by (repeat' (first | exact Sel.here | apply Sel.there)); first | done | fail)) ?_)) | (refine ek_min ?_; first | (refine EK_ev (Ev_min rfl rfl) ?_)) | (refine ek_add ?_; first | (refine EK_ev (Ev_addI rfl rfl (by omega)) ?_) | (refine EK_ev (Ev_addS rfl rfl (by simp <;> omega)) ?_) | (refine EK_ev (Ev_add rfl rfl) ?_)) | (refine ek_sub ?_; first | (refine EK_ev (Ev_subI rfl rfl (by omega)) ?_) | (refine EK_ev (Ev_sub rfl rfl) ?_)) | (refine ek_neq ?_; first | (refine EK_ev (Ev_neqI rfl rfl) ?_) | (refine EK_ev (Ev_neqS rfl rfl) ?_) | (refine EK_ev (Ev_neqNil rfl rfl) ?_) | (refine EK_ev (Ev_neqB rfl rfl) ?_) | (refine EK_ev (Ev_neqO rfl rfl rfl (fun _ => rfl)) ?_)) | (refine ek_lss ?_; first | (refine EK_ev (Ev_lssI rfl rfl) ?_) | (refine EK_ev (Ev_lssS rfl rfl) ?_)) | (refine ek_gtr ?_; first | (refine EK_ev (Ev_gtrI rfl rfl) ?_) | (refine EK_ev (Ev_gtrS rfl rfl) ?_)))
    | (refine is_ex ?_; first | (refine KJ_blk_exit' rfl ?_))
    | (refine is_code ?_; first | (refine KJ_cond_dec rfl (fun _ => ?_) (fun _ => ?_) <;> first | (exfalso; omega) | skip) | (refine KJ_cond_t rfl ?_) | (refine KJ_cond_f rfl ?_)))
    all_goals (refine is_ex ?_; exact KJ_done (by first | exact Or.inl rfl | exact Or.inr rfl) rfl (by (repeat' (first | exact Rvs.nil | (apply Rvs.tmp; exact rfl))); first | done | fail) () (by rfl) (Ent.of (by (repeat' (first | exact Pick.nil | apply Pick.cons | exact Sel.here | apply Sel.there)); first | done | fail) (by (repeat' (first | exact DropTo.refl | apply DropTo.there)); first | done | fail)))
  have hp : (D.mayB at_ n && decide ((st : Int) ≠ 0)) = true := by simpa using hp
  rw [hp] at c1
  have h1 : D.mayB at_ n = true := by rw [Bool.and_eq_true] at hp; exact hp.1
  have h2 : st ≠ 0 := by rw [Bool.and_eq_true] at hp; have := of_decide_eq_true hp.2; omega
  by_cases hb : bytes < 0
  · have e : areaR D at_ n st bytes = ([], 6) := by unfold areaR; rw [if_neg (by rw [h1]; simp), if_neg (by omega), if_pos hb]
    rw [e]
    have qb : decide (bytes < 0) = true := decide_eq_true hb
    refine Ct.enter Tryd.func92 rfl Tryd.ntmps92 (by simp) (fun R => ?_)
    repeat' (first 
    | refine KJ_stp (by first | constructor | fail) ?_
    | (refine is_list ?_; first | (refine KJ_guard_dec_t rfl rfl rfl (fun _ => ?_) (fun _ => ?_) <;> first | (exfalso; omega) | skip) | (refine KJ_guard_dec_f rfl rfl rfl (fun _ => ?_) (fun _ => ?_) <;> first | (exfalso; omega) | skip) | (refine KJ_guard_yes rfl rfl ?_) | (refine KJ_guard_no rfl rfl rfl rfl ?_))
    | (refine is_oper ?_; first | (refine is_call ?_; first | (refine KJ_call (by (repeat' (first | exact Evs.nil | refine Evs.cons rfl ?_)); first | done | fail) c1 (by (repeat' (first | exact Pick.nil | apply Pick.cons | exact Sel.here | apply Sel.there)); first | done | fail) rfl (fun _ => ?_))) | (refine KJ_ek rfl ?_) | (refine KJ_ek0 ?_))
    | (refine is_ek ?_; first | (refine ek_move ?_; first | (refine EK_ev (Ev_move rfl) ?_)) | (refine ek_assign ?_; first | (refine EK_ev (Ev_assign rfl) ?_)) | (refine ek_pick ?_; first | (refine EK_ev (Ev_pick_t rfl rfl) ?_) | (refine EK_ev (Ev_pick_f rfl rfl) ?_)) | (refine ek_nilCheck ?_; first | (refine EK_ev (Ev_nilCheck rfl) ?_)) | (refine ek_fieldAddr ?_; first | (refine EK_ev (Ev_field rfl) ?_)) | (refine ek_load ?_; first | (refine EK_ev (Ev_load rfl (by (repeat' (first | exact Sel.here | apply Sel.there)); first | done | fail) (by rfl)) ?_) | (refine EK_ev (Ev_load rfl (by (repeat' (first | exact Sel.here | apply Sel.there)); first | done | fail) (by rfl)) ?_) | (refine EK_ev (Ev_loadOld rfl (by assumption)) ?_) | (refine EK_ev (Ev_loadAgg rfl (by (repeat' (first | exact Sel.here | apply Sel.there)); first | done | fail) (by (repeat' (first | exact Cut.nil | apply Cut.cons | apply Cut.skip)); first | done | fail)) ?_)) | (refine ek_un ?_; first | (refine EK_ev (Ev_notD rfl) ?_) | (refine EK_ev (Ev_not rfl) ?_) | (refine EK_ev (Ev_neg rfl) ?_)) | (refine ek_conv ?_; first | (refine EK_ev (Ev_convI64 rfl (by omega)) ?_) | (refine EK_ev (Ev_convI rfl) ?_) | (refine EK_ev (Ev_convS rfl) ?_)) | (refine ek_extract ?_; first | (refine EK_ev (Ev_extract rfl rfl) ?_)) | (refine ek_len ?_; first | (refine EK_ev (Ev_len_str rfl) ?_) | (refine EK_ev (Ev_len_slice rfl) ?_) | (refine EK_ev (Ev_len_arr rfl) ?_) | (refine EK_ev (Ev_len_map rfl (by (repeat' (first | exact Sel.here | apply Sel.there)); first | done | fail)) ?_)) | (refine ek_min ?_; first | (refine EK_ev (Ev_min rfl rfl) ?_)) | (refine ek_add ?_; first | (refine EK_ev (Ev_addI rfl rfl (by omega)) ?_) | (refine EK_ev (Ev_addS rfl rfl (by simp <;> omega)) ?_) | (refine EK_ev (Ev_add rfl rfl) ?_)) | (refine ek_sub ?_; first | (refine EK_ev (Ev_subI rfl rfl (by omega)) ?_) | (refine EK_ev (Ev_sub rfl rfl) ?_)) | (refine ek_neq ?_; first | (refine EK_ev (Ev_neqI rfl rfl) ?_) | (refine EK_ev (Ev_neqS rfl rfl) ?_) | (refine EK_ev (Ev_neqNil rfl rfl) ?_) | (refine EK_ev (Ev_neqB rfl rfl) ?_) | (refine EK_ev (Ev_neqO rfl rfl rfl (fun _ => rfl)) ?_)) | (refine ek_lss ?_; first | (refine EK_ev (Ev_lssI_q rfl rfl qb) ?_) | (refine EK_ev (Ev_lssI rfl rfl) ?_) | (refine EK_ev (Ev_lssS rfl rfl) ?_)) | (refine ek_gtr ?_; first | (refine EK_ev (Ev_gtrI rfl rfl) ?_) | (refine EK_ev (Ev_gtrS rfl rfl) ?_)))
    | (refine is_ex ?_; first | (refine KJ_blk_exit' rfl ?_))
    | (refine is_code ?_; first | (refine KJ_cond_dec rfl (fun _ => ?_) (fun _ => ?_) <;> first | (exfalso; omega) | skip) | (refine KJ_cond_t rfl ?_) | (refine KJ_cond_f rfl ?_)))
    all_goals (refine is_ex ?_; exact KJ_done (by first | exact Or.inl rfl | exact Or.inr rfl) rfl (by (repeat' (first | exact Rvs.nil | (apply Rvs.tmp; exact rfl))); first | done | fail) () (by rfl) (Ent.of (by (repeat' (first | exact Pick.nil | apply Pick.cons | exact Sel.here | apply Sel.there)); first | done | fail) (by (repeat' (first | exact DropTo.refl | apply DropTo.there)); first | done | fail)))
  have qb : decide (bytes < 0) = false := decide_eq_false hb
  have c2 := room9r_ct (W := W) n
  by_cases h3 : roomI n < bytes
  · have e : areaR D at_ n st bytes = ([], 3) := by unfold areaR; rw [if_neg (by rw [h1]; simp), if_neg (by omega), if_neg hb, if_pos h3]
    rw [e]
    have q3 : decide (roomI n < bytes) = true := decide_eq_true h3
    refine Ct.enter Tryd.func92 rfl Tryd.ntmps92 (by simp) (fun R => ?_)
    repeat' (first 
    | refine KJ_stp (by first | constructor | fail) ?_
    | (refine is_list ?_; first | (refine KJ_guard_dec_t rfl rfl rfl (fun _ => ?_) (fun _ => ?_) <;> first | (exfalso; omega) | skip) | (refine KJ_guard_dec_f rfl rfl rfl (fun _ => ?_) (fun _ => ?_) <;> first | (exfalso; omega) | skip) | (refine KJ_guard_yes rfl rfl ?_) | (refine KJ_guard_no rfl rfl rfl rfl ?_))
    | (refine is_oper ?_; first | (refine is_call ?_; first | (refine KJ_call (by (repeat' (first | exact Evs.nil | refine Evs.cons rfl ?_)); first | done | fail) c2 (by (repeat' (first | exact Pick.nil | apply Pick.cons | exact Sel.here | apply Sel.there)); first | done | fail) rfl (fun _ => ?_)) | (refine KJ_call (by (repeat' (first | exact Evs.nil | refine Evs.cons rfl ?_)); first | done | fail) c1 (by (repeat' (first | exact Pick.nil | apply Pick.cons | exact Sel.here | apply Sel.there)); first | done | fail) rfl (fun _ => ?_))) | (refine KJ_ek rfl ?_) | (refine KJ_ek0 ?_))
    | (refine is_ek ?_; first | (refine ek_move ?_; first | (refine EK_ev (Ev_move rfl) ?_)) | (refine ek_assign ?_; first | (refine EK_ev (Ev_assign rfl) ?_)) | (refine ek_pick ?_; first | (refine EK_ev (Ev_pick_t rfl rfl) ?_) | (refine EK_ev (Ev_pick_f rfl rfl) ?_)) | (refine ek_nilCheck ?_; first | (refine EK_ev (Ev_nilCheck rfl) ?_)) | (refine ek_fieldAddr ?_; first | (refine EK_ev (Ev_field rfl) ?_)) | (refine ek_load ?_; first | (refine EK_ev (Ev_load rfl (by (repeat' (first | exact Sel.here | apply Sel.there)); first | done | fail) (by rfl)) ?_) | (refine EK_ev (Ev_load rfl (by (repeat' (first | exact Sel.here | apply Sel.there)); first | done | fail) (by rfl)) ?_) | (refine EK_ev (Ev_loadOld rfl (by assumption)) ?_) | (refine EK_ev (Ev_loadAgg rfl (by (repeat' (first | exact Sel.here | apply Sel.there)); first | done | fail) (by (repeat' (first | exact Cut.nil | apply Cut.cons | apply Cut.skip)); first | done | fail)) ?_)) | (refine ek_un ?_; first | (refine EK_ev (Ev_notD rfl) ?_) | (refine EK_ev (Ev_not rfl) ?_) | (refine EK_ev (Ev_neg rfl) ?_)) | (refine ek_conv ?_; first | (refine EK_ev (Ev_convI64 rfl (by omega)) ?_) | (refine EK_ev (Ev_convI rfl) ?_) | (refine EK_ev (Ev_convS rfl) ?_)) | (refine ek_extract ?_; first | (refine EK_ev (Ev_extract rfl rfl) ?_)) | (refine ek_len ?_; first | (refine EK_ev (Ev_len_str rfl) ?_) | (refine EK_ev (Ev_len_slice rfl) ?_) | (refine EK_ev (Ev_len_arr rfl) ?_) | (refine EK_ev (Ev_len_map rfl (by (repeat' (first | exact Sel.here | apply Sel.there)); first | done | fail)) ?_)) | (refine ek_min ?_; first | (refine EK_ev (Ev_min rfl rfl) ?_)) | (refine ek_add ?_; first | (refine EK_ev (Ev_addI rfl rfl (by omega)) ?_) | (refine EK_ev (Ev_addS rfl rfl (by simp <;> omega)) ?_) | (refine EK_ev (Ev_add rfl rfl) ?_)) | (refine ek_sub ?_; first | (refine EK_ev (Ev_subI rfl rfl (by omega)) ?_) | (refine EK_ev (Ev_sub rfl rfl) ?_)) | (refine ek_neq ?_; first | (refine EK_ev (Ev_neqI rfl rfl) ?_) | (refine EK_ev (Ev_neqS rfl rfl) ?_) | (refine EK_ev (Ev_neqNil rfl rfl) ?_) | (refine EK_ev (Ev_neqB rfl rfl) ?_) | (refine EK_ev (Ev_neqO rfl rfl rfl (fun _ => rfl)) ?_)) | (refine ek_lss ?_; first | (refine EK_ev (Ev_lssI_q rfl rfl qb) ?_) | (refine EK_ev (Ev_lssI rfl rfl) ?_) | (refine EK_ev (Ev_lssS rfl rfl) ?_)) | (refine ek_gtr ?_; first | (refine EK_ev (Ev_gtrI_q rfl rfl q3) ?_) | (refine EK_ev (Ev_gtrI rfl rfl) ?_) | (refine EK_ev (Ev_gtrS rfl rfl) ?_)))
    | (refine is_ex ?_; first | (refine KJ_blk_exit' rfl ?_))
    | (refine is_code ?_; first | (refine KJ_cond_dec rfl (fun _ => ?_) (fun _ => ?_) <;> first | (exfalso; omega) | skip) | (refine KJ_cond_t rfl ?_) | (refine KJ_cond_f rfl ?_)))
    all_goals (refine is_ex ?_; exact KJ_done (by first | exact Or.inl rfl | exact Or.inr rfl) rfl (by (repeat' (first | exact Rvs.nil | (apply Rvs.tmp; exact rfl))); first | done | fail) () (by rfl) (Ent.of (by (repeat' (first | exact Pick.nil | apply Pick.cons | exact Sel.here | apply Sel.there)); first | done | fail) (by (repeat' (first | exact DropTo.refl | apply DropTo.there)); first | done | fail)))
  have q3 : decide (roomI n < bytes) = false := decide_eq_false h3
  rcases Bool.eq_false_or_eq_true D.off with h4 | h4
  · have e : areaR D at_ n st bytes = ([], 12) := by unfold areaR; rw [if_neg (by rw [h1]; simp), if_neg (by omega), if_neg hb, if_neg h3, if_pos h4]
    rw [e]
    have hoff : ∀ sv wv : Value, [sv, wv, .bool D.off, .bool (decide (0 ≤ D.armed)), .int .i64 (max D.armed 0), .int .i64 D.writes, .int .i64 D.flushes, .int .i64 D.life][0 + 2]? = some (Value.bool true) := fun sv wv => by rw [h4]; rfl
    refine Ct.enter Tryd.func92 rfl Tryd.ntmps92 (by simp) (fun R => ?_)
    repeat' (first 
    | refine KJ_stp (by first | constructor | fail) ?_
    | (refine is_list ?_; first | (refine KJ_guard_dec_t rfl rfl rfl (fun _ => ?_) (fun _ => ?_) <;> first | (exfalso; omega) | skip) | (refine KJ_guard_dec_f rfl rfl rfl (fun _ => ?_) (fun _ => ?_) <;> first | (exfalso; omega) | skip) | (refine KJ_guard_yes rfl rfl ?_) | (refine KJ_guard_no rfl rfl rfl rfl ?_))
    | (refine is_oper ?_; first | (refine is_call ?_; first | (refine KJ_call (by (repeat' (first | exact Evs.nil | refine Evs.cons rfl ?_)); first | done | fail) c2 (by (repeat' (first | exact Pick.nil | apply Pick.cons | exact Sel.here | apply Sel.there)); first | done | fail) rfl (fun _ => ?_)) | (refine KJ_call (by (repeat' (first | exact Evs.nil | refine Evs.cons rfl ?_)); first | done | fail) c1 (by (repeat' (first | exact Pick.nil | apply Pick.cons | exact Sel.here | apply Sel.there)); first | done | fail) rfl (fun _ => ?_))) | (refine KJ_ek rfl ?_) | (refine KJ_ek0 ?_))
    | (refine is_ek ?_; first | (refine ek_move ?_; first | (refine EK_ev (Ev_move rfl) ?_)) | (refine ek_assign ?_; first | (refine EK_ev (Ev_assign rfl) ?_)) | (refine ek_pick ?_; first | (refine EK_ev (Ev_pick_t rfl rfl) ?_) | (refine EK_ev (Ev_pick_f rfl rfl) ?_)) | (refine ek_nilCheck ?_; first | (refine EK_ev (Ev_nilCheck rfl) ?_)) | (refine ek_fieldAddr ?_; first | (refine EK_ev (Ev_field rfl) ?_)) | (refine ek_load ?_; first | (refine EK_ev (Ev_load rfl (by (repeat' (first | exact Sel.here | apply Sel.there)); first | done | fail) (by rfl)) ?_) | (refine EK_ev (Ev_loadRef rfl (by (repeat' (first | exact Sel.here | apply Sel.there)); first | done | fail) hoff) ?_) | (refine EK_ev (Ev_load rfl (by (repeat' (first | exact Sel.here | apply Sel.there)); first | done | fail) (by rfl)) ?_) | (refine EK_ev (Ev_loadOld rfl (by assumption)) ?_) | (refine EK_ev (Ev_loadAgg rfl (by (repeat' (first | exact Sel.here | apply Sel.there)); first | done | fail) (by (repeat' (first | exact Cut.nil | apply Cut.cons | apply Cut.skip)); first | done | fail)) ?_)) | (refine ek_un ?_; first | (refine EK_ev (Ev_notD rfl) ?_) | (refine EK_ev (Ev_not rfl) ?_) | (refine EK_ev (Ev_neg rfl) ?_)) | (refine ek_conv ?_; first | (refine EK_ev (Ev_convI64 rfl (by omega)) ?_) | (refine EK_ev (Ev_convI rfl) ?_) | (refine EK_ev (Ev_convS rfl) ?_)) | (refine ek_extract ?_; first | (refine EK_ev (Ev_extract rfl rfl) ?_)) | (refine ek_len ?_; first | (refine EK_ev (Ev_len_str rfl) ?_) | (refine EK_ev (Ev_len_slice rfl) ?_) | (refine EK_ev (Ev_len_arr rfl) ?_) | (refine EK_ev (Ev_len_map rfl (by (repeat' (first | exact Sel.here | apply Sel.there)); first | done | fail)) ?_)) | (refine ek_min ?_; first | (refine EK_ev (Ev_min rfl rfl) ?_)) | (refine ek_add ?_; first | (refine EK_ev (Ev_addI rfl rfl (by omega)) ?_) | (refine EK_ev (Ev_addS rfl rfl (by simp <;> omega)) ?_) | (refine EK_ev (Ev_add rfl rfl) ?_)) | (refine ek_sub ?_; first | (refine EK_ev (Ev_subI rfl rfl (by omega)) ?_) | (refine EK_ev (Ev_sub rfl rfl) ?_)) | (refine ek_neq ?_; first | (refine EK_ev (Ev_neqI rfl rfl) ?_) | (refine EK_ev (Ev_neqS rfl rfl) ?_) | (refine EK_ev (Ev_neqNil rfl rfl) ?_) | (refine EK_ev (Ev_neqB rfl rfl) ?_) | (refine EK_ev (Ev_neqO rfl rfl rfl (fun _ => rfl)) ?_)) | (refine ek_lss ?_; first | (refine EK_ev (Ev_lssI_q rfl rfl qb) ?_) | (refine EK_ev (Ev_lssI rfl rfl) ?_) | (refine EK_ev (Ev_lssS rfl rfl) ?_)) | (refine ek_gtr ?_; first | (refine EK_ev (Ev_gtrI_q rfl rfl q3) ?_) | (refine EK_ev (Ev_gtrI rfl rfl) ?_) | (refine EK_ev (Ev_gtrS rfl rfl) ?_)))
    | (refine is_ex ?_; first | (refine KJ_blk_exit' rfl ?_))
    | (refine is_code ?_; first | (refine KJ_cond_dec rfl (fun _ => ?_) (fun _ => ?_) <;> first | (exfalso; omega) | skip) | (refine KJ_cond_t rfl ?_) | (refine KJ_cond_f rfl ?_)))
    all_goals (refine is_ex ?_; exact KJ_done (by first | exact Or.inl rfl | exact Or.inr rfl) rfl (by (repeat' (first | exact Rvs.nil | (apply Rvs.tmp; exact rfl))); first | done | fail) () (by rfl) (Ent.of (by (repeat' (first | exact Pick.nil | apply Pick.cons | exact Sel.here | apply Sel.there)); first | done | fail) (by (repeat' (first | exact DropTo.refl | apply DropTo.there)); first | done | fail)))
  have hoff : ∀ sv wv : Value, [sv, wv, .bool D.off, .bool (decide (0 ≤ D.armed)), .int .i64 (max D.armed 0), .int .i64 D.writes, .int .i64 D.flushes, .int .i64 D.life][0 + 2]? = some (Value.bool false) := fun sv wv => by rw [h4]; rfl
  obtain ⟨S, hS⟩ : ∃ S, S = (sectorsI bytes).toNat := ⟨_, rfl⟩
  have hR : areaR D at_ n st bytes = arGo D at_ st bytes S 0 [] := by rw [hS]; unfold areaR; rw [if_neg (by rw [h1]; simp), if_neg (by omega), if_neg hb, if_neg h3, if_neg (by rw [h4]; simp)]
  rw [hR]
  have hbr : bytes ≤ 234 * 65536 := by unfold roomI at h3; omega
  have hSI : S = (bytes.toNat + 233) / 234 := by
    rw [hS]
    unfold sectorsI
    split <;> omega
  obtain ⟨res, hres⟩ : ∃ res, res = arGo D at_ st bytes S 0 [] := ⟨_, rfl⟩
  rw [← hres]
  obtain ⟨hat, hatn, hn0⟩ : (0 ≤ at_ ∧ at_ ≤ 65536) ∧ n ≤ (D.n : Int) - at_ ∧ 0 ≤ n := by
    unfold Dsk.mayB at h1
    have := of_decide_eq_true h1
    omega
  have hbn : bytes ≤ 234 * n := by unfold roomI at h3; omega
  clear hR hS
  refine Ct.enter Tryd.func92 rfl Tryd.ntmps92 (by simp) (fun R => ?_)
  repeat' (first 
    | refine KJ_stp (by first | constructor | fail) ?_
    | (refine is_list ?_; first | (refine KJ_guard_dec_t rfl rfl rfl (fun _ => ?_) (fun _ => ?_) <;> first | (exfalso; omega) | skip) | (refine KJ_guard_dec_f rfl rfl rfl (fun _ => ?_) (fun _ => ?_) <;> first | (exfalso; omega) | skip) | (refine KJ_guard_yes rfl rfl ?_) | (refine KJ_guard_no rfl rfl rfl rfl ?_))
    | (refine is_oper ?_; first | (refine is_call ?_; first | (refine KJ_call (by (repeat' (first | exact Evs.nil | refine Evs.cons rfl ?_)); first | done | fail) c2 (by (repeat' (first | exact Pick.nil | apply Pick.cons | exact Sel.here | apply Sel.there)); first | done | fail) rfl (fun _ => ?_)) | (refine KJ_call (by (repeat' (first | exact Evs.nil | refine Evs.cons rfl ?_)); first | done | fail) c1 (by (repeat' (first | exact Pick.nil | apply Pick.cons | exact Sel.here | apply Sel.there)); first | done | fail) rfl (fun _ => ?_))) | (refine is_bslice ?_; first | (refine KJ_bslice0 rfl (fun g0 => ?_))) | (refine KJ_ek rfl ?_) | (refine KJ_ek0 ?_))
    | (refine is_ek ?_; first | (refine ek_move ?_; first | (refine EK_ev (Ev_move rfl) ?_)) | (refine ek_assign ?_; first | (refine EK_ev (Ev_assign rfl) ?_)) | (refine ek_pick ?_; first | (refine EK_ev (Ev_pick_t rfl rfl) ?_) | (refine EK_ev (Ev_pick_f rfl rfl) ?_)) | (refine ek_nilCheck ?_; first | (refine EK_ev (Ev_nilCheck rfl) ?_)) | (refine ek_fieldAddr ?_; first | (refine EK_ev (Ev_field rfl) ?_)) | (refine ek_load ?_; first | (refine EK_ev (Ev_load rfl (by (repeat' (first | exact Sel.here | apply Sel.there)); first | done | fail) (by rfl)) ?_) | (refine EK_ev (Ev_loadRef rfl (by (repeat' (first | exact Sel.here | apply Sel.there)); first | done | fail) hoff) ?_) | (refine EK_ev (Ev_load rfl (by (repeat' (first | exact Sel.here | apply Sel.there)); first | done | fail) (by rfl)) ?_) | (refine EK_ev (Ev_loadOld rfl (by assumption)) ?_) | (refine EK_ev (Ev_loadAgg rfl (by (repeat' (first | exact Sel.here | apply Sel.there)); first | done | fail) (by (repeat' (first | exact Cut.nil | apply Cut.cons | apply Cut.skip)); first | done | fail)) ?_)) | (refine ek_un ?_; first | (refine EK_ev (Ev_notD rfl) ?_) | (refine EK_ev (Ev_not rfl) ?_) | (refine EK_ev (Ev_neg rfl) ?_)) | (refine ek_conv ?_; first | (refine EK_ev (Ev_convI64 rfl (by omega)) ?_) | (refine EK_ev (Ev_convI rfl) ?_) | (refine EK_ev (Ev_convS rfl) ?_)) | (refine ek_extract ?_; first | (refine EK_ev (Ev_extract rfl rfl) ?_)) | (refine ek_len ?_; first | (refine EK_ev (Ev_len_str rfl) ?_) | (refine EK_ev (Ev_len_slice rfl) ?_) | (refine EK_ev (Ev_len_arr rfl) ?_) | (refine EK_ev (Ev_len_map rfl (by (repeat' (first | exact Sel.here | apply Sel.there)); first | done | fail)) ?_)) | (refine ek_min ?_; first | (refine EK_ev (Ev_min rfl rfl) ?_)) | (refine ek_add ?_; first | (refine EK_ev (Ev_addI rfl rfl (by omega)) ?_) | (refine EK_ev (Ev_addS rfl rfl (by simp <;> omega)) ?_) | (refine EK_ev (Ev_add rfl rfl) ?_)) | (refine ek_sub ?_; first | (refine EK_ev (Ev_subI rfl rfl (by omega)) ?_) | (refine EK_ev (Ev_sub rfl rfl) ?_)) | (refine ek_neq ?_; first | (refine EK_ev (Ev_neqI rfl rfl) ?_) | (refine EK_ev (Ev_neqS rfl rfl) ?_) | (refine EK_ev (Ev_neqNil rfl rfl) ?_) | (refine EK_ev (Ev_neqB rfl rfl) ?_) | (refine EK_ev (Ev_neqO rfl rfl rfl (fun _ => rfl)) ?_)) | (refine ek_lss ?_; first | (refine EK_ev (Ev_lssI_q rfl rfl qb) ?_) | (refine EK_ev (Ev_lssI rfl rfl) ?_) | (refine EK_ev (Ev_lssS rfl rfl) ?_)) | (refine ek_gtr ?_; first | (refine EK_ev (Ev_gtrI_q rfl rfl q3) ?_) | (refine EK_ev (Ev_gtrI rfl rfl) ?_) | (refine EK_ev (Ev_gtrS rfl rfl) ?_)))
    | (refine is_ex ?_; first | (refine KJ_blk_exit' rfl ?_))
    | (refine is_code ?_; first | (refine KJ_cond_dec rfl (fun _ => ?_) (fun _ => ?_) <;> first | (exfalso; omega) | skip) | (refine KJ_cond_t rfl ?_) | (refine KJ_cond_f rfl ?_)))
  refine KJ_loop (fun i : {s : Nat × List UInt8 × Nat × Nat // arGo D at_ st bytes (S - s.1) s.1 s.2.1 = res ∧ s.1 ≤ S ∧ (s.2.1.length : Int) = min (234 * (s.1 : Int)) bytes} =>
      [(0, .pointer (some ⟨p, 0, none⟩)), (1, .int .i64 at_), (3, .int .u64 (st : Nat)), (4, .int .i64 bytes), (13, .slice (some ⟨i.1.2.2.1, 0, none⟩) i.1.2.1.length i.1.2.2.2), (14, .int .i64 (i.1.1 : Nat))])
    (fun i => [RefP p D, rowP (.slice (some ⟨i.1.2.2.1, 0, none⟩) i.1.2.1.length i.1.2.2.2) 5 1 i.1.2.1.length (bvs i.1.2.1)] ++ R) (fun i => S - i.1.1) ⟨(0, [], g0, 0), hres.symm, by dsimp only; omega, by dsimp only [List.length]; omega⟩ (by (repeat' (first | exact Subs.nil | refine Subs.cons rfl ?_)); first | done | fail) (Ent.of (by (repeat' (first | exact Pick.nil | apply Pick.cons | exact Sel.here | apply Sel.there)); first | done | fail) (by (repeat' (first | exact DropTo.refl | apply DropTo.there)); first | done | fail)) (fun ⟨(i, acc, g, c), hr, hi, hal⟩ => ?_)
  dsimp only at hr hi hal ⊢
  by_cases hlt : i < S
  rotate_left
  · have hiS : i = S := by omega
    subst hiS
    rw [Nat.sub_self] at hr
    have ql : decide ((acc.length : Int) < bytes) = false := decide_eq_false (by omega)
    have hE2 : res.2 = 0 := by rw [← hr]; rfl
    have hS2 : res.1 = acc := by rw [← hr]; rfl
    rw [hE2, hS2]
    repeat' (first 
    | refine KJ_stp (by first | constructor | fail) ?_
    | (refine is_list ?_; first | (refine KJ_guard_dec_t rfl rfl rfl (fun _ => ?_) (fun _ => ?_) <;> first | (exfalso; omega) | skip) | (refine KJ_guard_dec_f rfl rfl rfl (fun _ => ?_) (fun _ => ?_) <;> first | (exfalso; omega) | skip) | (refine KJ_guard_yes rfl rfl ?_) | (refine KJ_guard_no rfl rfl rfl rfl ?_))
    | (refine is_oper ?_; first | (refine KJ_ek rfl ?_) | (refine KJ_ek0 ?_))
    | (refine is_ek ?_; first | (refine ek_move ?_; first | (refine EK_ev (Ev_move rfl) ?_)) | (refine ek_assign ?_; first | (refine EK_ev (Ev_assign rfl) ?_)) | (refine ek_pick ?_; first | (refine EK_ev (Ev_pick_t rfl rfl) ?_) | (refine EK_ev (Ev_pick_f rfl rfl) ?_)) | (refine ek_nilCheck ?_; first | (refine EK_ev (Ev_nilCheck rfl) ?_)) | (refine ek_fieldAddr ?_; first | (refine EK_ev (Ev_field rfl) ?_)) | (refine ek_load ?_; first | (refine EK_ev (Ev_load rfl (by (repeat' (first | exact Sel.here | apply Sel.there)); first | done | fail) (by rfl)) ?_) | (refine EK_ev (Ev_load rfl (by (repeat' (first | exact Sel.here | apply Sel.there)); first | done | fail) (by rfl)) ?_) | (refine EK_ev (Ev_loadOld rfl (by assumption)) ?_) | (refine EK_ev (Ev_loadAgg rfl (by (repeat' (first | exact Sel.here | apply Sel.there)); first | done | fail) (by (repeat' (first | exact Cut.nil | apply Cut.cons | apply Cut.skip)); first | done | fail)) ?_)) | (refine ek_un ?_; first | (refine EK_ev (Ev_notD rfl) ?_) | (refine EK_ev (Ev_not rfl) ?_) | (refine EK_ev (Ev_neg rfl) ?_)) | (refine ek_conv ?_; first | (refine EK_ev (Ev_bytesRow rfl (by (repeat' (first | exact Sel.here | apply Sel.there)); first | done | fail)) ?_) | (refine EK_ev (Ev_convI64 rfl (by omega)) ?_) | (refine EK_ev (Ev_convI rfl) ?_) | (refine EK_ev (Ev_convS rfl) ?_)) | (refine ek_extract ?_; first | (refine EK_ev (Ev_extract rfl rfl) ?_)) | (refine ek_len ?_; first | (refine EK_ev (Ev_len_str rfl) ?_) | (refine EK_ev (Ev_len_slice rfl) ?_) | (refine EK_ev (Ev_len_arr rfl) ?_) | (refine EK_ev (Ev_len_map rfl (by (repeat' (first | exact Sel.here | apply Sel.there)); first | done | fail)) ?_)) | (refine ek_min ?_; first | (refine EK_ev (Ev_min rfl rfl) ?_)) | (refine ek_add ?_; first | (refine EK_ev (Ev_addI rfl rfl (by omega)) ?_) | (refine EK_ev (Ev_addS rfl rfl (by simp <;> omega)) ?_) | (refine EK_ev (Ev_add rfl rfl) ?_)) | (refine ek_sub ?_; first | (refine EK_ev (Ev_subI rfl rfl (by omega)) ?_) | (refine EK_ev (Ev_sub rfl rfl) ?_)) | (refine ek_neq ?_; first | (refine EK_ev (Ev_neqI rfl rfl) ?_) | (refine EK_ev (Ev_neqS rfl rfl) ?_) | (refine EK_ev (Ev_neqNil rfl rfl) ?_) | (refine EK_ev (Ev_neqB rfl rfl) ?_) | (refine EK_ev (Ev_neqO rfl rfl rfl (fun _ => rfl)) ?_)) | (refine ek_lss ?_; first | (refine EK_ev (Ev_lssI_q rfl rfl ql) ?_) | (refine EK_ev (Ev_lssI rfl rfl) ?_) | (refine EK_ev (Ev_lssS rfl rfl) ?_)) | (refine ek_gtr ?_; first | (refine EK_ev (Ev_gtrI rfl rfl) ?_) | (refine EK_ev (Ev_gtrS rfl rfl) ?_)))
    | (refine is_ex ?_; first | (refine KJ_blk_exit' rfl ?_))
    | (refine is_code ?_; first | (refine KJ_cond_dec rfl (fun _ => ?_) (fun _ => ?_) <;> first | (exfalso; omega) | skip) | (refine KJ_cond_t rfl ?_) | (refine KJ_cond_f rfl ?_)))
    all_goals (refine is_ex ?_; exact KJ_done (by first | exact Or.inl rfl | exact Or.inr rfl) rfl (by (repeat' (first | exact Rvs.nil | (apply Rvs.tmp; exact rfl))); first | done | fail) () (by rfl) (Ent.of (by (repeat' (first | exact Pick.nil | apply Pick.cons | exact Sel.here | apply Sel.there)); first | done | fail) (by (repeat' (first | exact DropTo.refl | apply DropTo.there)); first | done | fail)))
  have ql : decide ((acc.length : Int) < bytes) = true := decide_eq_true (by omega)
  obtain ⟨f, hf⟩ : ∃ f, S - i = f + 1 := ⟨S - i - 1, by omega⟩
  have hf2 : S - (i + 1) = f := by omega
  rw [hf] at hr
  have hhas : D.has (at_ + (i : Nat)) = true := by unfold Dsk.has; exact decide_eq_true (by omega)
  have hE0 : D.readE (at_ + (i : Nat)) = 0 := by unfold Dsk.readE; rw [h4, hhas]; rfl
  have hunf : arGo D at_ st bytes (f + 1) i acc = if D.readE (at_ + (i : Nat)) ≠ 0 then ([], D.readE (at_ + (i : Nat))) else
      match openS st (D.readS (at_ + (i : Nat))) with
      | none => ([], 15)
      | some pc => if (pc.length : Int) ≠ min (bytes - i * 234) 234 then ([], 15) else arGo D at_ st bytes f (i + 1) (acc ++ pc) := rfl
  rw [hunf, if_neg (by rw [hE0]; simp)] at hr
  clear hunf
  have c6 := rread_ct (W := W) (p := p) hok (at_ + (i : Nat)) hul
  rw [hE0] at c6
  have c7 := ropen_ct (W := W) st hst (D.readS (at_ + (i : Nat)))
  obtain ⟨raw, hraw⟩ : ∃ raw, raw = D.readS (at_ + (i : Nat)) := ⟨_, rfl⟩
  rw [← hraw] at c6 c7 hr
  clear hraw
  obtain ⟨o, ho⟩ : ∃ o, o = openS st raw := ⟨_, rfl⟩
  rw [← ho] at c7 hr
  clear ho
  have hbi : 0 ≤ (i : Int) ∧ (i : Int) ≤ 65535 := by omega
  cases o with
  | none =>
    have hE2 : res.2 = 15 := by rw [← hr]
    have hS2 : res.1 = [] := by rw [← hr]
    rw [hE2, hS2]
    have c7' : Ct Tryd.prog W 116 [.int .u64 (st : Nat), strV raw] [] (fun _ : Unit => .tuple #[strV [], .bool false]) (fun _ => []) := c7
    repeat' (first 
    | refine KJ_stp (by first | constructor | fail) ?_
    | (refine is_list ?_; first | (refine KJ_guard_dec_t rfl rfl rfl (fun _ => ?_) (fun _ => ?_) <;> first | (exfalso; omega) | skip) | (refine KJ_guard_dec_f rfl rfl rfl (fun _ => ?_) (fun _ => ?_) <;> first | (exfalso; omega) | skip) | (refine KJ_guard_yes rfl rfl ?_) | (refine KJ_guard_no rfl rfl rfl rfl ?_))
    | (refine is_oper ?_; first | (refine is_call ?_; first | (refine KJ_call (by (repeat' (first | exact Evs.nil | refine Evs.cons rfl ?_)); first | done | fail) c7' (by (repeat' (first | exact Pick.nil | apply Pick.cons | exact Sel.here | apply Sel.there)); first | done | fail) rfl (fun _ => ?_)) | (refine KJ_call (by (repeat' (first | exact Evs.nil | refine Evs.cons rfl ?_)); first | done | fail) c6 (by (repeat' (first | exact Pick.nil | apply Pick.cons | exact Sel.here | apply Sel.there)); first | done | fail) rfl (fun _ => ?_))) | (refine KJ_ek rfl ?_) | (refine KJ_ek0 ?_))
    | (refine is_ek ?_; first | (refine ek_move ?_; first | (refine EK_ev (Ev_move rfl) ?_)) | (refine ek_assign ?_; first | (refine EK_ev (Ev_assign rfl) ?_)) | (refine ek_pick ?_; first | (refine EK_ev (Ev_pick_t rfl rfl) ?_) | (refine EK_ev (Ev_pick_f rfl rfl) ?_)) | (refine ek_nilCheck ?_; first | (refine EK_ev (Ev_nilCheck rfl) ?_)) | (refine ek_fieldAddr ?_; first | (refine EK_ev (Ev_field rfl) ?_)) | (refine ek_load ?_; first | (refine EK_ev (Ev_load rfl (by (repeat' (first | exact Sel.here | apply Sel.there)); first | done | fail) (by rfl)) ?_) | (refine EK_ev (Ev_load rfl (by (repeat' (first | exact Sel.here | apply Sel.there)); first | done | fail) (by rfl)) ?_) | (refine EK_ev (Ev_loadOld rfl (by assumption)) ?_) | (refine EK_ev (Ev_loadAgg rfl (by (repeat' (first | exact Sel.here | apply Sel.there)); first | done | fail) (by (repeat' (first | exact Cut.nil | apply Cut.cons | apply Cut.skip)); first | done | fail)) ?_)) | (refine ek_un ?_; first | (refine EK_ev (Ev_notD rfl) ?_) | (refine EK_ev (Ev_not rfl) ?_) | (refine EK_ev (Ev_neg rfl) ?_)) | (refine ek_conv ?_; first | (refine EK_ev (Ev_convI64 rfl (by omega)) ?_) | (refine EK_ev (Ev_convI rfl) ?_) | (refine EK_ev (Ev_convS rfl) ?_)) | (refine ek_extract ?_; first | (refine EK_ev (Ev_extract rfl rfl) ?_)) | (refine ek_len ?_; first | (refine EK_ev (Ev_len_str rfl) ?_) | (refine EK_ev (Ev_len_slice rfl) ?_) | (refine EK_ev (Ev_len_arr rfl) ?_) | (refine EK_ev (Ev_len_map rfl (by (repeat' (first | exact Sel.here | apply Sel.there)); first | done | fail)) ?_)) | (refine ek_min ?_; first | (refine EK_ev (Ev_min rfl rfl) ?_)) | (refine ek_add ?_; first | (refine EK_ev (Ev_addI rfl rfl (by omega)) ?_) | (refine EK_ev (Ev_addS rfl rfl (by simp <;> omega)) ?_) | (refine EK_ev (Ev_add rfl rfl) ?_)) | (refine ek_sub ?_; first | (refine EK_ev (Ev_subI rfl rfl (by omega)) ?_) | (refine EK_ev (Ev_sub rfl rfl) ?_)) | (refine ek_neq ?_; first | (refine EK_ev (Ev_neqI rfl rfl) ?_) | (refine EK_ev (Ev_neqS rfl rfl) ?_) | (refine EK_ev (Ev_neqNil rfl rfl) ?_) | (refine EK_ev (Ev_neqB rfl rfl) ?_) | (refine EK_ev (Ev_neqO rfl rfl rfl (fun _ => rfl)) ?_)) | (refine ek_lss ?_; first | (refine EK_ev (Ev_lssI_q rfl rfl ql) ?_) | (refine EK_ev (Ev_lssI rfl rfl) ?_) | (refine EK_ev (Ev_lssS rfl rfl) ?_)) | (refine ek_gtr ?_; first | (refine EK_ev (Ev_gtrI rfl rfl) ?_) | (refine EK_ev (Ev_gtrS rfl rfl) ?_)))
    | (refine is_ex ?_; first | (refine KJ_blk_exit' rfl ?_))
    | (refine is_code ?_; first | (refine KJ_cond_dec rfl (fun _ => ?_) (fun _ => ?_) <;> first | (exfalso; omega) | skip) | (refine KJ_cond_t rfl ?_) | (refine KJ_cond_f rfl ?_)))
    all_goals (refine is_ex ?_; exact KJ_done (by first | exact Or.inl rfl | exact Or.inr rfl) rfl (by (repeat' (first | exact Rvs.nil | (apply Rvs.tmp; exact rfl))); first | done | fail) () (by rfl) (Ent.of (by (repeat' (first | exact Pick.nil | apply Pick.cons | exact Sel.here | apply Sel.there)); first | done | fail) (by (repeat' (first | exact DropTo.refl | apply DropTo.there)); first | done | fail)))
  | some pc =>
    dsimp only at hr
    have c7' : Ct Tryd.prog W 116 [.int .u64 (st : Nat), strV raw] [] (fun _ : Unit => .tuple #[strV pc, .bool true]) (fun _ => []) := c7
    obtain ⟨m, hm⟩ : ∃ m, m = min (bytes - (i : Int) * 234) 234 := ⟨_, rfl⟩
    have hm2 : min 234 (bytes - (acc.length : Int)) = m := by omega
    rw [← hm] at hr
    by_cases hl : (pc.length : Int) = m
    rotate_left
    · rw [if_pos hl] at hr
      have hE2 : res.2 = 15 := by rw [← hr]
      have hS2 : res.1 = [] := by rw [← hr]
      rw [hE2, hS2]
      repeat' (first 
    | refine KJ_stp (by first | constructor | fail) ?_
    | (refine is_list ?_; first | (refine KJ_guard_dec_t rfl rfl rfl (fun _ => ?_) (fun _ => ?_) <;> first | (exfalso; omega) | skip) | (refine KJ_guard_dec_f rfl rfl rfl (fun _ => ?_) (fun _ => ?_) <;> first | (exfalso; omega) | skip) | (refine KJ_guard_yes rfl rfl ?_) | (refine KJ_guard_no rfl rfl rfl rfl ?_))
    | (refine is_oper ?_; first | (refine is_call ?_; first | (refine KJ_call (by (repeat' (first | exact Evs.nil | refine Evs.cons rfl ?_)); first | done | fail) c7' (by (repeat' (first | exact Pick.nil | apply Pick.cons | exact Sel.here | apply Sel.there)); first | done | fail) rfl (fun _ => ?_)) | (refine KJ_call (by (repeat' (first | exact Evs.nil | refine Evs.cons rfl ?_)); first | done | fail) c6 (by (repeat' (first | exact Pick.nil | apply Pick.cons | exact Sel.here | apply Sel.there)); first | done | fail) rfl (fun _ => ?_))) | (refine KJ_ek rfl ?_) | (refine KJ_ek0 ?_))
    | (refine is_ek ?_; first | (refine ek_move ?_; first | (refine EK_ev (Ev_move rfl) ?_)) | (refine ek_assign ?_; first | (refine EK_ev (Ev_assign rfl) ?_)) | (refine ek_pick ?_; first | (refine EK_ev (Ev_pick_t rfl rfl) ?_) | (refine EK_ev (Ev_pick_f rfl rfl) ?_)) | (refine ek_nilCheck ?_; first | (refine EK_ev (Ev_nilCheck rfl) ?_)) | (refine ek_fieldAddr ?_; first | (refine EK_ev (Ev_field rfl) ?_)) | (refine ek_load ?_; first | (refine EK_ev (Ev_load rfl (by (repeat' (first | exact Sel.here | apply Sel.there)); first | done | fail) (by rfl)) ?_) | (refine EK_ev (Ev_load rfl (by (repeat' (first | exact Sel.here | apply Sel.there)); first | done | fail) (by rfl)) ?_) | (refine EK_ev (Ev_loadOld rfl (by assumption)) ?_) | (refine EK_ev (Ev_loadAgg rfl (by (repeat' (first | exact Sel.here | apply Sel.there)); first | done | fail) (by (repeat' (first | exact Cut.nil | apply Cut.cons | apply Cut.skip)); first | done | fail)) ?_)) | (refine ek_un ?_; first | (refine EK_ev (Ev_notD rfl) ?_) | (refine EK_ev (Ev_not rfl) ?_) | (refine EK_ev (Ev_neg rfl) ?_)) | (refine ek_conv ?_; first | (refine EK_ev (Ev_convI64 rfl (by omega)) ?_) | (refine EK_ev (Ev_convI rfl) ?_) | (refine EK_ev (Ev_convS rfl) ?_)) | (refine ek_extract ?_; first | (refine EK_ev (Ev_extract rfl rfl) ?_)) | (refine ek_len ?_; first | (refine EK_ev (Ev_len_str rfl) ?_) | (refine EK_ev (Ev_len_slice rfl) ?_) | (refine EK_ev (Ev_len_arr rfl) ?_) | (refine EK_ev (Ev_len_map rfl (by (repeat' (first | exact Sel.here | apply Sel.there)); first | done | fail)) ?_)) | (refine ek_min ?_; first | (refine EK_ev (Ev_min_v rfl rfl hm2) ?_) | (refine EK_ev (Ev_min rfl rfl) ?_)) | (refine ek_add ?_; first | (refine EK_ev (Ev_addI rfl rfl (by omega)) ?_) | (refine EK_ev (Ev_addS rfl rfl (by simp <;> omega)) ?_) | (refine EK_ev (Ev_add rfl rfl) ?_)) | (refine ek_sub ?_; first | (refine EK_ev (Ev_subI rfl rfl (by omega)) ?_) | (refine EK_ev (Ev_sub rfl rfl) ?_)) | (refine ek_neq ?_; first | (refine EK_ev (Ev_neqI_t rfl rfl hl) ?_) | (refine EK_ev (Ev_neqI rfl rfl) ?_) | (refine EK_ev (Ev_neqS rfl rfl) ?_) | (refine EK_ev (Ev_neqNil rfl rfl) ?_) | (refine EK_ev (Ev_neqB rfl rfl) ?_) | (refine EK_ev (Ev_neqO rfl rfl rfl (fun _ => rfl)) ?_)) | (refine ek_lss ?_; first | (refine EK_ev (Ev_lssI_q rfl rfl ql) ?_) | (refine EK_ev (Ev_lssI rfl rfl) ?_) | (refine EK_ev (Ev_lssS rfl rfl) ?_)) | (refine ek_gtr ?_; first | (refine EK_ev (Ev_gtrI rfl rfl) ?_) | (refine EK_ev (Ev_gtrS rfl rfl) ?_)))
    | (refine is_ex ?_; first | (refine KJ_blk_exit' rfl ?_))
    | (refine is_code ?_; first | (refine KJ_cond_dec rfl (fun _ => ?_) (fun _ => ?_) <;> first | (exfalso; omega) | skip) | (refine KJ_cond_t rfl ?_) | (refine KJ_cond_f rfl ?_)))
      all_goals (refine is_ex ?_; exact KJ_done (by first | exact Or.inl rfl | exact Or.inr rfl) rfl (by (repeat' (first | exact Rvs.nil | (apply Rvs.tmp; exact rfl))); first | done | fail) () (by rfl) (Ent.of (by (repeat' (first | exact Pick.nil | apply Pick.cons | exact Sel.here | apply Sel.there)); first | done | fail) (by (repeat' (first | exact DropTo.refl | apply DropTo.there)); first | done | fail)))
    rw [if_neg (by simpa using hl)] at hr
    repeat' (first 
    | refine KJ_stp (by first | constructor | fail) ?_
    | (refine is_list ?_; first | (refine KJ_guard_dec_t rfl rfl rfl (fun _ => ?_) (fun _ => ?_) <;> first | (exfalso; omega) | skip) | (refine KJ_guard_dec_f rfl rfl rfl (fun _ => ?_) (fun _ => ?_) <;> first | (exfalso; omega) | skip) | (refine KJ_guard_yes rfl rfl ?_) | (refine KJ_guard_no rfl rfl rfl rfl ?_))
    | (refine is_oper ?_; first | (refine is_call ?_; first | (refine KJ_call (by (repeat' (first | exact Evs.nil | refine Evs.cons rfl ?_)); first | done | fail) c7' (by (repeat' (first | exact Pick.nil | apply Pick.cons | exact Sel.here | apply Sel.there)); first | done | fail) rfl (fun _ => ?_)) | (refine KJ_call (by (repeat' (first | exact Evs.nil | refine Evs.cons rfl ?_)); first | done | fail) c6 (by (repeat' (first | exact Pick.nil | apply Pick.cons | exact Sel.here | apply Sel.there)); first | done | fail) rfl (fun _ => ?_))) | (refine is_append ?_; first | (refine KJ_appendStr rfl rfl (by (repeat' (first | exact Sel.here | apply Sel.there)); first | done | fail) (.inr rfl) (by omega) rfl (fun g2 c2 => ?_))) | (refine KJ_ek rfl ?_) | (refine KJ_ek0 ?_))
    | (refine is_ek ?_; first | (refine ek_move ?_; first | (refine EK_ev (Ev_move rfl) ?_)) | (refine ek_assign ?_; first | (refine EK_ev (Ev_assign rfl) ?_)) | (refine ek_pick ?_; first | (refine EK_ev (Ev_pick_t rfl rfl) ?_) | (refine EK_ev (Ev_pick_f rfl rfl) ?_)) | (refine ek_nilCheck ?_; first | (refine EK_ev (Ev_nilCheck rfl) ?_)) | (refine ek_fieldAddr ?_; first | (refine EK_ev (Ev_field rfl) ?_)) | (refine ek_load ?_; first | (refine EK_ev (Ev_load rfl (by (repeat' (first | exact Sel.here | apply Sel.there)); first | done | fail) (by rfl)) ?_) | (refine EK_ev (Ev_load rfl (by (repeat' (first | exact Sel.here | apply Sel.there)); first | done | fail) (by rfl)) ?_) | (refine EK_ev (Ev_loadOld rfl (by assumption)) ?_) | (refine EK_ev (Ev_loadAgg rfl (by (repeat' (first | exact Sel.here | apply Sel.there)); first | done | fail) (by (repeat' (first | exact Cut.nil | apply Cut.cons | apply Cut.skip)); first | done | fail)) ?_)) | (refine ek_un ?_; first | (refine EK_ev (Ev_notD rfl) ?_) | (refine EK_ev (Ev_not rfl) ?_) | (refine EK_ev (Ev_neg rfl) ?_)) | (refine ek_conv ?_; first | (refine EK_ev (Ev_convI64 rfl (by omega)) ?_) | (refine EK_ev (Ev_convI rfl) ?_) | (refine EK_ev (Ev_convS rfl) ?_)) | (refine ek_extract ?_; first | (refine EK_ev (Ev_extract rfl rfl) ?_)) | (refine ek_len ?_; first | (refine EK_ev (Ev_len_str rfl) ?_) | (refine EK_ev (Ev_len_slice rfl) ?_) | (refine EK_ev (Ev_len_arr rfl) ?_) | (refine EK_ev (Ev_len_map rfl (by (repeat' (first | exact Sel.here | apply Sel.there)); first | done | fail)) ?_)) | (refine ek_min ?_; first | (refine EK_ev (Ev_min_v rfl rfl hm2) ?_) | (refine EK_ev (Ev_min rfl rfl) ?_)) | (refine ek_add ?_; first | (refine EK_ev (Ev_addI_v (r := ((i + 1 : Nat) : Int)) rfl rfl (by omega) (by omega)) ?_) | (refine EK_ev (Ev_addI rfl rfl (by omega)) ?_) | (refine EK_ev (Ev_addS rfl rfl (by simp <;> omega)) ?_) | (refine EK_ev (Ev_add rfl rfl) ?_)) | (refine ek_sub ?_; first | (refine EK_ev (Ev_subI rfl rfl (by omega)) ?_) | (refine EK_ev (Ev_sub rfl rfl) ?_)) | (refine ek_neq ?_; first | (refine EK_ev (Ev_neqI_f rfl rfl hl) ?_) | (refine EK_ev (Ev_neqI rfl rfl) ?_) | (refine EK_ev (Ev_neqS rfl rfl) ?_) | (refine EK_ev (Ev_neqNil rfl rfl) ?_) | (refine EK_ev (Ev_neqB rfl rfl) ?_) | (refine EK_ev (Ev_neqO rfl rfl rfl (fun _ => rfl)) ?_)) | (refine ek_lss ?_; first | (refine EK_ev (Ev_lssI_q rfl rfl ql) ?_) | (refine EK_ev (Ev_lssI rfl rfl) ?_) | (refine EK_ev (Ev_lssS rfl rfl) ?_)) | (refine ek_gtr ?_; first | (refine EK_ev (Ev_gtrI rfl rfl) ?_) | (refine EK_ev (Ev_gtrS rfl rfl) ?_)))
    | (refine is_ex ?_; first | (refine KJ_blk_exit' rfl ?_))
    | (refine is_code ?_; first | (refine KJ_cond_dec rfl (fun _ => ?_) (fun _ => ?_) <;> first | (exfalso; omega) | skip) | (refine KJ_cond_t rfl ?_) | (refine KJ_cond_f rfl ?_)))
    refine KJ_again ⟨(i + 1, acc ++ pc, g2, c2), by dsimp only; rw [hf2]; exact hr, by dsimp only; omega, by dsimp only; rw [List.length_append]; omega⟩ (by show S - (i + 1) < S - i; omega) ?_ ?_
    · dsimp only
      rw [List.length_append]
      exact (by (repeat' (first | exact Subs.nil | refine Subs.cons rfl ?_)); first | done | fail)
    · have ebv : bvs acc ++ bvs pc = bvs (acc ++ pc) := by simp [bvs]
      dsimp only
      rw [ebv, List.length_append]
      exact (Ent.of (by (repeat' (first | exact Pick.nil | apply Pick.cons | exact Sel.here | apply Sel.there)); first | done | fail) (by (repeat' (first | exact DropTo.refl | apply DropTo.there)); first | done | fail))
end
end Go.Proofs.YteklldbfdmaafaaDoor
/-
  A fate whose Kept was copied: append([]bool(nothing), kept...), and Crash with the copy.
-/
namespace Go.Proofs.YteklldbfdmaafaaDoor
open Go Go.RowKit
section
variable {P : Program} {W : World} {n d : Nat} {E : Env} {H R : List SP} {t e : TypeId} {x y : Operand} {k : KK}
/-- nothing is appended -/
theorem KJ_appendNo {base xa : Option Addr} {sLen sCap l c2 : Nat} {size : Nat} (hx : Env.ev E x = some (.slice base sLen sCap)) (hy : Env.ev E y = some (.slice xa l c2)) [hu : UIs P t (.slice e)] [hs : SzIs P e size] (hl : l = 0) (hle : sLen ≤ sCap) (hn : Nat.blt d n = true)
    (h : KJ W n k ((d, .slice base sLen sCap) :: E) H) : KJ W n (.oper P (.call { callee := .builtin .append, args := #[x, y], argTypes := #[t, t] }) (some d) k) E H := by
  refine ⟨fun a w p s o ho hd Q => ?_⟩
  subst hl
  have hs := hs.h
  cases hq : P.info? e with
  | none => simp [hq] at hs
  | some it =>
    have hsrc : Go.Src P it.size t (.slice xa 0 c2) 0 [] w := by
      cases xa with
      | none => exact Go.Src.ofNil w hu.h c2
      | some a => exact Go.Src.ofSlice w hu.h a 0 c2 [] (by simp) (fun j u hj => by simp at hj) (fun u hj => by cases hj)
    have hrun := run_append_nothing (P := P) w t t o.type e it hu.h hq base sLen sCap hle _ hsrc
    show o.upon P a _ _ ((execOp a.eval o).run P w)
    have hr2 : (execOp a.eval o).run P w = .ok (.value (.slice base sLen sCap)) w := by
      simp only [execOp, ho, resolve, invoke, builtin, Sem.run_bind, Sem.run_pure, Result.andThen_ok, List.map_toArray, List.map_cons, List.map_nil, p.ev hx, p.ev hy, hrun]
    rw [hr2]
    have := h.go _ w (p.put (d := some d) hn _) s
    rw [← hd] at this
    exact this
/-- a copy of a slice of bools -/
theorem KJ_boolsCopy {g kc : Nat} {ka : Option Addr} {kept : List Bool} (hk : BoolsAt W (.slice ka kept.length kc) kept) (hkl : kept.length ≤ 140737488355328) (hx : Env.ev E x = some (.slice (some ⟨g, 0, none⟩) 0 0)) (hy : Env.ev E y = some (.slice ka kept.length kc)) [hu : UIs P t (.slice e)] [hs : SzIs P e 1] [hb : ByIs P e 1] [hz : ZcIs P e [.bool false]]
    (hsel : Sel (rowP (.slice (some ⟨g, 0, none⟩) 0 0) e 1 0 []) H R) (hn : Nat.blt d n = true)
    (h : ∀ g' c', KJ W n k ((d, .slice (some ⟨g', 0, none⟩) kept.length c') :: E) (rowP (.slice (some ⟨g', 0, none⟩) kept.length c') e 1 kept.length (kept.map .bool) :: R)) : KJ W n (.oper P (.call { callee := .builtin .append, args := #[x, y], argTypes := #[t, t] }) (some d) k) E H := by
  by_cases h0 : kept = []
  · subst h0
    refine KJ_appendNo (hs := hs) hx hy rfl (Nat.le_refl 0) hn ⟨fun a w q s => (h g 0).go a w q (s.perm hsel.perm)⟩
  · obtain ⟨a, c, hv, hr, -⟩ := hk
    obtain ⟨b, o, ha, hb2, hrr⟩ := hr h0
    cases hv
    subst ha
    have hp := List.length_pos_iff.2 h0
    have ho : ∀ l : List Bool, Ones (l.map Value.bool) := fun l => by
      induction l with
      | nil => exact Ones.nil
      | cons z l ih => exact Ones.cons rfl ih
    refine KJ_append (i := 0) (xs := []) (news := kept.map .bool) (a2 := 0) (zs := [.bool false]) (bytes := 1) (size := 1) hx hy rfl (by omega) hsel (Src.old hrr) (by simp) hp (ho kept) (by omega) (by omega) hn rfl (fun g' c' => ?_)
    have := h g' c'
    rw [Nat.zero_add]
    exact this
end
/-- Crash with the copy -/
theorem crash_copy {W : World} {p : Nat} {D : Dsk} (g c : Nat) (kept : List Bool) (torn bytes : Int) (hul : D.und.length < 1073741824) :
    Ct Tryd.prog W 29 [.pointer (some ⟨p, 0, none⟩), .agg #[.slice (some ⟨g, 0, none⟩) kept.length c, .int .i64 torn, .int .i64 bytes]] [DiskP p D, rowP (.slice (some ⟨g, 0, none⟩) kept.length c) 4 1 kept.length (kept.map .bool)] (fun _ : Unit => .tuple #[]) (fun _ => [DiskP p (D.crash kept torn bytes), rowP (.slice (some ⟨g, 0, none⟩) kept.length c) 4 1 kept.length (kept.map .bool)]) := by
  refine crash_gen [rowP (.slice (some ⟨g, 0, none⟩) kept.length c) 4 1 kept.length (kept.map .bool)] _ kept torn bytes (fun w h b hs hl => ?_) hul
  obtain ⟨h1, _, _, le, _, ⟨hlen, hd⟩, _⟩ := hs
  rcases hd with ⟨q, _⟩ | ⟨g', cap, cur, hv, hh, h3, h4, h5, h6⟩
  · cases q
  · cases hv
    refine ⟨⟨_, _, rfl, fun _ => ⟨g, 0, rfl, hl.lt (le _ _ hh), fun j v hj => ?_⟩, fun q => (by cases q), by omega, h4⟩, fun _ k hk => ?_⟩
    · rw [cell_of_row w g _ _ _ _ (hl g _ (le _ _ hh)).2]
      have e : (cur.toList.take (kept.length * 1))[j]? = some v := by
        rw [h6]
        simpa using hj
      rw [List.getElem?_take] at e
      split at e
      · simpa using e
      · cases e
    · have : g = k := by simpa [Value.ownBlock] using hk
      exact .inl ⟨_, by rw [← this]; exact le _ _ hh⟩
end Go.Proofs.YteklldbfdmaafaaDoor
/-
  []byte(s): a new row whose cells may be written; string(b) of it.
-/
namespace Go.Proofs.YteklldbfdmaafaaDoor
open Go Go.RowKit
/-- a row that the run-time has marked behind its last cell -/
def markP (b : Nat) (cs : List Value) (T : TypeId) : SP := objP b (.cells cs.toArray T (cs.length, cs.length + 1))
section
variable {P : Program} {W : World} {n d : Nat} {E : Env} {H H' R : List SP} {s t u e : TypeId} {x y : Operand} {k : KK} {T : TypeId} {b off : Nat}
theorem mark_cell {w : World} {cs : List Value} (h : w.heap[b]? = some (.cells cs.toArray T (cs.length, cs.length + 1))) (j : Nat) : w.cell? ⟨b, j, none⟩ = cs[j]? := by
  rw [cell_of_row w b j _ _ _ h]; simp
theorem mark_frozen {w : World} {cs : List Value} (h : w.heap[b]? = some (.cells cs.toArray T (cs.length, cs.length + 1))) (j : Nat) (hj : j < cs.length) : w.frozen? ⟨b, j, none⟩ = false := by
  simp [World.frozen?, h]
  omega
theorem Ev_loadMark {cs : List Value} {v : Value} (hx : Env.ev E x = some (.pointer (some ⟨b, off, none⟩))) [hu : ScIs P t] (hs : Sel (markP b cs T) H R) (hv : cs[off]? = some v) : Ev P W n E H (.load t x) v :=
  Ev.mk fun o ho a w p q => by
    have hc : w.cell? ⟨b, off, none⟩ = some v := by rw [mark_cell (q.obj hs).2]; exact hv
    obtain ⟨d, hu, hd⟩ := hu.h
    simp [execOp, ho, p.ev hx, run_loadAt_one w hc hu hd, Result.andThen]
theorem KJ_storeMark {v : Value} {cs cs' : List Value} (hx : Env.ev E x = some (.pointer (some ⟨b, off, none⟩))) (hy : Env.ev E y = some v) [hi : SzIs P t 1] (hs : Sel (markP b cs T) H R) (hv : CellsOf v [v]) (h1 : Ones [v]) (ho : off < cs.length) (he : cs.set off v = cs') (hr : Rep (markP b cs T) (markP b cs' T) H H')
    (h : KJ W n k E H') : KJ W n (.oper P (.store t x y) none k) E H := by
  subst he
  refine ⟨fun a w p s o hop hd Q => ?_⟩
  have hobj := (s.obj hs).2
  have ht : w.there b off 1 := fun j hj => by
    have hj0 : j = 0 := by omega
    subst hj0
    exact ⟨by rw [Nat.add_zero, mark_cell hobj, List.getElem?_eq_getElem ho]; rfl, by rw [Nat.add_zero]; exact mark_frozen hobj off ho⟩
  have hrun := run_storeAt_mid (P := P) w b off t #[v] ht hi.h (by simpa using h1.all v (by simp))
  have e : (Instr.storeAt t (.pointer (some ⟨b, off, none⟩)) v).run P w = (Instr.storeAt t (.pointer (some ⟨b, off, none⟩)) (.agg #[v])).run P w := by
    simp only [Instr.storeAt, storeVar, hv.spec]
    rfl
  show o.upon P a _ _ ((execOp a.eval o).run P w)
  have e2 : (execOp a.eval o).run P w = .ok .skip (w.setCell ⟨b, off, none⟩ v) := by
    simp [execOp, hop, p.ev hx, p.ev hy, e, hrun, Result.andThen]
    rfl
  rw [e2]
  have hh : (w.setCell ⟨b, off, none⟩ v).heap[b]? = some (.cells (cs.set off v).toArray T ((cs.set off v).length, (cs.set off v).length + 1)) := by
    rw [setCell_eq_setRow w b off _ _ _ v hobj, setRow_heap w b _ _ _ _ hobj]
    simp
  have st : St W H' (w.setCell ⟨b, off, none⟩ v) := s.turn hr (fun h q => q) (Hl.one_self _ _) rfl rfl rfl (by simp [World.setCell]) hh (fun k hk => heap_setCell_other w ⟨b, off, none⟩ k v hk)
  show k.den (a.put o.dst undef) _
  rw [hd]
  exact h.go _ _ (p.put (d := none) rfl undef) st
/-- []byte(s) -/
theorem KJ_bytesOf {l : List UInt8} (hx : Env.ev E x = some (strV l)) [hs : UIs P s .string] [ht : UIs P t (.slice e)] [he : UIs P e (.int .u8)] (hn : Nat.blt d n = true)
    (h : ∀ g c tail, KJ W n k ((d, .slice (some ⟨g, 0, none⟩) l.length c) :: E) (markP g (bvs l ++ tail) e :: H)) : KJ W n (.oper P (.convert s t x) (some d) k) E H := by
  refine ⟨fun a w p q o ho hd Q => ?_⟩
  have hr := run_bytes_of_string w s t e ⟨l.toArray⟩ hs.h ht.h he.h
  obtain ⟨c, hc⟩ : ∃ c, c = grownCap w (⟨l.toArray⟩ : ByteArray).size 0 e := ⟨_, rfl⟩
  rw [← hc] at hr
  obtain ⟨cs, hcs⟩ : ∃ cs : List Value, cs = bvs l ++ List.replicate (c - l.length) (.int .u8 0) := ⟨_, rfl⟩
  have hrow : bytesRow ⟨l.toArray⟩ c = cs.toArray := by
    rw [hcs]
    unfold bytesRow
    apply Array.ext'
    simp [bvs, bv, ByteArray.size]
  rw [hrow] at hr
  show o.upon P a _ _ ((execOp a.eval o).run P w)
  have e2 : (execOp a.eval o).run P w = .ok (.value (.slice (some ⟨w.heap.size, 0, none⟩) l.length c)) (w.drew.alloc (.cells cs.toArray e (cs.length, cs.length + 1))) := by
    have e3 : (convert s t (strV l)).run P w = .ok (.slice (some ⟨w.heap.size, 0, none⟩) l.length c) (w.drew.alloc (.cells cs.toArray e (cs.length, cs.length + 1))) := by
      have := hr
      simpa [strV, ByteArray.size] using this
    simp only [execOp, ho, p.ev hx, Sem.run_bind, e3, Result.andThen_ok, Sem.run_pure]
  rw [e2]
  have st : St W (markP w.heap.size cs e :: H) (w.drew.alloc (.cells cs.toArray e (cs.length, cs.length + 1))) := by
    refine St.act (A := []) (B := [markP w.heap.size cs e]) (H := H) q rfl rfl rfl (by show w.heap.size ≤ (w.heap.push _).size; simp) ?_
    intro h1 _ _
    refine ⟨Hl.one w.heap.size (.cells cs.toArray e (cs.length, cs.length + 1)), starL_one (Hl.one_self _ _), fun k x hx => ?_, fun k x hx => ?_, fun k hk _ => Below.heap_alloc _ _ _ hk⟩
    · obtain ⟨rfl, rfl⟩ := Hl.one_some hx; exact heap_alloc_new w.drew _
    · obtain ⟨rfl, rfl⟩ := Hl.one_some hx; exact .inr (Nat.le_refl _)
  subst hcs
  have := (h w.heap.size c _).go _ _ (p.put (d := some d) hn _) st
  rw [← hd] at this
  exact this
/-- string(b) of it -/
theorem Ev_bytesMark {g m c : Nat} {l : List UInt8} {tail : List Value} (hx : Env.ev E x = some (.slice (some ⟨g, 0, none⟩) m c)) [hs : UIs P s (.slice e)] [he : UIs P e (.int .u8)] [hd : UIs P u .string] (hsel : Sel (markP g (bvs l ++ tail) e) H R) (hm : l.length = m) : Ev P W n E H (.convert s u x) (strV l) :=
  Ev.mk fun o ho a w p q => by
    subst hm
    have hobj := (q.obj hsel).2
    have hr := run_convert_bytes_back (P := P) w s u e ⟨g, 0, none⟩ c l hs.h he.h hd.h (fun j hj => by
      rw [Addr.add_mid, Nat.zero_add, mark_cell hobj, List.getElem?_append_left (by rw [bvs_length']; exact hj)]
      simp [bvs, bv, hj])
    simp only [execOp, ho, p.ev hx, Sem.run_bind, hr, Result.andThen_ok, Sem.run_pure]
end
end Go.Proofs.YteklldbfdmaafaaDoor
/-
  The arguments of the laws of chapter 6, opened: a fate, a script; with what the bound gives of their sizes.
-/
namespace Go.Proofs.YteklldbfdmaafaaDoor
open Go Go.RowKit Go.ChangeShapes Go.WideShapes Go.Deep
section
variable {H : Type} {enc : TypeId × Value → H} {W : World} {base : Nat} {held : Bool}
theorem cell_spot {a : Addr} {v : Value} (h : W.cell? a = some v) : a.spot = none ∧ a.block < W.heap.size := by
  unfold World.cell? at h
  split at h
  · rename_i c t fr hh
    refine ⟨?_, (Array.getElem?_eq_some_iff.1 hh).1⟩
    split at h
    · cases h
    · rename_i hs
      cases hq : a.spot with
      | none => rfl
      | some _ => rw [hq] at hs; simp at hs
  · cases h
theorem spot_add {a : Addr} {i : Nat} (hi : i = 0) {v : Value} (h : W.cell? (a.add i) = some v) : a.spot = none ∧ a.block < W.heap.size := by
  subst hi
  have h1 := cell_spot h
  simpa [Addr.add] using h1
instance : Inhabited POp := ⟨⟨0, 0, [], 0, [], 0, 0⟩⟩
theorem add_is {a : Addr} (h : a.spot = none) (i : Nat) : a.add i = ⟨a.block, a.off + i, none⟩ := by
  cases a; simp at h; subst h
  unfold Addr.add
  simp
theorem addr_is {a : Addr} (h : a.spot = none) : a = ⟨a.block, a.off, none⟩ := by
  cases a; simp at h; subst h; rfl
theorem cellsBool : Tryd.prog.cellsOf 4 = 1 := by kernel_rfl
theorem cellsFate : Tryd.prog.cellsOf 25 = 3 := by kernel_rfl
theorem cellsInt : Tryd.prog.cellsOf 3 = 1 := by kernel_rfl
theorem cellsBools : Tryd.prog.cellsOf 23 = 1 := by kernel_rfl
/-- a slice of bools -/
theorem bools_of {n : Nat} {cs : List Value} {x : DataW H × List MemPlace} (h : DataW.trod enc Tryd.prog W base (fun _ => true) held n 23 cs = some x) :
    ∃ kv l, cs = [kv] ∧ BoolsAt W kv l ∧ l.length ≤ Rows.uptoBulk x.1 := by
  rcases open_bools Tryd.underlying23 Tryd.underlying4 cellsBool h with ⟨rfl, rfl⟩ | ⟨a, len, cap, B, rfl, _, hl, hm, rfl, hB⟩
  · exact ⟨_, [], rfl, ⟨none, 0, rfl, fun h => absurd rfl h, fun _ => rfl, by simp, by unfold maxLen; omega⟩, by simp⟩
  · refine ⟨_, (List.range len).map B, rfl, ⟨some a, cap, by simp, fun hne => ?_, fun h => (by cases h), by simpa using hl, hm⟩, ?_⟩
    · have h0 : 0 < len := by
        rcases Nat.eq_zero_or_pos len with h | h
        · subst h; simp at hne
        · exact h
      have hc := hB 0 (by omega)
      obtain ⟨hs, hb⟩ := spot_add rfl hc
      refine ⟨a.block, a.off, by rw [← addr_is hs], hb, fun j v hj => ?_⟩
      simp only [List.map_map, List.getElem?_map, Option.map_eq_some_iff] at hj
      obtain ⟨i, hi, rfl⟩ := hj
      have hij : i = j ∧ j < len := by
        rw [List.getElem?_eq_some_iff] at hi
        obtain ⟨h1, h2⟩ := hi
        simp at h1 h2
        exact ⟨h2.symm, h1⟩
      obtain ⟨rfl, hij⟩ := hij
      have := hB i (by omega)
      rw [add_is hs] at this
      exact this
    · have := slice_le (H := H) ((List.range len).map fun i => .lit (.bool (B i))) ((List.range (cap - len)).map fun j => .lit (.bool (B (len + j))))
      simp only [boolRow]
      simp only [List.length_map, List.length_range] at this ⊢
      omega

theorem field_of {P : Program} {fs : Array Field} {m : Nat} {cs : List Value} {xs : List (DataW H × List MemPlace)}
    (hf : ∀ (i : Nat) (f : Field), fs[i]? = some f → DataW.trod enc P W base (fun _ => true) held m f.type ((cs.drop f.offset).take (P.cellsOf f.type)) = xs[i]?)
    (i : Nat) {nm : String} {t o : Nat} {em : Bool} {tg pk : String} {bo : Nat} (h : fs[i]? = some ⟨nm, t, o, em, tg, pk, bo⟩) {k : Nat} (hk : P.cellsOf t = k) :
    DataW.trod enc P W base (fun _ => true) held m t ((cs.drop o).take k) = xs[i]? := by
  subst hk
  exact hf i _ h
set_option maxRecDepth 100000 in
/-- a fate's three cells -/
theorem fate_cells {n : Nat} {cs : List Value} {x : DataW H × List MemPlace} (h : DataW.trod enc Tryd.prog W base (fun _ => true) held n 25 cs = some x) :
    ∃ kv kept torn bytes, cs = [kv, .int .i64 torn, .int .i64 bytes] ∧ BoolsAt W kv kept ∧ kept.length ≤ Rows.uptoBulk x.1 ∧ (Lit.int .i64 torn).wf = true ∧ (Lit.int .i64 bytes).wf = true := by
  obtain ⟨xs, m, _, rfl, hl, hxl, hf⟩ := DataW.trod_struct Tryd.underlying25 h
  rw [cellsFate] at hl
  match cs, hl with
  | [c0, c1, c2], _ =>
    match xs, hxl with
    | [y0, y1, y2], _ =>
      have h0 : DataW.trod enc Tryd.prog W base (fun _ => true) held m 23 [c0] = some y0 := field_of hf 0 rfl cellsBools
      have h1 : DataW.trod enc Tryd.prog W base (fun _ => true) held m 3 [c1] = some y1 := field_of hf 1 rfl cellsInt
      have h2 : DataW.trod enc Tryd.prog W base (fun _ => true) held m 3 [c2] = some y2 := field_of hf 2 rfl cellsInt
      obtain ⟨kv, l, e0, hb, hbl⟩ := bools_of h0
      obtain ⟨n1, e1, _, w1⟩ := DataW.trod_int Tryd.underlying3 h1
      obtain ⟨n2, e2, _, w2⟩ := DataW.trod_int Tryd.underlying3 h2
      simp only [List.cons.injEq, and_true] at e0 e1 e2
      subst e0; subst e1; subst e2
      refine ⟨_, l, n1, n2, rfl, hb, ?_, w1, w2⟩
      have a1 := agg_parts (H := H) ([y0, y1, y2].map (·.1))
      have a2 := part_le (H := H) (d := y0.1) (l := [y0, y1, y2].map (·.1)) (by simp)
      show l.length ≤ Rows.uptoBulk (.agg ([y0, y1, y2].map (·.1)))
      omega
end
end Go.Proofs.YteklldbfdmaafaaDoor
/-
  SlotsApart (chapter 8): slots at two places do not see each other; no other sector is touched.
-/
namespace Go.Proofs.YteklldbfdmaafaaDoor
open Go Go.RowKit
/-- what stands behind the first values -/
structure ApSt (c0 c1 : Nat) (l0 l1 : List UInt8) (m : Nat) (D : Dsk) : Prop where
  rest : Rest D
  n : D.n = 6
  h0 : Holds D 1 c0 l0
  h1 : Holds D 3 c1 l1
  z0 : D.sec 0 = zs 256
  z5 : D.sec 5 = zs 256
  m0 : c0 ≤ m
  m1 : c1 ≤ m
theorem ApSt.start : ApSt 0 0 [] [] 0 (Dsk.blank 6) :=
  ⟨blank_rest 6 (by omega) (by omega), rfl, Holds.blank 6 1 (by omega), Holds.blank 6 3 (by omega), blank_sec _ _ (by omega), blank_sec _ _ (by omega), Nat.le_refl _, Nat.le_refl _⟩
theorem ApSt.step {c0 c1 m : Nat} {l0 l1 : List UInt8} {D : Dsk} (h : ApSt c0 c1 l0 l1 m D) : ApSt c0 c1 l0 l1 (m + 1) D :=
  ⟨h.rest, h.n, h.h0, h.h1, h.z0, h.z5, by have := h.m0; omega, by have := h.m1; omega⟩
end Go.Proofs.YteklldbfdmaafaaDoor
/-
  Arguments opened: slices of texts, of bools, of structs; with what the bound gives of their sizes.
-/
namespace Go.Proofs.YteklldbfdmaafaaDoor
open Go Go.RowKit Go.ChangeShapes Go.WideShapes Go.Deep
section
variable {H : Type} {enc : TypeId × Value → H} {W : World} {base : Nat} {held : Bool}
/-- A slice whose elements can be opened. -/
theorem elems_of {α : Type} [Inhabited α] {T eT k : Nat} (hu : Tryd.prog.underlying T = some (.slice eT)) (hk : Tryd.prog.cellsOf eT = k) (hk0 : 0 < k) (Q : α → List Value → DataW H → Prop)
    (hQ : ∀ n cs x, DataW.trod enc Tryd.prog W base (fun _ => true) held n eT cs = some x → ∃ a, Q a cs x.1) {n : Nat} {cs : List Value} {x : DataW H × List MemPlace} (h : DataW.trod enc Tryd.prog W base (fun _ => true) held n T cs = some x) :
    ∃ (l : List α) (ad : Option Addr) (c : Nat), cs = [.slice ad l.length c] ∧ l.length ≤ Rows.uptoBulk x.1 ∧ l.length ≤ c ∧ c ≤ maxLen ∧ (ad = none → c = 0) ∧ (l ≠ [] → ∃ b o, ad = some ⟨b, o, none⟩ ∧ b < W.heap.size ∧
      ∀ i a, l[i]? = some a → ∃ cs D, Q a cs D ∧ Rows.uptoBulk D ≤ Rows.uptoBulk x.1 ∧ cs.length = k ∧ W.rangeAt b (o + k * i) cs) := by
  rcases open_slice hu h with ⟨rfl, rfl⟩ | ⟨a, len, cap, m, n, D, Pl, rfl, _, hl, hm, hmm, rfl, hi⟩
  · exact ⟨[], none, 0, rfl, by simp, by simp, by unfold maxLen; omega, fun _ => rfl, fun h => absurd rfl h⟩
  · simp only [if_true] at hmm
    have hmm' := hmm.symm
    subst hmm'
    obtain ⟨f, hfo⟩ := choose_lt (α := α) (n := len) (p := fun i al => ∃ cs, Q al cs (D i) ∧ cs.length = k ∧ ∀ j v, cs[j]? = some v → W.cell? (a.add (i * k + j)) = some v) (fun i hil => by
      obtain ⟨cs', hc, ht⟩ := hi i (by omega)
      rw [hk] at hc
      obtain ⟨_, hcl, hat⟩ := World.cells?_some hc
      obtain ⟨al, hq⟩ := hQ _ _ _ ht
      refine ⟨al, cs', hq, hcl, fun j v hj => ?_⟩
      have hjl : j < k := by
        have := (List.getElem?_eq_some_iff.1 hj).1
        omega
      rw [← Go.Deep.add_add, hat j hjl, hj])
    have hbulk : ∀ i, i < len → Rows.uptoBulk (D i) ≤ Rows.uptoBulk (DataW.slice ((List.range len).map D) ((List.range (cap - len)).map fun j => D (len + j))) := fun i hil => by
      have h1 := part_le (H := H) (d := D i) (l := (List.range len).map D) (List.mem_map.2 ⟨i, List.mem_range.2 hil, rfl⟩)
      have h2 := slice_elems (H := H) ((List.range len).map D) ((List.range (cap - len)).map fun j => D (len + j))
      omega
    refine ⟨(List.range len).map f, some a, cap, by simp, ?_, by simpa using hl, hm, fun q => (by cases q), fun hne => ?_⟩
    · have := slice_le (H := H) ((List.range len).map D) ((List.range (cap - len)).map fun j => D (len + j))
      simp only [List.length_map, List.length_range] at this ⊢
      omega
    · have h0 : 0 < len := by
        rcases Nat.eq_zero_or_pos len with h | h
        · subst h; simp at hne
        · exact h
      obtain ⟨cs0, _, hl0, hc0⟩ := hfo 0 h0
      obtain ⟨v0, hv0⟩ : ∃ v, cs0[0]? = some v := ⟨_, List.getElem?_eq_getElem (by omega)⟩
      obtain ⟨hs, hb⟩ := spot_add (by simp) (hc0 0 v0 hv0)
      have ha : a = ⟨a.block, a.off, none⟩ := addr_is hs
      refine ⟨a.block, a.off, by rw [← ha], hb, fun i al hal => ?_⟩
      simp only [List.getElem?_map, Option.map_eq_some_iff] at hal
      obtain ⟨i', hi', rfl⟩ := hal
      have hij : i' = i ∧ i < len := by
        rw [List.getElem?_eq_some_iff] at hi'
        obtain ⟨h1, h2⟩ := hi'
        simp at h1 h2
        exact ⟨h2.symm, h1⟩
      obtain ⟨rfl, hij⟩ := hij
      obtain ⟨cs', hq, hcl, hc⟩ := hfo i' hij
      refine ⟨cs', D i', hq, hbulk i' hij, hcl, fun j v hj => ?_⟩
      have := hc j v hj
      rw [add_is hs] at this
      rw [Nat.mul_comm k i', Nat.add_assoc]
      exact this
set_option maxRecDepth 100000 in
/-- a parameter's cells are the value's own -/
theorem param_slice {r : Reach} {b0 T eT : Nat} {v : Value} {d : DataW H} {p : List MemPlace} (hu : Tryd.prog.underlying T = some (.slice eT)) (hv : Value.okWide Tryd.prog W r b0 T v) (h : DataW.Trod enc Tryd.prog W base (fun _ => true) held T v d p) :
    ∃ n, DataW.trod enc Tryd.prog W base (fun _ => true) held n T [v] = some (d, p) := by
  obtain ⟨a', len', cap', rfl⟩ := okWide_slice hu hv
  obtain ⟨fuel, hf⟩ := h
  exact ⟨fuel, hf⟩
/-- a step of SlotsKeeps -/
structure KStep where
  val : List UInt8
  arm : Int
  crash : Bool
  kept : List Bool
  torn : Int
  bytes : Int
instance : Inhabited KStep := ⟨⟨[], 0, false, [], 0, 0⟩⟩
def KStep.cells (o : KStep) (kv : Value) : List Value := [strV o.val, .int .i64 o.arm, .bool o.crash, kv, .int .i64 o.torn, .int .i64 o.bytes]
end
end Go.Proofs.YteklldbfdmaafaaDoor
/-
  Arguments of chapter 9 opened: an op, scripts of ops, tries; with what the bound gives of their sizes.
-/
namespace Go.Proofs.YteklldbfdmaafaaDoor
open Go Go.RowKit Go.ChangeShapes Go.WideShapes Go.Deep
/-- an Op of chapter 9 -/
structure AOp where
  kind : Int
  at_ : Int
  n : Int
  stamp : Int
  bytes : Int
  seed : Int
  kept : List Bool
  torn : Int
  fb : Int
instance : Inhabited AOp := ⟨⟨0, 0, 0, 0, 0, 0, [], 0, 0⟩⟩
def AOp.cells (o : AOp) (kv : Value) : List Value := [.int .i64 o.kind, .int .i64 o.at_, .int .i64 o.n, .int .u64 o.stamp, .int .i64 o.bytes, .int .u64 o.seed, kv, .int .i64 o.torn, .int .i64 o.fb]
structure AOp.wf (o : AOp) : Prop where
  kind : (Lit.int .i64 o.kind).wf = true
  at_ : (Lit.int .i64 o.at_).wf = true
  n : (Lit.int .i64 o.n).wf = true
  stamp : (Lit.int .u64 o.stamp).wf = true
  bytes : (Lit.int .i64 o.bytes).wf = true
  seed : (Lit.int .u64 o.seed).wf = true
  torn : (Lit.int .i64 o.torn).wf = true
  fb : (Lit.int .i64 o.fb).wf = true
/-- a Try -/
structure ATry where
  bytes : Int
  seed : Int
  arm : Int
  kept : List Bool
  torn : Int
  fb : Int
instance : Inhabited ATry := ⟨⟨0, 0, 0, [], 0, 0⟩⟩
def ATry.cells (o : ATry) (kv : Value) : List Value := [.int .i64 o.bytes, .int .u64 o.seed, .int .i64 o.arm, kv, .int .i64 o.torn, .int .i64 o.fb]
structure ATry.wf (o : ATry) : Prop where
  bytes : (Lit.int .i64 o.bytes).wf = true
  seed : (Lit.int .u64 o.seed).wf = true
  arm : (Lit.int .i64 o.arm).wf = true
def AOpsAt (w : World) (v : Value) (l : List AOp) : Prop :=
  ∃ a c, v = .slice a l.length c ∧ (l ≠ [] → ∃ b o, a = some ⟨b, o, none⟩ ∧ b < w.heap.size ∧ ∀ k op, l[k]? = some op → ∃ kv, w.rangeAt b (o + 9 * k) (op.cells kv) ∧ BoolsAt w kv op.kept)
theorem cellsU64 : Tryd.prog.cellsOf 79 = 1 := by kernel_rfl
theorem cellsAOp : Tryd.prog.cellsOf 81 = 9 := by kernel_rfl
section
variable {H : Type} {enc : TypeId × Value → H} {W : World} {base : Nat} {held : Bool}
set_option maxRecDepth 100000 in
theorem aop_cells {n : Nat} {cs : List Value} {x : DataW H × List MemPlace} (h : DataW.trod enc Tryd.prog W base (fun _ => true) held n 81 cs = some x) :
    ∃ (op : AOp) (kv : Value), cs = op.cells kv ∧ BoolsAt W kv op.kept ∧ op.kept.length ≤ Rows.uptoBulk x.1 ∧ op.wf := by
  obtain ⟨xs, m, _, rfl, hl, hxl, hf⟩ := DataW.trod_struct Tryd.underlying81 h
  rw [cellsAOp] at hl
  match cs, hl with
  | [c0, c1, c2, c3, c4, c5, c6, c7, c8], _ =>
    match xs, hxl with
    | [y0, y1, y2, y3, y4, y5, y6], _ =>
      have h0 : DataW.trod enc Tryd.prog W base (fun _ => true) held m 3 [c0] = some y0 := field_of hf 0 rfl cellsInt
      have h1 : DataW.trod enc Tryd.prog W base (fun _ => true) held m 3 [c1] = some y1 := field_of hf 1 rfl cellsInt
      have h2 : DataW.trod enc Tryd.prog W base (fun _ => true) held m 3 [c2] = some y2 := field_of hf 2 rfl cellsInt
      have h3 : DataW.trod enc Tryd.prog W base (fun _ => true) held m 79 [c3] = some y3 := field_of hf 3 rfl cellsU64
      have h4 : DataW.trod enc Tryd.prog W base (fun _ => true) held m 3 [c4] = some y4 := field_of hf 4 rfl cellsInt
      have h5 : DataW.trod enc Tryd.prog W base (fun _ => true) held m 79 [c5] = some y5 := field_of hf 5 rfl cellsU64
      have h6 : DataW.trod enc Tryd.prog W base (fun _ => true) held m 25 [c6, c7, c8] = some y6 := field_of hf 6 rfl cellsFate
      obtain ⟨n0, e0, _, w0⟩ := DataW.trod_int Tryd.underlying3 h0
      obtain ⟨n1, e1, _, w1⟩ := DataW.trod_int Tryd.underlying3 h1
      obtain ⟨n2, e2, _, w2⟩ := DataW.trod_int Tryd.underlying3 h2
      obtain ⟨n3, e3, _, w3⟩ := DataW.trod_int Tryd.underlying79 h3
      obtain ⟨n4, e4, _, w4⟩ := DataW.trod_int Tryd.underlying3 h4
      obtain ⟨n5, e5, _, w5⟩ := DataW.trod_int Tryd.underlying79 h5
      obtain ⟨kv, kept, torn, bytes, e6, hb, hbl, w6, w7⟩ := fate_cells h6
      simp only [List.cons.injEq, and_true] at e0 e1 e2 e3 e4 e5 e6
      obtain ⟨rfl, rfl, rfl⟩ := e6
      subst e0; subst e1; subst e2; subst e3; subst e4; subst e5
      have a1 := agg_parts (H := H) ([y0, y1, y2, y3, y4, y5, y6].map (·.1))
      have a2 := part_le (H := H) (d := y6.1) (l := [y0, y1, y2, y3, y4, y5, y6].map (·.1)) (by simp)
      refine ⟨⟨n0, n1, n2, n3, n4, n5, kept, torn, bytes⟩, _, rfl, hb, ?_, ⟨w0, w1, w2, w3, w4, w5, w6, w7⟩⟩
      show kept.length ≤ Rows.uptoBulk (.agg ([y0, y1, y2, y3, y4, y5, y6].map (·.1)))
      omega
set_option maxRecDepth 100000 in
/-- a script of chapter 9 -/
theorem script09_of {r : Reach} {b0 : Nat} {v : Value} {d : DataW H} {p : List MemPlace} (hv : Value.okWide Tryd.prog W r b0 93 v) (h : DataW.Trod enc Tryd.prog W base (fun _ => true) held 93 v d p) :
    ∃ l : List AOp, AOpsAt W v l ∧ l.length ≤ Rows.uptoBulk d ∧ ∀ o ∈ l, o.kept.length ≤ Rows.uptoBulk d ∧ o.wf := by
  obtain ⟨n, hf⟩ := param_slice Tryd.underlying93 hv h
  obtain ⟨l, ad, c, e, hb, -, -, -, hx⟩ := elems_of (α := AOp) Tryd.underlying93 cellsAOp (by omega) (fun s cs D => ∃ kv, cs = s.cells kv ∧ BoolsAt W kv s.kept ∧ s.kept.length ≤ Rows.uptoBulk D ∧ s.wf) (fun n cs x hx => by
    obtain ⟨op, kv, e, h1, h2, h3⟩ := aop_cells hx
    exact ⟨op, kv, e, h1, h2, h3⟩) hf
  simp only [List.cons.injEq, and_true] at e
  refine ⟨l, ⟨ad, c, e, fun hne => ?_⟩, hb, fun o ho => ?_⟩
  · obtain ⟨b, o, h1, h2, h3⟩ := hx hne
    refine ⟨b, o, h1, h2, fun k op hop => ?_⟩
    obtain ⟨cs, D, ⟨kv', rfl, hq, _⟩, _, _, h4⟩ := h3 k op hop
    exact ⟨kv', h4, hq⟩
  · obtain ⟨i, hi⟩ := List.mem_iff_getElem?.1 ho
    obtain ⟨_, _, _, _, h3⟩ := hx (by intro q; subst q; simp at ho)
    obtain ⟨cs, D, ⟨kv, _, _, hkl, hw⟩, hD, _⟩ := h3 i o hi
    have hD' : Rows.uptoBulk D ≤ Rows.uptoBulk d := hD
    exact ⟨by omega, hw⟩
end
end Go.Proofs.YteklldbfdmaafaaDoor
/-
  One call of chapter 9's scripts, on the program's disk and on the document's.
-/
namespace Go.Proofs.YteklldbfdmaafaaDoor
open Go Go.RowKit
/-- a byte turned -/
def turnC (b : UInt8) (seed : Int) : UInt8 := UInt8.ofNat (bits .xor .u8 (b.toNat : Int) (bits .or .u8 ((lowB seed).toNat : Int) 1)).toNat
theorem turnC_int (b : UInt8) (seed : Int) : bits .xor .u8 (b.toNat : Int) (bits .or .u8 ((lowB seed).toNat : Int) 1) = ((turnC b seed).toNat : Int) := by
  unfold turnC
  obtain ⟨x, hx⟩ : ∃ x, x = bits .or .u8 ((lowB seed).toNat : Int) 1 := ⟨_, rfl⟩
  rw [← hx]
  have e : bits .xor .u8 (b.toNat : Int) x = IntKind.u8.wrap ((BitVec.ofInt 8 (b.toNat : Int) ^^^ BitVec.ofInt 8 x).toNat : Int) := rfl
  rw [e, u8_wrap, Int.toNat_natCast, UInt8.toNat_ofNat']
  omega
theorem turn_get (s : List UInt8) (j : Nat) (b : UInt8) (hb : s[j]? = some b) (tail : List Value) : (bvs s ++ tail)[0 + ((j : Nat) : Int).toNat * 1]? = some (.int .u8 (b.toNat : Int)) := by
  have hj := (List.getElem?_eq_some_iff.1 hb).1
  rw [Int.toNat_natCast, Nat.mul_one, Nat.zero_add, List.getElem?_append_left (by rw [bvs_length']; exact hj)]
  simp [bvs, bv, hb]
theorem turn_set (s : List UInt8) (j : Nat) (c : UInt8) (hj : j < s.length) (tail : List Value) : (bvs s ++ tail).set (0 + ((j : Nat) : Int).toNat * 1) (.int .u8 (c.toNat : Int)) = bvs (s.set j c) ++ tail := by
  rw [Int.toNat_natCast, Nat.mul_one, Nat.zero_add, List.set_append_left _ _ (by rw [bvs_length']; exact hj)]
  congr 1
  simp [bvs, bv, List.map_set]
def AOp.vn (o : AOp) : Nat := (IntKind.u64.wrap o.bytes % 2001).toNat
def AOp.val (o : AOp) : List UInt8 := textL o.seed o.vn
def AOp.tj (o : AOp) : Nat := (IntKind.u64.wrap o.n % 256).toNat
def AOp.turn (o : AOp) (s : List UInt8) : List UInt8 := s.set o.tj (turnC (s.getD o.tj 0) o.seed)
def AOp.step (o : AOp) (D : Dsk) : Dsk :=
  if o.kind = 0 then (areaW D o.at_ o.n o.stamp o.val).2 else if o.kind = 1 then D else if o.kind = 2 then D.flushD else if o.kind = 3 then D.arm o.n else if o.kind = 4 then D.crash o.kept o.torn o.fb
  else if o.kind = 5 then (if D.readE o.at_ ≠ 0 then D else D.writeD o.at_ (o.turn (D.readS o.at_))) else D
theorem flushD_und9 (D : Dsk) : D.flushD.und.length ≤ D.und.length := by
  unfold Dsk.flushD
  split
  · omega
  split
  · rw [Dsk.gone_und]; omega
  · simp
theorem vn_le (o : AOp) : o.vn ≤ 2000 := by unfold AOp.vn; omega
theorem step9_keep {D : Dsk} (h : D.ok) (o : AOp) (hn : o.n ≤ 9223372036854775807) : (o.step D).ok ∧ (o.step D).und.length ≤ D.und.length + 9 := by
  unfold AOp.step
  split
  · obtain ⟨h1, h2⟩ := areaW_keep h o.at_ o.n o.stamp o.val
    have h3 : o.val.length = o.vn := textL_length _ _
    have h4 := vn_le o
    exact ⟨h1, by omega⟩
  split
  · exact ⟨h, by omega⟩
  split
  · have := flushD_und9 D
    exact ⟨Dsk.flushD_ok h, by omega⟩
  split
  · exact ⟨Dsk.arm_ok h _ hn, by show D.und.length ≤ _; omega⟩
  split
  · exact ⟨Dsk.crash_ok h _ _ _, by simp [Dsk.crash]⟩
  split
  · split
    · exact ⟨h, by omega⟩
    · have := writeD_und D o.at_ (o.turn (D.readS o.at_))
      exact ⟨Dsk.writeD_ok h _ _, by omega⟩
  · exact ⟨h, by omega⟩
theorem areaW_le (D : Dsk) (at_ n stamp : Int) (v : List UInt8) : (areaW D at_ n stamp v).1 ≤ 37 := by
  have hfu : ∀ D : Dsk, D.flushE ≤ 37 := fun D => by unfold Dsk.flushE; split <;> omega
  have hwr : ∀ (D : Dsk) i s, D.writeE i s ≤ 37 := fun D i s => by
    unfold Dsk.writeE
    repeat' split
    all_goals omega
  have hgo : ∀ (f : Nat) (D : Dsk) (i : Int) (v : List UInt8), (awGo at_ stamp f D i v).1 ≤ 37 := by
    intro f
    induction f with
    | zero => intro D i v; exact hfu D
    | succ f ih =>
      intro D i v
      unfold awGo
      split
      · exact hfu D
      split
      · exact hwr _ _ _
      · exact ih _ _ _
  unfold areaW
  repeat' split
  all_goals first | exact hgo _ _ _ _ | (show _ ≤ 37; omega)
theorem areaR_le (D : Dsk) (at_ n stamp bytes : Int) : (areaR D at_ n stamp bytes).2 ≤ 37 := by
  have hrd : ∀ i, D.readE i ≤ 37 := fun i => by unfold Dsk.readE; repeat' split
                                                all_goals omega
  have hgo : ∀ (f i : Nat) (acc : List UInt8), (arGo D at_ stamp bytes f i acc).2 ≤ 37 := by
    intro f
    induction f with
    | zero => intro i acc; show (0 : Nat) ≤ 37; omega
    | succ f ih =>
      intro i acc
      unfold arGo
      split
      · exact hrd _
      split
      · show 15 ≤ 37; omega
      split
      · show 15 ≤ 37; omega
      · exact ih _ _
  unfold areaR
  repeat' split
  all_goals first | exact hgo _ _ _ | (show _ ≤ 37; omega)

set_option maxHeartbeats 4000000 in
set_option maxRecDepth 100000 in
theorem step9_ct {W : World} {E : Nat → Addr} {p q : Nat} {D : Dsk} (hE : ErrsAt W E) (hN : NibAt W) (hg : gB ≤ W.heap.size) (hok : D.ok) (hul : D.und.length + 65536 < 1073741823) (o : AOp) (kv : Value) (hk : BoolsAt W kv o.kept) (hkl : o.kept.length ≤ 140737488355328) (hw : o.wf) :
    Ct Tryd.prog W 58 [.pointer (some ⟨p, 0, none⟩), .pointer (some ⟨q, 0, none⟩), .agg ⟨o.cells kv⟩] [DiskP p D, RefP q D] (fun _ : Unit => .bool true) (fun _ => [DiskP p (o.step D), RefP q (o.step D)]) := by
  have hE8 : ErrsOn L8 W E := hE.on
  have e15 : W.cell? ⟨5, 0, none⟩ = some (errV E 15) := hE.all.at_ 15 (by decide)
  have wst := bounds_u64 hw.stamp
  have wsd := bounds_u64 hw.seed
  have wby := bounds_i64 hw.bytes
  have wn := bounds_i64 hw.n
  have hk0 := hk
  obtain ⟨ka, kc, rfl, -⟩ := id hk
  obtain ⟨D', hD'⟩ : ∃ D', D' = o.step D := ⟨_, rfl⟩
  rw [← hD']
  have hn2 := hok.n2
  have hvn := vn_le o
  have hvl : o.val.length = o.vn := textL_length _ _
  obtain ⟨B, hB⟩ : ∃ B, IntKind.u64.wrap o.bytes = B := ⟨_, rfl⟩
  have hBb : 0 ≤ B ∧ B < 18446744073709551616 := by
    have e : IntKind.u64.wrap o.bytes = o.bytes % 18446744073709551616 := rfl
    omega
  have hBm : B % 2001 = (o.vn : Int) := by unfold AOp.vn; rw [hB]; omega
  obtain ⟨N1, hN1⟩ : ∃ N1, IntKind.u64.wrap o.n = N1 := ⟨_, rfl⟩
  have hNb : 0 ≤ N1 ∧ N1 < 18446744073709551616 := by
    have e : IntKind.u64.wrap o.n = o.n % 18446744073709551616 := rfl
    omega
  have hNm : N1 % 256 = (o.tj : Int) := by unfold AOp.tj; rw [hN1]; omega
  have htj : o.tj ≤ 255 := by omega
  have hturn : ∀ s, o.turn s = s.set o.tj (turnC (s.getD o.tj 0) o.seed) := fun _ => rfl
  have ct : Ct Tryd.prog W 54 [.int .u64 o.seed, .int .i64 (o.vn : Nat)] [] (fun _ : Unit => strV o.val) (fun _ => []) := text_ct o.seed o.vn (by omega)
  have hstep : D' = if o.kind = 0 then (areaW D o.at_ o.n o.stamp o.val).2 else if o.kind = 1 then D else if o.kind = 2 then D.flushD else if o.kind = 3 then D.arm o.n else if o.kind = 4 then D.crash o.kept o.torn o.fb
    else if o.kind = 5 then (if D.readE o.at_ ≠ 0 then D else D.writeD o.at_ (o.turn (D.readS o.at_))) else D := hD'
  clear hD' hw
  obtain ⟨j, hj⟩ : ∃ j, j = o.tj := ⟨_, rfl⟩
  obtain ⟨vn, hvne⟩ : ∃ m, m = o.vn := ⟨_, rfl⟩
  obtain ⟨v, hve⟩ : ∃ v, v = o.val := ⟨_, rfl⟩
  obtain ⟨tr, htr⟩ : ∃ f, f = o.turn := ⟨_, rfl⟩
  rw [← hj] at hNm htj
  rw [← htr] at hstep hturn
  simp only [← hj] at hturn
  rw [← hve] at hvl ct hstep
  rw [← hvne] at hvn hvl hBm ct
  clear hj hvne hve htr
  obtain ⟨kind, at_, n, stamp, bytes, seed, kept, torn, fb0⟩ := o
  dsimp only at hk hk0 hkl wst wsd wby wn hB hN1 hturn ct hstep
  obtain ⟨st, rfl⟩ : ∃ st : Nat, stamp = (st : Int) := ⟨stamp.toNat, by omega⟩
  have hst : st < 2 ^ 64 := by omega
  show Ct _ W _ [.pointer (some ⟨p, 0, none⟩), .pointer (some ⟨q, 0, none⟩), .agg #[.int .i64 kind, .int .i64 at_, .int .i64 n, .int .u64 (st : Nat), .int .i64 bytes, .int .u64 seed, .slice ka kept.length kc, .int .i64 torn, .int .i64 fb0]] _ _ _
  by_cases h0 : kind = 0
  · have hD : D' = (areaW D at_ n st v).2 := by rw [hstep, if_pos h0]
    have c1 := awrite_ct (W := W) (p := p) (D := D) hE8 hN hn2 hul at_ n st v
    have c2 := r9write_ct (W := W) (p := q) hok hul at_ n st hst v
    have c3 := num_ct hE hg (areaW D at_ n st v).1 (areaW_le _ _ _ _ _)
    rw [← hD] at c1 c2
    obtain ⟨e, he⟩ : ∃ e, e = (areaW D at_ n st v).1 := ⟨_, rfl⟩
    rw [← he] at c1 c2 c3
    clear hD he hstep
    refine Ct.enter Tryd.func58 rfl Tryd.ntmps58 (by simp) (fun R => ?_)
    repeat' (first 
    | refine KJ_stp (by first | constructor | fail) ?_
    | (refine is_list ?_; first | (refine KJ_guard_dec_t rfl rfl rfl (fun _ => ?_) (fun _ => ?_) <;> first | (exfalso; omega) | skip) | (refine KJ_guard_dec_f rfl rfl rfl (fun _ => ?_) (fun _ => ?_) <;> first | (exfalso; omega) | skip) | (refine KJ_guard_yes rfl rfl ?_) | (refine KJ_guard_no rfl rfl rfl rfl ?_))
    | (refine is_oper ?_; first | (refine is_store ?_; first | (refine KJ_store rfl rfl (by (repeat' (first | exact Sel.here | apply Sel.there)); first | done | fail) (by first | exact CellsOf.agg | exact CellsOf.one rfl) (by rfl) (by (repeat' (first | exact Ones.nil | exact Ones_bvs _ | refine Ones.cons rfl ?_)); first | done | fail) (by (repeat' (first | exact Laid.nil | apply Laid.cons | apply Laid.skip)); first | done | fail) (by (repeat' (first | exact Rep.here | apply Rep.there)); first | done | fail) ?_)) | (refine is_box ?_; first | (refine KJ_box rfl (by first | exact CellsOf.agg | exact CellsOf.one rfl) rfl (fun g5 => ?_)) | (refine KJ_box rfl (by first | exact CellsOf.agg | exact CellsOf.one rfl) rfl (fun _ => ?_))) | (refine is_call ?_; first | (refine KJ_call (by (repeat' (first | exact Evs.nil | refine Evs.cons rfl ?_)); first | done | fail) c3 (by (repeat' (first | exact Pick.nil | apply Pick.cons | exact Sel.here | apply Sel.there)); first | done | fail) rfl (fun _ => ?_)) | (refine KJ_call (by (repeat' (first | exact Evs.nil | refine Evs.cons rfl ?_)); first | done | fail) c2 (by (repeat' (first | exact Pick.nil | apply Pick.cons | exact Sel.here | apply Sel.there)); first | done | fail) rfl (fun _ => ?_)) | (refine KJ_call (by (repeat' (first | exact Evs.nil | refine Evs.cons rfl ?_)); first | done | fail) c1 (by (repeat' (first | exact Pick.nil | apply Pick.cons | exact Sel.here | apply Sel.there)); first | done | fail) rfl (fun _ => ?_)) | (refine KJ_call (by (repeat' (first | exact Evs.nil | refine Evs.cons rfl ?_)); first | done | fail) ct (by (repeat' (first | exact Pick.nil | apply Pick.cons | exact Sel.here | apply Sel.there)); first | done | fail) rfl (fun _ => ?_))) | (refine KJ_ek rfl ?_) | (refine KJ_ek0 ?_))
    | (refine is_ek ?_; first | (refine ek_move ?_; first | (refine EK_ev (Ev_move rfl) ?_)) | (refine ek_assign ?_; first | (refine EK_ev (Ev_assign rfl) ?_)) | (refine ek_pick ?_; first | (refine EK_ev (Ev_pick_t rfl rfl) ?_) | (refine EK_ev (Ev_pick_f rfl rfl) ?_)) | (refine ek_fieldAddr ?_; first | (refine EK_ev (Ev_field rfl) ?_)) | (refine ek_load ?_; first | (refine EK_ev (Ev_loadAgg rfl (by (repeat' (first | exact Sel.here | apply Sel.there)); first | done | fail) (by (repeat' (first | exact Cut.nil | apply Cut.cons | apply Cut.skip)); first | done | fail)) ?_) | (refine EK_ev (Ev_load rfl (by (repeat' (first | exact Sel.here | apply Sel.there)); first | done | fail) (by rfl)) ?_) | (refine EK_ev (Ev_load rfl (by (repeat' (first | exact Sel.here | apply Sel.there)); first | done | fail) (by rfl)) ?_) | (refine EK_ev (Ev_loadOld rfl (by assumption)) ?_) | (refine EK_ev (Ev_loadAgg rfl (by (repeat' (first | exact Sel.here | apply Sel.there)); first | done | fail) (by (repeat' (first | exact Cut.nil | apply Cut.cons | apply Cut.skip)); first | done | fail)) ?_)) | (refine ek_conv ?_; first | (refine EK_ev (Ev_convI_v rfl hB) ?_) | (refine EK_ev (Ev_convI64 rfl (by omega)) ?_) | (refine EK_ev (Ev_convI rfl) ?_) | (refine EK_ev (Ev_convS rfl) ?_)) | (refine ek_extract ?_; first | (refine EK_ev (Ev_extract rfl rfl) ?_)) | (refine ek_indexAddr ?_; first | (refine EK_ev (Ev_indexSlice rfl rfl (by omega)) ?_) | (refine EK_ev (Ev_indexArr rfl rfl (by omega)) ?_)) | (refine ek_rem ?_; first | (refine EK_ev (Ev_rem_w rfl rfl (by omega) hBm) ?_) | (refine EK_ev (Ev_remI rfl rfl (by omega)) ?_) | (refine EK_ev (Ev_rem rfl rfl (by omega)) ?_)) | (refine ek_eql ?_; first | (refine EK_ev (Ev_eqlI_t rfl rfl (by first | rfl | omega)) ?_) | (refine EK_ev (Ev_eqlI_f rfl rfl (by omega)) ?_) | (refine EK_ev (Ev_eqlI rfl rfl) ?_) | (refine EK_ev (Ev_eqlS rfl rfl) ?_) | (refine EK_ev (Ev_eqlNil rfl rfl) ?_) | (refine EK_ev (Ev_eqlB rfl rfl) ?_) | (refine EK_ev (Ev_eqlO rfl rfl rfl (fun _ => rfl)) ?_)) | (refine ek_neq ?_; first | (refine EK_ev (Ev_neqI rfl rfl) ?_) | (refine EK_ev (Ev_neqS rfl rfl) ?_) | (refine EK_ev (Ev_neqNil rfl rfl) ?_) | (refine EK_ev (Ev_neqB rfl rfl) ?_) | (refine EK_ev (Ev_neqO rfl rfl rfl (fun _ => rfl)) ?_)))
    | (refine is_ex ?_; first | (refine KJ_blk_exit' rfl ?_))
    | (refine is_code ?_; first | (refine KJ_cond_dec rfl (fun _ => ?_) (fun _ => ?_) <;> first | (exfalso; omega) | skip) | (refine KJ_cond_t rfl ?_) | (refine KJ_cond_f rfl ?_) | (refine KJ_draws (id := 5) (.op 0 (.op 2 (.op 3 (.op 4 (.op 5 (.op 6 (.op 7 (.op 8 (.op 9 (.ef 1 [9, 8, 7, 6, 5, 4, 3, 2] (.ef 10 [] (.op 11 (.op 12 .nil))))))))))))) (by kernel_rfl) (by kernel_rfl) ?_) | (refine KJ_draws (id := 24) (.op 0 (.op 1 (.op 2 (.op 3 (.op 4 (.op 5 (.op 6 (.op 7 (.op 8 (.op 9 (.op 10 (.op 11 (.op 12 (.ef 13 [] .nil)))))))))))))) (by kernel_rfl) (by kernel_rfl) ?_) | (refine KJ_draws (id := 25) (.op 0 (.op 1 (.op 2 (.op 3 (.op 4 (.op 7 (.op 8 (.op 9 (.op 10 (.op 11 (.ef 5 [11, 10, 9, 8, 7] (.ef 6 [11, 10, 9, 8, 7] (.ef 12 [] (.op 13 (.op 14 .nil))))))))))))))) (by kernel_rfl) (by kernel_rfl) ?_))
    | (refine is_fw ?_; first | (refine FW_open rfl ?_) | (refine FW_nil ?_) | (refine FW_ef rfl ?_) | (refine FW_efg rfl rfl rfl ?_) | (refine FW_alt ?_ ?_))
    | (refine is_fo ?_; first | (refine FO_dec_t rfl rfl (fun _ => ?_) (fun _ => ?_) <;> first | (exfalso; omega) | skip) | (refine FO_dec_f rfl rfl (fun _ => ?_) (fun _ => ?_) <;> first | (exfalso; omega) | skip) | (refine FO_no rfl rfl rfl rfl ?_) | (refine FO_ekg rfl rfl rfl ?_) | (refine FO_ek rfl ?_))
    | (refine is_ro ?_; first | (refine RO_no rfl rfl rfl rfl ?_) | (refine RO_ekg rfl rfl ?_) | (refine RO_ek ?_))
    | (refine is_raw ?_; first | (refine KJ_flow ?_ ?_))
    | (refine AtR_mk rfl ?_)
    | exact Rech.nil
    | (refine Rech_open rfl ?_))
    all_goals (refine is_ex ?_; exact KJ_done (by first | exact Or.inl rfl | exact Or.inr rfl) rfl (by (repeat' (first | exact Rvs.nil | (apply Rvs.tmp; exact rfl))); first | done | fail) () (by rfl) (Ent.of (by (repeat' (first | exact Pick.nil | apply Pick.cons | exact Sel.here | apply Sel.there)); first | done | fail) (by (repeat' (first | exact DropTo.refl | apply DropTo.there)); first | done | fail)))
  by_cases h1 : kind = 1
  · have hD : D' = D := by rw [hstep, if_neg h0, if_pos h1]
    subst hD
    have c1 := aread_ct (W := W) (p := p) (D := D') hE8 e15 hN hn2 at_ n st bytes
    have c2 := r9read_ct (W := W) (p := q) hok (by omega) at_ n st hst bytes
    have c3 := num_ct hE hg (areaR D' at_ n st bytes).2 (areaR_le _ _ _ _ _)
    obtain ⟨e, he⟩ : ∃ e, e = (areaR D' at_ n st bytes).2 := ⟨_, rfl⟩
    obtain ⟨s, hs⟩ : ∃ s, s = (areaR D' at_ n st bytes).1 := ⟨_, rfl⟩
    rw [← he, ← hs] at c1 c2
    rw [← he] at c3
    clear he hs hstep
    refine Ct.enter Tryd.func58 rfl Tryd.ntmps58 (by simp) (fun R => ?_)
    repeat' (first 
    | refine KJ_stp (by first | constructor | fail) ?_
    | (refine is_list ?_; first | (refine KJ_guard_dec_t rfl rfl rfl (fun _ => ?_) (fun _ => ?_) <;> first | (exfalso; omega) | skip) | (refine KJ_guard_dec_f rfl rfl rfl (fun _ => ?_) (fun _ => ?_) <;> first | (exfalso; omega) | skip) | (refine KJ_guard_yes rfl rfl ?_) | (refine KJ_guard_no rfl rfl rfl rfl ?_))
    | (refine is_oper ?_; first | (refine is_store ?_; first | (refine KJ_store rfl rfl (by (repeat' (first | exact Sel.here | apply Sel.there)); first | done | fail) (by first | exact CellsOf.agg | exact CellsOf.one rfl) (by rfl) (by (repeat' (first | exact Ones.nil | exact Ones_bvs _ | refine Ones.cons rfl ?_)); first | done | fail) (by (repeat' (first | exact Laid.nil | apply Laid.cons | apply Laid.skip)); first | done | fail) (by (repeat' (first | exact Rep.here | apply Rep.there)); first | done | fail) ?_)) | (refine is_box ?_; first | (refine KJ_box rfl (by first | exact CellsOf.agg | exact CellsOf.one rfl) rfl (fun g5 => ?_)) | (refine KJ_box rfl (by first | exact CellsOf.agg | exact CellsOf.one rfl) rfl (fun _ => ?_))) | (refine is_call ?_; first | (refine KJ_call (by (repeat' (first | exact Evs.nil | refine Evs.cons rfl ?_)); first | done | fail) c3 (by (repeat' (first | exact Pick.nil | apply Pick.cons | exact Sel.here | apply Sel.there)); first | done | fail) rfl (fun _ => ?_)) | (refine KJ_call (by (repeat' (first | exact Evs.nil | refine Evs.cons rfl ?_)); first | done | fail) c2 (by (repeat' (first | exact Pick.nil | apply Pick.cons | exact Sel.here | apply Sel.there)); first | done | fail) rfl (fun _ => ?_)) | (refine KJ_call (by (repeat' (first | exact Evs.nil | refine Evs.cons rfl ?_)); first | done | fail) c1 (by (repeat' (first | exact Pick.nil | apply Pick.cons | exact Sel.here | apply Sel.there)); first | done | fail) rfl (fun _ => ?_)) | (refine KJ_call (by (repeat' (first | exact Evs.nil | refine Evs.cons rfl ?_)); first | done | fail) ct (by (repeat' (first | exact Pick.nil | apply Pick.cons | exact Sel.here | apply Sel.there)); first | done | fail) rfl (fun _ => ?_))) | (refine KJ_ek rfl ?_) | (refine KJ_ek0 ?_))
    | (refine is_ek ?_; first | (refine ek_move ?_; first | (refine EK_ev (Ev_move rfl) ?_)) | (refine ek_assign ?_; first | (refine EK_ev (Ev_assign rfl) ?_)) | (refine ek_pick ?_; first | (refine EK_ev (Ev_pick_t rfl rfl) ?_) | (refine EK_ev (Ev_pick_f rfl rfl) ?_)) | (refine ek_fieldAddr ?_; first | (refine EK_ev (Ev_field rfl) ?_)) | (refine ek_load ?_; first | (refine EK_ev (Ev_loadAgg rfl (by (repeat' (first | exact Sel.here | apply Sel.there)); first | done | fail) (by (repeat' (first | exact Cut.nil | apply Cut.cons | apply Cut.skip)); first | done | fail)) ?_) | (refine EK_ev (Ev_load rfl (by (repeat' (first | exact Sel.here | apply Sel.there)); first | done | fail) (by rfl)) ?_) | (refine EK_ev (Ev_load rfl (by (repeat' (first | exact Sel.here | apply Sel.there)); first | done | fail) (by rfl)) ?_) | (refine EK_ev (Ev_loadOld rfl (by assumption)) ?_) | (refine EK_ev (Ev_loadAgg rfl (by (repeat' (first | exact Sel.here | apply Sel.there)); first | done | fail) (by (repeat' (first | exact Cut.nil | apply Cut.cons | apply Cut.skip)); first | done | fail)) ?_)) | (refine ek_conv ?_; first | (refine EK_ev (Ev_convI_v rfl hB) ?_) | (refine EK_ev (Ev_convI64 rfl (by omega)) ?_) | (refine EK_ev (Ev_convI rfl) ?_) | (refine EK_ev (Ev_convS rfl) ?_)) | (refine ek_extract ?_; first | (refine EK_ev (Ev_extract rfl rfl) ?_)) | (refine ek_indexAddr ?_; first | (refine EK_ev (Ev_indexSlice rfl rfl (by omega)) ?_) | (refine EK_ev (Ev_indexArr rfl rfl (by omega)) ?_)) | (refine ek_rem ?_; first | (refine EK_ev (Ev_rem_w rfl rfl (by omega) hBm) ?_) | (refine EK_ev (Ev_remI rfl rfl (by omega)) ?_) | (refine EK_ev (Ev_rem rfl rfl (by omega)) ?_)) | (refine ek_eql ?_; first | (refine EK_ev (Ev_eqlS_t rfl rfl rfl) ?_) | (refine EK_ev (Ev_eqlI_t rfl rfl (by first | rfl | omega)) ?_) | (refine EK_ev (Ev_eqlI_f rfl rfl (by omega)) ?_) | (refine EK_ev (Ev_eqlI rfl rfl) ?_) | (refine EK_ev (Ev_eqlS rfl rfl) ?_) | (refine EK_ev (Ev_eqlNil rfl rfl) ?_) | (refine EK_ev (Ev_eqlB rfl rfl) ?_) | (refine EK_ev (Ev_eqlO rfl rfl rfl (fun _ => rfl)) ?_)) | (refine ek_neq ?_; first | (refine EK_ev (Ev_neqI rfl rfl) ?_) | (refine EK_ev (Ev_neqS rfl rfl) ?_) | (refine EK_ev (Ev_neqNil rfl rfl) ?_) | (refine EK_ev (Ev_neqB rfl rfl) ?_) | (refine EK_ev (Ev_neqO rfl rfl rfl (fun _ => rfl)) ?_)))
    | (refine is_ex ?_; first | (refine KJ_blk_exit' rfl ?_))
    | (refine is_code ?_; first | (refine KJ_cond_dec rfl (fun _ => ?_) (fun _ => ?_) <;> first | (exfalso; omega) | skip) | (refine KJ_cond_t rfl ?_) | (refine KJ_cond_f rfl ?_) | (refine KJ_draws (id := 5) (.op 0 (.op 2 (.op 3 (.op 4 (.op 5 (.op 6 (.op 7 (.op 8 (.op 9 (.ef 1 [9, 8, 7, 6, 5, 4, 3, 2] (.ef 10 [] (.op 11 (.op 12 .nil))))))))))))) (by kernel_rfl) (by kernel_rfl) ?_) | (refine KJ_draws (id := 24) (.op 0 (.op 1 (.op 2 (.op 3 (.op 4 (.op 5 (.op 6 (.op 7 (.op 8 (.op 9 (.op 10 (.op 11 (.op 12 (.ef 13 [] .nil)))))))))))))) (by kernel_rfl) (by kernel_rfl) ?_) | (refine KJ_draws (id := 25) (.op 0 (.op 1 (.op 2 (.op 3 (.op 4 (.op 7 (.op 8 (.op 9 (.op 10 (.op 11 (.ef 5 [11, 10, 9, 8, 7] (.ef 6 [11, 10, 9, 8, 7] (.ef 12 [] (.op 13 (.op 14 .nil))))))))))))))) (by kernel_rfl) (by kernel_rfl) ?_))
    | (refine is_fw ?_; first | (refine FW_open rfl ?_) | (refine FW_nil ?_) | (refine FW_ef rfl ?_) | (refine FW_efg rfl rfl rfl ?_) | (refine FW_alt ?_ ?_))
    | (refine is_fo ?_; first | (refine FO_dec_t rfl rfl (fun _ => ?_) (fun _ => ?_) <;> first | (exfalso; omega) | skip) | (refine FO_dec_f rfl rfl (fun _ => ?_) (fun _ => ?_) <;> first | (exfalso; omega) | skip) | (refine FO_no rfl rfl rfl rfl ?_) | (refine FO_ekg rfl rfl rfl ?_) | (refine FO_ek rfl ?_))
    | (refine is_ro ?_; first | (refine RO_no rfl rfl rfl rfl ?_) | (refine RO_ekg rfl rfl ?_) | (refine RO_ek ?_))
    | (refine is_raw ?_; first | (refine KJ_flow ?_ ?_))
    | (refine AtR_mk rfl ?_)
    | exact Rech.nil
    | (refine Rech_open rfl ?_))
    all_goals (refine is_ex ?_; exact KJ_done (by first | exact Or.inl rfl | exact Or.inr rfl) rfl (by (repeat' (first | exact Rvs.nil | (apply Rvs.tmp; exact rfl))); first | done | fail) () (by rfl) (Ent.of (by (repeat' (first | exact Pick.nil | apply Pick.cons | exact Sel.here | apply Sel.there)); first | done | fail) (by (repeat' (first | exact DropTo.refl | apply DropTo.there)); first | done | fail)))
  by_cases h2 : kind = 2
  · have hD : D' = D.flushD := by rw [hstep, if_neg h0, if_neg h1, if_pos h2]
    have c1 := flush_ct (W := W) (p := p) (D := D) hE8 (by omega)
    have c2 := rflush_ct (W := W) (p := q) hok (by omega)
    have c3 := num_ct hE hg D.flushE (by unfold Dsk.flushE; split <;> omega)
    rw [← hD] at c1 c2
    clear hD hstep
    refine Ct.enter Tryd.func58 rfl Tryd.ntmps58 (by simp) (fun R => ?_)
    repeat' (first 
    | refine KJ_stp (by first | constructor | fail) ?_
    | (refine is_list ?_; first | (refine KJ_guard_dec_t rfl rfl rfl (fun _ => ?_) (fun _ => ?_) <;> first | (exfalso; omega) | skip) | (refine KJ_guard_dec_f rfl rfl rfl (fun _ => ?_) (fun _ => ?_) <;> first | (exfalso; omega) | skip) | (refine KJ_guard_yes rfl rfl ?_) | (refine KJ_guard_no rfl rfl rfl rfl ?_))
    | (refine is_oper ?_; first | (refine is_store ?_; first | (refine KJ_store rfl rfl (by (repeat' (first | exact Sel.here | apply Sel.there)); first | done | fail) (by first | exact CellsOf.agg | exact CellsOf.one rfl) (by rfl) (by (repeat' (first | exact Ones.nil | exact Ones_bvs _ | refine Ones.cons rfl ?_)); first | done | fail) (by (repeat' (first | exact Laid.nil | apply Laid.cons | apply Laid.skip)); first | done | fail) (by (repeat' (first | exact Rep.here | apply Rep.there)); first | done | fail) ?_)) | (refine is_box ?_; first | (refine KJ_box rfl (by first | exact CellsOf.agg | exact CellsOf.one rfl) rfl (fun g5 => ?_)) | (refine KJ_box rfl (by first | exact CellsOf.agg | exact CellsOf.one rfl) rfl (fun _ => ?_))) | (refine is_call ?_; first | (refine KJ_call (by (repeat' (first | exact Evs.nil | refine Evs.cons rfl ?_)); first | done | fail) c3 (by (repeat' (first | exact Pick.nil | apply Pick.cons | exact Sel.here | apply Sel.there)); first | done | fail) rfl (fun _ => ?_)) | (refine KJ_call (by (repeat' (first | exact Evs.nil | refine Evs.cons rfl ?_)); first | done | fail) c2 (by (repeat' (first | exact Pick.nil | apply Pick.cons | exact Sel.here | apply Sel.there)); first | done | fail) rfl (fun _ => ?_)) | (refine KJ_call (by (repeat' (first | exact Evs.nil | refine Evs.cons rfl ?_)); first | done | fail) c1 (by (repeat' (first | exact Pick.nil | apply Pick.cons | exact Sel.here | apply Sel.there)); first | done | fail) rfl (fun _ => ?_)) | (refine KJ_call (by (repeat' (first | exact Evs.nil | refine Evs.cons rfl ?_)); first | done | fail) ct (by (repeat' (first | exact Pick.nil | apply Pick.cons | exact Sel.here | apply Sel.there)); first | done | fail) rfl (fun _ => ?_))) | (refine KJ_ek rfl ?_) | (refine KJ_ek0 ?_))
    | (refine is_ek ?_; first | (refine ek_move ?_; first | (refine EK_ev (Ev_move rfl) ?_)) | (refine ek_assign ?_; first | (refine EK_ev (Ev_assign rfl) ?_)) | (refine ek_pick ?_; first | (refine EK_ev (Ev_pick_t rfl rfl) ?_) | (refine EK_ev (Ev_pick_f rfl rfl) ?_)) | (refine ek_fieldAddr ?_; first | (refine EK_ev (Ev_field rfl) ?_)) | (refine ek_load ?_; first | (refine EK_ev (Ev_loadAgg rfl (by (repeat' (first | exact Sel.here | apply Sel.there)); first | done | fail) (by (repeat' (first | exact Cut.nil | apply Cut.cons | apply Cut.skip)); first | done | fail)) ?_) | (refine EK_ev (Ev_load rfl (by (repeat' (first | exact Sel.here | apply Sel.there)); first | done | fail) (by rfl)) ?_) | (refine EK_ev (Ev_load rfl (by (repeat' (first | exact Sel.here | apply Sel.there)); first | done | fail) (by rfl)) ?_) | (refine EK_ev (Ev_loadOld rfl (by assumption)) ?_) | (refine EK_ev (Ev_loadAgg rfl (by (repeat' (first | exact Sel.here | apply Sel.there)); first | done | fail) (by (repeat' (first | exact Cut.nil | apply Cut.cons | apply Cut.skip)); first | done | fail)) ?_)) | (refine ek_conv ?_; first | (refine EK_ev (Ev_convI_v rfl hB) ?_) | (refine EK_ev (Ev_convI64 rfl (by omega)) ?_) | (refine EK_ev (Ev_convI rfl) ?_) | (refine EK_ev (Ev_convS rfl) ?_)) | (refine ek_extract ?_; first | (refine EK_ev (Ev_extract rfl rfl) ?_)) | (refine ek_indexAddr ?_; first | (refine EK_ev (Ev_indexSlice rfl rfl (by omega)) ?_) | (refine EK_ev (Ev_indexArr rfl rfl (by omega)) ?_)) | (refine ek_rem ?_; first | (refine EK_ev (Ev_rem_w rfl rfl (by omega) hBm) ?_) | (refine EK_ev (Ev_remI rfl rfl (by omega)) ?_) | (refine EK_ev (Ev_rem rfl rfl (by omega)) ?_)) | (refine ek_eql ?_; first | (refine EK_ev (Ev_eqlI_t rfl rfl (by first | rfl | omega)) ?_) | (refine EK_ev (Ev_eqlI_f rfl rfl (by omega)) ?_) | (refine EK_ev (Ev_eqlI rfl rfl) ?_) | (refine EK_ev (Ev_eqlS rfl rfl) ?_) | (refine EK_ev (Ev_eqlNil rfl rfl) ?_) | (refine EK_ev (Ev_eqlB rfl rfl) ?_) | (refine EK_ev (Ev_eqlO rfl rfl rfl (fun _ => rfl)) ?_)) | (refine ek_neq ?_; first | (refine EK_ev (Ev_neqI rfl rfl) ?_) | (refine EK_ev (Ev_neqS rfl rfl) ?_) | (refine EK_ev (Ev_neqNil rfl rfl) ?_) | (refine EK_ev (Ev_neqB rfl rfl) ?_) | (refine EK_ev (Ev_neqO rfl rfl rfl (fun _ => rfl)) ?_)))
    | (refine is_ex ?_; first | (refine KJ_blk_exit' rfl ?_))
    | (refine is_code ?_; first | (refine KJ_cond_dec rfl (fun _ => ?_) (fun _ => ?_) <;> first | (exfalso; omega) | skip) | (refine KJ_cond_t rfl ?_) | (refine KJ_cond_f rfl ?_) | (refine KJ_draws (id := 5) (.op 0 (.op 2 (.op 3 (.op 4 (.op 5 (.op 6 (.op 7 (.op 8 (.op 9 (.ef 1 [9, 8, 7, 6, 5, 4, 3, 2] (.ef 10 [] (.op 11 (.op 12 .nil))))))))))))) (by kernel_rfl) (by kernel_rfl) ?_) | (refine KJ_draws (id := 24) (.op 0 (.op 1 (.op 2 (.op 3 (.op 4 (.op 5 (.op 6 (.op 7 (.op 8 (.op 9 (.op 10 (.op 11 (.op 12 (.ef 13 [] .nil)))))))))))))) (by kernel_rfl) (by kernel_rfl) ?_) | (refine KJ_draws (id := 25) (.op 0 (.op 1 (.op 2 (.op 3 (.op 4 (.op 7 (.op 8 (.op 9 (.op 10 (.op 11 (.ef 5 [11, 10, 9, 8, 7] (.ef 6 [11, 10, 9, 8, 7] (.ef 12 [] (.op 13 (.op 14 .nil))))))))))))))) (by kernel_rfl) (by kernel_rfl) ?_))
    | (refine is_fw ?_; first | (refine FW_open rfl ?_) | (refine FW_nil ?_) | (refine FW_ef rfl ?_) | (refine FW_efg rfl rfl rfl ?_) | (refine FW_alt ?_ ?_))
    | (refine is_fo ?_; first | (refine FO_dec_t rfl rfl (fun _ => ?_) (fun _ => ?_) <;> first | (exfalso; omega) | skip) | (refine FO_dec_f rfl rfl (fun _ => ?_) (fun _ => ?_) <;> first | (exfalso; omega) | skip) | (refine FO_no rfl rfl rfl rfl ?_) | (refine FO_ekg rfl rfl rfl ?_) | (refine FO_ek rfl ?_))
    | (refine is_ro ?_; first | (refine RO_no rfl rfl rfl rfl ?_) | (refine RO_ekg rfl rfl ?_) | (refine RO_ek ?_))
    | (refine is_raw ?_; first | (refine KJ_flow ?_ ?_))
    | (refine AtR_mk rfl ?_)
    | exact Rech.nil
    | (refine Rech_open rfl ?_))
    all_goals (refine is_ex ?_; exact KJ_done (by first | exact Or.inl rfl | exact Or.inr rfl) rfl (by (repeat' (first | exact Rvs.nil | (apply Rvs.tmp; exact rfl))); first | done | fail) () (by rfl) (Ent.of (by (repeat' (first | exact Pick.nil | apply Pick.cons | exact Sel.here | apply Sel.there)); first | done | fail) (by (repeat' (first | exact DropTo.refl | apply DropTo.there)); first | done | fail)))
  by_cases h3 : kind = 3
  · have hD : D' = D.arm n := by rw [hstep, if_neg h0, if_neg h1, if_neg h2, if_pos h3]
    have c1 := arm_ct (W := W) (p := p) (D := D) n wn.2
    have c2 := rarm_ct (W := W) (p := q) (D := D) n wn.2
    rw [← hD] at c1 c2
    clear hD hstep
    refine Ct.enter Tryd.func58 rfl Tryd.ntmps58 (by simp) (fun R => ?_)
    repeat' (first 
    | refine KJ_stp (by first | constructor | fail) ?_
    | (refine is_list ?_; first | (refine KJ_guard_dec_t rfl rfl rfl (fun _ => ?_) (fun _ => ?_) <;> first | (exfalso; omega) | skip) | (refine KJ_guard_dec_f rfl rfl rfl (fun _ => ?_) (fun _ => ?_) <;> first | (exfalso; omega) | skip) | (refine KJ_guard_yes rfl rfl ?_) | (refine KJ_guard_no rfl rfl rfl rfl ?_))
    | (refine is_oper ?_; first | (refine is_store ?_; first | (refine KJ_store rfl rfl (by (repeat' (first | exact Sel.here | apply Sel.there)); first | done | fail) (by first | exact CellsOf.agg | exact CellsOf.one rfl) (by rfl) (by (repeat' (first | exact Ones.nil | exact Ones_bvs _ | refine Ones.cons rfl ?_)); first | done | fail) (by (repeat' (first | exact Laid.nil | apply Laid.cons | apply Laid.skip)); first | done | fail) (by (repeat' (first | exact Rep.here | apply Rep.there)); first | done | fail) ?_)) | (refine is_box ?_; first | (refine KJ_box rfl (by first | exact CellsOf.agg | exact CellsOf.one rfl) rfl (fun g5 => ?_)) | (refine KJ_box rfl (by first | exact CellsOf.agg | exact CellsOf.one rfl) rfl (fun _ => ?_))) | (refine is_call ?_; first | (refine KJ_call0 (by (repeat' (first | exact Evs.nil | refine Evs.cons rfl ?_)); first | done | fail) c2 (by (repeat' (first | exact Pick.nil | apply Pick.cons | exact Sel.here | apply Sel.there)); first | done | fail) (fun _ => ?_)) | (refine KJ_call0 (by (repeat' (first | exact Evs.nil | refine Evs.cons rfl ?_)); first | done | fail) c1 (by (repeat' (first | exact Pick.nil | apply Pick.cons | exact Sel.here | apply Sel.there)); first | done | fail) (fun _ => ?_)) | (refine KJ_call (by (repeat' (first | exact Evs.nil | refine Evs.cons rfl ?_)); first | done | fail) c2 (by (repeat' (first | exact Pick.nil | apply Pick.cons | exact Sel.here | apply Sel.there)); first | done | fail) rfl (fun _ => ?_)) | (refine KJ_call (by (repeat' (first | exact Evs.nil | refine Evs.cons rfl ?_)); first | done | fail) c1 (by (repeat' (first | exact Pick.nil | apply Pick.cons | exact Sel.here | apply Sel.there)); first | done | fail) rfl (fun _ => ?_)) | (refine KJ_call (by (repeat' (first | exact Evs.nil | refine Evs.cons rfl ?_)); first | done | fail) ct (by (repeat' (first | exact Pick.nil | apply Pick.cons | exact Sel.here | apply Sel.there)); first | done | fail) rfl (fun _ => ?_))) | (refine KJ_ek rfl ?_) | (refine KJ_ek0 ?_))
    | (refine is_ek ?_; first | (refine ek_move ?_; first | (refine EK_ev (Ev_move rfl) ?_)) | (refine ek_assign ?_; first | (refine EK_ev (Ev_assign rfl) ?_)) | (refine ek_pick ?_; first | (refine EK_ev (Ev_pick_t rfl rfl) ?_) | (refine EK_ev (Ev_pick_f rfl rfl) ?_)) | (refine ek_fieldAddr ?_; first | (refine EK_ev (Ev_field rfl) ?_)) | (refine ek_load ?_; first | (refine EK_ev (Ev_loadAgg rfl (by (repeat' (first | exact Sel.here | apply Sel.there)); first | done | fail) (by (repeat' (first | exact Cut.nil | apply Cut.cons | apply Cut.skip)); first | done | fail)) ?_) | (refine EK_ev (Ev_load rfl (by (repeat' (first | exact Sel.here | apply Sel.there)); first | done | fail) (by rfl)) ?_) | (refine EK_ev (Ev_load rfl (by (repeat' (first | exact Sel.here | apply Sel.there)); first | done | fail) (by rfl)) ?_) | (refine EK_ev (Ev_loadOld rfl (by assumption)) ?_) | (refine EK_ev (Ev_loadAgg rfl (by (repeat' (first | exact Sel.here | apply Sel.there)); first | done | fail) (by (repeat' (first | exact Cut.nil | apply Cut.cons | apply Cut.skip)); first | done | fail)) ?_)) | (refine ek_conv ?_; first | (refine EK_ev (Ev_convI_v rfl hB) ?_) | (refine EK_ev (Ev_convI64 rfl (by omega)) ?_) | (refine EK_ev (Ev_convI rfl) ?_) | (refine EK_ev (Ev_convS rfl) ?_)) | (refine ek_extract ?_; first | (refine EK_ev (Ev_extract rfl rfl) ?_)) | (refine ek_indexAddr ?_; first | (refine EK_ev (Ev_indexSlice rfl rfl (by omega)) ?_) | (refine EK_ev (Ev_indexArr rfl rfl (by omega)) ?_)) | (refine ek_rem ?_; first | (refine EK_ev (Ev_rem_w rfl rfl (by omega) hBm) ?_) | (refine EK_ev (Ev_remI rfl rfl (by omega)) ?_) | (refine EK_ev (Ev_rem rfl rfl (by omega)) ?_)) | (refine ek_eql ?_; first | (refine EK_ev (Ev_eqlI_t rfl rfl (by first | rfl | omega)) ?_) | (refine EK_ev (Ev_eqlI_f rfl rfl (by omega)) ?_) | (refine EK_ev (Ev_eqlI rfl rfl) ?_) | (refine EK_ev (Ev_eqlS rfl rfl) ?_) | (refine EK_ev (Ev_eqlNil rfl rfl) ?_) | (refine EK_ev (Ev_eqlB rfl rfl) ?_) | (refine EK_ev (Ev_eqlO rfl rfl rfl (fun _ => rfl)) ?_)) | (refine ek_neq ?_; first | (refine EK_ev (Ev_neqI rfl rfl) ?_) | (refine EK_ev (Ev_neqS rfl rfl) ?_) | (refine EK_ev (Ev_neqNil rfl rfl) ?_) | (refine EK_ev (Ev_neqB rfl rfl) ?_) | (refine EK_ev (Ev_neqO rfl rfl rfl (fun _ => rfl)) ?_)))
    | (refine is_ex ?_; first | (refine KJ_blk_exit' rfl ?_))
    | (refine is_code ?_; first | (refine KJ_cond_dec rfl (fun _ => ?_) (fun _ => ?_) <;> first | (exfalso; omega) | skip) | (refine KJ_cond_t rfl ?_) | (refine KJ_cond_f rfl ?_) | (refine KJ_draws (id := 5) (.op 0 (.op 2 (.op 3 (.op 4 (.op 5 (.op 6 (.op 7 (.op 8 (.op 9 (.ef 1 [9, 8, 7, 6, 5, 4, 3, 2] (.ef 10 [] (.op 11 (.op 12 .nil))))))))))))) (by kernel_rfl) (by kernel_rfl) ?_) | (refine KJ_draws (id := 24) (.op 0 (.op 1 (.op 2 (.op 3 (.op 4 (.op 5 (.op 6 (.op 7 (.op 8 (.op 9 (.op 10 (.op 11 (.op 12 (.ef 13 [] .nil)))))))))))))) (by kernel_rfl) (by kernel_rfl) ?_) | (refine KJ_draws (id := 25) (.op 0 (.op 1 (.op 2 (.op 3 (.op 4 (.op 7 (.op 8 (.op 9 (.op 10 (.op 11 (.ef 5 [11, 10, 9, 8, 7] (.ef 6 [11, 10, 9, 8, 7] (.ef 12 [] (.op 13 (.op 14 .nil))))))))))))))) (by kernel_rfl) (by kernel_rfl) ?_))
    | (refine is_fw ?_; first | (refine FW_open rfl ?_) | (refine FW_nil ?_) | (refine FW_ef rfl ?_) | (refine FW_efg rfl rfl rfl ?_) | (refine FW_alt ?_ ?_))
    | (refine is_fo ?_; first | (refine FO_dec_t rfl rfl (fun _ => ?_) (fun _ => ?_) <;> first | (exfalso; omega) | skip) | (refine FO_dec_f rfl rfl (fun _ => ?_) (fun _ => ?_) <;> first | (exfalso; omega) | skip) | (refine FO_no rfl rfl rfl rfl ?_) | (refine FO_ekg rfl rfl rfl ?_) | (refine FO_ek rfl ?_))
    | (refine is_ro ?_; first | (refine RO_no rfl rfl rfl rfl ?_) | (refine RO_ekg rfl rfl ?_) | (refine RO_ek ?_))
    | (refine is_raw ?_; first | (refine KJ_flow ?_ ?_))
    | (refine AtR_mk rfl ?_)
    | exact Rech.nil
    | (refine Rech_open rfl ?_))
    all_goals (refine is_ex ?_; exact KJ_done (by first | exact Or.inl rfl | exact Or.inr rfl) rfl (by (repeat' (first | exact Rvs.nil | (apply Rvs.tmp; exact rfl))); first | done | fail) () (by rfl) (Ent.of (by (repeat' (first | exact Pick.nil | apply Pick.cons | exact Sel.here | apply Sel.there)); first | done | fail) (by (repeat' (first | exact DropTo.refl | apply DropTo.there)); first | done | fail)))
  by_cases h4 : kind = 4
  · have hD : D' = D.crash kept torn fb0 := by rw [hstep, if_neg h0, if_neg h1, if_neg h2, if_neg h3, if_pos h4]
    have c1 := fun g c => crash_copy (W := W) (p := p) (D := D) g c kept torn fb0 (by omega)
    have c2 := rcrash_ct (W := W) (p := q) hok (by omega) torn fb0 hk0
    simp only [← hD] at c1 c2
    clear hD hstep
    refine Ct.enter Tryd.func58 rfl Tryd.ntmps58 (by simp) (fun R => ?_)
    repeat' (first 
    | refine KJ_stp (by first | constructor | fail) ?_
    | (refine is_list ?_; first | (refine KJ_guard_dec_t rfl rfl rfl (fun _ => ?_) (fun _ => ?_) <;> first | (exfalso; omega) | skip) | (refine KJ_guard_dec_f rfl rfl rfl (fun _ => ?_) (fun _ => ?_) <;> first | (exfalso; omega) | skip) | (refine KJ_guard_yes rfl rfl ?_) | (refine KJ_guard_no rfl rfl rfl rfl ?_))
    | (refine is_oper ?_; first | (refine is_store ?_; first | (refine KJ_store rfl rfl (by (repeat' (first | exact Sel.here | apply Sel.there)); first | done | fail) (by first | exact CellsOf.agg | exact CellsOf.one rfl) (by rfl) (by (repeat' (first | exact Ones.nil | exact Ones_bvs _ | refine Ones.cons rfl ?_)); first | done | fail) (by (repeat' (first | exact Laid.nil | apply Laid.cons | apply Laid.skip)); first | done | fail) (by (repeat' (first | exact Rep.here | apply Rep.there)); first | done | fail) ?_)) | (refine is_box ?_; first | (refine KJ_box rfl (by first | exact CellsOf.agg | exact CellsOf.one rfl) rfl (fun g5 => ?_)) | (refine KJ_box rfl (by first | exact CellsOf.agg | exact CellsOf.one rfl) rfl (fun _ => ?_))) | (refine is_call ?_; first | (refine KJ_call0 (by (repeat' (first | exact Evs.nil | refine Evs.cons rfl ?_)); first | done | fail) c2 (by (repeat' (first | exact Pick.nil | apply Pick.cons | exact Sel.here | apply Sel.there)); first | done | fail) (fun _ => ?_)) | (refine KJ_call0 (by (repeat' (first | exact Evs.nil | refine Evs.cons rfl ?_)); first | done | fail) (c1 _ _) (by (repeat' (first | exact Pick.nil | apply Pick.cons | exact Sel.here | apply Sel.there)); first | done | fail) (fun _ => ?_)) | (refine KJ_call (by (repeat' (first | exact Evs.nil | refine Evs.cons rfl ?_)); first | done | fail) c2 (by (repeat' (first | exact Pick.nil | apply Pick.cons | exact Sel.here | apply Sel.there)); first | done | fail) rfl (fun _ => ?_)) | (refine KJ_call (by (repeat' (first | exact Evs.nil | refine Evs.cons rfl ?_)); first | done | fail) (c1 _ _) (by (repeat' (first | exact Pick.nil | apply Pick.cons | exact Sel.here | apply Sel.there)); first | done | fail) rfl (fun _ => ?_)) | (refine KJ_call (by (repeat' (first | exact Evs.nil | refine Evs.cons rfl ?_)); first | done | fail) ct (by (repeat' (first | exact Pick.nil | apply Pick.cons | exact Sel.here | apply Sel.there)); first | done | fail) rfl (fun _ => ?_))) | (refine is_append ?_; first | (refine KJ_boolsCopy hk0 hkl rfl rfl (by (repeat' (first | exact Sel.here | apply Sel.there)); first | done | fail) rfl (fun g1 k1 => ?_))) | (refine is_bslice ?_; first | (refine KJ_bslice0 rfl (fun g0 => ?_))) | (refine KJ_ek rfl ?_) | (refine KJ_ek0 ?_))
    | (refine is_ek ?_; first | (refine ek_move ?_; first | (refine EK_ev (Ev_move rfl) ?_)) | (refine ek_assign ?_; first | (refine EK_ev (Ev_assign rfl) ?_)) | (refine ek_pick ?_; first | (refine EK_ev (Ev_pick_t rfl rfl) ?_) | (refine EK_ev (Ev_pick_f rfl rfl) ?_)) | (refine ek_fieldAddr ?_; first | (refine EK_ev (Ev_field rfl) ?_)) | (refine ek_load ?_; first | (refine EK_ev (Ev_loadAgg rfl (by (repeat' (first | exact Sel.here | apply Sel.there)); first | done | fail) (by (repeat' (first | exact Cut.nil | apply Cut.cons | apply Cut.skip)); first | done | fail)) ?_) | (refine EK_ev (Ev_load rfl (by (repeat' (first | exact Sel.here | apply Sel.there)); first | done | fail) (by rfl)) ?_) | (refine EK_ev (Ev_load rfl (by (repeat' (first | exact Sel.here | apply Sel.there)); first | done | fail) (by rfl)) ?_) | (refine EK_ev (Ev_loadOld rfl (by assumption)) ?_) | (refine EK_ev (Ev_loadAgg rfl (by (repeat' (first | exact Sel.here | apply Sel.there)); first | done | fail) (by (repeat' (first | exact Cut.nil | apply Cut.cons | apply Cut.skip)); first | done | fail)) ?_)) | (refine ek_conv ?_; first | (refine EK_ev (Ev_convI_v rfl hB) ?_) | (refine EK_ev (Ev_convI64 rfl (by omega)) ?_) | (refine EK_ev (Ev_convI rfl) ?_) | (refine EK_ev (Ev_convS rfl) ?_)) | (refine ek_extract ?_; first | (refine EK_ev (Ev_extract rfl rfl) ?_)) | (refine ek_indexAddr ?_; first | (refine EK_ev (Ev_indexSlice rfl rfl (by omega)) ?_) | (refine EK_ev (Ev_indexArr rfl rfl (by omega)) ?_)) | (refine ek_build ?_; first | (refine EK_ev (Ev_build (by (repeat' (first | exact EvP.nil | (apply EvP.cons; exact rfl))); first | done | fail) (by (repeat' (first | exact Fills.nil | (apply Fills.cons; exact rfl; (first | exact CellsOf.agg | exact CellsOf.one rfl); exact rfl; (repeat' (first | exact Laid.nil | apply Laid.cons | apply Laid.skip))))); first | done | fail)) ?_)) | (refine ek_rem ?_; first | (refine EK_ev (Ev_rem_w rfl rfl (by omega) hBm) ?_) | (refine EK_ev (Ev_remI rfl rfl (by omega)) ?_) | (refine EK_ev (Ev_rem rfl rfl (by omega)) ?_)) | (refine ek_eql ?_; first | (refine EK_ev (Ev_eqlI_t rfl rfl (by first | rfl | omega)) ?_) | (refine EK_ev (Ev_eqlI_f rfl rfl (by omega)) ?_) | (refine EK_ev (Ev_eqlI rfl rfl) ?_) | (refine EK_ev (Ev_eqlS rfl rfl) ?_) | (refine EK_ev (Ev_eqlNil rfl rfl) ?_) | (refine EK_ev (Ev_eqlB rfl rfl) ?_) | (refine EK_ev (Ev_eqlO rfl rfl rfl (fun _ => rfl)) ?_)) | (refine ek_neq ?_; first | (refine EK_ev (Ev_neqI rfl rfl) ?_) | (refine EK_ev (Ev_neqS rfl rfl) ?_) | (refine EK_ev (Ev_neqNil rfl rfl) ?_) | (refine EK_ev (Ev_neqB rfl rfl) ?_) | (refine EK_ev (Ev_neqO rfl rfl rfl (fun _ => rfl)) ?_)))
    | (refine is_ex ?_; first | (refine KJ_blk_exit' rfl ?_))
    | (refine is_code ?_; first | (refine KJ_cond_dec rfl (fun _ => ?_) (fun _ => ?_) <;> first | (exfalso; omega) | skip) | (refine KJ_cond_t rfl ?_) | (refine KJ_cond_f rfl ?_) | (refine KJ_draws (id := 5) (.op 0 (.op 2 (.op 3 (.op 4 (.op 5 (.op 6 (.op 7 (.op 8 (.op 9 (.ef 1 [9, 8, 7, 6, 5, 4, 3, 2] (.ef 10 [] (.op 11 (.op 12 .nil))))))))))))) (by kernel_rfl) (by kernel_rfl) ?_) | (refine KJ_draws (id := 24) (.op 0 (.op 1 (.op 2 (.op 3 (.op 4 (.op 5 (.op 6 (.op 7 (.op 8 (.op 9 (.op 10 (.op 11 (.op 12 (.ef 13 [] .nil)))))))))))))) (by kernel_rfl) (by kernel_rfl) ?_) | (refine KJ_draws (id := 25) (.op 0 (.op 1 (.op 2 (.op 3 (.op 4 (.op 7 (.op 8 (.op 9 (.op 10 (.op 11 (.ef 5 [11, 10, 9, 8, 7] (.ef 6 [11, 10, 9, 8, 7] (.ef 12 [] (.op 13 (.op 14 .nil))))))))))))))) (by kernel_rfl) (by kernel_rfl) ?_))
    | (refine is_fw ?_; first | (refine FW_open rfl ?_) | (refine FW_nil ?_) | (refine FW_ef rfl ?_) | (refine FW_efg rfl rfl rfl ?_) | (refine FW_alt ?_ ?_))
    | (refine is_fo ?_; first | (refine FO_dec_t rfl rfl (fun _ => ?_) (fun _ => ?_) <;> first | (exfalso; omega) | skip) | (refine FO_dec_f rfl rfl (fun _ => ?_) (fun _ => ?_) <;> first | (exfalso; omega) | skip) | (refine FO_no rfl rfl rfl rfl ?_) | (refine FO_ekg rfl rfl rfl ?_) | (refine FO_ek rfl ?_))
    | (refine is_ro ?_; first | (refine RO_no rfl rfl rfl rfl ?_) | (refine RO_ekg rfl rfl ?_) | (refine RO_ek ?_))
    | (refine is_raw ?_; first | (refine KJ_flow ?_ ?_))
    | (refine AtR_mk rfl ?_)
    | exact Rech.nil
    | (refine Rech_open rfl ?_))
    all_goals (refine is_ex ?_; exact KJ_done (by first | exact Or.inl rfl | exact Or.inr rfl) rfl (by (repeat' (first | exact Rvs.nil | (apply Rvs.tmp; exact rfl))); first | done | fail) () (by rfl) (Ent.of (by (repeat' (first | exact Pick.nil | apply Pick.cons | exact Sel.here | apply Sel.there)); first | done | fail) (by (repeat' (first | exact DropTo.refl | apply DropTo.there)); first | done | fail)))
  by_cases h5 : kind = 5
  · have c1 := rread_ct (W := W) (p := q) hok at_ (by omega)
    by_cases hz : D.readE at_ = 0
    rotate_left
    · have hD : D' = D := by rw [hstep, if_neg h0, if_neg h1, if_neg h2, if_neg h3, if_neg h4, if_pos h5, if_pos hz]
      subst hD
      obtain ⟨e, he⟩ : ∃ e, e = D'.readE at_ := ⟨_, rfl⟩
      rw [← he] at c1 hz
      clear hstep he
      refine Ct.enter Tryd.func58 rfl Tryd.ntmps58 (by simp) (fun R => ?_)
      repeat' (first 
    | refine KJ_stp (by first | constructor | fail) ?_
    | (refine is_list ?_; first | (refine KJ_guard_dec_t rfl rfl rfl (fun _ => ?_) (fun _ => ?_) <;> first | (exfalso; omega) | skip) | (refine KJ_guard_dec_f rfl rfl rfl (fun _ => ?_) (fun _ => ?_) <;> first | (exfalso; omega) | skip) | (refine KJ_guard_yes rfl rfl ?_) | (refine KJ_guard_no rfl rfl rfl rfl ?_))
    | (refine is_oper ?_; first | (refine is_store ?_; first | (refine KJ_store rfl rfl (by (repeat' (first | exact Sel.here | apply Sel.there)); first | done | fail) (by first | exact CellsOf.agg | exact CellsOf.one rfl) (by rfl) (by (repeat' (first | exact Ones.nil | exact Ones_bvs _ | refine Ones.cons rfl ?_)); first | done | fail) (by (repeat' (first | exact Laid.nil | apply Laid.cons | apply Laid.skip)); first | done | fail) (by (repeat' (first | exact Rep.here | apply Rep.there)); first | done | fail) ?_)) | (refine is_box ?_; first | (refine KJ_box rfl (by first | exact CellsOf.agg | exact CellsOf.one rfl) rfl (fun g5 => ?_)) | (refine KJ_box rfl (by first | exact CellsOf.agg | exact CellsOf.one rfl) rfl (fun _ => ?_))) | (refine is_call ?_; first | (refine KJ_call (by (repeat' (first | exact Evs.nil | refine Evs.cons rfl ?_)); first | done | fail) c1 (by (repeat' (first | exact Pick.nil | apply Pick.cons | exact Sel.here | apply Sel.there)); first | done | fail) rfl (fun _ => ?_)) | (refine KJ_call (by (repeat' (first | exact Evs.nil | refine Evs.cons rfl ?_)); first | done | fail) ct (by (repeat' (first | exact Pick.nil | apply Pick.cons | exact Sel.here | apply Sel.there)); first | done | fail) rfl (fun _ => ?_))) | (refine KJ_ek rfl ?_) | (refine KJ_ek0 ?_))
    | (refine is_ek ?_; first | (refine ek_move ?_; first | (refine EK_ev (Ev_move rfl) ?_)) | (refine ek_assign ?_; first | (refine EK_ev (Ev_assign rfl) ?_)) | (refine ek_pick ?_; first | (refine EK_ev (Ev_pick_t rfl rfl) ?_) | (refine EK_ev (Ev_pick_f rfl rfl) ?_)) | (refine ek_fieldAddr ?_; first | (refine EK_ev (Ev_field rfl) ?_)) | (refine ek_load ?_; first | (refine EK_ev (Ev_loadAgg rfl (by (repeat' (first | exact Sel.here | apply Sel.there)); first | done | fail) (by (repeat' (first | exact Cut.nil | apply Cut.cons | apply Cut.skip)); first | done | fail)) ?_) | (refine EK_ev (Ev_load rfl (by (repeat' (first | exact Sel.here | apply Sel.there)); first | done | fail) (by rfl)) ?_) | (refine EK_ev (Ev_load rfl (by (repeat' (first | exact Sel.here | apply Sel.there)); first | done | fail) (by rfl)) ?_) | (refine EK_ev (Ev_loadOld rfl (by assumption)) ?_) | (refine EK_ev (Ev_loadAgg rfl (by (repeat' (first | exact Sel.here | apply Sel.there)); first | done | fail) (by (repeat' (first | exact Cut.nil | apply Cut.cons | apply Cut.skip)); first | done | fail)) ?_)) | (refine ek_conv ?_; first | (refine EK_ev (Ev_convI_v rfl hB) ?_) | (refine EK_ev (Ev_convI64 rfl (by omega)) ?_) | (refine EK_ev (Ev_convI rfl) ?_) | (refine EK_ev (Ev_convS rfl) ?_)) | (refine ek_extract ?_; first | (refine EK_ev (Ev_extract rfl rfl) ?_)) | (refine ek_indexAddr ?_; first | (refine EK_ev (Ev_indexSlice rfl rfl (by omega)) ?_) | (refine EK_ev (Ev_indexArr rfl rfl (by omega)) ?_)) | (refine ek_rem ?_; first | (refine EK_ev (Ev_rem_w rfl rfl (by omega) hBm) ?_) | (refine EK_ev (Ev_remI rfl rfl (by omega)) ?_) | (refine EK_ev (Ev_rem rfl rfl (by omega)) ?_)) | (refine ek_eql ?_; first | (refine EK_ev (Ev_eqlI_t rfl rfl (by first | rfl | omega)) ?_) | (refine EK_ev (Ev_eqlI_f rfl rfl (by omega)) ?_) | (refine EK_ev (Ev_eqlI rfl rfl) ?_) | (refine EK_ev (Ev_eqlS rfl rfl) ?_) | (refine EK_ev (Ev_eqlNil rfl rfl) ?_) | (refine EK_ev (Ev_eqlB rfl rfl) ?_) | (refine EK_ev (Ev_eqlO rfl rfl rfl (fun _ => rfl)) ?_)) | (refine ek_neq ?_; first | (refine EK_ev (Ev_neqI_t rfl rfl (by omega)) ?_) | (refine EK_ev (Ev_neqI rfl rfl) ?_) | (refine EK_ev (Ev_neqS rfl rfl) ?_) | (refine EK_ev (Ev_neqNil rfl rfl) ?_) | (refine EK_ev (Ev_neqB rfl rfl) ?_) | (refine EK_ev (Ev_neqO rfl rfl rfl (fun _ => rfl)) ?_)))
    | (refine is_ex ?_; first | (refine KJ_blk_exit' rfl ?_))
    | (refine is_code ?_; first | (refine KJ_cond_dec rfl (fun _ => ?_) (fun _ => ?_) <;> first | (exfalso; omega) | skip) | (refine KJ_cond_t rfl ?_) | (refine KJ_cond_f rfl ?_) | (refine KJ_draws (id := 5) (.op 0 (.op 2 (.op 3 (.op 4 (.op 5 (.op 6 (.op 7 (.op 8 (.op 9 (.ef 1 [9, 8, 7, 6, 5, 4, 3, 2] (.ef 10 [] (.op 11 (.op 12 .nil))))))))))))) (by kernel_rfl) (by kernel_rfl) ?_) | (refine KJ_draws (id := 24) (.op 0 (.op 1 (.op 2 (.op 3 (.op 4 (.op 5 (.op 6 (.op 7 (.op 8 (.op 9 (.op 10 (.op 11 (.op 12 (.ef 13 [] .nil)))))))))))))) (by kernel_rfl) (by kernel_rfl) ?_) | (refine KJ_draws (id := 25) (.op 0 (.op 1 (.op 2 (.op 3 (.op 4 (.op 7 (.op 8 (.op 9 (.op 10 (.op 11 (.ef 5 [11, 10, 9, 8, 7] (.ef 6 [11, 10, 9, 8, 7] (.ef 12 [] (.op 13 (.op 14 .nil))))))))))))))) (by kernel_rfl) (by kernel_rfl) ?_))
    | (refine is_fw ?_; first | (refine FW_open rfl ?_) | (refine FW_nil ?_) | (refine FW_ef rfl ?_) | (refine FW_efg rfl rfl rfl ?_) | (refine FW_alt ?_ ?_))
    | (refine is_fo ?_; first | (refine FO_dec_t rfl rfl (fun _ => ?_) (fun _ => ?_) <;> first | (exfalso; omega) | skip) | (refine FO_dec_f rfl rfl (fun _ => ?_) (fun _ => ?_) <;> first | (exfalso; omega) | skip) | (refine FO_no rfl rfl rfl rfl ?_) | (refine FO_ekg rfl rfl rfl ?_) | (refine FO_ek rfl ?_))
    | (refine is_ro ?_; first | (refine RO_no rfl rfl rfl rfl ?_) | (refine RO_ekg rfl rfl ?_) | (refine RO_ek ?_))
    | (refine is_raw ?_; first | (refine KJ_flow ?_ ?_))
    | (refine AtR_mk rfl ?_)
    | exact Rech.nil
    | (refine Rech_open rfl ?_))
      all_goals (refine is_ex ?_; exact KJ_done (by first | exact Or.inl rfl | exact Or.inr rfl) rfl (by (repeat' (first | exact Rvs.nil | (apply Rvs.tmp; exact rfl))); first | done | fail) () (by rfl) (Ent.of (by (repeat' (first | exact Pick.nil | apply Pick.cons | exact Sel.here | apply Sel.there)); first | done | fail) (by (repeat' (first | exact DropTo.refl | apply DropTo.there)); first | done | fail)))
    have hD : D' = D.writeD at_ (tr (D.readS at_)) := by rw [hstep, if_neg h0, if_neg h1, if_neg h2, if_neg h3, if_neg h4, if_pos h5, if_neg (by simpa using hz)]
    have hsl : (D.readS at_).length = 256 := by
      unfold Dsk.readE at hz
      split at hz
      · cases hz
      rename_i hof
      split at hz
      · rename_i hhas
        unfold Dsk.readS
        rw [if_neg hof, if_pos hhas]
        unfold Dsk.has at hhas
        have := of_decide_eq_true hhas
        exact Dsk.rd_length hok _ (by omega)
      · cases hz
    rw [hz] at c1
    obtain ⟨s, hs⟩ : ∃ s, s = D.readS at_ := ⟨_, rfl⟩
    rw [← hs] at c1 hsl hD
    clear hs hstep
    obtain ⟨b, hb⟩ : ∃ b, s[j]? = some b := ⟨_, List.getElem?_eq_getElem (by omega)⟩
    have hbd : s.getD j 0 = b := by rw [List.getD, hb]; rfl
    have htrs : tr s = s.set j (turnC b seed) := by rw [hturn, hbd]
    rw [htrs] at hD
    clear hturn htrs hbd
    have hti := turnC_int b seed
    obtain ⟨c, hc⟩ : ∃ c, c = turnC b seed := ⟨_, rfl⟩
    rw [← hc] at hD hti
    clear hc
    have hset := turn_set s j c (by omega)
    have hget := turn_get s j b hb
    have hsl2 : (s.set j c).length = s.length := by simp
    have hsd := lowB_int seed
    have c2 := write_ct (W := W) (p := p) (D := D) hE8 at_ (s.set j c) (by omega)
    have c3 := rwrite_ct (W := W) (p := q) hok at_ (s.set j c) (by omega)
    have c4 := num_ct hE hg (D.writeE at_ (s.set j c)) (by unfold Dsk.writeE; (repeat' split) <;> omega)
    rw [← hD] at c2 c3
    obtain ⟨e, he⟩ : ∃ e, e = D.writeE at_ (s.set j c) := ⟨_, rfl⟩
    rw [← he] at c2 c3 c4
    obtain ⟨s2, hs2⟩ : ∃ s2, s2 = s.set j c := ⟨_, rfl⟩
    simp only [← hs2] at hset hsl2 c2 c3
    obtain ⟨x, hx⟩ : ∃ x, x = bits .or .u8 ((lowB seed).toNat : Int) 1 := ⟨_, rfl⟩
    rw [← hx] at hti
    clear hD he hs2
    refine Ct.enter Tryd.func58 rfl Tryd.ntmps58 (by simp) (fun R => ?_)
    repeat' (first 
    | refine KJ_stp (by first | constructor | fail) ?_
    | (refine is_list ?_; first | (refine KJ_guard_dec_t rfl rfl rfl (fun _ => ?_) (fun _ => ?_) <;> first | (exfalso; omega) | skip) | (refine KJ_guard_dec_f rfl rfl rfl (fun _ => ?_) (fun _ => ?_) <;> first | (exfalso; omega) | skip) | (refine KJ_guard_yes rfl rfl ?_) | (refine KJ_guard_no rfl rfl rfl rfl ?_))
    | (refine is_oper ?_; first | (refine is_store ?_; first | (refine KJ_storeMark rfl rfl (by (repeat' (first | exact Sel.here | apply Sel.there)); first | done | fail) (by first | exact CellsOf.agg | exact CellsOf.one rfl) (by (repeat' (first | exact Ones.nil | exact Ones_bvs _ | refine Ones.cons rfl ?_)); first | done | fail) (by simp only [List.length_append, bvs_length', Int.toNat_natCast, Nat.mul_one, Nat.zero_add]; omega) (hset _) (by (repeat' (first | exact Rep.here | apply Rep.there)); first | done | fail) ?_) | (refine KJ_store rfl rfl (by (repeat' (first | exact Sel.here | apply Sel.there)); first | done | fail) (by first | exact CellsOf.agg | exact CellsOf.one rfl) (by rfl) (by (repeat' (first | exact Ones.nil | exact Ones_bvs _ | refine Ones.cons rfl ?_)); first | done | fail) (by (repeat' (first | exact Laid.nil | apply Laid.cons | apply Laid.skip)); first | done | fail) (by (repeat' (first | exact Rep.here | apply Rep.there)); first | done | fail) ?_)) | (refine is_box ?_; first | (refine KJ_box rfl (by first | exact CellsOf.agg | exact CellsOf.one rfl) rfl (fun g5 => ?_)) | (refine KJ_box rfl (by first | exact CellsOf.agg | exact CellsOf.one rfl) rfl (fun _ => ?_))) | (refine is_call ?_; first | (refine KJ_call (by (repeat' (first | exact Evs.nil | refine Evs.cons rfl ?_)); first | done | fail) c4 (by (repeat' (first | exact Pick.nil | apply Pick.cons | exact Sel.here | apply Sel.there)); first | done | fail) rfl (fun _ => ?_)) | (refine KJ_call (by (repeat' (first | exact Evs.nil | refine Evs.cons rfl ?_)); first | done | fail) c3 (by (repeat' (first | exact Pick.nil | apply Pick.cons | exact Sel.here | apply Sel.there)); first | done | fail) rfl (fun _ => ?_)) | (refine KJ_call (by (repeat' (first | exact Evs.nil | refine Evs.cons rfl ?_)); first | done | fail) c2 (by (repeat' (first | exact Pick.nil | apply Pick.cons | exact Sel.here | apply Sel.there)); first | done | fail) rfl (fun _ => ?_)) | (refine KJ_call (by (repeat' (first | exact Evs.nil | refine Evs.cons rfl ?_)); first | done | fail) c1 (by (repeat' (first | exact Pick.nil | apply Pick.cons | exact Sel.here | apply Sel.there)); first | done | fail) rfl (fun _ => ?_)) | (refine KJ_call (by (repeat' (first | exact Evs.nil | refine Evs.cons rfl ?_)); first | done | fail) ct (by (repeat' (first | exact Pick.nil | apply Pick.cons | exact Sel.here | apply Sel.there)); first | done | fail) rfl (fun _ => ?_))) | (refine is_econv ?_; first | (refine KJ_bytesOf rfl rfl (fun g6 c6 tail => ?_))) | (refine KJ_ek rfl ?_) | (refine KJ_ek0 ?_))
    | (refine is_ek ?_; first | (refine ek_move ?_; first | (refine EK_ev (Ev_move rfl) ?_)) | (refine ek_assign ?_; first | (refine EK_ev (Ev_assign rfl) ?_)) | (refine ek_pick ?_; first | (refine EK_ev (Ev_pick_t rfl rfl) ?_) | (refine EK_ev (Ev_pick_f rfl rfl) ?_)) | (refine ek_fieldAddr ?_; first | (refine EK_ev (Ev_field rfl) ?_)) | (refine ek_load ?_; first | (refine EK_ev (Ev_loadAgg rfl (by (repeat' (first | exact Sel.here | apply Sel.there)); first | done | fail) (by (repeat' (first | exact Cut.nil | apply Cut.cons | apply Cut.skip)); first | done | fail)) ?_) | (refine EK_ev (Ev_load rfl (by (repeat' (first | exact Sel.here | apply Sel.there)); first | done | fail) (by rfl)) ?_) | (refine EK_ev (Ev_loadMark rfl (by (repeat' (first | exact Sel.here | apply Sel.there)); first | done | fail) (hget _)) ?_) | (refine EK_ev (Ev_load rfl (by (repeat' (first | exact Sel.here | apply Sel.there)); first | done | fail) (by rfl)) ?_) | (refine EK_ev (Ev_loadOld rfl (by assumption)) ?_) | (refine EK_ev (Ev_loadAgg rfl (by (repeat' (first | exact Sel.here | apply Sel.there)); first | done | fail) (by (repeat' (first | exact Cut.nil | apply Cut.cons | apply Cut.skip)); first | done | fail)) ?_)) | (refine ek_conv ?_; first | (refine EK_ev (Ev_bytesMark rfl (by (repeat' (first | exact Sel.here | apply Sel.there)); first | done | fail) hsl2) ?_) | (refine EK_ev (Ev_convI_v rfl hsd) ?_) | (refine EK_ev (Ev_convI_v rfl hN1) ?_) | (refine EK_ev (Ev_convI_v rfl hB) ?_) | (refine EK_ev (Ev_convI64 rfl (by omega)) ?_) | (refine EK_ev (Ev_convI rfl) ?_) | (refine EK_ev (Ev_convS rfl) ?_)) | (refine ek_extract ?_; first | (refine EK_ev (Ev_extract rfl rfl) ?_)) | (refine ek_indexAddr ?_; first | (refine EK_ev (Ev_indexSlice rfl rfl (by omega)) ?_) | (refine EK_ev (Ev_indexSlice rfl rfl (by omega)) ?_) | (refine EK_ev (Ev_indexArr rfl rfl (by omega)) ?_)) | (refine ek_rem ?_; first | (refine EK_ev (Ev_rem_w rfl rfl (by omega) hNm) ?_) | (refine EK_ev (Ev_rem_w rfl rfl (by omega) hBm) ?_) | (refine EK_ev (Ev_remI rfl rfl (by omega)) ?_) | (refine EK_ev (Ev_rem rfl rfl (by omega)) ?_)) | (refine ek_or ?_; first | (refine EK_ev (Ev_or_w rfl rfl hx.symm) ?_)) | (refine ek_xor ?_; first | (refine EK_ev (Ev_xor_v rfl rfl hti) ?_)) | (refine ek_eql ?_; first | (refine EK_ev (Ev_eqlI_t rfl rfl (by first | rfl | omega)) ?_) | (refine EK_ev (Ev_eqlI_f rfl rfl (by omega)) ?_) | (refine EK_ev (Ev_eqlI rfl rfl) ?_) | (refine EK_ev (Ev_eqlS rfl rfl) ?_) | (refine EK_ev (Ev_eqlNil rfl rfl) ?_) | (refine EK_ev (Ev_eqlB rfl rfl) ?_) | (refine EK_ev (Ev_eqlO rfl rfl rfl (fun _ => rfl)) ?_)) | (refine ek_neq ?_; first | (refine EK_ev (Ev_neqI_f rfl rfl rfl) ?_) | (refine EK_ev (Ev_neqI rfl rfl) ?_) | (refine EK_ev (Ev_neqS rfl rfl) ?_) | (refine EK_ev (Ev_neqNil rfl rfl) ?_) | (refine EK_ev (Ev_neqB rfl rfl) ?_) | (refine EK_ev (Ev_neqO rfl rfl rfl (fun _ => rfl)) ?_)))
    | (refine is_ex ?_; first | (refine KJ_blk_exit' rfl ?_))
    | (refine is_code ?_; first | (refine KJ_cond_dec rfl (fun _ => ?_) (fun _ => ?_) <;> first | (exfalso; omega) | skip) | (refine KJ_cond_t rfl ?_) | (refine KJ_cond_f rfl ?_) | (refine KJ_draws (id := 5) (.op 0 (.op 2 (.op 3 (.op 4 (.op 5 (.op 6 (.op 7 (.op 8 (.op 9 (.ef 1 [9, 8, 7, 6, 5, 4, 3, 2] (.ef 10 [] (.op 11 (.op 12 .nil))))))))))))) (by kernel_rfl) (by kernel_rfl) ?_) | (refine KJ_draws (id := 24) (.op 0 (.op 1 (.op 2 (.op 3 (.op 4 (.op 5 (.op 6 (.op 7 (.op 8 (.op 9 (.op 10 (.op 11 (.op 12 (.ef 13 [] .nil)))))))))))))) (by kernel_rfl) (by kernel_rfl) ?_) | (refine KJ_draws (id := 25) (.op 0 (.op 1 (.op 2 (.op 3 (.op 4 (.op 7 (.op 8 (.op 9 (.op 10 (.op 11 (.ef 5 [11, 10, 9, 8, 7] (.ef 6 [11, 10, 9, 8, 7] (.ef 12 [] (.op 13 (.op 14 .nil))))))))))))))) (by kernel_rfl) (by kernel_rfl) ?_))
    | (refine is_fw ?_; first | (refine FW_open rfl ?_) | (refine FW_nil ?_) | (refine FW_ef rfl ?_) | (refine FW_efg rfl rfl rfl ?_) | (refine FW_alt ?_ ?_))
    | (refine is_fo ?_; first | (refine FO_dec_t rfl rfl (fun _ => ?_) (fun _ => ?_) <;> first | (exfalso; omega) | skip) | (refine FO_dec_f rfl rfl (fun _ => ?_) (fun _ => ?_) <;> first | (exfalso; omega) | skip) | (refine FO_no rfl rfl rfl rfl ?_) | (refine FO_ekg rfl rfl rfl ?_) | (refine FO_ek rfl ?_))
    | (refine is_ro ?_; first | (refine RO_no rfl rfl rfl rfl ?_) | (refine RO_ekg rfl rfl ?_) | (refine RO_ek ?_))
    | (refine is_raw ?_; first | (refine KJ_flow ?_ ?_))
    | (refine AtR_mk rfl ?_)
    | exact Rech.nil
    | (refine Rech_open rfl ?_))
    all_goals (refine is_ex ?_; exact KJ_done (by first | exact Or.inl rfl | exact Or.inr rfl) rfl (by (repeat' (first | exact Rvs.nil | (apply Rvs.tmp; exact rfl))); first | done | fail) () (by rfl) (Ent.of (by (repeat' (first | exact Pick.nil | apply Pick.cons | exact Sel.here | apply Sel.there)); first | done | fail) (by (repeat' (first | exact DropTo.refl | apply DropTo.there)); first | done | fail)))
  have hD : D' = D := by rw [hstep, if_neg h0, if_neg h1, if_neg h2, if_neg h3, if_neg h4, if_neg h5]
  subst hD
  clear hstep
  refine Ct.enter Tryd.func58 rfl Tryd.ntmps58 (by simp) (fun R => ?_)
  repeat' (first 
    | refine KJ_stp (by first | constructor | fail) ?_
    | (refine is_list ?_; first | (refine KJ_guard_dec_t rfl rfl rfl (fun _ => ?_) (fun _ => ?_) <;> first | (exfalso; omega) | skip) | (refine KJ_guard_dec_f rfl rfl rfl (fun _ => ?_) (fun _ => ?_) <;> first | (exfalso; omega) | skip) | (refine KJ_guard_yes rfl rfl ?_) | (refine KJ_guard_no rfl rfl rfl rfl ?_))
    | (refine is_oper ?_; first | (refine is_store ?_; first | (refine KJ_store rfl rfl (by (repeat' (first | exact Sel.here | apply Sel.there)); first | done | fail) (by first | exact CellsOf.agg | exact CellsOf.one rfl) (by rfl) (by (repeat' (first | exact Ones.nil | exact Ones_bvs _ | refine Ones.cons rfl ?_)); first | done | fail) (by (repeat' (first | exact Laid.nil | apply Laid.cons | apply Laid.skip)); first | done | fail) (by (repeat' (first | exact Rep.here | apply Rep.there)); first | done | fail) ?_)) | (refine is_box ?_; first | (refine KJ_box rfl (by first | exact CellsOf.agg | exact CellsOf.one rfl) rfl (fun g5 => ?_)) | (refine KJ_box rfl (by first | exact CellsOf.agg | exact CellsOf.one rfl) rfl (fun _ => ?_))) | (refine is_call ?_; first | (refine KJ_call (by (repeat' (first | exact Evs.nil | refine Evs.cons rfl ?_)); first | done | fail) ct (by (repeat' (first | exact Pick.nil | apply Pick.cons | exact Sel.here | apply Sel.there)); first | done | fail) rfl (fun _ => ?_))) | (refine KJ_ek rfl ?_) | (refine KJ_ek0 ?_))
    | (refine is_ek ?_; first | (refine ek_move ?_; first | (refine EK_ev (Ev_move rfl) ?_)) | (refine ek_assign ?_; first | (refine EK_ev (Ev_assign rfl) ?_)) | (refine ek_pick ?_; first | (refine EK_ev (Ev_pick_t rfl rfl) ?_) | (refine EK_ev (Ev_pick_f rfl rfl) ?_)) | (refine ek_fieldAddr ?_; first | (refine EK_ev (Ev_field rfl) ?_)) | (refine ek_load ?_; first | (refine EK_ev (Ev_loadAgg rfl (by (repeat' (first | exact Sel.here | apply Sel.there)); first | done | fail) (by (repeat' (first | exact Cut.nil | apply Cut.cons | apply Cut.skip)); first | done | fail)) ?_) | (refine EK_ev (Ev_load rfl (by (repeat' (first | exact Sel.here | apply Sel.there)); first | done | fail) (by rfl)) ?_) | (refine EK_ev (Ev_load rfl (by (repeat' (first | exact Sel.here | apply Sel.there)); first | done | fail) (by rfl)) ?_) | (refine EK_ev (Ev_loadOld rfl (by assumption)) ?_) | (refine EK_ev (Ev_loadAgg rfl (by (repeat' (first | exact Sel.here | apply Sel.there)); first | done | fail) (by (repeat' (first | exact Cut.nil | apply Cut.cons | apply Cut.skip)); first | done | fail)) ?_)) | (refine ek_conv ?_; first | (refine EK_ev (Ev_convI_v rfl hB) ?_) | (refine EK_ev (Ev_convI64 rfl (by omega)) ?_) | (refine EK_ev (Ev_convI rfl) ?_) | (refine EK_ev (Ev_convS rfl) ?_)) | (refine ek_extract ?_; first | (refine EK_ev (Ev_extract rfl rfl) ?_)) | (refine ek_indexAddr ?_; first | (refine EK_ev (Ev_indexSlice rfl rfl (by omega)) ?_) | (refine EK_ev (Ev_indexArr rfl rfl (by omega)) ?_)) | (refine ek_rem ?_; first | (refine EK_ev (Ev_rem_w rfl rfl (by omega) hBm) ?_) | (refine EK_ev (Ev_remI rfl rfl (by omega)) ?_) | (refine EK_ev (Ev_rem rfl rfl (by omega)) ?_)) | (refine ek_eql ?_; first | (refine EK_ev (Ev_eqlI_t rfl rfl (by first | rfl | omega)) ?_) | (refine EK_ev (Ev_eqlI_f rfl rfl (by omega)) ?_) | (refine EK_ev (Ev_eqlI rfl rfl) ?_) | (refine EK_ev (Ev_eqlS rfl rfl) ?_) | (refine EK_ev (Ev_eqlNil rfl rfl) ?_) | (refine EK_ev (Ev_eqlB rfl rfl) ?_) | (refine EK_ev (Ev_eqlO rfl rfl rfl (fun _ => rfl)) ?_)) | (refine ek_neq ?_; first | (refine EK_ev (Ev_neqI rfl rfl) ?_) | (refine EK_ev (Ev_neqS rfl rfl) ?_) | (refine EK_ev (Ev_neqNil rfl rfl) ?_) | (refine EK_ev (Ev_neqB rfl rfl) ?_) | (refine EK_ev (Ev_neqO rfl rfl rfl (fun _ => rfl)) ?_)))
    | (refine is_ex ?_; first | (refine KJ_blk_exit' rfl ?_))
    | (refine is_code ?_; first | (refine KJ_cond_dec rfl (fun _ => ?_) (fun _ => ?_) <;> first | (exfalso; omega) | skip) | (refine KJ_cond_t rfl ?_) | (refine KJ_cond_f rfl ?_) | (refine KJ_draws (id := 5) (.op 0 (.op 2 (.op 3 (.op 4 (.op 5 (.op 6 (.op 7 (.op 8 (.op 9 (.ef 1 [9, 8, 7, 6, 5, 4, 3, 2] (.ef 10 [] (.op 11 (.op 12 .nil))))))))))))) (by kernel_rfl) (by kernel_rfl) ?_) | (refine KJ_draws (id := 24) (.op 0 (.op 1 (.op 2 (.op 3 (.op 4 (.op 5 (.op 6 (.op 7 (.op 8 (.op 9 (.op 10 (.op 11 (.op 12 (.ef 13 [] .nil)))))))))))))) (by kernel_rfl) (by kernel_rfl) ?_) | (refine KJ_draws (id := 25) (.op 0 (.op 1 (.op 2 (.op 3 (.op 4 (.op 7 (.op 8 (.op 9 (.op 10 (.op 11 (.ef 5 [11, 10, 9, 8, 7] (.ef 6 [11, 10, 9, 8, 7] (.ef 12 [] (.op 13 (.op 14 .nil))))))))))))))) (by kernel_rfl) (by kernel_rfl) ?_))
    | (refine is_fw ?_; first | (refine FW_open rfl ?_) | (refine FW_nil ?_) | (refine FW_ef rfl ?_) | (refine FW_efg rfl rfl rfl ?_) | (refine FW_alt ?_ ?_))
    | (refine is_fo ?_; first | (refine FO_dec_t rfl rfl (fun _ => ?_) (fun _ => ?_) <;> first | (exfalso; omega) | skip) | (refine FO_dec_f rfl rfl (fun _ => ?_) (fun _ => ?_) <;> first | (exfalso; omega) | skip) | (refine FO_no rfl rfl rfl rfl ?_) | (refine FO_ekg rfl rfl rfl ?_) | (refine FO_ek rfl ?_))
    | (refine is_ro ?_; first | (refine RO_no rfl rfl rfl rfl ?_) | (refine RO_ekg rfl rfl ?_) | (refine RO_ek ?_))
    | (refine is_raw ?_; first | (refine KJ_flow ?_ ?_))
    | (refine AtR_mk rfl ?_)
    | exact Rech.nil
    | (refine Rech_open rfl ?_))
  all_goals (refine is_ex ?_; exact KJ_done (by first | exact Or.inl rfl | exact Or.inr rfl) rfl (by (repeat' (first | exact Rvs.nil | (apply Rvs.tmp; exact rfl))); first | done | fail) () (by rfl) (Ent.of (by (repeat' (first | exact Pick.nil | apply Pick.cons | exact Sel.here | apply Sel.there)); first | done | fail) (by (repeat' (first | exact DropTo.refl | apply DropTo.there)); first | done | fail)))
end Go.Proofs.YteklldbfdmaafaaDoor
/-
  The fixed facts of chapter 9 hold; AreaNumbers.
-/
namespace Go.Proofs.YteklldbfdmaafaaDoor
open Go Go.RowKit
def LT9 : List UInt8 := textL 7 235
def LA9 : Dsk := (areaW (Dsk.blank 4) 1 2 9 LT9).2
theorem LA9_w : (areaW (Dsk.blank 4) 1 2 9 LT9).1 = 0 := by kernel_rfl
theorem LA9_n : LA9.n = 4 := by kernel_rfl
theorem LA9_e : (areaR LA9 1 2 9 235).2 = 0 := by kernel_rfl
theorem LA9_s : (areaR LA9 1 2 9 235).1 = LT9 := by kernel_rfl
theorem LA9_f : (areaR LA9 1 2 8 235).2 = 15 := by kernel_rfl
theorem LA9_t : (areaR LA9 1 2 8 235).1 = [] := by kernel_rfl
set_option maxRecDepth 100000 in
theorem lives09_ct {W : World} {E : Nat → Addr} (hE : ErrsAt W E) (hN : NibAt W) (hg : gB ≤ W.heap.size) : Ct Tryd.prog W 49 [] [] (fun _ : Unit => .bool true) (fun _ => []) := by
  have hE8 : ErrsOn L8 W E := hE.on
  have e15 : W.cell? ⟨5, 0, none⟩ = some (errV E 15) := hE.all.at_ 15 (by decide)
  obtain ⟨T, hT⟩ : ∃ T, T = LT9 := ⟨_, rfl⟩
  have hTl : T.length = 235 := by rw [hT]; exact textL_length _ _
  have c1 : Ct Tryd.prog W 33 [.int .i64 4] [] (fun p : Nat => .tuple #[.pointer (some ⟨p, 0, none⟩), .nilIface]) (fun p => [DiskP p (Dsk.blank 4)]) := new_ct 4 (by omega) (by omega) hg
  have cr : Ct Tryd.prog W 51 [.int .i64 2] [] (fun _ : Unit => .int .i64 468) (fun _ => []) := room9_ct 2
  have cs : Ct Tryd.prog W 50 [.int .i64 235] [] (fun _ : Unit => .int .i64 2) (fun _ => []) := sectors9_ct 235 (by omega)
  have ct : Ct Tryd.prog W 54 [.int .u64 7, .int .i64 235] [] (fun _ : Unit => strV T) (fun _ => []) := by rw [hT]; exact text_ct 7 235 (by omega)
  have cw : ∀ p, Ct Tryd.prog W 55 [.pointer (some ⟨p, 0, none⟩), .int .i64 1, .int .i64 2, .int .u64 9, strV T] [DiskP p (Dsk.blank 4)] (fun _ : Unit => .nilIface) (fun _ => [DiskP p LA9]) := fun p => by
    have := awrite_ct (W := W) (p := p) (D := Dsk.blank 4) hE8 hN (by show 4 ≤ 65536; omega) (by show 0 + 65536 < 1073741823; omega) 1 2 9 LT9
    rw [hT]
    exact this.val fun _ => by rw [LA9_w]; rfl
  have c2 : ∀ p, Ct Tryd.prog W 56 [.pointer (some ⟨p, 0, none⟩), .int .i64 1, .int .i64 2, .int .u64 9, .int .i64 235] [DiskP p LA9] (fun _ : Unit => .tuple #[strV T, .nilIface]) (fun _ => [DiskP p LA9]) := fun p =>
    (aread_ct hE8 e15 hN (by rw [LA9_n]; omega) 1 2 9 235).val fun _ => by rw [LA9_e, LA9_s, hT]; rfl
  have c3 : ∀ p, Ct Tryd.prog W 56 [.pointer (some ⟨p, 0, none⟩), .int .i64 1, .int .i64 2, .int .u64 8, .int .i64 235] [DiskP p LA9] (fun _ : Unit => .tuple #[strV [], errV E 15]) (fun _ => [DiskP p LA9]) := fun p =>
    (aread_ct hE8 e15 hN (by rw [LA9_n]; omega) 1 2 8 235).val fun _ => by rw [LA9_f, LA9_t]
  have cn : Ct Tryd.prog W 35 [errV E 15] [] (fun _ : Unit => .int .i64 15) (fun _ => []) := num_ct hE hg 15 (by omega)
  obtain ⟨D0, hD0⟩ : ∃ D, D = Dsk.blank 4 := ⟨_, rfl⟩
  obtain ⟨D1, hD1⟩ : ∃ D, D = LA9 := ⟨_, rfl⟩
  rw [← hD0] at c1
  simp only [← hD0, ← hD1] at cw c2 c3
  clear hD0 hD1 hT
  refine Ct.enter Tryd.func49 rfl Tryd.ntmps49 (by simp) (fun R => ?_)
  repeat' (first 
    | refine KJ_stp (by first | constructor | fail) ?_
    | (refine is_list ?_; first | (refine KJ_guard_dec_t rfl rfl rfl (fun _ => ?_) (fun _ => ?_) <;> first | (exfalso; omega) | skip) | (refine KJ_guard_dec_f rfl rfl rfl (fun _ => ?_) (fun _ => ?_) <;> first | (exfalso; omega) | skip) | (refine KJ_guard_yes rfl rfl ?_) | (refine KJ_guard_no rfl rfl rfl rfl ?_))
    | (refine is_oper ?_; first | (refine is_call ?_; first | (refine KJ_call (by (repeat' (first | exact Evs.nil | refine Evs.cons rfl ?_)); first | done | fail) cn (by (repeat' (first | exact Pick.nil | apply Pick.cons | exact Sel.here | apply Sel.there)); first | done | fail) rfl (fun _ => ?_)) | (refine KJ_call (by (repeat' (first | exact Evs.nil | refine Evs.cons rfl ?_)); first | done | fail) (c3 _) (by (repeat' (first | exact Pick.nil | apply Pick.cons | exact Sel.here | apply Sel.there)); first | done | fail) rfl (fun _ => ?_)) | (refine KJ_call (by (repeat' (first | exact Evs.nil | refine Evs.cons rfl ?_)); first | done | fail) (c2 _) (by (repeat' (first | exact Pick.nil | apply Pick.cons | exact Sel.here | apply Sel.there)); first | done | fail) rfl (fun _ => ?_)) | (refine KJ_call (by (repeat' (first | exact Evs.nil | refine Evs.cons rfl ?_)); first | done | fail) (cw _) (by (repeat' (first | exact Pick.nil | apply Pick.cons | exact Sel.here | apply Sel.there)); first | done | fail) rfl (fun _ => ?_)) | (refine KJ_call (by (repeat' (first | exact Evs.nil | refine Evs.cons rfl ?_)); first | done | fail) ct (by (repeat' (first | exact Pick.nil | apply Pick.cons | exact Sel.here | apply Sel.there)); first | done | fail) rfl (fun _ => ?_)) | (refine KJ_call (by (repeat' (first | exact Evs.nil | refine Evs.cons rfl ?_)); first | done | fail) cs (by (repeat' (first | exact Pick.nil | apply Pick.cons | exact Sel.here | apply Sel.there)); first | done | fail) rfl (fun _ => ?_)) | (refine KJ_call (by (repeat' (first | exact Evs.nil | refine Evs.cons rfl ?_)); first | done | fail) cr (by (repeat' (first | exact Pick.nil | apply Pick.cons | exact Sel.here | apply Sel.there)); first | done | fail) rfl (fun _ => ?_)) | (refine KJ_call (by (repeat' (first | exact Evs.nil | refine Evs.cons rfl ?_)); first | done | fail) c1 (by (repeat' (first | exact Pick.nil | apply Pick.cons | exact Sel.here | apply Sel.there)); first | done | fail) rfl (fun p => ?_))) | (refine KJ_ek rfl ?_) | (refine KJ_ek0 ?_))
    | (refine is_ek ?_; first | (refine ek_move ?_; first | (refine EK_ev (Ev_move rfl) ?_)) | (refine ek_assign ?_; first | (refine EK_ev (Ev_assign rfl) ?_)) | (refine ek_pick ?_; first | (refine EK_ev (Ev_pick_t rfl rfl) ?_) | (refine EK_ev (Ev_pick_f rfl rfl) ?_)) | (refine ek_extract ?_; first | (refine EK_ev (Ev_extract rfl rfl) ?_)) | (refine ek_eql ?_; first | (refine EK_ev (Ev_eqlI_t rfl rfl rfl) ?_) | (refine EK_ev (Ev_eqlS_t rfl rfl rfl) ?_) | (refine EK_ev (Ev_eqlI rfl rfl) ?_) | (refine EK_ev (Ev_eqlS rfl rfl) ?_) | (refine EK_ev (Ev_eqlNil rfl rfl) ?_) | (refine EK_ev (Ev_eqlB rfl rfl) ?_) | (refine EK_ev (Ev_eqlO rfl rfl rfl (fun _ => rfl)) ?_)) | (refine ek_neq ?_; first | (refine EK_ev (Ev_neqI_f rfl rfl rfl) ?_) | (refine EK_ev (Ev_neqI rfl rfl) ?_) | (refine EK_ev (Ev_neqS rfl rfl) ?_) | (refine EK_ev (Ev_neqNil rfl rfl) ?_) | (refine EK_ev (Ev_neqB rfl rfl) ?_) | (refine EK_ev (Ev_neqO rfl rfl rfl (fun _ => rfl)) ?_)))
    | (refine is_ex ?_; first | (refine KJ_blk_exit' rfl ?_))
    | (refine is_code ?_; first | (refine KJ_cond_dec rfl (fun _ => ?_) (fun _ => ?_) <;> first | (exfalso; omega) | skip) | (refine KJ_cond_t rfl ?_) | (refine KJ_cond_f rfl ?_)))
  all_goals (refine is_ex ?_; exact KJ_done (by first | exact Or.inl rfl | exact Or.inr rfl) rfl (by (repeat' (first | exact Rvs.nil | (apply Rvs.tmp; exact rfl))); first | done | fail) () (by rfl) (Ent.of (by (repeat' (first | exact Pick.nil | apply Pick.cons | exact Sel.here | apply Sel.there)); first | done | fail) (by (repeat' (first | exact DropTo.refl | apply DropTo.there)); first | done | fail)))

end Go.Proofs.YteklldbfdmaafaaDoor
/-
  The document's disk (remitref06): New and From.
-/
namespace Go.Proofs.YteklldbfdmaafaaDoor
open Go Go.RowKit
theorem secsV_zs (n : Nat) : secsV (zs (256 * n)) n = List.replicate n (strV (List.replicate 256 0)) := by
  apply List.ext_getElem
  · rw [secsV_length, List.length_replicate]
  · intro i h1 h2
    rw [secsV_length] at h1
    simp only [secsV, List.getElem_map, List.getElem_range, List.getElem_replicate]
    rw [zs_cut _ _ _ (by omega)]
    rfl
section
variable {W : World}
theorem rnew_ct (n : Nat) (h1 : 1 ≤ n) (h2 : n ≤ 65536) : Ct Tryd.prog W 34 [.int .i64 n] [] (fun p : Nat => .tuple #[.pointer (some ⟨p, 0, none⟩), .int .i64 0]) (fun p => [RefP p (Dsk.blank n)]) := by
  have q1 : decide ((n : Int) < 1) = false := decide_eq_false (by omega)
  have q2 : decide ((65536 : Int) < (n : Int)) = false := decide_eq_false (by omega)
  have h256 : (List.replicate 256 (0 : UInt8)).length = 256 := List.length_replicate
  refine Ct.enter Tryd.func34 rfl Tryd.ntmps34 (by simp) (fun R => ?_)
  repeat' (first 
    | refine KJ_stp (by first | constructor | fail) ?_
    | (refine is_list ?_; first | (refine KJ_guard_dec_t rfl rfl rfl (fun _ => ?_) (fun _ => ?_) <;> first | (exfalso; omega) | skip) | (refine KJ_guard_dec_f rfl rfl rfl (fun _ => ?_) (fun _ => ?_) <;> first | (exfalso; omega) | skip) | (refine KJ_guard_yes rfl rfl ?_) | (refine KJ_guard_no rfl rfl rfl rfl ?_))
    | (refine is_oper ?_; first | (refine is_store ?_; first | (refine KJ_store rfl rfl (by (repeat' (first | exact Sel.here | apply Sel.there)); first | done | fail) (by first | exact CellsOf.agg | exact CellsOf.one rfl) (by rfl) (by (repeat' (first | exact Ones.nil | exact Ones_bvs _ | refine Ones.cons rfl ?_)); first | done | fail) (by (repeat' (first | exact Laid.nil | apply Laid.cons | apply Laid.skip)); first | done | fail) (by (repeat' (first | exact Rep.here | apply Rep.there)); first | done | fail) ?_)) | (refine is_box ?_; first | (refine KJ_box rfl (by first | exact CellsOf.agg | exact CellsOf.one rfl) rfl (fun p => ?_)) | (refine KJ_box rfl (by first | exact CellsOf.agg | exact CellsOf.one rfl) rfl (fun _ => ?_))) | (refine KJ_ek rfl ?_) | (refine KJ_ek0 ?_))
    | (refine is_ek ?_; first | (refine ek_move ?_; first | (refine EK_ev (Ev_move rfl) ?_)) | (refine ek_assign ?_; first | (refine EK_ev (Ev_assign rfl) ?_)) | (refine ek_pick ?_; first | (refine EK_ev (Ev_pick_t rfl rfl) ?_) | (refine EK_ev (Ev_pick_f rfl rfl) ?_)) | (refine ek_nilCheck ?_; first | (refine EK_ev (Ev_nilCheck rfl) ?_)) | (refine ek_fieldAddr ?_; first | (refine EK_ev (Ev_field rfl) ?_)) | (refine ek_load ?_; first | (refine EK_ev (Ev_load rfl (by (repeat' (first | exact Sel.here | apply Sel.there)); first | done | fail) (by rfl)) ?_) | (refine EK_ev (Ev_loadOld rfl (by assumption)) ?_) | (refine EK_ev (Ev_loadAgg rfl (by (repeat' (first | exact Sel.here | apply Sel.there)); first | done | fail) (by (repeat' (first | exact Cut.nil | apply Cut.cons | apply Cut.skip)); first | done | fail)) ?_)) | (refine ek_conv ?_; first | (refine EK_ev (Ev_convI64 rfl (by omega)) ?_) | (refine EK_ev (Ev_convI rfl) ?_) | (refine EK_ev (Ev_convS rfl) ?_)) | (refine ek_build ?_; first | (refine EK_ev (Ev_build (by (repeat' (first | exact EvP.nil | (apply EvP.cons; exact rfl))); first | done | fail) (by (repeat' (first | exact Fills.nil | (apply Fills.cons; exact rfl; (first | exact CellsOf.agg | exact CellsOf.one rfl); exact rfl; (repeat' (first | exact Laid.nil | apply Laid.cons | apply Laid.skip))))); first | done | fail)) ?_)) | (refine ek_add ?_; first | (refine EK_ev (Ev_addI rfl rfl (by omega)) ?_) | (refine EK_ev (Ev_addS rfl rfl (by simp <;> omega)) ?_) | (refine EK_ev (Ev_add rfl rfl) ?_)) | (refine ek_lss ?_; first | (refine EK_ev (Ev_lssI_q rfl rfl q1) ?_) | (refine EK_ev (Ev_lssI rfl rfl) ?_) | (refine EK_ev (Ev_lssS rfl rfl) ?_)) | (refine ek_gtr ?_; first | (refine EK_ev (Ev_gtrI_q rfl rfl q2) ?_) | (refine EK_ev (Ev_gtrI rfl rfl) ?_) | (refine EK_ev (Ev_gtrS rfl rfl) ?_)))
    | (refine is_ex ?_; first | (refine KJ_blk_exit' rfl ?_))
    | (refine is_code ?_; first | (refine KJ_cond_dec rfl (fun _ => ?_) (fun _ => ?_) <;> first | (exfalso; omega) | skip) | (refine KJ_cond_t rfl ?_) | (refine KJ_cond_f rfl ?_) | (refine KJ_draws (id := 7) (.op 0 (.op 1 (.op 2 (.op 3 (.op 4 (.ef 5 [4, 3, 2, 1, 0] (.op 6 (.ef 7 [4, 3, 2, 1, 0] (.ef 8 [0] (.op 9 (.op 10 (.ef 11 [] .nil)))))))))))) (by kernel_rfl) (by kernel_rfl) ?_))
    | (refine is_fw ?_; first | (refine FW_open rfl ?_) | (refine FW_nil ?_) | (refine FW_ef rfl ?_) | (refine FW_efg rfl rfl rfl ?_) | (refine FW_alt ?_ ?_))
    | (refine is_fo ?_; first | (refine FO_dec_t rfl rfl (fun _ => ?_) (fun _ => ?_) <;> first | (exfalso; omega) | skip) | (refine FO_dec_f rfl rfl (fun _ => ?_) (fun _ => ?_) <;> first | (exfalso; omega) | skip) | (refine FO_no rfl rfl rfl rfl ?_) | (refine FO_ekg rfl rfl rfl ?_) | (refine FO_ek rfl ?_))
    | (refine is_ro ?_; first | (refine RO_no rfl rfl rfl rfl ?_) | (refine RO_ekg rfl rfl ?_) | (refine RO_ek ?_))
    | (refine is_raw ?_; first | (refine KJ_flow ?_ ?_))
    | (refine AtR_mk rfl ?_)
    | exact Rech.nil
    | (refine Rech_open rfl ?_))
  refine KJ_loop (fun i : {x : Nat × Value // x.1 ≤ n} => [(0, .int .i64 (n : Nat)), (4, .pointer (some ⟨p, 0, none⟩)), (5, .int .i64 (i.1.1 : Nat))])
    (fun i => [cellsP p [i.1.2, .slice none 0 0, .bool false, .bool false, .int .i64 0, .int .i64 0, .int .i64 0, .int .i64 0] 97] ++ [rowP i.1.2 9 1 i.1.1 (List.replicate i.1.1 (strV (List.replicate 256 0)))] ++ R) (fun i => n - i.1.1) ⟨(0, .slice none 0 0), by omega⟩ (by (repeat' (first | exact Subs.nil | refine Subs.cons rfl ?_)); first | done | fail) (fun g q => starL_nilrow (H := [cellsP p [.slice none 0 0, .slice none 0 0, .bool false, .bool false, .int .i64 0, .int .i64 0, .int .i64 0, .int .i64 0] 97]) g ((Ent.of (by (repeat' (first | exact Pick.nil | apply Pick.cons | exact Sel.here | apply Sel.there)); first | done | fail) (by (repeat' (first | exact DropTo.refl | apply DropTo.there)); first | done | fail)) g q)) (fun ⟨⟨k, sv⟩, hk⟩ => ?_)
  dsimp only at hk ⊢
  by_cases hlt : k < n
  · have hnx : List.replicate k (strV (List.replicate 256 0)) ++ [strV (List.replicate 256 0)] = List.replicate (k + 1) (strV (List.replicate 256 0)) := (List.replicate_succ' (n := k) (a := strV (List.replicate 256 0))).symm
    repeat' (first 
    | refine KJ_stp (by first | constructor | fail) ?_
    | (refine is_list ?_; first | (refine KJ_guard_dec_t rfl rfl rfl (fun _ => ?_) (fun _ => ?_) <;> first | (exfalso; omega) | skip) | (refine KJ_guard_dec_f rfl rfl rfl (fun _ => ?_) (fun _ => ?_) <;> first | (exfalso; omega) | skip) | (refine KJ_guard_yes rfl rfl ?_) | (refine KJ_guard_no rfl rfl rfl rfl ?_))
    | (refine is_oper ?_; first | (refine is_store ?_; first | (refine KJ_store rfl rfl (by (repeat' (first | exact Sel.here | apply Sel.there)); first | done | fail) (by first | exact CellsOf.agg | exact CellsOf.one rfl) (by rfl) (by (repeat' (first | exact Ones.nil | exact Ones_bvs _ | refine Ones.cons rfl ?_)); first | done | fail) (by (repeat' (first | exact Laid.nil | apply Laid.cons | apply Laid.skip)); first | done | fail) (by (repeat' (first | exact Rep.here | apply Rep.there)); first | done | fail) ?_)) | (refine is_box ?_; first | (refine KJ_box rfl (by first | exact CellsOf.agg | exact CellsOf.one rfl) rfl (fun _ => ?_))) | (refine is_append ?_; first | (refine KJ_append (a2 := 0) rfl rfl (by rfl) (by omega) (by (repeat' (first | exact Sel.here | apply Sel.there)); first | done | fail) (Src.cells (i := 1) (by (repeat' (first | exact Sel.here | apply Sel.there)); first | done | fail) (by (repeat' (first | exact Cut.nil | apply Cut.cons | apply Cut.skip)); first | done | fail)) (by rfl) (by omega) (by (repeat' (first | exact Ones.nil | exact Ones_bvs _ | refine Ones.cons rfl ?_)); first | done | fail) (by omega) (by omega) rfl rfl (fun gw cw => ?_))) | (refine is_mkSlice ?_; first | (refine KJ_makeBytes (m := 256) rfl rfl rfl (by omega) rfl (fun g => ?_))) | (refine is_bslice ?_; first | (refine KJ_bslice1 rfl (by first | exact CellsOf.agg | exact CellsOf.one rfl) (by rfl) (by omega) rfl (fun _ => ?_))) | (refine KJ_ek rfl ?_) | (refine KJ_ek0 ?_))
    | (refine is_ek ?_; first | (refine ek_move ?_; first | (refine EK_ev (Ev_move rfl) ?_)) | (refine ek_assign ?_; first | (refine EK_ev (Ev_assign rfl) ?_)) | (refine ek_pick ?_; first | (refine EK_ev (Ev_pick_t rfl rfl) ?_) | (refine EK_ev (Ev_pick_f rfl rfl) ?_)) | (refine ek_nilCheck ?_; first | (refine EK_ev (Ev_nilCheck rfl) ?_)) | (refine ek_fieldAddr ?_; first | (refine EK_ev (Ev_field rfl) ?_)) | (refine ek_load ?_; first | (refine EK_ev (Ev_load rfl (by (repeat' (first | exact Sel.here | apply Sel.there)); first | done | fail) (by rfl)) ?_) | (refine EK_ev (Ev_load rfl (by (repeat' (first | exact Sel.here | apply Sel.there)); first | done | fail) (by rfl)) ?_) | (refine EK_ev (Ev_loadOld rfl (by assumption)) ?_) | (refine EK_ev (Ev_loadAgg rfl (by (repeat' (first | exact Sel.here | apply Sel.there)); first | done | fail) (by (repeat' (first | exact Cut.nil | apply Cut.cons | apply Cut.skip)); first | done | fail)) ?_)) | (refine ek_conv ?_; first | (refine EK_ev (Ev_bytesAll rfl (by (repeat' (first | exact Sel.here | apply Sel.there)); first | done | fail) h256) ?_) | (refine EK_ev (Ev_convI64 rfl (by omega)) ?_) | (refine EK_ev (Ev_convI rfl) ?_) | (refine EK_ev (Ev_convS rfl) ?_)) | (refine ek_add ?_; first | (refine EK_ev (Ev_addI rfl rfl (by omega)) ?_) | (refine EK_ev (Ev_addS rfl rfl (by simp <;> omega)) ?_) | (refine EK_ev (Ev_add rfl rfl) ?_)) | (refine ek_lss ?_; first | (refine EK_ev (Ev_lssI rfl rfl) ?_) | (refine EK_ev (Ev_lssS rfl rfl) ?_)) | (refine ek_gtr ?_; first | (refine EK_ev (Ev_gtrI rfl rfl) ?_) | (refine EK_ev (Ev_gtrS rfl rfl) ?_)))
    | (refine is_ex ?_; first | (refine KJ_blk_exit' rfl ?_))
    | (refine is_code ?_; first | (refine KJ_cond_dec rfl (fun _ => ?_) (fun _ => ?_) <;> first | (exfalso; omega) | skip) | (refine KJ_cond_t rfl ?_) | (refine KJ_cond_f rfl ?_) | (refine KJ_draws (id := 7) (.op 0 (.op 1 (.op 2 (.op 3 (.op 4 (.ef 5 [4, 3, 2, 1, 0] (.op 6 (.ef 7 [4, 3, 2, 1, 0] (.ef 8 [0] (.op 9 (.op 10 (.ef 11 [] .nil)))))))))))) (by kernel_rfl) (by kernel_rfl) ?_))
    | (refine is_fw ?_; first | (refine FW_open rfl ?_) | (refine FW_nil ?_) | (refine FW_ef rfl ?_) | (refine FW_efg rfl rfl rfl ?_) | (refine FW_alt ?_ ?_))
    | (refine is_fo ?_; first | (refine FO_dec_t rfl rfl (fun _ => ?_) (fun _ => ?_) <;> first | (exfalso; omega) | skip) | (refine FO_dec_f rfl rfl (fun _ => ?_) (fun _ => ?_) <;> first | (exfalso; omega) | skip) | (refine FO_no rfl rfl rfl rfl ?_) | (refine FO_ekg rfl rfl rfl ?_) | (refine FO_ek rfl ?_))
    | (refine is_ro ?_; first | (refine RO_no rfl rfl rfl rfl ?_) | (refine RO_ekg rfl rfl ?_) | (refine RO_ek ?_))
    | (refine is_raw ?_; first | (refine KJ_flow ?_ ?_))
    | (refine AtR_mk rfl ?_)
    | exact Rech.nil
    | (refine Rech_open rfl ?_))
    all_goals rw [hnx]
    all_goals refine KJ_again ⟨(k + 1, _), by omega⟩ (by show n - (k + 1) < n - k; omega) (by (repeat' (first | exact Subs.nil | refine Subs.cons rfl ?_)); first | done | fail) (Ent.of (by (repeat' (first | exact Pick.nil | apply Pick.cons | exact Sel.here | apply Sel.there)); first | done | fail) (by (repeat' (first | exact DropTo.refl | apply DropTo.there)); first | done | fail))
  · have hkn : k = n := by omega
    subst hkn
    repeat' (first 
    | refine KJ_stp (by first | constructor | fail) ?_
    | (refine is_list ?_; first | (refine KJ_guard_dec_t rfl rfl rfl (fun _ => ?_) (fun _ => ?_) <;> first | (exfalso; omega) | skip) | (refine KJ_guard_dec_f rfl rfl rfl (fun _ => ?_) (fun _ => ?_) <;> first | (exfalso; omega) | skip) | (refine KJ_guard_yes rfl rfl ?_) | (refine KJ_guard_no rfl rfl rfl rfl ?_))
    | (refine is_oper ?_; first | (refine is_store ?_; first | (refine KJ_store rfl rfl (by (repeat' (first | exact Sel.here | apply Sel.there)); first | done | fail) (by first | exact CellsOf.agg | exact CellsOf.one rfl) (by rfl) (by (repeat' (first | exact Ones.nil | exact Ones_bvs _ | refine Ones.cons rfl ?_)); first | done | fail) (by (repeat' (first | exact Laid.nil | apply Laid.cons | apply Laid.skip)); first | done | fail) (by (repeat' (first | exact Rep.here | apply Rep.there)); first | done | fail) ?_)) | (refine is_box ?_; first | (refine KJ_box rfl (by first | exact CellsOf.agg | exact CellsOf.one rfl) rfl (fun _ => ?_))) | (refine KJ_ek rfl ?_) | (refine KJ_ek0 ?_))
    | (refine is_ek ?_; first | (refine ek_move ?_; first | (refine EK_ev (Ev_move rfl) ?_)) | (refine ek_assign ?_; first | (refine EK_ev (Ev_assign rfl) ?_)) | (refine ek_pick ?_; first | (refine EK_ev (Ev_pick_t rfl rfl) ?_) | (refine EK_ev (Ev_pick_f rfl rfl) ?_)) | (refine ek_nilCheck ?_; first | (refine EK_ev (Ev_nilCheck rfl) ?_)) | (refine ek_fieldAddr ?_; first | (refine EK_ev (Ev_field rfl) ?_)) | (refine ek_load ?_; first | (refine EK_ev (Ev_load rfl (by (repeat' (first | exact Sel.here | apply Sel.there)); first | done | fail) (by rfl)) ?_) | (refine EK_ev (Ev_loadOld rfl (by assumption)) ?_) | (refine EK_ev (Ev_loadAgg rfl (by (repeat' (first | exact Sel.here | apply Sel.there)); first | done | fail) (by (repeat' (first | exact Cut.nil | apply Cut.cons | apply Cut.skip)); first | done | fail)) ?_)) | (refine ek_conv ?_; first | (refine EK_ev (Ev_convI64 rfl (by omega)) ?_) | (refine EK_ev (Ev_convI rfl) ?_) | (refine EK_ev (Ev_convS rfl) ?_)) | (refine ek_add ?_; first | (refine EK_ev (Ev_addI rfl rfl (by omega)) ?_) | (refine EK_ev (Ev_addS rfl rfl (by simp <;> omega)) ?_) | (refine EK_ev (Ev_add rfl rfl) ?_)) | (refine ek_lss ?_; first | (refine EK_ev (Ev_lssI rfl rfl) ?_) | (refine EK_ev (Ev_lssS rfl rfl) ?_)) | (refine ek_gtr ?_; first | (refine EK_ev (Ev_gtrI rfl rfl) ?_) | (refine EK_ev (Ev_gtrS rfl rfl) ?_)))
    | (refine is_ex ?_; first | (refine KJ_blk_exit' rfl ?_))
    | (refine is_code ?_; first | (refine KJ_cond_dec rfl (fun _ => ?_) (fun _ => ?_) <;> first | (exfalso; omega) | skip) | (refine KJ_cond_t rfl ?_) | (refine KJ_cond_f rfl ?_) | (refine KJ_draws (id := 7) (.op 0 (.op 1 (.op 2 (.op 3 (.op 4 (.ef 5 [4, 3, 2, 1, 0] (.op 6 (.ef 7 [4, 3, 2, 1, 0] (.ef 8 [0] (.op 9 (.op 10 (.ef 11 [] .nil)))))))))))) (by kernel_rfl) (by kernel_rfl) ?_))
    | (refine is_fw ?_; first | (refine FW_open rfl ?_) | (refine FW_nil ?_) | (refine FW_ef rfl ?_) | (refine FW_efg rfl rfl rfl ?_) | (refine FW_alt ?_ ?_))
    | (refine is_fo ?_; first | (refine FO_dec_t rfl rfl (fun _ => ?_) (fun _ => ?_) <;> first | (exfalso; omega) | skip) | (refine FO_dec_f rfl rfl (fun _ => ?_) (fun _ => ?_) <;> first | (exfalso; omega) | skip) | (refine FO_no rfl rfl rfl rfl ?_) | (refine FO_ekg rfl rfl rfl ?_) | (refine FO_ek rfl ?_))
    | (refine is_ro ?_; first | (refine RO_no rfl rfl rfl rfl ?_) | (refine RO_ekg rfl rfl ?_) | (refine RO_ek ?_))
    | (refine is_raw ?_; first | (refine KJ_flow ?_ ?_))
    | (refine AtR_mk rfl ?_)
    | exact Rech.nil
    | (refine Rech_open rfl ?_))
    all_goals refine KJ_done (by first | exact Or.inl rfl | exact Or.inr rfl) rfl (by (repeat' (first | exact Rvs.nil | (apply Rvs.tmp; exact rfl))); first | done | fail) p (by rfl) (fun g q => pack_star (F := RefF p (Dsk.blank k)) (sv, .slice none 0 0) g ?_)
    all_goals (have e9 : RefF p (Dsk.blank k) (sv, .slice none 0 0) = [cellsP p [sv, .slice none 0 0, .bool false, .bool false, .int .i64 0, .int .i64 0, .int .i64 0, .int .i64 0] 97, rowP sv 9 1 k (List.replicate k (strV (List.replicate 256 0)))] ++ [rowP (.slice none 0 0) 192 2 0 []] := by rw [← secsV_zs]; rfl)
    all_goals rw [e9]
    all_goals exact starL_nilrow g ((Ent.of (by (repeat' (first | exact Pick.nil | apply Pick.cons | exact Sel.here | apply Sel.there)); first | done | fail) (by (repeat' (first | exact DropTo.refl | apply DropTo.there)); first | done | fail)) g q)
end
end Go.Proofs.YteklldbfdmaafaaDoor
/-
  AreaPlays (chapter 9): the walk.
-/
namespace Go.Proofs.YteklldbfdmaafaaDoor
open Go Go.RowKit
/-- the document's disk laid open -/
theorem KJ.unref {W : World} {n : Nat} {k : KK} {E : Env} {H R : List SP} {p : Nat} {D : Dsk} (s : Sel (RefP p D) H R) (h : ∀ sv wa wc, KJ W n k E ([cellsP p [sv, .slice wa D.und.length wc, .bool D.off, .bool (decide (0 ≤ D.armed)), .int .i64 (max D.armed 0), .int .i64 D.writes, .int .i64 D.flushes, .int .i64 D.life] 97, rowP sv 9 1 D.n (secsV D.img D.n), rowP (.slice wa D.und.length wc) 192 2 D.und.length (waysV D.und)] ++ R)) : KJ W n k E H :=
  KJ.unpack_at (F := RefF p D) s fun ⟨sv, wv⟩ => KJ.row_slice (v := wv) (.there (.there .here)) fun wa wc e => by subst e; exact h sv wa wc
theorem starL_swap9 {A B : SP} {R : List SP} : ∀ g, starL (B :: A :: R) g → starL (A :: B :: R) g := fun g h => starL_perm (List.Perm.swap A B R) g h
set_option maxHeartbeats 4000000 in
set_option maxRecDepth 100000 in
theorem aplays_ct {W : World} {E : Nat → Addr} (n : Int) (sv : Value) (ops : List AOp) (hs : AOpsAt W sv ops) (hw : ∀ o ∈ ops, o.wf) (hkl : ∀ o ∈ ops, o.kept.length ≤ 140737488355328) (hlen : ops.length ≤ 1048576) (hE : ErrsAt W E) (hN : NibAt W) (hg : gB ≤ W.heap.size) :
    Ct Tryd.prog W 16 [.int .i64 n, sv] [] (fun _ : Unit => .bool true) (fun _ => []) := by
  obtain ⟨a, c0, rfl, hv⟩ := hs
  have cl := lives09_ct hE hN hg
  obtain ⟨B, hB⟩ : ∃ B, IntKind.u64.wrap n = B := ⟨_, rfl⟩
  have hBb : 0 ≤ B ∧ B < 18446744073709551616 := by
    have e : IntKind.u64.wrap n = n % 18446744073709551616 := rfl
    omega
  obtain ⟨m0, hm0⟩ : ∃ m : Nat, B % 40 = (m : Int) := ⟨(B % 40).toNat, by omega⟩
  obtain ⟨N, hNN⟩ : ∃ N : Nat, N = 1 + m0 := ⟨_, rfl⟩
  have c1 := new_ct (W := W) N (by omega) (by omega) hg
  have c2 := rnew_ct (W := W) N (by omega) (by omega)
  have hok0 := Dsk.blank_ok N (by omega) (by omega)
  have hu0 : (Dsk.blank N).und.length = 0 := rfl
  obtain ⟨D0, hD0⟩ : ∃ D0, D0 = Dsk.blank N := ⟨_, rfl⟩
  rw [← hD0] at c1 c2 hok0 hu0
  clear hD0
  refine Ct.enter Tryd.func16 rfl Tryd.ntmps16 (by simp) (fun R => ?_)
  repeat' (first 
    | refine KJ_stp (by first | constructor | fail) ?_
    | (refine is_list ?_; first | (refine KJ_guard_dec_t rfl rfl rfl (fun _ => ?_) (fun _ => ?_) <;> first | (exfalso; omega) | skip) | (refine KJ_guard_dec_f rfl rfl rfl (fun _ => ?_) (fun _ => ?_) <;> first | (exfalso; omega) | skip) | (refine KJ_guard_yes rfl rfl ?_) | (refine KJ_guard_no rfl rfl rfl rfl ?_))
    | (refine is_oper ?_; first | (refine is_store ?_; first | (refine KJ_store rfl rfl (by (repeat' (first | exact Sel.here | apply Sel.there)); first | done | fail) (by first | exact CellsOf.agg | exact CellsOf.one rfl) (by rfl) (by (repeat' (first | exact Ones.nil | exact Ones_bvs _ | refine Ones.cons rfl ?_)); first | done | fail) (by (repeat' (first | exact Laid.nil | apply Laid.cons | apply Laid.skip)); first | done | fail) (by (repeat' (first | exact Rep.here | apply Rep.there)); first | done | fail) ?_)) | (refine is_alloc ?_; first | (refine KJ_alloc rfl (fun _ => ?_))) | (refine is_call ?_; first | (refine KJ_call (by (repeat' (first | exact Evs.nil | refine Evs.cons rfl ?_)); first | done | fail) c2 (by (repeat' (first | exact Pick.nil | apply Pick.cons | exact Sel.here | apply Sel.there)); first | done | fail) rfl (fun q => ?_)) | (refine KJ_call (by (repeat' (first | exact Evs.nil | refine Evs.cons rfl ?_)); first | done | fail) c1 (by (repeat' (first | exact Pick.nil | apply Pick.cons | exact Sel.here | apply Sel.there)); first | done | fail) rfl (fun p => ?_)) | (refine KJ_call (by (repeat' (first | exact Evs.nil | refine Evs.cons rfl ?_)); first | done | fail) cl (by (repeat' (first | exact Pick.nil | apply Pick.cons | exact Sel.here | apply Sel.there)); first | done | fail) rfl (fun _ => ?_))) | (refine KJ_ek rfl ?_) | (refine KJ_ek0 ?_))
    | (refine is_ek ?_; first | (refine ek_move ?_; first | (refine EK_ev (Ev_move rfl) ?_)) | (refine ek_assign ?_; first | (refine EK_ev (Ev_assign rfl) ?_)) | (refine ek_pick ?_; first | (refine EK_ev (Ev_pick_t rfl rfl) ?_) | (refine EK_ev (Ev_pick_f rfl rfl) ?_)) | (refine ek_nilCheck ?_; first | (refine EK_ev (Ev_nilCheck rfl) ?_)) | (refine ek_fieldAddr ?_; first | (refine EK_ev (Ev_field rfl) ?_)) | (refine ek_load ?_; first | (refine EK_ev (Ev_loadAgg rfl (by (repeat' (first | exact Sel.here | apply Sel.there)); first | done | fail) (by (repeat' (first | exact Cut.nil | apply Cut.cons | apply Cut.skip)); first | done | fail)) ?_) | (refine EK_ev (Ev_load rfl (by (repeat' (first | exact Sel.here | apply Sel.there)); first | done | fail) (by rfl)) ?_) | (refine EK_ev (Ev_load rfl (by (repeat' (first | exact Sel.here | apply Sel.there)); first | done | fail) (by rfl)) ?_) | (refine EK_ev (Ev_loadOld rfl (by assumption)) ?_) | (refine EK_ev (Ev_loadAgg rfl (by (repeat' (first | exact Sel.here | apply Sel.there)); first | done | fail) (by (repeat' (first | exact Cut.nil | apply Cut.cons | apply Cut.skip)); first | done | fail)) ?_)) | (refine ek_un ?_; first | (refine EK_ev (Ev_notD rfl) ?_) | (refine EK_ev (Ev_not rfl) ?_) | (refine EK_ev (Ev_neg rfl) ?_)) | (refine ek_conv ?_; first | (refine EK_ev (Ev_convI_v rfl hB) ?_) | (refine EK_ev (Ev_convI64 rfl (by omega)) ?_) | (refine EK_ev (Ev_convI rfl) ?_) | (refine EK_ev (Ev_convS rfl) ?_)) | (refine ek_extract ?_; first | (refine EK_ev (Ev_extract rfl rfl) ?_)) | (refine ek_indexAddr ?_; first | (refine EK_ev (Ev_indexSlice rfl rfl (by omega)) ?_) | (refine EK_ev (Ev_indexArr rfl rfl (by omega)) ?_)) | (refine ek_len ?_; first | (refine EK_ev (Ev_len_str rfl) ?_) | (refine EK_ev (Ev_len_slice rfl) ?_) | (refine EK_ev (Ev_len_arr rfl) ?_) | (refine EK_ev (Ev_len_map rfl (by (repeat' (first | exact Sel.here | apply Sel.there)); first | done | fail)) ?_)) | (refine ek_add ?_; first | (refine EK_ev (Ev_addI_v (r := (N : Nat)) rfl rfl (by omega) (by omega)) ?_) | (refine EK_ev (Ev_addI rfl rfl (by omega)) ?_) | (refine EK_ev (Ev_addS rfl rfl (by simp <;> omega)) ?_) | (refine EK_ev (Ev_add rfl rfl) ?_)) | (refine ek_rem ?_; first | (refine EK_ev (Ev_rem_w rfl rfl (by omega) hm0) ?_) | (refine EK_ev (Ev_remI rfl rfl (by omega)) ?_) | (refine EK_ev (Ev_rem rfl rfl (by omega)) ?_)) | (refine ek_eql ?_; first | (refine EK_ev (Ev_eqlI rfl rfl) ?_) | (refine EK_ev (Ev_eqlS rfl rfl) ?_) | (refine EK_ev (Ev_eqlNil rfl rfl) ?_) | (refine EK_ev (Ev_eqlB rfl rfl) ?_) | (refine EK_ev (Ev_eqlO rfl rfl rfl (fun _ => rfl)) ?_)) | (refine ek_neq ?_; first | (refine EK_ev (Ev_neqI rfl rfl) ?_) | (refine EK_ev (Ev_neqS rfl rfl) ?_) | (refine EK_ev (Ev_neqNil rfl rfl) ?_) | (refine EK_ev (Ev_neqB rfl rfl) ?_) | (refine EK_ev (Ev_neqO rfl rfl rfl (fun _ => rfl)) ?_)) | (refine ek_lss ?_; first | (refine EK_ev (Ev_lssI rfl rfl) ?_) | (refine EK_ev (Ev_lssS rfl rfl) ?_)))
    | (refine is_ex ?_; first | (refine KJ_blk_exit' rfl ?_))
    | (refine is_code ?_; first | (refine KJ_cond_dec rfl (fun _ => ?_) (fun _ => ?_) <;> first | (exfalso; omega) | skip) | (refine KJ_cond_t rfl ?_) | (refine KJ_cond_f rfl ?_) | (refine KJ_draws (id := 13) (.op 0 (.op 1 (.op 2 (.op 3 (.op 4 (.op 5 (.op 6 (.op 7 (.op 8 (.op 9 (.op 10 (.op 11 (.op 12 (.op 13 (.op 14 (.op 15 (.op 16 (.op 17 (.op 18 (.op 19 (.op 21 (.op 22 (.op 23 (.op 24 (.op 25 (.ef 20 [25, 24, 23, 22, 21] (.op 26 (.op 27 .nil)))))))))))))))))))))))))))) (by kernel_rfl) (by kernel_rfl) ?_))
    | (refine is_fw ?_; first | (refine FW_open rfl ?_) | (refine FW_nil ?_) | (refine FW_ef rfl ?_) | (refine FW_efg rfl rfl rfl ?_) | (refine FW_alt ?_ ?_))
    | (refine is_fo ?_; first | (refine FO_dec_t rfl rfl (fun _ => ?_) (fun _ => ?_) <;> first | (exfalso; omega) | skip) | (refine FO_dec_f rfl rfl (fun _ => ?_) (fun _ => ?_) <;> first | (exfalso; omega) | skip) | (refine FO_no rfl rfl rfl rfl ?_) | (refine FO_ekg rfl rfl rfl ?_) | (refine FO_ek rfl ?_))
    | (refine is_ro ?_; first | (refine RO_no rfl rfl rfl rfl ?_) | (refine RO_ekg rfl rfl ?_) | (refine RO_ek ?_))
    | (refine is_raw ?_; first | (refine KJ_flow ?_ ?_))
    | (refine AtR_mk rfl ?_)
    | exact Rech.nil
    | (refine Rech_open rfl ?_))
  refine KJ_loop (fun i : {x : Nat × Dsk // x.1 ≤ ops.length ∧ x.2.ok ∧ x.2.und.length ≤ 9 * x.1} => [(5, .pointer (some ⟨p, 0, none⟩)), (7, .pointer (some ⟨q, 0, none⟩)), (37, .slice a ops.length c0), (38, .int .i64 ops.length), (39, .int .i64 (i.1.1 : Nat))])
    (fun i => [DiskP p i.1.2, RefP q i.1.2] ++ R) (fun i => ops.length - i.1.1) ⟨(0, D0), Nat.zero_le _, hok0, by rw [hu0]; exact Nat.zero_le _⟩ (by (repeat' (first | exact Subs.nil | refine Subs.cons rfl ?_)); first | done | fail) (Ent.of (by (repeat' (first | exact Pick.nil | apply Pick.cons | exact Sel.here | apply Sel.there)); first | done | fail) (by (repeat' (first | exact DropTo.refl | apply DropTo.there)); first | done | fail)) (fun ⟨⟨m, D⟩, hm, hok, hu⟩ => ?_)
  dsimp only at hm hok hu ⊢
  by_cases hlt : m < ops.length
  rotate_left
  · have ql : decide ((m : Int) < (ops.length : Nat)) = false := decide_eq_false (by omega)
    have c3 : Ct Tryd.prog W 27 [.pointer (some ⟨p, 0, none⟩)] [DiskP p D] (fun _ : Unit => strV D.img) (fun _ => [DiskP p D]) := image_ct
    have c4 := rimage_ct (W := W) (p := q) hok
    obtain ⟨im, him⟩ : ∃ im, im = D.img := ⟨_, rfl⟩
    rw [← him] at c3 c4
    repeat' (first 
    | refine KJ_stp (by first | constructor | fail) ?_
    | (refine is_list ?_; first | (refine KJ_guard_dec_t rfl rfl rfl (fun _ => ?_) (fun _ => ?_) <;> first | (exfalso; omega) | skip) | (refine KJ_guard_dec_f rfl rfl rfl (fun _ => ?_) (fun _ => ?_) <;> first | (exfalso; omega) | skip) | (refine KJ_guard_yes rfl rfl ?_) | (refine KJ_guard_no rfl rfl rfl rfl ?_))
    | (refine is_oper ?_; first | (refine is_store ?_; first | (refine KJ_store rfl rfl (by (repeat' (first | exact Sel.here | apply Sel.there)); first | done | fail) (by first | exact CellsOf.agg | exact CellsOf.one rfl) (by rfl) (by (repeat' (first | exact Ones.nil | exact Ones_bvs _ | refine Ones.cons rfl ?_)); first | done | fail) (by (repeat' (first | exact Laid.nil | apply Laid.cons | apply Laid.skip)); first | done | fail) (by (repeat' (first | exact Rep.here | apply Rep.there)); first | done | fail) ?_)) | (refine is_alloc ?_; first | (refine KJ_alloc rfl (fun _ => ?_))) | (refine is_call ?_; first | (refine KJ_call (by (repeat' (first | exact Evs.nil | refine Evs.cons rfl ?_)); first | done | fail) c4 (by (repeat' (first | exact Pick.nil | apply Pick.cons | exact Sel.here | apply Sel.there)); first | done | fail) rfl (fun _ => ?_)) | (refine KJ_call (by (repeat' (first | exact Evs.nil | refine Evs.cons rfl ?_)); first | done | fail) c3 (by (repeat' (first | exact Pick.nil | apply Pick.cons | exact Sel.here | apply Sel.there)); first | done | fail) rfl (fun _ => ?_))) | (refine KJ_ek rfl ?_) | (refine KJ_ek0 ?_))
    | (refine is_ek ?_; first | (refine ek_move ?_; first | (refine EK_ev (Ev_move rfl) ?_)) | (refine ek_assign ?_; first | (refine EK_ev (Ev_assign rfl) ?_)) | (refine ek_pick ?_; first | (refine EK_ev (Ev_pick_t rfl rfl) ?_) | (refine EK_ev (Ev_pick_f rfl rfl) ?_)) | (refine ek_nilCheck ?_; first | (refine EK_ev (Ev_nilCheck rfl) ?_)) | (refine ek_fieldAddr ?_; first | (refine EK_ev (Ev_field rfl) ?_)) | (refine ek_load ?_; first | (refine EK_ev (Ev_loadAgg rfl (by (repeat' (first | exact Sel.here | apply Sel.there)); first | done | fail) (by (repeat' (first | exact Cut.nil | apply Cut.cons | apply Cut.skip)); first | done | fail)) ?_) | (refine EK_ev (Ev_load rfl (by (repeat' (first | exact Sel.here | apply Sel.there)); first | done | fail) (by rfl)) ?_) | (refine EK_ev (Ev_load rfl (by (repeat' (first | exact Sel.here | apply Sel.there)); first | done | fail) (by rfl)) ?_) | (refine EK_ev (Ev_loadOld rfl (by assumption)) ?_) | (refine EK_ev (Ev_loadAgg rfl (by (repeat' (first | exact Sel.here | apply Sel.there)); first | done | fail) (by (repeat' (first | exact Cut.nil | apply Cut.cons | apply Cut.skip)); first | done | fail)) ?_)) | (refine ek_un ?_; first | (refine EK_ev (Ev_notD rfl) ?_) | (refine EK_ev (Ev_not rfl) ?_) | (refine EK_ev (Ev_neg rfl) ?_)) | (refine ek_conv ?_; first | (refine EK_ev (Ev_convI64 rfl (by omega)) ?_) | (refine EK_ev (Ev_convI rfl) ?_) | (refine EK_ev (Ev_convS rfl) ?_)) | (refine ek_extract ?_; first | (refine EK_ev (Ev_extract rfl rfl) ?_)) | (refine ek_indexAddr ?_; first | (refine EK_ev (Ev_indexSlice rfl rfl (by omega)) ?_) | (refine EK_ev (Ev_indexArr rfl rfl (by omega)) ?_)) | (refine ek_len ?_; first | (refine EK_ev (Ev_len_str rfl) ?_) | (refine EK_ev (Ev_len_slice rfl) ?_) | (refine EK_ev (Ev_len_arr rfl) ?_) | (refine EK_ev (Ev_len_map rfl (by (repeat' (first | exact Sel.here | apply Sel.there)); first | done | fail)) ?_)) | (refine ek_add ?_; first | (refine EK_ev (Ev_addI rfl rfl (by omega)) ?_) | (refine EK_ev (Ev_addS rfl rfl (by simp <;> omega)) ?_) | (refine EK_ev (Ev_add rfl rfl) ?_)) | (refine ek_rem ?_; first | (refine EK_ev (Ev_remI rfl rfl (by omega)) ?_) | (refine EK_ev (Ev_rem rfl rfl (by omega)) ?_)) | (refine ek_eql ?_; first | (refine EK_ev (Ev_eqlS_t rfl rfl rfl) ?_) | (refine EK_ev (Ev_eqlI rfl rfl) ?_) | (refine EK_ev (Ev_eqlS rfl rfl) ?_) | (refine EK_ev (Ev_eqlNil rfl rfl) ?_) | (refine EK_ev (Ev_eqlB rfl rfl) ?_) | (refine EK_ev (Ev_eqlO rfl rfl rfl (fun _ => rfl)) ?_)) | (refine ek_neq ?_; first | (refine EK_ev (Ev_neqI rfl rfl) ?_) | (refine EK_ev (Ev_neqS rfl rfl) ?_) | (refine EK_ev (Ev_neqNil rfl rfl) ?_) | (refine EK_ev (Ev_neqB rfl rfl) ?_) | (refine EK_ev (Ev_neqO rfl rfl rfl (fun _ => rfl)) ?_)) | (refine ek_lss ?_; first | (refine EK_ev (Ev_lssI_q rfl rfl ql) ?_) | (refine EK_ev (Ev_lssI rfl rfl) ?_) | (refine EK_ev (Ev_lssS rfl rfl) ?_)))
    | (refine is_ex ?_; first | (refine KJ_blk_exit' rfl ?_))
    | (refine is_code ?_; first | (refine KJ_cond_dec rfl (fun _ => ?_) (fun _ => ?_) <;> first | (exfalso; omega) | skip) | (refine KJ_cond_t rfl ?_) | (refine KJ_cond_f rfl ?_) | (refine KJ_draws (id := 13) (.op 0 (.op 1 (.op 2 (.op 3 (.op 4 (.op 5 (.op 6 (.op 7 (.op 8 (.op 9 (.op 10 (.op 11 (.op 12 (.op 13 (.op 14 (.op 15 (.op 16 (.op 17 (.op 18 (.op 19 (.op 21 (.op 22 (.op 23 (.op 24 (.op 25 (.ef 20 [25, 24, 23, 22, 21] (.op 26 (.op 27 .nil)))))))))))))))))))))))))))) (by kernel_rfl) (by kernel_rfl) ?_))
    | (refine is_fw ?_; first | (refine FW_open rfl ?_) | (refine FW_nil ?_) | (refine FW_ef rfl ?_) | (refine FW_efg rfl rfl rfl ?_) | (refine FW_alt ?_ ?_))
    | (refine is_fo ?_; first | (refine FO_dec_t rfl rfl (fun _ => ?_) (fun _ => ?_) <;> first | (exfalso; omega) | skip) | (refine FO_dec_f rfl rfl (fun _ => ?_) (fun _ => ?_) <;> first | (exfalso; omega) | skip) | (refine FO_no rfl rfl rfl rfl ?_) | (refine FO_ekg rfl rfl rfl ?_) | (refine FO_ek rfl ?_))
    | (refine is_ro ?_; first | (refine RO_no rfl rfl rfl rfl ?_) | (refine RO_ekg rfl rfl ?_) | (refine RO_ek ?_))
    | (refine is_raw ?_; first | (refine KJ_flow ?_ ?_))
    | (refine AtR_mk rfl ?_)
    | exact Rech.nil
    | (refine Rech_open rfl ?_))
    all_goals (refine is_ex ?_; exact KJ_done (by first | exact Or.inl rfl | exact Or.inr rfl) rfl (by (repeat' (first | exact Rvs.nil | (apply Rvs.tmp; exact rfl))); first | done | fail) () (by rfl) (Ent.of (by (repeat' (first | exact Pick.nil | apply Pick.cons | exact Sel.here | apply Sel.there)); first | done | fail) (by (repeat' (first | exact DropTo.refl | apply DropTo.there)); first | done | fail)))
  have ql : decide ((m : Int) < (ops.length : Nat)) = true := decide_eq_true (by omega)
  obtain ⟨st, hsv⟩ : ∃ s, ops[m]? = some s := ⟨_, List.getElem?_eq_getElem hlt⟩
  obtain ⟨b, o, rfl, hb, hr⟩ := hv (by intro e; rw [e] at hlt; simp at hlt)
  obtain ⟨kv, hr, hkv⟩ := hr m st hsv
  have hmem := List.mem_of_getElem? hsv
  have cst := step9_ct (p := p) (q := q) hE hN hg hok (by omega) st kv hkv (hkl st hmem) (hw st hmem)
  obtain ⟨hok2, hu2⟩ := step9_keep hok st (bounds_i64 (hw st hmem).n).2
  obtain ⟨D', hD'⟩ : ∃ D', D' = st.step D := ⟨_, rfl⟩
  rw [← hD'] at cst hok2 hu2
  obtain ⟨ka, kc, rfl, -⟩ := id hkv
  clear hD' hkv hmem hsv
  obtain ⟨kind, at_, n1, stamp, bytes, seed, kept, torn, fb0⟩ := st
  have Hr : W.rangeAt b (o + Int.toNat (m : Int) * 9) [.int .i64 kind, .int .i64 at_, .int .i64 n1, .int .u64 stamp, .int .i64 bytes, .int .u64 seed, .slice ka kept.length kc, .int .i64 torn, .int .i64 fb0] := by
    rw [Int.toNat_natCast, Nat.mul_comm m 9]; exact hr
  clear hr
  have c5 : Ct Tryd.prog W 38 [.pointer (some ⟨p, 0, none⟩)] [DiskP p D'] (fun _ : Unit => .tuple #[.int .i64 D'.writes, .int .i64 D'.flushes]) (fun _ => [DiskP p D']) := counts_ct
  have c6 : Ct Tryd.prog W 25 [.pointer (some ⟨p, 0, none⟩)] [DiskP p D'] (fun _ : Unit => .int .i64 D'.und.length) (fun _ => [DiskP p D']) := pending_ct
  repeat' (first 
    | refine KJ_stp (by first | constructor | fail) ?_
    | (refine is_list ?_; first | (refine KJ_guard_dec_t rfl rfl rfl (fun _ => ?_) (fun _ => ?_) <;> first | (exfalso; omega) | skip) | (refine KJ_guard_dec_f rfl rfl rfl (fun _ => ?_) (fun _ => ?_) <;> first | (exfalso; omega) | skip) | (refine KJ_guard_yes rfl rfl ?_) | (refine KJ_guard_no rfl rfl rfl rfl ?_))
    | (refine is_oper ?_; first | (refine is_store ?_; first | (refine KJ_store rfl rfl (by (repeat' (first | exact Sel.here | apply Sel.there)); first | done | fail) (by first | exact CellsOf.agg | exact CellsOf.one rfl) (by rfl) (by (repeat' (first | exact Ones.nil | exact Ones_bvs _ | refine Ones.cons rfl ?_)); first | done | fail) (by (repeat' (first | exact Laid.nil | apply Laid.cons | apply Laid.skip)); first | done | fail) (by (repeat' (first | exact Rep.here | apply Rep.there)); first | done | fail) ?_)) | (refine is_alloc ?_; first | (refine KJ_alloc rfl (fun _ => ?_))) | (refine is_call ?_; first | (refine KJ_call (by (repeat' (first | exact Evs.nil | refine Evs.cons rfl ?_)); first | done | fail) c6 (by (repeat' (first | exact Pick.nil | apply Pick.cons | exact Sel.here | apply Sel.there)); first | done | fail) rfl (fun _ => ?_)) | (refine KJ_call (by (repeat' (first | exact Evs.nil | refine Evs.cons rfl ?_)); first | done | fail) c5 (by (repeat' (first | exact Pick.nil | apply Pick.cons | exact Sel.here | apply Sel.there)); first | done | fail) rfl (fun _ => ?_)) | (refine KJ_call (by (repeat' (first | exact Evs.nil | refine Evs.cons rfl ?_)); first | done | fail) cst (by (repeat' (first | exact Pick.nil | apply Pick.cons | exact Sel.here | apply Sel.there)); first | done | fail) rfl (fun _ => KJ.unref (p := q) (by (repeat' (first | exact Sel.here | apply Sel.there)); first | done | fail) (fun sv2 wa wc => ?_)))) | (refine KJ_ek rfl ?_) | (refine KJ_ek0 ?_))
    | (refine is_ek ?_; first | (refine ek_move ?_; first | (refine EK_ev (Ev_move rfl) ?_)) | (refine ek_assign ?_; first | (refine EK_ev (Ev_assign rfl) ?_)) | (refine ek_pick ?_; first | (refine EK_ev (Ev_pick_t rfl rfl) ?_) | (refine EK_ev (Ev_pick_f rfl rfl) ?_)) | (refine ek_nilCheck ?_; first | (refine EK_ev (Ev_nilCheck rfl) ?_)) | (refine ek_fieldAddr ?_; first | (refine EK_ev (Ev_field rfl) ?_)) | (refine ek_load ?_; first | (refine EK_ev (Ev_loadAgg rfl (by (repeat' (first | exact Sel.here | apply Sel.there)); first | done | fail) (by (repeat' (first | exact Cut.nil | apply Cut.cons | apply Cut.skip)); first | done | fail)) ?_) | (refine EK_ev (Ev_load rfl (by (repeat' (first | exact Sel.here | apply Sel.there)); first | done | fail) (by rfl)) ?_) | (refine EK_ev (Ev_loadAggOld rfl Hr) ?_) | (refine EK_ev (Ev_load rfl (by (repeat' (first | exact Sel.here | apply Sel.there)); first | done | fail) (by rfl)) ?_) | (refine EK_ev (Ev_loadOld rfl (by assumption)) ?_) | (refine EK_ev (Ev_loadAgg rfl (by (repeat' (first | exact Sel.here | apply Sel.there)); first | done | fail) (by (repeat' (first | exact Cut.nil | apply Cut.cons | apply Cut.skip)); first | done | fail)) ?_)) | (refine ek_un ?_; first | (refine EK_ev (Ev_notD rfl) ?_) | (refine EK_ev (Ev_not rfl) ?_) | (refine EK_ev (Ev_neg rfl) ?_)) | (refine ek_conv ?_; first | (refine EK_ev (Ev_convI64 rfl (by omega)) ?_) | (refine EK_ev (Ev_convI rfl) ?_) | (refine EK_ev (Ev_convS rfl) ?_)) | (refine ek_extract ?_; first | (refine EK_ev (Ev_extract rfl rfl) ?_)) | (refine ek_indexAddr ?_; first | (refine EK_ev (Ev_indexSlice rfl rfl (by omega)) ?_) | (refine EK_ev (Ev_indexArr rfl rfl (by omega)) ?_)) | (refine ek_len ?_; first | (refine EK_ev (Ev_len_str rfl) ?_) | (refine EK_ev (Ev_len_slice rfl) ?_) | (refine EK_ev (Ev_len_arr rfl) ?_) | (refine EK_ev (Ev_len_map rfl (by (repeat' (first | exact Sel.here | apply Sel.there)); first | done | fail)) ?_)) | (refine ek_add ?_; first | (refine EK_ev (Ev_addI_v (r := ((m + 1 : Nat) : Int)) rfl rfl (by omega) (by omega)) ?_) | (refine EK_ev (Ev_addI rfl rfl (by omega)) ?_) | (refine EK_ev (Ev_addS rfl rfl (by simp <;> omega)) ?_) | (refine EK_ev (Ev_add rfl rfl) ?_)) | (refine ek_rem ?_; first | (refine EK_ev (Ev_remI rfl rfl (by omega)) ?_) | (refine EK_ev (Ev_rem rfl rfl (by omega)) ?_)) | (refine ek_eql ?_; first | (refine EK_ev (Ev_eqlI rfl rfl) ?_) | (refine EK_ev (Ev_eqlS rfl rfl) ?_) | (refine EK_ev (Ev_eqlNil rfl rfl) ?_) | (refine EK_ev (Ev_eqlB rfl rfl) ?_) | (refine EK_ev (Ev_eqlO rfl rfl rfl (fun _ => rfl)) ?_)) | (refine ek_neq ?_; first | (refine EK_ev (Ev_neqI_f rfl rfl rfl) ?_) | (refine EK_ev (Ev_neqI rfl rfl) ?_) | (refine EK_ev (Ev_neqS rfl rfl) ?_) | (refine EK_ev (Ev_neqNil rfl rfl) ?_) | (refine EK_ev (Ev_neqB rfl rfl) ?_) | (refine EK_ev (Ev_neqO rfl rfl rfl (fun _ => rfl)) ?_)) | (refine ek_lss ?_; first | (refine EK_ev (Ev_lssI_q rfl rfl ql) ?_) | (refine EK_ev (Ev_lssI rfl rfl) ?_) | (refine EK_ev (Ev_lssS rfl rfl) ?_)))
    | (refine is_ex ?_; first | (refine KJ_blk_exit' rfl ?_))
    | (refine is_code ?_; first | (refine KJ_cond_dec rfl (fun _ => ?_) (fun _ => ?_) <;> first | (exfalso; omega) | skip) | (refine KJ_cond_t rfl ?_) | (refine KJ_cond_f rfl ?_) | (refine KJ_draws (id := 13) (.op 0 (.op 1 (.op 2 (.op 3 (.op 4 (.op 5 (.op 6 (.op 7 (.op 8 (.op 9 (.op 10 (.op 11 (.op 12 (.op 13 (.op 14 (.op 15 (.op 16 (.op 17 (.op 18 (.op 19 (.op 21 (.op 22 (.op 23 (.op 24 (.op 25 (.ef 20 [25, 24, 23, 22, 21] (.op 26 (.op 27 .nil)))))))))))))))))))))))))))) (by kernel_rfl) (by kernel_rfl) ?_))
    | (refine is_fw ?_; first | (refine FW_open rfl ?_) | (refine FW_nil ?_) | (refine FW_ef rfl ?_) | (refine FW_efg rfl rfl rfl ?_) | (refine FW_alt ?_ ?_))
    | (refine is_fo ?_; first | (refine FO_dec_t rfl rfl (fun _ => ?_) (fun _ => ?_) <;> first | (exfalso; omega) | skip) | (refine FO_dec_f rfl rfl (fun _ => ?_) (fun _ => ?_) <;> first | (exfalso; omega) | skip) | (refine FO_no rfl rfl rfl rfl ?_) | (refine FO_ekg rfl rfl rfl ?_) | (refine FO_ek rfl ?_))
    | (refine is_ro ?_; first | (refine RO_no rfl rfl rfl rfl ?_) | (refine RO_ekg rfl rfl ?_) | (refine RO_ek ?_))
    | (refine is_raw ?_; first | (refine KJ_flow ?_ ?_))
    | (refine AtR_mk rfl ?_)
    | exact Rech.nil
    | (refine Rech_open rfl ?_))
  all_goals refine KJ_again ⟨(m + 1, D'), Nat.succ_le_of_lt hlt, hok2, by dsimp only; omega⟩ (by show ops.length - (m + 1) < ops.length - m; omega) (by (repeat' (first | exact Subs.nil | refine Subs.cons rfl ?_)); first | done | fail) (fun g h => starL_swap9 g (pack_star (F := RefF q D') (sv2, .slice wa D'.und.length wc) g ?_))
  all_goals (show starL ([cellsP q [sv2, .slice wa D'.und.length wc, .bool D'.off, .bool (decide (0 ≤ D'.armed)), .int .i64 (max D'.armed 0), .int .i64 D'.writes, .int .i64 D'.flushes, .int .i64 D'.life] 97, rowP sv2 9 1 D'.n (secsV D'.img D'.n), rowP (.slice wa D'.und.length wc) 192 2 D'.und.length (waysV D'.und), DiskP p D'] ++ R) g; exact (Ent.of (by (repeat' (first | exact Pick.nil | apply Pick.cons | exact Sel.here | apply Sel.there)); first | done | fail) (by (repeat' (first | exact DropTo.refl | apply DropTo.there)); first | done | fail)) g h)
end Go.Proofs.YteklldbfdmaafaaDoor
/-
  The closed facts of the whole program that every row of this seat asks, each asked once.
-/
namespace Go.Proofs.YteklldbfdmaafaaDoor
open Go Go.RowKit
theorem band {a b : Bool} (h : a = true) (k : b = true) : (a && b) = true := by rw [h, k]; rfl
theorem mapsRowedF : mapsRowed Tryd.prog = true := by kernel_rfl
theorem stopsF : (Tryd.prog.stops == []) = true := by kernel_rfl
theorem stopKnobsF : (Tryd.prog.stopKnobs == []) = true := by kernel_rfl
theorem plainKeysF : (Rows.diskFlushesUptoRow.plainKeys == Tryd.prog.plainKeys) = true := by kernel_rfl
theorem stopsHeardF : Tryd.prog.stopsHeard = true := by kernel_rfl
theorem mayEnterF : Tryd.prog.mayEnter = true := by kernel_rfl
theorem liftsF : (Rows.diskFlushesUptoRow.lifted == Tryd.prog.liftsFinal) = true := by kernel_rfl
theorem makeF : (Tryd.prog.make == some Rows.diskFlushesUptoRow.make) = true := by kernel_rfl
end Go.Proofs.YteklldbfdmaafaaDoor
