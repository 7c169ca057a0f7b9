/-
  Jou3, Calm, Calm8, Keep, AreL, Jou4, Jou5, Opens, Apart, Open8, Facts.
-/
import Derived.JoinedOf
import Derived.Test.YteklldbfdmaafaaDoorIC
/-
  The package journal: payload, record, Replay: contracts.
-/
namespace Go.Proofs.YteklldbfdmaafaaDoor
open Go Go.RowKit
/-- the payload of sector i, if it counts -/
def payO (D : Dsk) (at_ n : Int) (ver i : Nat) : Option (List UInt8) := if n ≤ (i : Int) then none else if D.readE (at_ + (i : Nat)) ≠ 0 then none else openS (stampN ver i : Nat) (D.readS (at_ + (i : Nat)))
/-- the size that a first payload tells -/
def sizeGo (q : List UInt8) : Nat → Int
  | 0 => 0
  | k + 1 => bits .or .i64 (sizeGo q k) (IntKind.i64.wrap (((q.getD (1 + k) 0).toNat : Int) * 2 ^ (min (8 * (k : Int)).toNat IntKind.i64.bits)))
def recGo (D : Dsk) (at_ n : Int) (ver i : Nat) (size : Int) : Nat → Nat → List UInt8 → Option (List UInt8)
  | 0, _, out => some out
  | f + 1, k, out => match payO D at_ n ver (i + k) with
    | none => none
    | some q => if (q.length : Int) ≠ 1 + min (size - out.length) 233 then none else if q.getD 0 0 ≠ 0 then none else recGo D at_ n ver i size f (k + 1) (out ++ q.drop 1)
/-- the record that begins in sector i, and its sectors -/
def recO (D : Dsk) (at_ n : Int) (ver i : Nat) : Option (List UInt8 × Int) :=
  match payO D at_ n ver i with
  | none => none
  | some q => if q.length < 5 then none else if q.getD 0 0 ≠ 1 then none else if n - (i : Int) < costI (sizeGo q 4) then none else if ((q.drop 5).length : Int) ≠ min (sizeGo q 4) 229 then none else
    match recGo D at_ n ver i (sizeGo q 4) (costI (sizeGo q 4) - 1).toNat 1 (q.drop 5) with
    | none => none
    | some s => some (s, costI (sizeGo q 4))
def rpGo (D : Dsk) (at_ n : Int) (ver : Nat) : Nat → Nat → List (List UInt8) → List (List UInt8)
  | 0, _, acc => acc
  | f + 1, i, acc => match recO D at_ n ver i with
    | none => acc
    | some (s, u) => rpGo D at_ n ver f (i + u.toNat) (acc ++ [s])
theorem i64_range (x : Int) : -9223372036854775808 ≤ IntKind.i64.wrap x ∧ IntKind.i64.wrap x ≤ 9223372036854775807 := by
  have : IntKind.i64.wrap x = if x % 18446744073709551616 ≥ 9223372036854775808 then x % 18446744073709551616 - 18446744073709551616 else x % 18446744073709551616 := by
    simp [IntKind.wrap, IntKind.signed, IntKind.bits]
  rw [this]
  split <;> omega
theorem sizeGo_range (q : List UInt8) (k : Nat) : -9223372036854775808 ≤ sizeGo q k ∧ sizeGo q k ≤ 9223372036854775807 := by
  cases k with
  | zero => exact ⟨by show (-9223372036854775808 : Int) ≤ 0; omega, by show (0 : Int) ≤ _; omega⟩
  | succ k =>
    show _ ≤ bits .or .i64 _ _ ∧ bits .or .i64 _ _ ≤ _
    exact i64_range _
theorem recO_some {D : Dsk} {at_ n : Int} {ver i : Nat} {s : List UInt8} {u : Int} (h : recO D at_ n ver i = some (s, u)) : 1 ≤ u ∧ u ≤ n - (i : Int) := by
  unfold recO at h
  split at h
  · cases h
  split at h
  · cases h
  split at h
  · cases h
  split at h
  · cases h
  split at h
  · cases h
  split at h
  · cases h
  rename_i q hq h5 h6 h1 h2 x s' hs'
  simp only [Option.some.injEq, Prod.mk.injEq] at h
  obtain ⟨-, rfl⟩ := h
  refine ⟨?_, by omega⟩
  unfold costI
  split
  · rw [List.length_drop] at h2; omega
  split <;> omega
section
variable {W : World} {E : Nat → Addr} {p g : Nat} {D : Dsk}
theorem payload_ct (hE : ErrsOn L8 W E) (hN : NibAt W) (at_ n : Int) (ver i : Nat) (hat : 0 ≤ at_ ∧ at_ ≤ 65536) (hn : n ≤ 65536) (hver : 1 ≤ ver ∧ ver ≤ 1099511627776) (hi : i ≤ 131072) : Ct Tryd.prog W 123 [.agg #[.pointer (some ⟨p, 0, none⟩), .int .i64 at_, .int .i64 n, .int .i64 (ver : Nat)], .int .i64 (i : Nat)] [DiskP p D] (fun _ : Unit => .tuple #[strV ((payO D at_ n ver i).getD []), .bool (payO D at_ n ver i).isSome]) (fun _ => [DiskP p D]) := by
  by_cases h1 : n ≤ (i : Int)
  · have q1 : decide (n ≤ (i : Int)) = true := decide_eq_true h1
    rw [show payO D at_ n ver i = none from if_pos h1]
    refine Ct.enter Tryd.func123 rfl Tryd.ntmps123 (by simp) (fun R => ?_)
    repeat' (first 
    | refine KJ_stp (by first | constructor | fail) ?_
    | (refine is_oper ?_; first | (refine is_box ?_; first | (refine KJ_box rfl (by first | exact CellsOf.agg | exact CellsOf.one rfl) rfl (fun g1 => ?_)) | (refine KJ_box rfl (by first | exact CellsOf.agg | exact CellsOf.one rfl) rfl (fun _ => ?_))) | (refine KJ_ek rfl ?_) | (refine KJ_ek0 ?_))
    | (refine is_ek ?_; first | (refine ek_move ?_; first | (refine EK_ev (Ev_move rfl) ?_)) | (refine ek_assign ?_; first | (refine EK_ev (Ev_assign rfl) ?_)) | (refine ek_fieldAddr ?_; first | (refine EK_ev (Ev_field rfl) ?_)) | (refine ek_load ?_; first | (refine EK_ev (Ev_loadAgg rfl (by (repeat' (first | exact Sel.here | apply Sel.there)); first | done | fail) (by (repeat' (first | exact Cut.nil | apply Cut.cons | apply Cut.skip)); first | done | fail)) ?_) | (refine EK_ev (Ev_load rfl (by (repeat' (first | exact Sel.here | apply Sel.there)); first | done | fail) (by rfl)) ?_) | (refine EK_ev (Ev_load rfl (by (repeat' (first | exact Sel.here | apply Sel.there)); first | done | fail) (by rfl)) ?_) | (refine EK_ev (Ev_loadOld rfl (by assumption)) ?_) | (refine EK_ev (Ev_loadAgg rfl (by (repeat' (first | exact Sel.here | apply Sel.there)); first | done | fail) (by (repeat' (first | exact Cut.nil | apply Cut.cons | apply Cut.skip)); first | done | fail)) ?_)) | (refine ek_extract ?_; first | (refine EK_ev (Ev_extract rfl rfl) ?_)) | (refine ek_add ?_; first | (refine EK_ev (Ev_addI rfl rfl (by omega)) ?_) | (refine EK_ev (Ev_addS rfl rfl (by simp <;> omega)) ?_) | (refine EK_ev (Ev_add rfl rfl) ?_)) | (refine ek_neq ?_; first | (refine EK_ev (Ev_neqI rfl rfl) ?_) | (refine EK_ev (Ev_neqS rfl rfl) ?_) | (refine EK_ev (Ev_neqNil rfl rfl) ?_) | (refine EK_ev (Ev_neqB rfl rfl) ?_) | (refine EK_ev (Ev_neqO rfl rfl rfl (fun _ => rfl)) ?_)) | (refine ek_geq ?_; first | (refine EK_ev (Ev_geqI_q rfl rfl q1) ?_) | (refine EK_ev (Ev_geqI rfl rfl) ?_) | (refine EK_ev (Ev_geqS rfl rfl) ?_)))
    | (refine is_ex ?_; first | (refine KJ_blk_exit' rfl ?_))
    | (refine is_code ?_; first | (refine KJ_cond_dec rfl (fun _ => ?_) (fun _ => ?_) <;> first | (exfalso; omega) | skip) | (refine KJ_cond_t rfl ?_) | (refine KJ_cond_f rfl ?_)))
    all_goals (refine is_ex ?_; exact KJ_done (by first | exact Or.inl rfl | exact Or.inr rfl) rfl (by (repeat' (first | exact Rvs.nil | (apply Rvs.tmp; exact rfl))); first | done | fail) () (by rfl) (Ent.of (by (repeat' (first | exact Pick.nil | apply Pick.cons | exact Sel.here | apply Sel.there)); first | done | fail) (by (repeat' (first | exact DropTo.refl | apply DropTo.there)); first | done | fail)))
  have q1 : decide (n ≤ (i : Int)) = false := decide_eq_false h1
  have c1 := log_ct (W := W) ver i hver (by omega)
  have c2 := read_ct (W := W) (p := p) (D := D) hE (at_ + (i : Nat))
  have c3 := open_ct (W := W) hN (stampN ver i : Nat) (D.readS (at_ + (i : Nat)))
  obtain ⟨stm, hst⟩ : ∃ m, m = stampN ver i := ⟨_, rfl⟩
  rw [show payO D at_ n ver i = _ from if_neg h1, ← hst]
  rw [← hst] at c1 c3
  obtain ⟨raw, hraw⟩ : ∃ m, m = D.readS (at_ + (i : Nat)) := ⟨_, rfl⟩
  obtain ⟨e, he⟩ : ∃ m, m = D.readE (at_ + (i : Nat)) := ⟨_, rfl⟩
  rw [← hraw, ← he]
  rw [← hraw] at c2 c3
  rw [← he] at c2
  clear hst hraw he
  by_cases hz : e = 0
  · subst hz
    rw [if_neg (by simp)]
    have c2' : Ct Tryd.prog W 26 [.pointer (some ⟨p, 0, none⟩), .int .i64 (at_ + (i : Nat))] [DiskP p D] (fun _ : Unit => .tuple #[strV raw, .nilIface]) (fun _ => [DiskP p D]) := c2
    refine Ct.enter Tryd.func123 rfl Tryd.ntmps123 (by simp) (fun R => ?_)
    repeat' (first 
    | refine KJ_stp (by first | constructor | fail) ?_
    | (refine is_oper ?_; first | (refine is_box ?_; first | (refine KJ_box rfl (by first | exact CellsOf.agg | exact CellsOf.one rfl) rfl (fun g1 => ?_)) | (refine KJ_box rfl (by first | exact CellsOf.agg | exact CellsOf.one rfl) rfl (fun _ => ?_))) | (refine is_call ?_; first | (refine KJ_call (by (repeat' (first | exact Evs.nil | refine Evs.cons rfl ?_)); first | done | fail) c3 (by (repeat' (first | exact Pick.nil | apply Pick.cons | exact Sel.here | apply Sel.there)); first | done | fail) rfl (fun _ => ?_)) | (refine KJ_call (by (repeat' (first | exact Evs.nil | refine Evs.cons rfl ?_)); first | done | fail) c2' (by (repeat' (first | exact Pick.nil | apply Pick.cons | exact Sel.here | apply Sel.there)); first | done | fail) rfl (fun _ => ?_)) | (refine KJ_call (by (repeat' (first | exact Evs.nil | refine Evs.cons rfl ?_)); first | done | fail) c1 (by (repeat' (first | exact Pick.nil | apply Pick.cons | exact Sel.here | apply Sel.there)); first | done | fail) rfl (fun _ => ?_))) | (refine KJ_ek rfl ?_) | (refine KJ_ek0 ?_))
    | (refine is_ek ?_; first | (refine ek_move ?_; first | (refine EK_ev (Ev_move rfl) ?_)) | (refine ek_assign ?_; first | (refine EK_ev (Ev_assign rfl) ?_)) | (refine ek_fieldAddr ?_; first | (refine EK_ev (Ev_field rfl) ?_)) | (refine ek_load ?_; first | (refine EK_ev (Ev_loadAgg rfl (by (repeat' (first | exact Sel.here | apply Sel.there)); first | done | fail) (by (repeat' (first | exact Cut.nil | apply Cut.cons | apply Cut.skip)); first | done | fail)) ?_) | (refine EK_ev (Ev_load rfl (by (repeat' (first | exact Sel.here | apply Sel.there)); first | done | fail) (by rfl)) ?_) | (refine EK_ev (Ev_load rfl (by (repeat' (first | exact Sel.here | apply Sel.there)); first | done | fail) (by rfl)) ?_) | (refine EK_ev (Ev_loadOld rfl (by assumption)) ?_) | (refine EK_ev (Ev_loadAgg rfl (by (repeat' (first | exact Sel.here | apply Sel.there)); first | done | fail) (by (repeat' (first | exact Cut.nil | apply Cut.cons | apply Cut.skip)); first | done | fail)) ?_)) | (refine ek_extract ?_; first | (refine EK_ev (Ev_extract rfl rfl) ?_)) | (refine ek_add ?_; first | (refine EK_ev (Ev_addI rfl rfl (by omega)) ?_) | (refine EK_ev (Ev_addS rfl rfl (by simp <;> omega)) ?_) | (refine EK_ev (Ev_add rfl rfl) ?_)) | (refine ek_neq ?_; first | (refine EK_ev (Ev_neqI rfl rfl) ?_) | (refine EK_ev (Ev_neqS rfl rfl) ?_) | (refine EK_ev (Ev_neqNil rfl rfl) ?_) | (refine EK_ev (Ev_neqB rfl rfl) ?_) | (refine EK_ev (Ev_neqO rfl rfl rfl (fun _ => rfl)) ?_)) | (refine ek_geq ?_; first | (refine EK_ev (Ev_geqI_q rfl rfl q1) ?_) | (refine EK_ev (Ev_geqI rfl rfl) ?_) | (refine EK_ev (Ev_geqS rfl rfl) ?_)))
    | (refine is_ex ?_; first | (refine KJ_blk_exit' rfl ?_))
    | (refine is_code ?_; first | (refine KJ_cond_dec rfl (fun _ => ?_) (fun _ => ?_) <;> first | (exfalso; omega) | skip) | (refine KJ_cond_t rfl ?_) | (refine KJ_cond_f rfl ?_)))
    all_goals (refine is_ex ?_; exact KJ_done (by first | exact Or.inl rfl | exact Or.inr rfl) rfl (by (repeat' (first | exact Rvs.nil | (apply Rvs.tmp; exact rfl))); first | done | fail) () (by rfl) (Ent.of (by (repeat' (first | exact Pick.nil | apply Pick.cons | exact Sel.here | apply Sel.there)); first | done | fail) (by (repeat' (first | exact DropTo.refl | apply DropTo.there)); first | done | fail)))
  · rw [if_pos hz]
    obtain ⟨ea, hea⟩ := errV_ne (E := E) hz
    rw [hea] at c2
    refine Ct.enter Tryd.func123 rfl Tryd.ntmps123 (by simp) (fun R => ?_)
    repeat' (first 
    | refine KJ_stp (by first | constructor | fail) ?_
    | (refine is_oper ?_; first | (refine is_box ?_; first | (refine KJ_box rfl (by first | exact CellsOf.agg | exact CellsOf.one rfl) rfl (fun g1 => ?_)) | (refine KJ_box rfl (by first | exact CellsOf.agg | exact CellsOf.one rfl) rfl (fun _ => ?_))) | (refine is_call ?_; first | (refine KJ_call (by (repeat' (first | exact Evs.nil | refine Evs.cons rfl ?_)); first | done | fail) c2 (by (repeat' (first | exact Pick.nil | apply Pick.cons | exact Sel.here | apply Sel.there)); first | done | fail) rfl (fun _ => ?_)) | (refine KJ_call (by (repeat' (first | exact Evs.nil | refine Evs.cons rfl ?_)); first | done | fail) c1 (by (repeat' (first | exact Pick.nil | apply Pick.cons | exact Sel.here | apply Sel.there)); first | done | fail) rfl (fun _ => ?_))) | (refine KJ_ek rfl ?_) | (refine KJ_ek0 ?_))
    | (refine is_ek ?_; first | (refine ek_move ?_; first | (refine EK_ev (Ev_move rfl) ?_)) | (refine ek_assign ?_; first | (refine EK_ev (Ev_assign rfl) ?_)) | (refine ek_fieldAddr ?_; first | (refine EK_ev (Ev_field rfl) ?_)) | (refine ek_load ?_; first | (refine EK_ev (Ev_loadAgg rfl (by (repeat' (first | exact Sel.here | apply Sel.there)); first | done | fail) (by (repeat' (first | exact Cut.nil | apply Cut.cons | apply Cut.skip)); first | done | fail)) ?_) | (refine EK_ev (Ev_load rfl (by (repeat' (first | exact Sel.here | apply Sel.there)); first | done | fail) (by rfl)) ?_) | (refine EK_ev (Ev_load rfl (by (repeat' (first | exact Sel.here | apply Sel.there)); first | done | fail) (by rfl)) ?_) | (refine EK_ev (Ev_loadOld rfl (by assumption)) ?_) | (refine EK_ev (Ev_loadAgg rfl (by (repeat' (first | exact Sel.here | apply Sel.there)); first | done | fail) (by (repeat' (first | exact Cut.nil | apply Cut.cons | apply Cut.skip)); first | done | fail)) ?_)) | (refine ek_extract ?_; first | (refine EK_ev (Ev_extract rfl rfl) ?_)) | (refine ek_add ?_; first | (refine EK_ev (Ev_addI rfl rfl (by omega)) ?_) | (refine EK_ev (Ev_addS rfl rfl (by simp <;> omega)) ?_) | (refine EK_ev (Ev_add rfl rfl) ?_)) | (refine ek_neq ?_; first | (refine EK_ev (Ev_neqI rfl rfl) ?_) | (refine EK_ev (Ev_neqS rfl rfl) ?_) | (refine EK_ev (Ev_neqNil rfl rfl) ?_) | (refine EK_ev (Ev_neqB rfl rfl) ?_) | (refine EK_ev (Ev_neqO rfl rfl rfl (fun _ => rfl)) ?_)) | (refine ek_geq ?_; first | (refine EK_ev (Ev_geqI_q rfl rfl q1) ?_) | (refine EK_ev (Ev_geqI rfl rfl) ?_) | (refine EK_ev (Ev_geqS rfl rfl) ?_)))
    | (refine is_ex ?_; first | (refine KJ_blk_exit' rfl ?_))
    | (refine is_code ?_; first | (refine KJ_cond_dec rfl (fun _ => ?_) (fun _ => ?_) <;> first | (exfalso; omega) | skip) | (refine KJ_cond_t rfl ?_) | (refine KJ_cond_f rfl ?_)))
    all_goals (refine is_ex ?_; exact KJ_done (by first | exact Or.inl rfl | exact Or.inr rfl) rfl (by (repeat' (first | exact Rvs.nil | (apply Rvs.tmp; exact rfl))); first | done | fail) () (by rfl) (Ent.of (by (repeat' (first | exact Pick.nil | apply Pick.cons | exact Sel.here | apply Sel.there)); first | done | fail) (by (repeat' (first | exact DropTo.refl | apply DropTo.there)); first | done | fail)))
/-- what record answers -/
def recV (o : Option (List UInt8 × Int)) : Value := match o with
  | none => .tuple #[strV [], .int .i64 0, .bool false]
  | some (s, u) => .tuple #[strV s, .int .i64 u, .bool true]
set_option maxHeartbeats 2000000 in
set_option maxRecDepth 100000 in
theorem record_ct (hE : ErrsOn L8 W E) (hN : NibAt W) (at_ n : Int) (ver i : Nat) (hat : 0 ≤ at_ ∧ at_ ≤ 65536) (hn : n ≤ 65536) (hver : 1 ≤ ver ∧ ver ≤ 1099511627776) (hi : (i : Int) ≤ n) : Ct Tryd.prog W 102 [.agg #[.pointer (some ⟨p, 0, none⟩), .int .i64 at_, .int .i64 n, .int .i64 (ver : Nat)], .int .i64 (i : Nat)] [DiskP p D] (fun _ : Unit => recV (recO D at_ n ver i)) (fun _ => [DiskP p D]) := by
  have c1 := payload_ct (p := p) (D := D) hE hN at_ n ver i hat hn hver (by omega)
  have cp := fun k (hk : (i : Int) + (k : Nat) ≤ 131072) => payload_ct (p := p) (D := D) hE hN at_ n ver (i + k) hat hn hver (by omega)
  obtain ⟨res, hres⟩ : ∃ res, res = recO D at_ n ver i := ⟨_, rfl⟩
  rw [← hres]
  unfold recO at hres
  obtain ⟨o, ho⟩ : ∃ o, o = payO D at_ n ver i := ⟨_, rfl⟩
  rw [← ho] at c1 hres
  clear ho
  cases o with
  | none =>
    subst hres
    have c1' : Ct Tryd.prog W 123 [.agg #[.pointer (some ⟨p, 0, none⟩), .int .i64 at_, .int .i64 n, .int .i64 (ver : Nat)], .int .i64 (i : Nat)] [DiskP p D] (fun _ : Unit => .tuple #[strV [], .bool false]) (fun _ => [DiskP p D]) := c1
    show Ct _ _ _ _ _ (fun _ : Unit => .tuple #[strV [], .int .i64 0, .bool false]) _
    refine Ct.enter Tryd.func102 rfl Tryd.ntmps102 (by simp) (fun R => ?_)
    repeat' (first 
    | refine KJ_stp (by first | constructor | fail) ?_
    | (refine is_list ?_; first | (refine KJ_guard_dec_t rfl rfl rfl (fun _ => ?_) (fun _ => ?_) <;> first | (exfalso; omega) | skip) | (refine KJ_guard_dec_f rfl rfl rfl (fun _ => ?_) (fun _ => ?_) <;> first | (exfalso; omega) | skip) | (refine KJ_guard_yes rfl rfl ?_) | (refine KJ_guard_no rfl rfl rfl rfl ?_))
    | (refine is_oper ?_; first | (refine is_box ?_; first | (refine KJ_box rfl (by first | exact CellsOf.agg | exact CellsOf.one rfl) rfl (fun g2 => ?_)) | (refine KJ_box rfl (by first | exact CellsOf.agg | exact CellsOf.one rfl) rfl (fun _ => ?_))) | (refine is_call ?_; first | (refine KJ_call (by (repeat' (first | exact Evs.nil | refine Evs.cons rfl ?_)); first | done | fail) c1' (by (repeat' (first | exact Pick.nil | apply Pick.cons | exact Sel.here | apply Sel.there)); first | done | fail) rfl (fun _ => ?_))) | (refine KJ_ek rfl ?_) | (refine KJ_ek0 ?_))
    | (refine is_ek ?_; first | (refine ek_move ?_; first | (refine EK_ev (Ev_move rfl) ?_)) | (refine ek_assign ?_; first | (refine EK_ev (Ev_assign rfl) ?_)) | (refine ek_pick ?_; first | (refine EK_ev (Ev_pick_t rfl rfl) ?_) | (refine EK_ev (Ev_pick_f rfl rfl) ?_)) | (refine ek_fieldAddr ?_; first | (refine EK_ev (Ev_field rfl) ?_)) | (refine ek_load ?_; first | (refine EK_ev (Ev_loadAgg rfl (by (repeat' (first | exact Sel.here | apply Sel.there)); first | done | fail) (by (repeat' (first | exact Cut.nil | apply Cut.cons | apply Cut.skip)); first | done | fail)) ?_) | (refine EK_ev (Ev_load rfl (by (repeat' (first | exact Sel.here | apply Sel.there)); first | done | fail) (by rfl)) ?_) | (refine EK_ev (Ev_load rfl (by (repeat' (first | exact Sel.here | apply Sel.there)); first | done | fail) (by rfl)) ?_) | (refine EK_ev (Ev_loadOld rfl (by assumption)) ?_) | (refine EK_ev (Ev_loadAgg rfl (by (repeat' (first | exact Sel.here | apply Sel.there)); first | done | fail) (by (repeat' (first | exact Cut.nil | apply Cut.cons | apply Cut.skip)); first | done | fail)) ?_)) | (refine ek_un ?_; first | (refine EK_ev (Ev_notD rfl) ?_) | (refine EK_ev (Ev_not rfl) ?_) | (refine EK_ev (Ev_neg rfl) ?_)) | (refine ek_conv ?_; first | (refine EK_ev (Ev_convI64 rfl (by omega)) ?_) | (refine EK_ev (Ev_convI rfl) ?_) | (refine EK_ev (Ev_convS rfl) ?_)) | (refine ek_extract ?_; first | (refine EK_ev (Ev_extract rfl rfl) ?_)) | (refine ek_len ?_; first | (refine EK_ev (Ev_len_str rfl) ?_) | (refine EK_ev (Ev_len_slice rfl) ?_) | (refine EK_ev (Ev_len_arr rfl) ?_) | (refine EK_ev (Ev_len_map rfl (by (repeat' (first | exact Sel.here | apply Sel.there)); first | done | fail)) ?_)) | (refine ek_min ?_; first | (refine EK_ev (Ev_min rfl rfl) ?_)) | (refine ek_add ?_; first | (refine EK_ev (Ev_addI rfl rfl (by omega)) ?_) | (refine EK_ev (Ev_addS rfl rfl (by simp <;> omega)) ?_) | (refine EK_ev (Ev_add rfl rfl) ?_)) | (refine ek_sub ?_; first | (refine EK_ev (Ev_subI rfl rfl (by omega)) ?_) | (refine EK_ev (Ev_sub rfl rfl) ?_)) | (refine ek_mul ?_; first | (refine EK_ev (Ev_mulI rfl rfl (by omega)) ?_) | (refine EK_ev (Ev_mul rfl rfl) ?_)) | (refine ek_shl ?_; first | (refine EK_ev (Ev_shl rfl rfl (by omega)) ?_)) | (refine ek_neq ?_; first | (refine EK_ev (Ev_neqI rfl rfl) ?_) | (refine EK_ev (Ev_neqS rfl rfl) ?_) | (refine EK_ev (Ev_neqNil rfl rfl) ?_) | (refine EK_ev (Ev_neqB rfl rfl) ?_) | (refine EK_ev (Ev_neqO rfl rfl rfl (fun _ => rfl)) ?_)) | (refine ek_lss ?_; first | (refine EK_ev (Ev_lssI rfl rfl) ?_) | (refine EK_ev (Ev_lssS rfl rfl) ?_)) | (refine ek_gtr ?_; first | (refine EK_ev (Ev_gtrI rfl rfl) ?_) | (refine EK_ev (Ev_gtrS rfl rfl) ?_)))
    | (refine is_ex ?_; first | (refine KJ_blk_exit' rfl ?_))
    | (refine is_code ?_; first | (refine KJ_cond_dec rfl (fun _ => ?_) (fun _ => ?_) <;> first | (exfalso; omega) | skip) | (refine KJ_cond_t rfl ?_) | (refine KJ_cond_f rfl ?_)))
    all_goals (refine is_ex ?_; exact KJ_done (by first | exact Or.inl rfl | exact Or.inr rfl) rfl (by (repeat' (first | exact Rvs.nil | (apply Rvs.tmp; exact rfl))); first | done | fail) () (by rfl) (Ent.of (by (repeat' (first | exact Pick.nil | apply Pick.cons | exact Sel.here | apply Sel.there)); first | done | fail) (by (repeat' (first | exact DropTo.refl | apply DropTo.there)); first | done | fail)))
  | some q =>
    dsimp only at hres
    have c1' : Ct Tryd.prog W 123 [.agg #[.pointer (some ⟨p, 0, none⟩), .int .i64 at_, .int .i64 n, .int .i64 (ver : Nat)], .int .i64 (i : Nat)] [DiskP p D] (fun _ : Unit => .tuple #[strV q, .bool true]) (fun _ => [DiskP p D]) := c1
    clear c1
    by_cases h5 : q.length < 5
    · rw [if_pos h5] at hres
      subst hres
      have q5 : decide ((q.length : Int) < 5) = true := decide_eq_true (by omega)
      show Ct _ _ _ _ _ (fun _ : Unit => .tuple #[strV [], .int .i64 0, .bool false]) _
      refine Ct.enter Tryd.func102 rfl Tryd.ntmps102 (by simp) (fun R => ?_)
      repeat' (first 
    | refine KJ_stp (by first | constructor | fail) ?_
    | (refine is_list ?_; first | (refine KJ_guard_dec_t rfl rfl rfl (fun _ => ?_) (fun _ => ?_) <;> first | (exfalso; omega) | skip) | (refine KJ_guard_dec_f rfl rfl rfl (fun _ => ?_) (fun _ => ?_) <;> first | (exfalso; omega) | skip) | (refine KJ_guard_yes rfl rfl ?_) | (refine KJ_guard_no rfl rfl rfl rfl ?_))
    | (refine is_oper ?_; first | (refine is_box ?_; first | (refine KJ_box rfl (by first | exact CellsOf.agg | exact CellsOf.one rfl) rfl (fun g2 => ?_)) | (refine KJ_box rfl (by first | exact CellsOf.agg | exact CellsOf.one rfl) rfl (fun _ => ?_))) | (refine is_call ?_; first | (refine KJ_call (by (repeat' (first | exact Evs.nil | refine Evs.cons rfl ?_)); first | done | fail) c1' (by (repeat' (first | exact Pick.nil | apply Pick.cons | exact Sel.here | apply Sel.there)); first | done | fail) rfl (fun _ => ?_))) | (refine KJ_ek rfl ?_) | (refine KJ_ek0 ?_))
    | (refine is_ek ?_; first | (refine ek_move ?_; first | (refine EK_ev (Ev_move rfl) ?_)) | (refine ek_assign ?_; first | (refine EK_ev (Ev_assign rfl) ?_)) | (refine ek_pick ?_; first | (refine EK_ev (Ev_pick_t rfl rfl) ?_) | (refine EK_ev (Ev_pick_f rfl rfl) ?_)) | (refine ek_fieldAddr ?_; first | (refine EK_ev (Ev_field rfl) ?_)) | (refine ek_load ?_; first | (refine EK_ev (Ev_loadAgg rfl (by (repeat' (first | exact Sel.here | apply Sel.there)); first | done | fail) (by (repeat' (first | exact Cut.nil | apply Cut.cons | apply Cut.skip)); first | done | fail)) ?_) | (refine EK_ev (Ev_load rfl (by (repeat' (first | exact Sel.here | apply Sel.there)); first | done | fail) (by rfl)) ?_) | (refine EK_ev (Ev_load rfl (by (repeat' (first | exact Sel.here | apply Sel.there)); first | done | fail) (by rfl)) ?_) | (refine EK_ev (Ev_loadOld rfl (by assumption)) ?_) | (refine EK_ev (Ev_loadAgg rfl (by (repeat' (first | exact Sel.here | apply Sel.there)); first | done | fail) (by (repeat' (first | exact Cut.nil | apply Cut.cons | apply Cut.skip)); first | done | fail)) ?_)) | (refine ek_un ?_; first | (refine EK_ev (Ev_notD rfl) ?_) | (refine EK_ev (Ev_not rfl) ?_) | (refine EK_ev (Ev_neg rfl) ?_)) | (refine ek_conv ?_; first | (refine EK_ev (Ev_convI64 rfl (by omega)) ?_) | (refine EK_ev (Ev_convI rfl) ?_) | (refine EK_ev (Ev_convS rfl) ?_)) | (refine ek_extract ?_; first | (refine EK_ev (Ev_extract rfl rfl) ?_)) | (refine ek_len ?_; first | (refine EK_ev (Ev_len_str rfl) ?_) | (refine EK_ev (Ev_len_slice rfl) ?_) | (refine EK_ev (Ev_len_arr rfl) ?_) | (refine EK_ev (Ev_len_map rfl (by (repeat' (first | exact Sel.here | apply Sel.there)); first | done | fail)) ?_)) | (refine ek_min ?_; first | (refine EK_ev (Ev_min rfl rfl) ?_)) | (refine ek_add ?_; first | (refine EK_ev (Ev_addI rfl rfl (by omega)) ?_) | (refine EK_ev (Ev_addS rfl rfl (by simp <;> omega)) ?_) | (refine EK_ev (Ev_add rfl rfl) ?_)) | (refine ek_sub ?_; first | (refine EK_ev (Ev_subI rfl rfl (by omega)) ?_) | (refine EK_ev (Ev_sub rfl rfl) ?_)) | (refine ek_mul ?_; first | (refine EK_ev (Ev_mulI rfl rfl (by omega)) ?_) | (refine EK_ev (Ev_mul rfl rfl) ?_)) | (refine ek_shl ?_; first | (refine EK_ev (Ev_shl rfl rfl (by omega)) ?_)) | (refine ek_neq ?_; first | (refine EK_ev (Ev_neqI rfl rfl) ?_) | (refine EK_ev (Ev_neqS rfl rfl) ?_) | (refine EK_ev (Ev_neqNil rfl rfl) ?_) | (refine EK_ev (Ev_neqB rfl rfl) ?_) | (refine EK_ev (Ev_neqO rfl rfl rfl (fun _ => rfl)) ?_)) | (refine ek_lss ?_; first | (refine EK_ev (Ev_lssI_q rfl rfl q5) ?_) | (refine EK_ev (Ev_lssI rfl rfl) ?_) | (refine EK_ev (Ev_lssS rfl rfl) ?_)) | (refine ek_gtr ?_; first | (refine EK_ev (Ev_gtrI rfl rfl) ?_) | (refine EK_ev (Ev_gtrS rfl rfl) ?_)))
    | (refine is_ex ?_; first | (refine KJ_blk_exit' rfl ?_))
    | (refine is_code ?_; first | (refine KJ_cond_dec rfl (fun _ => ?_) (fun _ => ?_) <;> first | (exfalso; omega) | skip) | (refine KJ_cond_t rfl ?_) | (refine KJ_cond_f rfl ?_)))
      all_goals (refine is_ex ?_; exact KJ_done (by first | exact Or.inl rfl | exact Or.inr rfl) rfl (by (repeat' (first | exact Rvs.nil | (apply Rvs.tmp; exact rfl))); first | done | fail) () (by rfl) (Ent.of (by (repeat' (first | exact Pick.nil | apply Pick.cons | exact Sel.here | apply Sel.there)); first | done | fail) (by (repeat' (first | exact DropTo.refl | apply DropTo.there)); first | done | fail)))
    rw [if_neg h5] at hres
    have q5 : decide ((q.length : Int) < 5) = false := decide_eq_false (by omega)
    obtain ⟨c0, hc0⟩ : ∃ c, q[(0 : Int).toNat]? = some c := ⟨_, List.getElem?_eq_getElem (by show 0 < q.length; omega)⟩
    have hg0 : q.getD 0 0 = c0 := by rw [List.getD]; rw [show q[0]? = some c0 from hc0]; rfl
    rw [hg0] at hres
    by_cases h6 : c0 = 1
    rotate_left
    · rw [if_pos h6] at hres
      subst hres
      have h6' : ((c0.toNat : Nat) : Int) ≠ 1 := by
        intro e
        apply h6
        apply UInt8.toNat_inj.1
        show c0.toNat = 1
        omega
      show Ct _ _ _ _ _ (fun _ : Unit => .tuple #[strV [], .int .i64 0, .bool false]) _
      refine Ct.enter Tryd.func102 rfl Tryd.ntmps102 (by simp) (fun R => ?_)
      repeat' (first 
    | refine KJ_stp (by first | constructor | fail) ?_
    | (refine is_list ?_; first | (refine KJ_guard_dec_t rfl rfl rfl (fun _ => ?_) (fun _ => ?_) <;> first | (exfalso; omega) | skip) | (refine KJ_guard_dec_f rfl rfl rfl (fun _ => ?_) (fun _ => ?_) <;> first | (exfalso; omega) | skip) | (refine KJ_guard_yes rfl rfl ?_) | (refine KJ_guard_no rfl rfl rfl rfl ?_))
    | (refine is_oper ?_; first | (refine is_box ?_; first | (refine KJ_box rfl (by first | exact CellsOf.agg | exact CellsOf.one rfl) rfl (fun g2 => ?_)) | (refine KJ_box rfl (by first | exact CellsOf.agg | exact CellsOf.one rfl) rfl (fun _ => ?_))) | (refine is_call ?_; first | (refine KJ_call (by (repeat' (first | exact Evs.nil | refine Evs.cons rfl ?_)); first | done | fail) c1' (by (repeat' (first | exact Pick.nil | apply Pick.cons | exact Sel.here | apply Sel.there)); first | done | fail) rfl (fun _ => ?_))) | (refine KJ_ek rfl ?_) | (refine KJ_ek0 ?_))
    | (refine is_ek ?_; first | (refine ek_move ?_; first | (refine EK_ev (Ev_move rfl) ?_)) | (refine ek_assign ?_; first | (refine EK_ev (Ev_assign rfl) ?_)) | (refine ek_pick ?_; first | (refine EK_ev (Ev_pick_t rfl rfl) ?_) | (refine EK_ev (Ev_pick_f rfl rfl) ?_)) | (refine ek_fieldAddr ?_; first | (refine EK_ev (Ev_field rfl) ?_)) | (refine ek_load ?_; first | (refine EK_ev (Ev_loadAgg rfl (by (repeat' (first | exact Sel.here | apply Sel.there)); first | done | fail) (by (repeat' (first | exact Cut.nil | apply Cut.cons | apply Cut.skip)); first | done | fail)) ?_) | (refine EK_ev (Ev_load rfl (by (repeat' (first | exact Sel.here | apply Sel.there)); first | done | fail) (by rfl)) ?_) | (refine EK_ev (Ev_load rfl (by (repeat' (first | exact Sel.here | apply Sel.there)); first | done | fail) (by rfl)) ?_) | (refine EK_ev (Ev_loadOld rfl (by assumption)) ?_) | (refine EK_ev (Ev_loadAgg rfl (by (repeat' (first | exact Sel.here | apply Sel.there)); first | done | fail) (by (repeat' (first | exact Cut.nil | apply Cut.cons | apply Cut.skip)); first | done | fail)) ?_)) | (refine ek_un ?_; first | (refine EK_ev (Ev_notD rfl) ?_) | (refine EK_ev (Ev_not rfl) ?_) | (refine EK_ev (Ev_neg rfl) ?_)) | (refine ek_conv ?_; first | (refine EK_ev (Ev_convI64 rfl (by omega)) ?_) | (refine EK_ev (Ev_convI rfl) ?_) | (refine EK_ev (Ev_convS rfl) ?_)) | (refine ek_extract ?_; first | (refine EK_ev (Ev_extract rfl rfl) ?_)) | (refine ek_index ?_; first | (refine EK_ev (Ev_indexStr rfl rfl (by omega) hc0) ?_)) | (refine ek_len ?_; first | (refine EK_ev (Ev_len_str rfl) ?_) | (refine EK_ev (Ev_len_slice rfl) ?_) | (refine EK_ev (Ev_len_arr rfl) ?_) | (refine EK_ev (Ev_len_map rfl (by (repeat' (first | exact Sel.here | apply Sel.there)); first | done | fail)) ?_)) | (refine ek_min ?_; first | (refine EK_ev (Ev_min rfl rfl) ?_)) | (refine ek_add ?_; first | (refine EK_ev (Ev_addI rfl rfl (by omega)) ?_) | (refine EK_ev (Ev_addS rfl rfl (by simp <;> omega)) ?_) | (refine EK_ev (Ev_add rfl rfl) ?_)) | (refine ek_sub ?_; first | (refine EK_ev (Ev_subI rfl rfl (by omega)) ?_) | (refine EK_ev (Ev_sub rfl rfl) ?_)) | (refine ek_mul ?_; first | (refine EK_ev (Ev_mulI rfl rfl (by omega)) ?_) | (refine EK_ev (Ev_mul rfl rfl) ?_)) | (refine ek_shl ?_; first | (refine EK_ev (Ev_shl rfl rfl (by omega)) ?_)) | (refine ek_neq ?_; first | (refine EK_ev (Ev_neqI_t rfl rfl h6') ?_) | (refine EK_ev (Ev_neqI rfl rfl) ?_) | (refine EK_ev (Ev_neqS rfl rfl) ?_) | (refine EK_ev (Ev_neqNil rfl rfl) ?_) | (refine EK_ev (Ev_neqB rfl rfl) ?_) | (refine EK_ev (Ev_neqO rfl rfl rfl (fun _ => rfl)) ?_)) | (refine ek_lss ?_; first | (refine EK_ev (Ev_lssI_q rfl rfl q5) ?_) | (refine EK_ev (Ev_lssI rfl rfl) ?_) | (refine EK_ev (Ev_lssS rfl rfl) ?_)) | (refine ek_gtr ?_; first | (refine EK_ev (Ev_gtrI rfl rfl) ?_) | (refine EK_ev (Ev_gtrS rfl rfl) ?_)))
    | (refine is_ex ?_; first | (refine KJ_blk_exit' rfl ?_))
    | (refine is_code ?_; first | (refine KJ_cond_dec rfl (fun _ => ?_) (fun _ => ?_) <;> first | (exfalso; omega) | skip) | (refine KJ_cond_t rfl ?_) | (refine KJ_cond_f rfl ?_)))
      all_goals (refine is_ex ?_; exact KJ_done (by first | exact Or.inl rfl | exact Or.inr rfl) rfl (by (repeat' (first | exact Rvs.nil | (apply Rvs.tmp; exact rfl))); first | done | fail) () (by rfl) (Ent.of (by (repeat' (first | exact Pick.nil | apply Pick.cons | exact Sel.here | apply Sel.there)); first | done | fail) (by (repeat' (first | exact DropTo.refl | apply DropTo.there)); first | done | fail)))
    rw [if_neg (by simpa using h6)] at hres
    have h6' : ((c0.toNat : Nat) : Int) = 1 := by rw [h6]; rfl
    refine Ct.enter Tryd.func102 rfl Tryd.ntmps102 (by simp) (fun R => ?_)
    repeat' (first 
    | refine KJ_stp (by first | constructor | fail) ?_
    | (refine is_list ?_; first | (refine KJ_guard_dec_t rfl rfl rfl (fun _ => ?_) (fun _ => ?_) <;> first | (exfalso; omega) | skip) | (refine KJ_guard_dec_f rfl rfl rfl (fun _ => ?_) (fun _ => ?_) <;> first | (exfalso; omega) | skip) | (refine KJ_guard_yes rfl rfl ?_) | (refine KJ_guard_no rfl rfl rfl rfl ?_))
    | (refine is_oper ?_; first | (refine is_box ?_; first | (refine KJ_box rfl (by first | exact CellsOf.agg | exact CellsOf.one rfl) rfl (fun g2 => ?_)) | (refine KJ_box rfl (by first | exact CellsOf.agg | exact CellsOf.one rfl) rfl (fun _ => ?_))) | (refine is_call ?_; first | (refine KJ_call (by (repeat' (first | exact Evs.nil | refine Evs.cons rfl ?_)); first | done | fail) c1' (by (repeat' (first | exact Pick.nil | apply Pick.cons | exact Sel.here | apply Sel.there)); first | done | fail) rfl (fun _ => ?_))) | (refine KJ_ek rfl ?_) | (refine KJ_ek0 ?_))
    | (refine is_ek ?_; first | (refine ek_move ?_; first | (refine EK_ev (Ev_move rfl) ?_)) | (refine ek_assign ?_; first | (refine EK_ev (Ev_assign rfl) ?_)) | (refine ek_pick ?_; first | (refine EK_ev (Ev_pick_t rfl rfl) ?_) | (refine EK_ev (Ev_pick_f rfl rfl) ?_)) | (refine ek_fieldAddr ?_; first | (refine EK_ev (Ev_field rfl) ?_)) | (refine ek_load ?_; first | (refine EK_ev (Ev_loadAgg rfl (by (repeat' (first | exact Sel.here | apply Sel.there)); first | done | fail) (by (repeat' (first | exact Cut.nil | apply Cut.cons | apply Cut.skip)); first | done | fail)) ?_) | (refine EK_ev (Ev_load rfl (by (repeat' (first | exact Sel.here | apply Sel.there)); first | done | fail) (by rfl)) ?_) | (refine EK_ev (Ev_load rfl (by (repeat' (first | exact Sel.here | apply Sel.there)); first | done | fail) (by rfl)) ?_) | (refine EK_ev (Ev_loadOld rfl (by assumption)) ?_) | (refine EK_ev (Ev_loadAgg rfl (by (repeat' (first | exact Sel.here | apply Sel.there)); first | done | fail) (by (repeat' (first | exact Cut.nil | apply Cut.cons | apply Cut.skip)); first | done | fail)) ?_)) | (refine ek_un ?_; first | (refine EK_ev (Ev_notD rfl) ?_) | (refine EK_ev (Ev_not rfl) ?_) | (refine EK_ev (Ev_neg rfl) ?_)) | (refine ek_conv ?_; first | (refine EK_ev (Ev_convI64 rfl (by omega)) ?_) | (refine EK_ev (Ev_convI rfl) ?_) | (refine EK_ev (Ev_convS rfl) ?_)) | (refine ek_extract ?_; first | (refine EK_ev (Ev_extract rfl rfl) ?_)) | (refine ek_index ?_; first | (refine EK_ev (Ev_indexStr rfl rfl (by omega) hc0) ?_)) | (refine ek_len ?_; first | (refine EK_ev (Ev_len_str rfl) ?_) | (refine EK_ev (Ev_len_slice rfl) ?_) | (refine EK_ev (Ev_len_arr rfl) ?_) | (refine EK_ev (Ev_len_map rfl (by (repeat' (first | exact Sel.here | apply Sel.there)); first | done | fail)) ?_)) | (refine ek_min ?_; first | (refine EK_ev (Ev_min rfl rfl) ?_)) | (refine ek_add ?_; first | (refine EK_ev (Ev_addI rfl rfl (by omega)) ?_) | (refine EK_ev (Ev_addS rfl rfl (by simp <;> omega)) ?_) | (refine EK_ev (Ev_add rfl rfl) ?_)) | (refine ek_sub ?_; first | (refine EK_ev (Ev_subI rfl rfl (by omega)) ?_) | (refine EK_ev (Ev_sub rfl rfl) ?_)) | (refine ek_mul ?_; first | (refine EK_ev (Ev_mulI rfl rfl (by omega)) ?_) | (refine EK_ev (Ev_mul rfl rfl) ?_)) | (refine ek_shl ?_; first | (refine EK_ev (Ev_shl rfl rfl (by omega)) ?_)) | (refine ek_neq ?_; first | (refine EK_ev (Ev_neqI_f rfl rfl h6') ?_) | (refine EK_ev (Ev_neqI rfl rfl) ?_) | (refine EK_ev (Ev_neqS rfl rfl) ?_) | (refine EK_ev (Ev_neqNil rfl rfl) ?_) | (refine EK_ev (Ev_neqB rfl rfl) ?_) | (refine EK_ev (Ev_neqO rfl rfl rfl (fun _ => rfl)) ?_)) | (refine ek_lss ?_; first | (refine EK_ev (Ev_lssI_q rfl rfl q5) ?_) | (refine EK_ev (Ev_lssI rfl rfl) ?_) | (refine EK_ev (Ev_lssS rfl rfl) ?_)) | (refine ek_gtr ?_; first | (refine EK_ev (Ev_gtrI rfl rfl) ?_) | (refine EK_ev (Ev_gtrS rfl rfl) ?_)))
    | (refine is_ex ?_; first | (refine KJ_blk_exit' rfl ?_))
    | (refine is_code ?_; first | (refine KJ_cond_dec rfl (fun _ => ?_) (fun _ => ?_) <;> first | (exfalso; omega) | skip) | (refine KJ_cond_t rfl ?_) | (refine KJ_cond_f rfl ?_)))
    refine KJ_loop (fun k : {k : Nat // k ≤ 4} => [(1, .int .i64 (i : Nat)), (2, .pointer (some ⟨g2, 0, none⟩)), (7, strV q), (9, .int .i64 (sizeGo q k.1)), (32, .int .i64 (k.1 : Nat))]) (fun _ => [DiskP p D, cellsP g2 [.pointer (some ⟨p, 0, none⟩), .int .i64 at_, .int .i64 n, .int .i64 (ver : Nat)] 163] ++ R) (fun k => 4 - k.1) ⟨0, by omega⟩ (by (repeat' (first | exact Subs.nil | refine Subs.cons rfl ?_)); first | done | fail) (Ent.of (by (repeat' (first | exact Pick.nil | apply Pick.cons | exact Sel.here | apply Sel.there)); first | done | fail) (by (repeat' (first | exact DropTo.refl | apply DropTo.there)); first | done | fail)) (fun ⟨k, hk⟩ => ?_)
    dsimp only
    by_cases hlt : k < 4
    · have ql : decide ((k : Int) < 4) = true := decide_eq_true (by omega)
      obtain ⟨c, hc⟩ : ∃ c, q[((k + 1 : Nat) : Int).toNat]? = some c := ⟨_, List.getElem?_eq_getElem (by omega)⟩
      have hgc : q.getD (1 + k) 0 = c := by
        rw [show ((k + 1 : Nat) : Int).toNat = 1 + k by omega] at hc
        rw [List.getD, hc]; rfl
      have hcb := UInt8.toNat_lt c
      obtain ⟨sh, hsh⟩ : ∃ sh, IntKind.i64.wrap ((c.toNat : Int) * 2 ^ (min (8 * (k : Int)).toNat IntKind.i64.bits)) = sh := ⟨_, rfl⟩
      have hor : bits .or .i64 (sizeGo q k) sh = sizeGo q (k + 1) := by rw [← hsh, ← hgc]; rfl
      repeat' (first 
    | refine KJ_stp (by first | constructor | fail) ?_
    | (refine is_list ?_; first | (refine KJ_guard_dec_t rfl rfl rfl (fun _ => ?_) (fun _ => ?_) <;> first | (exfalso; omega) | skip) | (refine KJ_guard_dec_f rfl rfl rfl (fun _ => ?_) (fun _ => ?_) <;> first | (exfalso; omega) | skip) | (refine KJ_guard_yes rfl rfl ?_) | (refine KJ_guard_no rfl rfl rfl rfl ?_))
    | (refine is_oper ?_; first | (refine is_box ?_; first | (refine KJ_box rfl (by first | exact CellsOf.agg | exact CellsOf.one rfl) rfl (fun _ => ?_))) | (refine KJ_ek rfl ?_) | (refine KJ_ek0 ?_))
    | (refine is_ek ?_; first | (refine ek_move ?_; first | (refine EK_ev (Ev_move rfl) ?_)) | (refine ek_assign ?_; first | (refine EK_ev (Ev_assign rfl) ?_)) | (refine ek_pick ?_; first | (refine EK_ev (Ev_pick_t rfl rfl) ?_) | (refine EK_ev (Ev_pick_f rfl rfl) ?_)) | (refine ek_fieldAddr ?_; first | (refine EK_ev (Ev_field rfl) ?_)) | (refine ek_load ?_; first | (refine EK_ev (Ev_loadAgg rfl (by (repeat' (first | exact Sel.here | apply Sel.there)); first | done | fail) (by (repeat' (first | exact Cut.nil | apply Cut.cons | apply Cut.skip)); first | done | fail)) ?_) | (refine EK_ev (Ev_load rfl (by (repeat' (first | exact Sel.here | apply Sel.there)); first | done | fail) (by rfl)) ?_) | (refine EK_ev (Ev_load rfl (by (repeat' (first | exact Sel.here | apply Sel.there)); first | done | fail) (by rfl)) ?_) | (refine EK_ev (Ev_loadOld rfl (by assumption)) ?_) | (refine EK_ev (Ev_loadAgg rfl (by (repeat' (first | exact Sel.here | apply Sel.there)); first | done | fail) (by (repeat' (first | exact Cut.nil | apply Cut.cons | apply Cut.skip)); first | done | fail)) ?_)) | (refine ek_un ?_; first | (refine EK_ev (Ev_notD rfl) ?_) | (refine EK_ev (Ev_not rfl) ?_) | (refine EK_ev (Ev_neg rfl) ?_)) | (refine ek_conv ?_; first | (refine EK_ev (Ev_convI64 rfl (by omega)) ?_) | (refine EK_ev (Ev_convI64 rfl (by omega)) ?_) | (refine EK_ev (Ev_convI rfl) ?_) | (refine EK_ev (Ev_convS rfl) ?_)) | (refine ek_extract ?_; first | (refine EK_ev (Ev_extract rfl rfl) ?_)) | (refine ek_index ?_; first | (refine EK_ev (Ev_indexStr rfl rfl (by omega) hc) ?_)) | (refine ek_len ?_; first | (refine EK_ev (Ev_len_str rfl) ?_) | (refine EK_ev (Ev_len_slice rfl) ?_) | (refine EK_ev (Ev_len_arr rfl) ?_) | (refine EK_ev (Ev_len_map rfl (by (repeat' (first | exact Sel.here | apply Sel.there)); first | done | fail)) ?_)) | (refine ek_min ?_; first | (refine EK_ev (Ev_min rfl rfl) ?_)) | (refine ek_add ?_; first | (refine EK_ev (Ev_addI_v (r := ((k + 1 : Nat) : Int)) rfl rfl (by omega) (by omega)) ?_) | (refine EK_ev (Ev_addI rfl rfl (by omega)) ?_) | (refine EK_ev (Ev_addS rfl rfl (by simp <;> omega)) ?_) | (refine EK_ev (Ev_add rfl rfl) ?_)) | (refine ek_sub ?_; first | (refine EK_ev (Ev_subI rfl rfl (by omega)) ?_) | (refine EK_ev (Ev_sub rfl rfl) ?_)) | (refine ek_mul ?_; first | (refine EK_ev (Ev_mulI rfl rfl (by omega)) ?_) | (refine EK_ev (Ev_mul rfl rfl) ?_)) | (refine ek_or ?_; first | (refine EK_ev (Ev_or_w rfl rfl hor) ?_)) | (refine ek_shl ?_; first | (refine EK_ev (Ev_shl_w rfl rfl (by omega) hsh) ?_) | (refine EK_ev (Ev_shl rfl rfl (by omega)) ?_)) | (refine ek_neq ?_; first | (refine EK_ev (Ev_neqI rfl rfl) ?_) | (refine EK_ev (Ev_neqS rfl rfl) ?_) | (refine EK_ev (Ev_neqNil rfl rfl) ?_) | (refine EK_ev (Ev_neqB rfl rfl) ?_) | (refine EK_ev (Ev_neqO rfl rfl rfl (fun _ => rfl)) ?_)) | (refine ek_lss ?_; first | (refine EK_ev (Ev_lssI_q rfl rfl ql) ?_) | (refine EK_ev (Ev_lssI rfl rfl) ?_) | (refine EK_ev (Ev_lssS rfl rfl) ?_)) | (refine ek_gtr ?_; first | (refine EK_ev (Ev_gtrI rfl rfl) ?_) | (refine EK_ev (Ev_gtrS rfl rfl) ?_)))
    | (refine is_ex ?_; first | (refine KJ_blk_exit' rfl ?_))
    | (refine is_code ?_; first | (refine KJ_cond_dec rfl (fun _ => ?_) (fun _ => ?_) <;> first | (exfalso; omega) | skip) | (refine KJ_cond_t rfl ?_) | (refine KJ_cond_f rfl ?_)))
      all_goals exact KJ_again ⟨k + 1, by omega⟩ (by show 4 - (k + 1) < 4 - k; omega) (by (repeat' (first | exact Subs.nil | refine Subs.cons rfl ?_)); first | done | fail) (Ent.of (by (repeat' (first | exact Pick.nil | apply Pick.cons | exact Sel.here | apply Sel.there)); first | done | fail) (by (repeat' (first | exact DropTo.refl | apply DropTo.there)); first | done | fail))
    have hk4 : k = 4 := by omega
    subst hk4
    have ql : decide (((4 : Nat) : Int) < 4) = false := by decide
    have hsz := sizeGo_range q 4
    obtain ⟨size, hsize⟩ : ∃ s, s = sizeGo q 4 := ⟨_, rfl⟩
    rw [← hsize] at hsz hres ⊢
    clear hsize
    have c2 := cost_ct (W := W) size hsz.2
    have hcost : costI size = if size < 0 then 0 else if size ≤ 229 then 1 else 2 + (size - 230) / 233 := rfl
    obtain ⟨need, hneed⟩ : ∃ m, m = costI size := ⟨_, rfl⟩
    rw [← hneed] at c2 hres hcost
    clear hneed
    obtain ⟨q5', hq5⟩ : ∃ x, q.drop (5 : Int).toNat = x := ⟨_, rfl⟩
    rw [show q.drop 5 = q5' from hq5] at hres
    have hq5l : q5'.length = q.length - 5 := by rw [← hq5]; exact List.length_drop
    by_cases h7 : n - (i : Int) < need
    · rw [if_pos h7] at hres
      subst hres
      have q7 : decide (n - (i : Int) < need) = true := decide_eq_true h7
      repeat' (first 
    | refine KJ_stp (by first | constructor | fail) ?_
    | (refine is_list ?_; first | (refine KJ_guard_dec_t rfl rfl rfl (fun _ => ?_) (fun _ => ?_) <;> first | (exfalso; omega) | skip) | (refine KJ_guard_dec_f rfl rfl rfl (fun _ => ?_) (fun _ => ?_) <;> first | (exfalso; omega) | skip) | (refine KJ_guard_yes rfl rfl ?_) | (refine KJ_guard_no rfl rfl rfl rfl ?_))
    | (refine is_oper ?_; first | (refine is_box ?_; first | (refine KJ_box rfl (by first | exact CellsOf.agg | exact CellsOf.one rfl) rfl (fun _ => ?_))) | (refine is_call ?_; first | (refine KJ_call (by (repeat' (first | exact Evs.nil | refine Evs.cons rfl ?_)); first | done | fail) c2 (by (repeat' (first | exact Pick.nil | apply Pick.cons | exact Sel.here | apply Sel.there)); first | done | fail) rfl (fun _ => ?_))) | (refine is_econv ?_; first | (refine KJ_bufOf rfl rfl (fun g3 c3 => ?_))) | (refine KJ_ek rfl ?_) | (refine KJ_ek0 ?_))
    | (refine is_ek ?_; first | (refine ek_move ?_; first | (refine EK_ev (Ev_move rfl) ?_)) | (refine ek_assign ?_; first | (refine EK_ev (Ev_assign rfl) ?_)) | (refine ek_pick ?_; first | (refine EK_ev (Ev_pick_t rfl rfl) ?_) | (refine EK_ev (Ev_pick_f rfl rfl) ?_)) | (refine ek_fieldAddr ?_; first | (refine EK_ev (Ev_field rfl) ?_)) | (refine ek_load ?_; first | (refine EK_ev (Ev_loadAgg rfl (by (repeat' (first | exact Sel.here | apply Sel.there)); first | done | fail) (by (repeat' (first | exact Cut.nil | apply Cut.cons | apply Cut.skip)); first | done | fail)) ?_) | (refine EK_ev (Ev_load rfl (by (repeat' (first | exact Sel.here | apply Sel.there)); first | done | fail) (by rfl)) ?_) | (refine EK_ev (Ev_load rfl (by (repeat' (first | exact Sel.here | apply Sel.there)); first | done | fail) (by rfl)) ?_) | (refine EK_ev (Ev_loadOld rfl (by assumption)) ?_) | (refine EK_ev (Ev_loadAgg rfl (by (repeat' (first | exact Sel.here | apply Sel.there)); first | done | fail) (by (repeat' (first | exact Cut.nil | apply Cut.cons | apply Cut.skip)); first | done | fail)) ?_)) | (refine ek_un ?_; first | (refine EK_ev (Ev_notD rfl) ?_) | (refine EK_ev (Ev_not rfl) ?_) | (refine EK_ev (Ev_neg rfl) ?_)) | (refine ek_conv ?_; first | (refine EK_ev (Ev_convI64 rfl (by omega)) ?_) | (refine EK_ev (Ev_convI rfl) ?_) | (refine EK_ev (Ev_convS rfl) ?_)) | (refine ek_extract ?_; first | (refine EK_ev (Ev_extract rfl rfl) ?_)) | (refine ek_slice ?_; first | (refine EK_ev (Ev_sliceStrFrom_v rfl rfl (by omega) hq5) ?_)) | (refine ek_len ?_; first | (refine EK_ev (Ev_len_str rfl) ?_) | (refine EK_ev (Ev_len_slice rfl) ?_) | (refine EK_ev (Ev_len_arr rfl) ?_) | (refine EK_ev (Ev_len_map rfl (by (repeat' (first | exact Sel.here | apply Sel.there)); first | done | fail)) ?_)) | (refine ek_min ?_; first | (refine EK_ev (Ev_min rfl rfl) ?_)) | (refine ek_add ?_; first | (refine EK_ev (Ev_addI rfl rfl (by omega)) ?_) | (refine EK_ev (Ev_addS rfl rfl (by simp <;> omega)) ?_) | (refine EK_ev (Ev_add rfl rfl) ?_)) | (refine ek_sub ?_; first | (refine EK_ev (Ev_subI rfl rfl (by omega)) ?_) | (refine EK_ev (Ev_sub rfl rfl) ?_)) | (refine ek_mul ?_; first | (refine EK_ev (Ev_mulI rfl rfl (by omega)) ?_) | (refine EK_ev (Ev_mul rfl rfl) ?_)) | (refine ek_shl ?_; first | (refine EK_ev (Ev_shl rfl rfl (by omega)) ?_)) | (refine ek_neq ?_; first | (refine EK_ev (Ev_neqI rfl rfl) ?_) | (refine EK_ev (Ev_neqS rfl rfl) ?_) | (refine EK_ev (Ev_neqNil rfl rfl) ?_) | (refine EK_ev (Ev_neqB rfl rfl) ?_) | (refine EK_ev (Ev_neqO rfl rfl rfl (fun _ => rfl)) ?_)) | (refine ek_lss ?_; first | (refine EK_ev (Ev_lssI_q rfl rfl ql) ?_) | (refine EK_ev (Ev_lssI rfl rfl) ?_) | (refine EK_ev (Ev_lssS rfl rfl) ?_)) | (refine ek_gtr ?_; first | (refine EK_ev (Ev_gtrI_q rfl rfl q7) ?_) | (refine EK_ev (Ev_gtrI rfl rfl) ?_) | (refine EK_ev (Ev_gtrS rfl rfl) ?_)))
    | (refine is_ex ?_; first | (refine KJ_blk_exit' rfl ?_))
    | (refine is_code ?_; first | (refine KJ_cond_dec rfl (fun _ => ?_) (fun _ => ?_) <;> first | (exfalso; omega) | skip) | (refine KJ_cond_t rfl ?_) | (refine KJ_cond_f rfl ?_)))
      all_goals (refine is_ex ?_; exact KJ_done (by first | exact Or.inl rfl | exact Or.inr rfl) rfl (by (repeat' (first | exact Rvs.nil | (apply Rvs.tmp; exact rfl))); first | done | fail) () (by rfl) (Ent.of (by (repeat' (first | exact Pick.nil | apply Pick.cons | exact Sel.here | apply Sel.there)); first | done | fail) (by (repeat' (first | exact DropTo.refl | apply DropTo.there)); first | done | fail)))
    rw [if_neg h7] at hres
    have q7 : decide (n - (i : Int) < need) = false := decide_eq_false h7
    obtain ⟨mn, hmn⟩ : ∃ m, min size 229 = m := ⟨_, rfl⟩
    rw [hmn] at hres
    by_cases h8 : (q5'.length : Int) = mn
    rotate_left
    · rw [if_pos h8] at hres
      subst hres
      repeat' (first 
    | refine KJ_stp (by first | constructor | fail) ?_
    | (refine is_list ?_; first | (refine KJ_guard_dec_t rfl rfl rfl (fun _ => ?_) (fun _ => ?_) <;> first | (exfalso; omega) | skip) | (refine KJ_guard_dec_f rfl rfl rfl (fun _ => ?_) (fun _ => ?_) <;> first | (exfalso; omega) | skip) | (refine KJ_guard_yes rfl rfl ?_) | (refine KJ_guard_no rfl rfl rfl rfl ?_))
    | (refine is_oper ?_; first | (refine is_box ?_; first | (refine KJ_box rfl (by first | exact CellsOf.agg | exact CellsOf.one rfl) rfl (fun _ => ?_))) | (refine is_call ?_; first | (refine KJ_call (by (repeat' (first | exact Evs.nil | refine Evs.cons rfl ?_)); first | done | fail) c2 (by (repeat' (first | exact Pick.nil | apply Pick.cons | exact Sel.here | apply Sel.there)); first | done | fail) rfl (fun _ => ?_))) | (refine is_econv ?_; first | (refine KJ_bufOf rfl rfl (fun g3 c3 => ?_))) | (refine KJ_ek rfl ?_) | (refine KJ_ek0 ?_))
    | (refine is_ek ?_; first | (refine ek_move ?_; first | (refine EK_ev (Ev_move rfl) ?_)) | (refine ek_assign ?_; first | (refine EK_ev (Ev_assign rfl) ?_)) | (refine ek_pick ?_; first | (refine EK_ev (Ev_pick_t rfl rfl) ?_) | (refine EK_ev (Ev_pick_f rfl rfl) ?_)) | (refine ek_fieldAddr ?_; first | (refine EK_ev (Ev_field rfl) ?_)) | (refine ek_load ?_; first | (refine EK_ev (Ev_loadAgg rfl (by (repeat' (first | exact Sel.here | apply Sel.there)); first | done | fail) (by (repeat' (first | exact Cut.nil | apply Cut.cons | apply Cut.skip)); first | done | fail)) ?_) | (refine EK_ev (Ev_load rfl (by (repeat' (first | exact Sel.here | apply Sel.there)); first | done | fail) (by rfl)) ?_) | (refine EK_ev (Ev_load rfl (by (repeat' (first | exact Sel.here | apply Sel.there)); first | done | fail) (by rfl)) ?_) | (refine EK_ev (Ev_loadOld rfl (by assumption)) ?_) | (refine EK_ev (Ev_loadAgg rfl (by (repeat' (first | exact Sel.here | apply Sel.there)); first | done | fail) (by (repeat' (first | exact Cut.nil | apply Cut.cons | apply Cut.skip)); first | done | fail)) ?_)) | (refine ek_un ?_; first | (refine EK_ev (Ev_notD rfl) ?_) | (refine EK_ev (Ev_not rfl) ?_) | (refine EK_ev (Ev_neg rfl) ?_)) | (refine ek_conv ?_; first | (refine EK_ev (Ev_convI64 rfl (by omega)) ?_) | (refine EK_ev (Ev_convI rfl) ?_) | (refine EK_ev (Ev_convS rfl) ?_)) | (refine ek_extract ?_; first | (refine EK_ev (Ev_extract rfl rfl) ?_)) | (refine ek_slice ?_; first | (refine EK_ev (Ev_sliceStrFrom_v rfl rfl (by omega) hq5) ?_)) | (refine ek_len ?_; first | (refine EK_ev (Ev_len_str rfl) ?_) | (refine EK_ev (Ev_len_slice rfl) ?_) | (refine EK_ev (Ev_len_arr rfl) ?_) | (refine EK_ev (Ev_len_map rfl (by (repeat' (first | exact Sel.here | apply Sel.there)); first | done | fail)) ?_)) | (refine ek_min ?_; first | (refine EK_ev (Ev_min_v rfl rfl hmn) ?_) | (refine EK_ev (Ev_min rfl rfl) ?_)) | (refine ek_add ?_; first | (refine EK_ev (Ev_addI rfl rfl (by omega)) ?_) | (refine EK_ev (Ev_addS rfl rfl (by simp <;> omega)) ?_) | (refine EK_ev (Ev_add rfl rfl) ?_)) | (refine ek_sub ?_; first | (refine EK_ev (Ev_subI rfl rfl (by omega)) ?_) | (refine EK_ev (Ev_sub rfl rfl) ?_)) | (refine ek_mul ?_; first | (refine EK_ev (Ev_mulI rfl rfl (by omega)) ?_) | (refine EK_ev (Ev_mul rfl rfl) ?_)) | (refine ek_shl ?_; first | (refine EK_ev (Ev_shl rfl rfl (by omega)) ?_)) | (refine ek_neq ?_; first | (refine EK_ev (Ev_neqI_t rfl rfl h8) ?_) | (refine EK_ev (Ev_neqI rfl rfl) ?_) | (refine EK_ev (Ev_neqS rfl rfl) ?_) | (refine EK_ev (Ev_neqNil rfl rfl) ?_) | (refine EK_ev (Ev_neqB rfl rfl) ?_) | (refine EK_ev (Ev_neqO rfl rfl rfl (fun _ => rfl)) ?_)) | (refine ek_lss ?_; first | (refine EK_ev (Ev_lssI_q rfl rfl ql) ?_) | (refine EK_ev (Ev_lssI rfl rfl) ?_) | (refine EK_ev (Ev_lssS rfl rfl) ?_)) | (refine ek_gtr ?_; first | (refine EK_ev (Ev_gtrI_q rfl rfl q7) ?_) | (refine EK_ev (Ev_gtrI rfl rfl) ?_) | (refine EK_ev (Ev_gtrS rfl rfl) ?_)))
    | (refine is_ex ?_; first | (refine KJ_blk_exit' rfl ?_))
    | (refine is_code ?_; first | (refine KJ_cond_dec rfl (fun _ => ?_) (fun _ => ?_) <;> first | (exfalso; omega) | skip) | (refine KJ_cond_t rfl ?_) | (refine KJ_cond_f rfl ?_)))
      all_goals (refine is_ex ?_; exact KJ_done (by first | exact Or.inl rfl | exact Or.inr rfl) rfl (by (repeat' (first | exact Rvs.nil | (apply Rvs.tmp; exact rfl))); first | done | fail) () (by rfl) (Ent.of (by (repeat' (first | exact Pick.nil | apply Pick.cons | exact Sel.here | apply Sel.there)); first | done | fail) (by (repeat' (first | exact DropTo.refl | apply DropTo.there)); first | done | fail)))
    rw [if_neg (by simpa using h8)] at hres
    have hs0 : 0 ≤ size := by omega
    have hs1 : size ≤ 16777216 := by split at hcost <;> omega
    obtain ⟨ro, hro⟩ : ∃ ro, ro = recGo D at_ n ver i size (need - 1).toNat 1 q5' := ⟨_, rfl⟩
    rw [← hro] at hres
    repeat' (first 
    | refine KJ_stp (by first | constructor | fail) ?_
    | (refine is_list ?_; first | (refine KJ_guard_dec_t rfl rfl rfl (fun _ => ?_) (fun _ => ?_) <;> first | (exfalso; omega) | skip) | (refine KJ_guard_dec_f rfl rfl rfl (fun _ => ?_) (fun _ => ?_) <;> first | (exfalso; omega) | skip) | (refine KJ_guard_yes rfl rfl ?_) | (refine KJ_guard_no rfl rfl rfl rfl ?_))
    | (refine is_oper ?_; first | (refine is_box ?_; first | (refine KJ_box rfl (by first | exact CellsOf.agg | exact CellsOf.one rfl) rfl (fun _ => ?_))) | (refine is_call ?_; first | (refine KJ_call (by (repeat' (first | exact Evs.nil | refine Evs.cons rfl ?_)); first | done | fail) c2 (by (repeat' (first | exact Pick.nil | apply Pick.cons | exact Sel.here | apply Sel.there)); first | done | fail) rfl (fun _ => ?_))) | (refine is_econv ?_; first | (refine KJ_bufOf rfl rfl (fun g3 c3 => ?_))) | (refine KJ_ek rfl ?_) | (refine KJ_ek0 ?_))
    | (refine is_ek ?_; first | (refine ek_move ?_; first | (refine EK_ev (Ev_move rfl) ?_)) | (refine ek_assign ?_; first | (refine EK_ev (Ev_assign rfl) ?_)) | (refine ek_pick ?_; first | (refine EK_ev (Ev_pick_t rfl rfl) ?_) | (refine EK_ev (Ev_pick_f rfl rfl) ?_)) | (refine ek_fieldAddr ?_; first | (refine EK_ev (Ev_field rfl) ?_)) | (refine ek_load ?_; first | (refine EK_ev (Ev_loadAgg rfl (by (repeat' (first | exact Sel.here | apply Sel.there)); first | done | fail) (by (repeat' (first | exact Cut.nil | apply Cut.cons | apply Cut.skip)); first | done | fail)) ?_) | (refine EK_ev (Ev_load rfl (by (repeat' (first | exact Sel.here | apply Sel.there)); first | done | fail) (by rfl)) ?_) | (refine EK_ev (Ev_load rfl (by (repeat' (first | exact Sel.here | apply Sel.there)); first | done | fail) (by rfl)) ?_) | (refine EK_ev (Ev_loadOld rfl (by assumption)) ?_) | (refine EK_ev (Ev_loadAgg rfl (by (repeat' (first | exact Sel.here | apply Sel.there)); first | done | fail) (by (repeat' (first | exact Cut.nil | apply Cut.cons | apply Cut.skip)); first | done | fail)) ?_)) | (refine ek_un ?_; first | (refine EK_ev (Ev_notD rfl) ?_) | (refine EK_ev (Ev_not rfl) ?_) | (refine EK_ev (Ev_neg rfl) ?_)) | (refine ek_conv ?_; first | (refine EK_ev (Ev_convI64 rfl (by omega)) ?_) | (refine EK_ev (Ev_convI rfl) ?_) | (refine EK_ev (Ev_convS rfl) ?_)) | (refine ek_extract ?_; first | (refine EK_ev (Ev_extract rfl rfl) ?_)) | (refine ek_slice ?_; first | (refine EK_ev (Ev_sliceStrFrom_v rfl rfl (by omega) hq5) ?_)) | (refine ek_len ?_; first | (refine EK_ev (Ev_len_str rfl) ?_) | (refine EK_ev (Ev_len_slice rfl) ?_) | (refine EK_ev (Ev_len_arr rfl) ?_) | (refine EK_ev (Ev_len_map rfl (by (repeat' (first | exact Sel.here | apply Sel.there)); first | done | fail)) ?_)) | (refine ek_min ?_; first | (refine EK_ev (Ev_min_v rfl rfl hmn) ?_) | (refine EK_ev (Ev_min rfl rfl) ?_)) | (refine ek_add ?_; first | (refine EK_ev (Ev_addI rfl rfl (by omega)) ?_) | (refine EK_ev (Ev_addS rfl rfl (by simp <;> omega)) ?_) | (refine EK_ev (Ev_add rfl rfl) ?_)) | (refine ek_sub ?_; first | (refine EK_ev (Ev_subI rfl rfl (by omega)) ?_) | (refine EK_ev (Ev_sub rfl rfl) ?_)) | (refine ek_mul ?_; first | (refine EK_ev (Ev_mulI rfl rfl (by omega)) ?_) | (refine EK_ev (Ev_mul rfl rfl) ?_)) | (refine ek_shl ?_; first | (refine EK_ev (Ev_shl rfl rfl (by omega)) ?_)) | (refine ek_neq ?_; first | (refine EK_ev (Ev_neqI_f rfl rfl h8) ?_) | (refine EK_ev (Ev_neqI rfl rfl) ?_) | (refine EK_ev (Ev_neqS rfl rfl) ?_) | (refine EK_ev (Ev_neqNil rfl rfl) ?_) | (refine EK_ev (Ev_neqB rfl rfl) ?_) | (refine EK_ev (Ev_neqO rfl rfl rfl (fun _ => rfl)) ?_)) | (refine ek_lss ?_; first | (refine EK_ev (Ev_lssI_q rfl rfl ql) ?_) | (refine EK_ev (Ev_lssI rfl rfl) ?_) | (refine EK_ev (Ev_lssS rfl rfl) ?_)) | (refine ek_gtr ?_; first | (refine EK_ev (Ev_gtrI_q rfl rfl q7) ?_) | (refine EK_ev (Ev_gtrI rfl rfl) ?_) | (refine EK_ev (Ev_gtrS rfl rfl) ?_)))
    | (refine is_ex ?_; first | (refine KJ_blk_exit' rfl ?_))
    | (refine is_code ?_; first | (refine KJ_cond_dec rfl (fun _ => ?_) (fun _ => ?_) <;> first | (exfalso; omega) | skip) | (refine KJ_cond_t rfl ?_) | (refine KJ_cond_f rfl ?_)))
    refine KJ_loop (fun k : {s : Nat × Nat × List UInt8 × Nat × Nat // recGo D at_ n ver i size s.1 s.2.1 s.2.2.1 = ro ∧ (s.1 : Int) + s.2.1 = max need 1 ∧ 1 ≤ s.2.1 ∧ (s.2.2.1.length : Int) = min size (229 + 233 * ((s.2.1 : Int) - 1))} => [(1, .int .i64 (i : Nat)), (2, .pointer (some ⟨g2, 0, none⟩)), (9, .int .i64 size), (11, .int .i64 need), (12, .slice (some ⟨k.1.2.2.2.1, 0, none⟩) k.1.2.2.1.length k.1.2.2.2.2), (13, .int .i64 (k.1.2.1 : Nat))])
      (fun k => [DiskP p D, cellsP g2 [.pointer (some ⟨p, 0, none⟩), .int .i64 at_, .int .i64 n, .int .i64 (ver : Nat)] 163, bufP k.1.2.2.2.1 k.1.2.2.1.length k.1.2.2.2.2 k.1.2.2.1 5] ++ R) (fun k => k.1.1) ⟨((need - 1).toNat, 1, q5', g3, c3), hro.symm, by dsimp only; omega, by dsimp only; omega, by dsimp only; omega⟩ (by (repeat' (first | exact Subs.nil | refine Subs.cons rfl ?_)); first | done | fail) (Ent.of (by (repeat' (first | exact Pick.nil | apply Pick.cons | exact Sel.here | apply Sel.there)); first | done | fail) (by (repeat' (first | exact DropTo.refl | apply DropTo.there)); first | done | fail)) (fun ⟨(fu, k, out, g4, c4), hr, hfk, hk1, hol⟩ => ?_)
    dsimp only at hr hfk hk1 hol ⊢
    by_cases hlt2 : (k : Int) < need
    rotate_left
    · have qk : decide ((k : Int) < need) = false := decide_eq_false hlt2
      have hfu : fu = 0 := by omega
      subst hfu
      have hr2 : ro = some out := by rw [← hr]; rfl
      rw [hr2] at hres
      subst hres
      repeat' (first 
    | refine KJ_stp (by first | constructor | fail) ?_
    | (refine is_list ?_; first | (refine KJ_guard_dec_t rfl rfl rfl (fun _ => ?_) (fun _ => ?_) <;> first | (exfalso; omega) | skip) | (refine KJ_guard_dec_f rfl rfl rfl (fun _ => ?_) (fun _ => ?_) <;> first | (exfalso; omega) | skip) | (refine KJ_guard_yes rfl rfl ?_) | (refine KJ_guard_no rfl rfl rfl rfl ?_))
    | (refine is_oper ?_; first | (refine is_box ?_; first | (refine KJ_box rfl (by first | exact CellsOf.agg | exact CellsOf.one rfl) rfl (fun _ => ?_))) | (refine KJ_ek rfl ?_) | (refine KJ_ek0 ?_))
    | (refine is_ek ?_; first | (refine ek_move ?_; first | (refine EK_ev (Ev_move rfl) ?_)) | (refine ek_assign ?_; first | (refine EK_ev (Ev_assign rfl) ?_)) | (refine ek_pick ?_; first | (refine EK_ev (Ev_pick_t rfl rfl) ?_) | (refine EK_ev (Ev_pick_f rfl rfl) ?_)) | (refine ek_fieldAddr ?_; first | (refine EK_ev (Ev_field rfl) ?_)) | (refine ek_load ?_; first | (refine EK_ev (Ev_loadAgg rfl (by (repeat' (first | exact Sel.here | apply Sel.there)); first | done | fail) (by (repeat' (first | exact Cut.nil | apply Cut.cons | apply Cut.skip)); first | done | fail)) ?_) | (refine EK_ev (Ev_load rfl (by (repeat' (first | exact Sel.here | apply Sel.there)); first | done | fail) (by rfl)) ?_) | (refine EK_ev (Ev_load rfl (by (repeat' (first | exact Sel.here | apply Sel.there)); first | done | fail) (by rfl)) ?_) | (refine EK_ev (Ev_loadOld rfl (by assumption)) ?_) | (refine EK_ev (Ev_loadAgg rfl (by (repeat' (first | exact Sel.here | apply Sel.there)); first | done | fail) (by (repeat' (first | exact Cut.nil | apply Cut.cons | apply Cut.skip)); first | done | fail)) ?_)) | (refine ek_un ?_; first | (refine EK_ev (Ev_notD rfl) ?_) | (refine EK_ev (Ev_not rfl) ?_) | (refine EK_ev (Ev_neg rfl) ?_)) | (refine ek_conv ?_; first | (refine EK_ev (Ev_bytesBuf rfl (by (repeat' (first | exact Sel.here | apply Sel.there)); first | done | fail)) ?_) | (refine EK_ev (Ev_convI64 rfl (by omega)) ?_) | (refine EK_ev (Ev_convI rfl) ?_) | (refine EK_ev (Ev_convS rfl) ?_)) | (refine ek_extract ?_; first | (refine EK_ev (Ev_extract rfl rfl) ?_)) | (refine ek_len ?_; first | (refine EK_ev (Ev_len_str rfl) ?_) | (refine EK_ev (Ev_len_slice rfl) ?_) | (refine EK_ev (Ev_len_arr rfl) ?_) | (refine EK_ev (Ev_len_map rfl (by (repeat' (first | exact Sel.here | apply Sel.there)); first | done | fail)) ?_)) | (refine ek_min ?_; first | (refine EK_ev (Ev_min rfl rfl) ?_)) | (refine ek_add ?_; first | (refine EK_ev (Ev_addI rfl rfl (by omega)) ?_) | (refine EK_ev (Ev_addS rfl rfl (by simp <;> omega)) ?_) | (refine EK_ev (Ev_add rfl rfl) ?_)) | (refine ek_sub ?_; first | (refine EK_ev (Ev_subI rfl rfl (by omega)) ?_) | (refine EK_ev (Ev_sub rfl rfl) ?_)) | (refine ek_mul ?_; first | (refine EK_ev (Ev_mulI rfl rfl (by omega)) ?_) | (refine EK_ev (Ev_mul rfl rfl) ?_)) | (refine ek_shl ?_; first | (refine EK_ev (Ev_shl rfl rfl (by omega)) ?_)) | (refine ek_neq ?_; first | (refine EK_ev (Ev_neqI rfl rfl) ?_) | (refine EK_ev (Ev_neqS rfl rfl) ?_) | (refine EK_ev (Ev_neqNil rfl rfl) ?_) | (refine EK_ev (Ev_neqB rfl rfl) ?_) | (refine EK_ev (Ev_neqO rfl rfl rfl (fun _ => rfl)) ?_)) | (refine ek_lss ?_; first | (refine EK_ev (Ev_lssI_q rfl rfl qk) ?_) | (refine EK_ev (Ev_lssI rfl rfl) ?_) | (refine EK_ev (Ev_lssS rfl rfl) ?_)) | (refine ek_gtr ?_; first | (refine EK_ev (Ev_gtrI rfl rfl) ?_) | (refine EK_ev (Ev_gtrS rfl rfl) ?_)))
    | (refine is_ex ?_; first | (refine KJ_blk_exit' rfl ?_))
    | (refine is_code ?_; first | (refine KJ_cond_dec rfl (fun _ => ?_) (fun _ => ?_) <;> first | (exfalso; omega) | skip) | (refine KJ_cond_t rfl ?_) | (refine KJ_cond_f rfl ?_)))
      all_goals (refine is_ex ?_; exact KJ_done (by first | exact Or.inl rfl | exact Or.inr rfl) rfl (by (repeat' (first | exact Rvs.nil | (apply Rvs.tmp; exact rfl))); first | done | fail) () (by rfl) (Ent.of (by (repeat' (first | exact Pick.nil | apply Pick.cons | exact Sel.here | apply Sel.there)); first | done | fail) (by (repeat' (first | exact DropTo.refl | apply DropTo.there)); first | done | fail)))
    have qk : decide ((k : Int) < need) = true := decide_eq_true hlt2
    obtain ⟨fu', rfl⟩ : ∃ f', fu = f' + 1 := ⟨fu - 1, by omega⟩
    have hout : (out.length : Int) = 229 + 233 * ((k : Int) - 1) ∧ (out.length : Int) < size := by split at hcost <;> omega
    have c6 := cp k (by omega)
    have hunf : recGo D at_ n ver i size (fu' + 1) k out = match payO D at_ n ver (i + k) with
      | none => none
      | some q => if (q.length : Int) ≠ 1 + min (size - out.length) 233 then none else if q.getD 0 0 ≠ 0 then none else recGo D at_ n ver i size fu' (k + 1) (out ++ q.drop 1) := rfl
    rw [hunf] at hr
    clear hunf
    obtain ⟨o2, ho2⟩ : ∃ o, o = payO D at_ n ver (i + k) := ⟨_, rfl⟩
    rw [← ho2] at c6 hr
    clear ho2
    cases o2 with
    | none =>
      have hr2 : ro = none := by rw [← hr]
      rw [hr2] at hres
      subst hres
      have c6' : Ct Tryd.prog W 123 [.agg #[.pointer (some ⟨p, 0, none⟩), .int .i64 at_, .int .i64 n, .int .i64 (ver : Nat)], .int .i64 ((i + k : Nat) : Int)] [DiskP p D] (fun _ : Unit => .tuple #[strV [], .bool false]) (fun _ => [DiskP p D]) := c6
      repeat' (first 
    | refine KJ_stp (by first | constructor | fail) ?_
    | (refine is_list ?_; first | (refine KJ_guard_dec_t rfl rfl rfl (fun _ => ?_) (fun _ => ?_) <;> first | (exfalso; omega) | skip) | (refine KJ_guard_dec_f rfl rfl rfl (fun _ => ?_) (fun _ => ?_) <;> first | (exfalso; omega) | skip) | (refine KJ_guard_yes rfl rfl ?_) | (refine KJ_guard_no rfl rfl rfl rfl ?_))
    | (refine is_oper ?_; first | (refine is_box ?_; first | (refine KJ_box rfl (by first | exact CellsOf.agg | exact CellsOf.one rfl) rfl (fun _ => ?_))) | (refine is_call ?_; first | (refine KJ_call (by (repeat' (first | exact Evs.nil | refine Evs.cons rfl ?_)); first | done | fail) c6' (by (repeat' (first | exact Pick.nil | apply Pick.cons | exact Sel.here | apply Sel.there)); first | done | fail) rfl (fun _ => ?_))) | (refine KJ_ek rfl ?_) | (refine KJ_ek0 ?_))
    | (refine is_ek ?_; first | (refine ek_move ?_; first | (refine EK_ev (Ev_move rfl) ?_)) | (refine ek_assign ?_; first | (refine EK_ev (Ev_assign rfl) ?_)) | (refine ek_pick ?_; first | (refine EK_ev (Ev_pick_t rfl rfl) ?_) | (refine EK_ev (Ev_pick_f rfl rfl) ?_)) | (refine ek_fieldAddr ?_; first | (refine EK_ev (Ev_field rfl) ?_)) | (refine ek_load ?_; first | (refine EK_ev (Ev_loadAgg rfl (by (repeat' (first | exact Sel.here | apply Sel.there)); first | done | fail) (by (repeat' (first | exact Cut.nil | apply Cut.cons | apply Cut.skip)); first | done | fail)) ?_) | (refine EK_ev (Ev_load rfl (by (repeat' (first | exact Sel.here | apply Sel.there)); first | done | fail) (by rfl)) ?_) | (refine EK_ev (Ev_load rfl (by (repeat' (first | exact Sel.here | apply Sel.there)); first | done | fail) (by rfl)) ?_) | (refine EK_ev (Ev_loadOld rfl (by assumption)) ?_) | (refine EK_ev (Ev_loadAgg rfl (by (repeat' (first | exact Sel.here | apply Sel.there)); first | done | fail) (by (repeat' (first | exact Cut.nil | apply Cut.cons | apply Cut.skip)); first | done | fail)) ?_)) | (refine ek_un ?_; first | (refine EK_ev (Ev_notD rfl) ?_) | (refine EK_ev (Ev_not rfl) ?_) | (refine EK_ev (Ev_neg rfl) ?_)) | (refine ek_conv ?_; first | (refine EK_ev (Ev_convI64 rfl (by omega)) ?_) | (refine EK_ev (Ev_convI rfl) ?_) | (refine EK_ev (Ev_convS rfl) ?_)) | (refine ek_extract ?_; first | (refine EK_ev (Ev_extract rfl rfl) ?_)) | (refine ek_len ?_; first | (refine EK_ev (Ev_len_str rfl) ?_) | (refine EK_ev (Ev_len_slice rfl) ?_) | (refine EK_ev (Ev_len_arr rfl) ?_) | (refine EK_ev (Ev_len_map rfl (by (repeat' (first | exact Sel.here | apply Sel.there)); first | done | fail)) ?_)) | (refine ek_min ?_; first | (refine EK_ev (Ev_min rfl rfl) ?_)) | (refine ek_add ?_; first | (refine EK_ev (Ev_addI_v (r := ((i + k : Nat) : Int)) rfl rfl (by omega) (by omega)) ?_) | (refine EK_ev (Ev_addI rfl rfl (by omega)) ?_) | (refine EK_ev (Ev_addS rfl rfl (by simp <;> omega)) ?_) | (refine EK_ev (Ev_add rfl rfl) ?_)) | (refine ek_sub ?_; first | (refine EK_ev (Ev_subI rfl rfl (by omega)) ?_) | (refine EK_ev (Ev_sub rfl rfl) ?_)) | (refine ek_mul ?_; first | (refine EK_ev (Ev_mulI rfl rfl (by omega)) ?_) | (refine EK_ev (Ev_mul rfl rfl) ?_)) | (refine ek_shl ?_; first | (refine EK_ev (Ev_shl rfl rfl (by omega)) ?_)) | (refine ek_neq ?_; first | (refine EK_ev (Ev_neqI rfl rfl) ?_) | (refine EK_ev (Ev_neqS rfl rfl) ?_) | (refine EK_ev (Ev_neqNil rfl rfl) ?_) | (refine EK_ev (Ev_neqB rfl rfl) ?_) | (refine EK_ev (Ev_neqO rfl rfl rfl (fun _ => rfl)) ?_)) | (refine ek_lss ?_; first | (refine EK_ev (Ev_lssI_q rfl rfl qk) ?_) | (refine EK_ev (Ev_lssI rfl rfl) ?_) | (refine EK_ev (Ev_lssS rfl rfl) ?_)) | (refine ek_gtr ?_; first | (refine EK_ev (Ev_gtrI rfl rfl) ?_) | (refine EK_ev (Ev_gtrS rfl rfl) ?_)))
    | (refine is_ex ?_; first | (refine KJ_blk_exit' rfl ?_))
    | (refine is_code ?_; first | (refine KJ_cond_dec rfl (fun _ => ?_) (fun _ => ?_) <;> first | (exfalso; omega) | skip) | (refine KJ_cond_t rfl ?_) | (refine KJ_cond_f rfl ?_)))
      all_goals (refine is_ex ?_; exact KJ_done (by first | exact Or.inl rfl | exact Or.inr rfl) rfl (by (repeat' (first | exact Rvs.nil | (apply Rvs.tmp; exact rfl))); first | done | fail) () (by rfl) (Ent.of (by (repeat' (first | exact Pick.nil | apply Pick.cons | exact Sel.here | apply Sel.there)); first | done | fail) (by (repeat' (first | exact DropTo.refl | apply DropTo.there)); first | done | fail)))
    | some q2 =>
      dsimp only at hr
      have c6' : Ct Tryd.prog W 123 [.agg #[.pointer (some ⟨p, 0, none⟩), .int .i64 at_, .int .i64 n, .int .i64 (ver : Nat)], .int .i64 ((i + k : Nat) : Int)] [DiskP p D] (fun _ : Unit => .tuple #[strV q2, .bool true]) (fun _ => [DiskP p D]) := c6
      obtain ⟨m2, hm2⟩ : ∃ m, min (size - (out.length : Int)) 233 = m := ⟨_, rfl⟩
      rw [hm2] at hr
      by_cases h9 : (q2.length : Int) = 1 + m2
      rotate_left
      · rw [if_pos h9] at hr
        have hr2 : ro = none := by rw [← hr]
        rw [hr2] at hres
        subst hres
        repeat' (first 
    | refine KJ_stp (by first | constructor | fail) ?_
    | (refine is_list ?_; first | (refine KJ_guard_dec_t rfl rfl rfl (fun _ => ?_) (fun _ => ?_) <;> first | (exfalso; omega) | skip) | (refine KJ_guard_dec_f rfl rfl rfl (fun _ => ?_) (fun _ => ?_) <;> first | (exfalso; omega) | skip) | (refine KJ_guard_yes rfl rfl ?_) | (refine KJ_guard_no rfl rfl rfl rfl ?_))
    | (refine is_oper ?_; first | (refine is_box ?_; first | (refine KJ_box rfl (by first | exact CellsOf.agg | exact CellsOf.one rfl) rfl (fun _ => ?_))) | (refine is_call ?_; first | (refine KJ_call (by (repeat' (first | exact Evs.nil | refine Evs.cons rfl ?_)); first | done | fail) c6' (by (repeat' (first | exact Pick.nil | apply Pick.cons | exact Sel.here | apply Sel.there)); first | done | fail) rfl (fun _ => ?_))) | (refine KJ_ek rfl ?_) | (refine KJ_ek0 ?_))
    | (refine is_ek ?_; first | (refine ek_move ?_; first | (refine EK_ev (Ev_move rfl) ?_)) | (refine ek_assign ?_; first | (refine EK_ev (Ev_assign rfl) ?_)) | (refine ek_pick ?_; first | (refine EK_ev (Ev_pick_t rfl rfl) ?_) | (refine EK_ev (Ev_pick_f rfl rfl) ?_)) | (refine ek_fieldAddr ?_; first | (refine EK_ev (Ev_field rfl) ?_)) | (refine ek_load ?_; first | (refine EK_ev (Ev_loadAgg rfl (by (repeat' (first | exact Sel.here | apply Sel.there)); first | done | fail) (by (repeat' (first | exact Cut.nil | apply Cut.cons | apply Cut.skip)); first | done | fail)) ?_) | (refine EK_ev (Ev_load rfl (by (repeat' (first | exact Sel.here | apply Sel.there)); first | done | fail) (by rfl)) ?_) | (refine EK_ev (Ev_load rfl (by (repeat' (first | exact Sel.here | apply Sel.there)); first | done | fail) (by rfl)) ?_) | (refine EK_ev (Ev_loadOld rfl (by assumption)) ?_) | (refine EK_ev (Ev_loadAgg rfl (by (repeat' (first | exact Sel.here | apply Sel.there)); first | done | fail) (by (repeat' (first | exact Cut.nil | apply Cut.cons | apply Cut.skip)); first | done | fail)) ?_)) | (refine ek_un ?_; first | (refine EK_ev (Ev_notD rfl) ?_) | (refine EK_ev (Ev_not rfl) ?_) | (refine EK_ev (Ev_neg rfl) ?_)) | (refine ek_conv ?_; first | (refine EK_ev (Ev_convI64 rfl (by omega)) ?_) | (refine EK_ev (Ev_convI rfl) ?_) | (refine EK_ev (Ev_convS rfl) ?_)) | (refine ek_extract ?_; first | (refine EK_ev (Ev_extract rfl rfl) ?_)) | (refine ek_len ?_; first | (refine EK_ev (Ev_len_str rfl) ?_) | (refine EK_ev (Ev_len_slice rfl) ?_) | (refine EK_ev (Ev_len_arr rfl) ?_) | (refine EK_ev (Ev_len_map rfl (by (repeat' (first | exact Sel.here | apply Sel.there)); first | done | fail)) ?_)) | (refine ek_min ?_; first | (refine EK_ev (Ev_min_v rfl rfl hm2) ?_) | (refine EK_ev (Ev_min rfl rfl) ?_)) | (refine ek_add ?_; first | (refine EK_ev (Ev_addI_v (r := ((i + k : Nat) : Int)) rfl rfl (by omega) (by omega)) ?_) | (refine EK_ev (Ev_addI rfl rfl (by omega)) ?_) | (refine EK_ev (Ev_addS rfl rfl (by simp <;> omega)) ?_) | (refine EK_ev (Ev_add rfl rfl) ?_)) | (refine ek_sub ?_; first | (refine EK_ev (Ev_subI rfl rfl (by omega)) ?_) | (refine EK_ev (Ev_sub rfl rfl) ?_)) | (refine ek_mul ?_; first | (refine EK_ev (Ev_mulI rfl rfl (by omega)) ?_) | (refine EK_ev (Ev_mul rfl rfl) ?_)) | (refine ek_shl ?_; first | (refine EK_ev (Ev_shl rfl rfl (by omega)) ?_)) | (refine ek_neq ?_; first | (refine EK_ev (Ev_neqI_t rfl rfl h9) ?_) | (refine EK_ev (Ev_neqI rfl rfl) ?_) | (refine EK_ev (Ev_neqS rfl rfl) ?_) | (refine EK_ev (Ev_neqNil rfl rfl) ?_) | (refine EK_ev (Ev_neqB rfl rfl) ?_) | (refine EK_ev (Ev_neqO rfl rfl rfl (fun _ => rfl)) ?_)) | (refine ek_lss ?_; first | (refine EK_ev (Ev_lssI_q rfl rfl qk) ?_) | (refine EK_ev (Ev_lssI rfl rfl) ?_) | (refine EK_ev (Ev_lssS rfl rfl) ?_)) | (refine ek_gtr ?_; first | (refine EK_ev (Ev_gtrI rfl rfl) ?_) | (refine EK_ev (Ev_gtrS rfl rfl) ?_)))
    | (refine is_ex ?_; first | (refine KJ_blk_exit' rfl ?_))
    | (refine is_code ?_; first | (refine KJ_cond_dec rfl (fun _ => ?_) (fun _ => ?_) <;> first | (exfalso; omega) | skip) | (refine KJ_cond_t rfl ?_) | (refine KJ_cond_f rfl ?_)))
        all_goals (refine is_ex ?_; exact KJ_done (by first | exact Or.inl rfl | exact Or.inr rfl) rfl (by (repeat' (first | exact Rvs.nil | (apply Rvs.tmp; exact rfl))); first | done | fail) () (by rfl) (Ent.of (by (repeat' (first | exact Pick.nil | apply Pick.cons | exact Sel.here | apply Sel.there)); first | done | fail) (by (repeat' (first | exact DropTo.refl | apply DropTo.there)); first | done | fail)))
      rw [if_neg (by simpa using h9)] at hr
      obtain ⟨d0, hd0⟩ : ∃ c, q2[(0 : Int).toNat]? = some c := ⟨_, List.getElem?_eq_getElem (by show 0 < q2.length; omega)⟩
      have hgd : q2.getD 0 0 = d0 := by rw [List.getD]; rw [show q2[0]? = some d0 from hd0]; rfl
      rw [hgd] at hr
      by_cases h10 : d0 = 0
      rotate_left
      · rw [if_pos h10] at hr
        have hr2 : ro = none := by rw [← hr]
        rw [hr2] at hres
        subst hres
        have h10' : ((d0.toNat : Nat) : Int) ≠ 0 := by
          intro e
          apply h10
          apply UInt8.toNat_inj.1
          show d0.toNat = 0
          omega
        repeat' (first 
    | refine KJ_stp (by first | constructor | fail) ?_
    | (refine is_list ?_; first | (refine KJ_guard_dec_t rfl rfl rfl (fun _ => ?_) (fun _ => ?_) <;> first | (exfalso; omega) | skip) | (refine KJ_guard_dec_f rfl rfl rfl (fun _ => ?_) (fun _ => ?_) <;> first | (exfalso; omega) | skip) | (refine KJ_guard_yes rfl rfl ?_) | (refine KJ_guard_no rfl rfl rfl rfl ?_))
    | (refine is_oper ?_; first | (refine is_box ?_; first | (refine KJ_box rfl (by first | exact CellsOf.agg | exact CellsOf.one rfl) rfl (fun _ => ?_))) | (refine is_call ?_; first | (refine KJ_call (by (repeat' (first | exact Evs.nil | refine Evs.cons rfl ?_)); first | done | fail) c6' (by (repeat' (first | exact Pick.nil | apply Pick.cons | exact Sel.here | apply Sel.there)); first | done | fail) rfl (fun _ => ?_))) | (refine KJ_ek rfl ?_) | (refine KJ_ek0 ?_))
    | (refine is_ek ?_; first | (refine ek_move ?_; first | (refine EK_ev (Ev_move rfl) ?_)) | (refine ek_assign ?_; first | (refine EK_ev (Ev_assign rfl) ?_)) | (refine ek_pick ?_; first | (refine EK_ev (Ev_pick_t rfl rfl) ?_) | (refine EK_ev (Ev_pick_f rfl rfl) ?_)) | (refine ek_fieldAddr ?_; first | (refine EK_ev (Ev_field rfl) ?_)) | (refine ek_load ?_; first | (refine EK_ev (Ev_loadAgg rfl (by (repeat' (first | exact Sel.here | apply Sel.there)); first | done | fail) (by (repeat' (first | exact Cut.nil | apply Cut.cons | apply Cut.skip)); first | done | fail)) ?_) | (refine EK_ev (Ev_load rfl (by (repeat' (first | exact Sel.here | apply Sel.there)); first | done | fail) (by rfl)) ?_) | (refine EK_ev (Ev_load rfl (by (repeat' (first | exact Sel.here | apply Sel.there)); first | done | fail) (by rfl)) ?_) | (refine EK_ev (Ev_loadOld rfl (by assumption)) ?_) | (refine EK_ev (Ev_loadAgg rfl (by (repeat' (first | exact Sel.here | apply Sel.there)); first | done | fail) (by (repeat' (first | exact Cut.nil | apply Cut.cons | apply Cut.skip)); first | done | fail)) ?_)) | (refine ek_un ?_; first | (refine EK_ev (Ev_notD rfl) ?_) | (refine EK_ev (Ev_not rfl) ?_) | (refine EK_ev (Ev_neg rfl) ?_)) | (refine ek_conv ?_; first | (refine EK_ev (Ev_convI64 rfl (by omega)) ?_) | (refine EK_ev (Ev_convI rfl) ?_) | (refine EK_ev (Ev_convS rfl) ?_)) | (refine ek_extract ?_; first | (refine EK_ev (Ev_extract rfl rfl) ?_)) | (refine ek_index ?_; first | (refine EK_ev (Ev_indexStr rfl rfl (by omega) hd0) ?_)) | (refine ek_len ?_; first | (refine EK_ev (Ev_len_str rfl) ?_) | (refine EK_ev (Ev_len_slice rfl) ?_) | (refine EK_ev (Ev_len_arr rfl) ?_) | (refine EK_ev (Ev_len_map rfl (by (repeat' (first | exact Sel.here | apply Sel.there)); first | done | fail)) ?_)) | (refine ek_min ?_; first | (refine EK_ev (Ev_min_v rfl rfl hm2) ?_) | (refine EK_ev (Ev_min rfl rfl) ?_)) | (refine ek_add ?_; first | (refine EK_ev (Ev_addI_v (r := ((i + k : Nat) : Int)) rfl rfl (by omega) (by omega)) ?_) | (refine EK_ev (Ev_addI rfl rfl (by omega)) ?_) | (refine EK_ev (Ev_addS rfl rfl (by simp <;> omega)) ?_) | (refine EK_ev (Ev_add rfl rfl) ?_)) | (refine ek_sub ?_; first | (refine EK_ev (Ev_subI rfl rfl (by omega)) ?_) | (refine EK_ev (Ev_sub rfl rfl) ?_)) | (refine ek_mul ?_; first | (refine EK_ev (Ev_mulI rfl rfl (by omega)) ?_) | (refine EK_ev (Ev_mul rfl rfl) ?_)) | (refine ek_shl ?_; first | (refine EK_ev (Ev_shl rfl rfl (by omega)) ?_)) | (refine ek_neq ?_; first | (refine EK_ev (Ev_neqI_t rfl rfl h10') ?_) | (refine EK_ev (Ev_neqI_f rfl rfl h9) ?_) | (refine EK_ev (Ev_neqI rfl rfl) ?_) | (refine EK_ev (Ev_neqS rfl rfl) ?_) | (refine EK_ev (Ev_neqNil rfl rfl) ?_) | (refine EK_ev (Ev_neqB rfl rfl) ?_) | (refine EK_ev (Ev_neqO rfl rfl rfl (fun _ => rfl)) ?_)) | (refine ek_lss ?_; first | (refine EK_ev (Ev_lssI_q rfl rfl qk) ?_) | (refine EK_ev (Ev_lssI rfl rfl) ?_) | (refine EK_ev (Ev_lssS rfl rfl) ?_)) | (refine ek_gtr ?_; first | (refine EK_ev (Ev_gtrI rfl rfl) ?_) | (refine EK_ev (Ev_gtrS rfl rfl) ?_)))
    | (refine is_ex ?_; first | (refine KJ_blk_exit' rfl ?_))
    | (refine is_code ?_; first | (refine KJ_cond_dec rfl (fun _ => ?_) (fun _ => ?_) <;> first | (exfalso; omega) | skip) | (refine KJ_cond_t rfl ?_) | (refine KJ_cond_f rfl ?_)))
        all_goals (refine is_ex ?_; exact KJ_done (by first | exact Or.inl rfl | exact Or.inr rfl) rfl (by (repeat' (first | exact Rvs.nil | (apply Rvs.tmp; exact rfl))); first | done | fail) () (by rfl) (Ent.of (by (repeat' (first | exact Pick.nil | apply Pick.cons | exact Sel.here | apply Sel.there)); first | done | fail) (by (repeat' (first | exact DropTo.refl | apply DropTo.there)); first | done | fail)))
      rw [if_neg (by simpa using h10)] at hr
      have h10' : ((d0.toNat : Nat) : Int) = 0 := by rw [h10]; rfl
      obtain ⟨q3, hq3⟩ : ∃ x, q2.drop (1 : Int).toNat = x := ⟨_, rfl⟩
      rw [show q2.drop 1 = q3 from hq3] at hr
      have hq3l : q3.length = q2.length - 1 := by rw [← hq3]; exact List.length_drop
      repeat' (first 
    | refine KJ_stp (by first | constructor | fail) ?_
    | (refine is_list ?_; first | (refine KJ_guard_dec_t rfl rfl rfl (fun _ => ?_) (fun _ => ?_) <;> first | (exfalso; omega) | skip) | (refine KJ_guard_dec_f rfl rfl rfl (fun _ => ?_) (fun _ => ?_) <;> first | (exfalso; omega) | skip) | (refine KJ_guard_yes rfl rfl ?_) | (refine KJ_guard_no rfl rfl rfl rfl ?_))
    | (refine is_oper ?_; first | (refine is_box ?_; first | (refine KJ_box rfl (by first | exact CellsOf.agg | exact CellsOf.one rfl) rfl (fun _ => ?_))) | (refine is_call ?_; first | (refine KJ_call (by (repeat' (first | exact Evs.nil | refine Evs.cons rfl ?_)); first | done | fail) c6' (by (repeat' (first | exact Pick.nil | apply Pick.cons | exact Sel.here | apply Sel.there)); first | done | fail) rfl (fun _ => ?_))) | (refine is_append ?_; first | (refine KJ_appendBuf rfl rfl (by (repeat' (first | exact Sel.here | apply Sel.there)); first | done | fail) (by omega) rfl (fun g5 c5 => ?_))) | (refine KJ_ek rfl ?_) | (refine KJ_ek0 ?_))
    | (refine is_ek ?_; first | (refine ek_move ?_; first | (refine EK_ev (Ev_move rfl) ?_)) | (refine ek_assign ?_; first | (refine EK_ev (Ev_assign rfl) ?_)) | (refine ek_pick ?_; first | (refine EK_ev (Ev_pick_t rfl rfl) ?_) | (refine EK_ev (Ev_pick_f rfl rfl) ?_)) | (refine ek_fieldAddr ?_; first | (refine EK_ev (Ev_field rfl) ?_)) | (refine ek_load ?_; first | (refine EK_ev (Ev_loadAgg rfl (by (repeat' (first | exact Sel.here | apply Sel.there)); first | done | fail) (by (repeat' (first | exact Cut.nil | apply Cut.cons | apply Cut.skip)); first | done | fail)) ?_) | (refine EK_ev (Ev_load rfl (by (repeat' (first | exact Sel.here | apply Sel.there)); first | done | fail) (by rfl)) ?_) | (refine EK_ev (Ev_load rfl (by (repeat' (first | exact Sel.here | apply Sel.there)); first | done | fail) (by rfl)) ?_) | (refine EK_ev (Ev_loadOld rfl (by assumption)) ?_) | (refine EK_ev (Ev_loadAgg rfl (by (repeat' (first | exact Sel.here | apply Sel.there)); first | done | fail) (by (repeat' (first | exact Cut.nil | apply Cut.cons | apply Cut.skip)); first | done | fail)) ?_)) | (refine ek_un ?_; first | (refine EK_ev (Ev_notD rfl) ?_) | (refine EK_ev (Ev_not rfl) ?_) | (refine EK_ev (Ev_neg rfl) ?_)) | (refine ek_conv ?_; first | (refine EK_ev (Ev_convI64 rfl (by omega)) ?_) | (refine EK_ev (Ev_convI rfl) ?_) | (refine EK_ev (Ev_convS rfl) ?_)) | (refine ek_extract ?_; first | (refine EK_ev (Ev_extract rfl rfl) ?_)) | (refine ek_index ?_; first | (refine EK_ev (Ev_indexStr rfl rfl (by omega) hd0) ?_)) | (refine ek_slice ?_; first | (refine EK_ev (Ev_sliceStrFrom_v rfl rfl (by omega) hq3) ?_)) | (refine ek_len ?_; first | (refine EK_ev (Ev_len_str rfl) ?_) | (refine EK_ev (Ev_len_slice rfl) ?_) | (refine EK_ev (Ev_len_arr rfl) ?_) | (refine EK_ev (Ev_len_map rfl (by (repeat' (first | exact Sel.here | apply Sel.there)); first | done | fail)) ?_)) | (refine ek_min ?_; first | (refine EK_ev (Ev_min_v rfl rfl hm2) ?_) | (refine EK_ev (Ev_min rfl rfl) ?_)) | (refine ek_add ?_; first | (refine EK_ev (Ev_addI_v (r := ((k + 1 : Nat) : Int)) rfl rfl (by omega) (by omega)) ?_) | (refine EK_ev (Ev_addI_v (r := ((i + k : Nat) : Int)) rfl rfl (by omega) (by omega)) ?_) | (refine EK_ev (Ev_addI rfl rfl (by omega)) ?_) | (refine EK_ev (Ev_addS rfl rfl (by simp <;> omega)) ?_) | (refine EK_ev (Ev_add rfl rfl) ?_)) | (refine ek_sub ?_; first | (refine EK_ev (Ev_subI rfl rfl (by omega)) ?_) | (refine EK_ev (Ev_sub rfl rfl) ?_)) | (refine ek_mul ?_; first | (refine EK_ev (Ev_mulI rfl rfl (by omega)) ?_) | (refine EK_ev (Ev_mul rfl rfl) ?_)) | (refine ek_shl ?_; first | (refine EK_ev (Ev_shl rfl rfl (by omega)) ?_)) | (refine ek_neq ?_; first | (refine EK_ev (Ev_neqI_f rfl rfl h10') ?_) | (refine EK_ev (Ev_neqI_f rfl rfl h9) ?_) | (refine EK_ev (Ev_neqI rfl rfl) ?_) | (refine EK_ev (Ev_neqS rfl rfl) ?_) | (refine EK_ev (Ev_neqNil rfl rfl) ?_) | (refine EK_ev (Ev_neqB rfl rfl) ?_) | (refine EK_ev (Ev_neqO rfl rfl rfl (fun _ => rfl)) ?_)) | (refine ek_lss ?_; first | (refine EK_ev (Ev_lssI_q rfl rfl qk) ?_) | (refine EK_ev (Ev_lssI rfl rfl) ?_) | (refine EK_ev (Ev_lssS rfl rfl) ?_)) | (refine ek_gtr ?_; first | (refine EK_ev (Ev_gtrI rfl rfl) ?_) | (refine EK_ev (Ev_gtrS rfl rfl) ?_)))
    | (refine is_ex ?_; first | (refine KJ_blk_exit' rfl ?_))
    | (refine is_code ?_; first | (refine KJ_cond_dec rfl (fun _ => ?_) (fun _ => ?_) <;> first | (exfalso; omega) | skip) | (refine KJ_cond_t rfl ?_) | (refine KJ_cond_f rfl ?_)))
      refine KJ_again ⟨(fu', k + 1, out ++ q3, g5, c5), hr, by dsimp only; omega, by dsimp only; omega, by dsimp only; rw [List.length_append]; split at hcost <;> omega⟩ (by show fu' < fu' + 1; omega) ?_ ?_
      · dsimp only
        rw [List.length_append]
        exact (by (repeat' (first | exact Subs.nil | refine Subs.cons rfl ?_)); first | done | fail)
      · dsimp only
        rw [List.length_append]
        exact (Ent.of (by (repeat' (first | exact Pick.nil | apply Pick.cons | exact Sel.here | apply Sel.there)); first | done | fail) (by (repeat' (first | exact DropTo.refl | apply DropTo.there)); first | done | fail))
set_option maxHeartbeats 1000000 in
set_option maxRecDepth 100000 in
theorem replay_ct (hE : ErrsOn L8 W E) (hN : NibAt W) (at_ n : Int) (ver : Nat) (hn2 : D.n ≤ 65536) (ho : D.off = false) (h : logOk D at_ n ver) : Ct Tryd.prog W 70 [.pointer (some ⟨p, 0, none⟩), .int .i64 at_, .int .i64 n, .int .i64 (ver : Nat)] [DiskP p D]
    (fun v : Value => .tuple #[v, .nilIface]) (fun v => [DiskP p D, rowP v 9 1 (rpGo D at_ n ver (n.toNat + 1) 0 []).length ((rpGo D at_ n ver (n.toNat + 1) 0 []).map strV)]) := by
  have c1 := check_ct (W := W) (p := p) hn2 ho at_ n (ver : Nat) h
  obtain ⟨h1, h2, h3, h4, h5, h6, h7⟩ := h
  obtain ⟨res, hres⟩ : ∃ res, res = rpGo D at_ n ver (n.toNat + 1) 0 [] := ⟨_, rfl⟩
  rw [← hres]
  have cr := fun i (hi : ((i : Nat) : Int) ≤ n) => record_ct (W := W) (p := p) (D := D) hE hN at_ n ver i (by omega) h5 (by omega) hi
  refine Ct.enter Tryd.func70 rfl Tryd.ntmps70 (by simp) (fun R => ?_)
  repeat' (first 
    | refine KJ_stp (by first | constructor | fail) ?_
    | (refine is_oper ?_; first | (refine is_store ?_; first | (refine KJ_store rfl rfl (by (repeat' (first | exact Sel.here | apply Sel.there)); first | done | fail) (by first | exact CellsOf.agg | exact CellsOf.one rfl) (by rfl) (by (repeat' (first | exact Ones.nil | exact Ones_bvs _ | refine Ones.cons rfl ?_)); first | done | fail) (by (repeat' (first | exact Laid.nil | apply Laid.cons | apply Laid.skip)); first | done | fail) (by (repeat' (first | exact Rep.here | apply Rep.there)); first | done | fail) ?_)) | (refine is_alloc ?_; first | (refine KJ_alloc rfl (fun _ => ?_))) | (refine is_call ?_; first | (refine KJ_call (by (repeat' (first | exact Evs.nil | refine Evs.cons rfl ?_)); first | done | fail) c1 (by (repeat' (first | exact Pick.nil | apply Pick.cons | exact Sel.here | apply Sel.there)); first | done | fail) rfl (fun _ => ?_))) | (refine KJ_ek rfl ?_) | (refine KJ_ek0 ?_))
    | (refine is_ek ?_; first | (refine ek_move ?_; first | (refine EK_ev (Ev_move rfl) ?_)) | (refine ek_assign ?_; first | (refine EK_ev (Ev_assign rfl) ?_)) | (refine ek_load ?_; first | (refine EK_ev (Ev_loadAgg rfl (by (repeat' (first | exact Sel.here | apply Sel.there)); first | done | fail) (by (repeat' (first | exact Cut.nil | apply Cut.cons | apply Cut.skip)); first | done | fail)) ?_) | (refine EK_ev (Ev_load rfl (by (repeat' (first | exact Sel.here | apply Sel.there)); first | done | fail) (by rfl)) ?_) | (refine EK_ev (Ev_load rfl (by (repeat' (first | exact Sel.here | apply Sel.there)); first | done | fail) (by rfl)) ?_) | (refine EK_ev (Ev_loadOld rfl (by assumption)) ?_) | (refine EK_ev (Ev_loadAgg rfl (by (repeat' (first | exact Sel.here | apply Sel.there)); first | done | fail) (by (repeat' (first | exact Cut.nil | apply Cut.cons | apply Cut.skip)); first | done | fail)) ?_)) | (refine ek_un ?_; first | (refine EK_ev (Ev_notD rfl) ?_) | (refine EK_ev (Ev_not rfl) ?_) | (refine EK_ev (Ev_neg rfl) ?_)) | (refine ek_extract ?_; first | (refine EK_ev (Ev_extract rfl rfl) ?_)) | (refine ek_build ?_; first | (refine EK_ev (Ev_build (by (repeat' (first | exact EvP.nil | (apply EvP.cons; exact rfl))); first | done | fail) (by (repeat' (first | exact Fills.nil | (apply Fills.cons; exact rfl; (first | exact CellsOf.agg | exact CellsOf.one rfl); exact rfl; (repeat' (first | exact Laid.nil | apply Laid.cons | apply Laid.skip))))); first | done | fail)) ?_)) | (refine ek_add ?_; first | (refine EK_ev (Ev_addI rfl rfl (by omega)) ?_) | (refine EK_ev (Ev_addS rfl rfl (by simp <;> omega)) ?_) | (refine EK_ev (Ev_add rfl rfl) ?_)) | (refine ek_neq ?_; first | (refine EK_ev (Ev_neqI rfl rfl) ?_) | (refine EK_ev (Ev_neqS rfl rfl) ?_) | (refine EK_ev (Ev_neqNil rfl rfl) ?_) | (refine EK_ev (Ev_neqB rfl rfl) ?_) | (refine EK_ev (Ev_neqO rfl rfl rfl (fun _ => rfl)) ?_)))
    | (refine is_ex ?_; first | (refine KJ_blk_exit' rfl ?_))
    | (refine is_code ?_; first | (refine KJ_cond_dec rfl (fun _ => ?_) (fun _ => ?_) <;> first | (exfalso; omega) | skip) | (refine KJ_cond_t rfl ?_) | (refine KJ_cond_f rfl ?_)))
  refine KJ.row0 (e := 9) (sz := 1) ?_
  rename_i gl _
  refine KJ_loop (fun k : {s : Nat × Nat × List (List UInt8) × Value // rpGo D at_ n ver s.1 s.2.1 s.2.2.1 = res ∧ (s.2.1 : Int) ≤ n ∧ n + 1 ≤ (s.1 : Int) + s.2.1 ∧ s.2.2.1.length ≤ s.2.1} => [(10, .pointer (some ⟨gl, 0, none⟩)), (12, k.1.2.2.2), (13, .int .i64 (k.1.2.1 : Nat))])
    (fun k => [DiskP p D, cellsP gl [.pointer (some ⟨p, 0, none⟩), .int .i64 at_, .int .i64 n, .int .i64 (ver : Nat)] 163, rowP k.1.2.2.2 9 1 k.1.2.2.1.length (k.1.2.2.1.map strV)] ++ R) (fun k => k.1.1) ⟨(n.toNat + 1, 0, [], .slice none 0 0), hres.symm, by dsimp only; omega, by dsimp only; omega, Nat.le_refl _⟩ (by (repeat' (first | exact Subs.nil | refine Subs.cons rfl ?_)); first | done | fail) (Ent.of (by (repeat' (first | exact Pick.nil | apply Pick.cons | exact Sel.here | apply Sel.there)); first | done | fail) (by (repeat' (first | exact DropTo.refl | apply DropTo.there)); first | done | fail)) (fun ⟨(f, i, acc, v), hr, hin, hfi, hal⟩ => ?_)
  dsimp only at hr hin hfi hal ⊢
  obtain ⟨f', rfl⟩ : ∃ f', f = f' + 1 := ⟨f - 1, by omega⟩
  have hunf : rpGo D at_ n ver (f' + 1) i acc = match recO D at_ n ver i with
    | none => acc
    | some (s, u) => rpGo D at_ n ver f' (i + u.toNat) (acc ++ [s]) := rfl
  rw [hunf] at hr
  clear hunf
  have c2 := cr i hin
  have hrs := fun s u => recO_some (D := D) (at_ := at_) (n := n) (ver := ver) (i := i) (s := s) (u := u)
  obtain ⟨o, ho⟩ : ∃ o, o = recO D at_ n ver i := ⟨_, rfl⟩
  rw [← ho] at c2 hr
  simp only [← ho] at hrs
  clear ho
  cases o with
  | none =>
    have hr2 : acc = res := hr
    subst hr2
    have c2' : Ct Tryd.prog W 102 [.agg #[.pointer (some ⟨p, 0, none⟩), .int .i64 at_, .int .i64 n, .int .i64 (ver : Nat)], .int .i64 (i : Nat)] [DiskP p D] (fun _ : Unit => .tuple #[strV [], .int .i64 0, .bool false]) (fun _ => [DiskP p D]) := c2
    repeat' (first 
    | refine KJ_stp (by first | constructor | fail) ?_
    | (refine is_oper ?_; first | (refine is_store ?_; first | (refine KJ_store rfl rfl (by (repeat' (first | exact Sel.here | apply Sel.there)); first | done | fail) (by first | exact CellsOf.agg | exact CellsOf.one rfl) (by rfl) (by (repeat' (first | exact Ones.nil | exact Ones_bvs _ | refine Ones.cons rfl ?_)); first | done | fail) (by (repeat' (first | exact Laid.nil | apply Laid.cons | apply Laid.skip)); first | done | fail) (by (repeat' (first | exact Rep.here | apply Rep.there)); first | done | fail) ?_)) | (refine is_alloc ?_; first | (refine KJ_alloc rfl (fun _ => ?_))) | (refine is_call ?_; first | (refine KJ_call (by (repeat' (first | exact Evs.nil | refine Evs.cons rfl ?_)); first | done | fail) c2' (by (repeat' (first | exact Pick.nil | apply Pick.cons | exact Sel.here | apply Sel.there)); first | done | fail) rfl (fun _ => ?_))) | (refine KJ_ek rfl ?_) | (refine KJ_ek0 ?_))
    | (refine is_ek ?_; first | (refine ek_move ?_; first | (refine EK_ev (Ev_move rfl) ?_)) | (refine ek_assign ?_; first | (refine EK_ev (Ev_assign rfl) ?_)) | (refine ek_load ?_; first | (refine EK_ev (Ev_loadAgg rfl (by (repeat' (first | exact Sel.here | apply Sel.there)); first | done | fail) (by (repeat' (first | exact Cut.nil | apply Cut.cons | apply Cut.skip)); first | done | fail)) ?_) | (refine EK_ev (Ev_load rfl (by (repeat' (first | exact Sel.here | apply Sel.there)); first | done | fail) (by rfl)) ?_) | (refine EK_ev (Ev_load rfl (by (repeat' (first | exact Sel.here | apply Sel.there)); first | done | fail) (by rfl)) ?_) | (refine EK_ev (Ev_loadOld rfl (by assumption)) ?_) | (refine EK_ev (Ev_loadAgg rfl (by (repeat' (first | exact Sel.here | apply Sel.there)); first | done | fail) (by (repeat' (first | exact Cut.nil | apply Cut.cons | apply Cut.skip)); first | done | fail)) ?_)) | (refine ek_un ?_; first | (refine EK_ev (Ev_notD rfl) ?_) | (refine EK_ev (Ev_not rfl) ?_) | (refine EK_ev (Ev_neg rfl) ?_)) | (refine ek_extract ?_; first | (refine EK_ev (Ev_extract rfl rfl) ?_)) | (refine ek_add ?_; first | (refine EK_ev (Ev_addI rfl rfl (by omega)) ?_) | (refine EK_ev (Ev_addS rfl rfl (by simp <;> omega)) ?_) | (refine EK_ev (Ev_add rfl rfl) ?_)) | (refine ek_neq ?_; first | (refine EK_ev (Ev_neqI rfl rfl) ?_) | (refine EK_ev (Ev_neqS rfl rfl) ?_) | (refine EK_ev (Ev_neqNil rfl rfl) ?_) | (refine EK_ev (Ev_neqB rfl rfl) ?_) | (refine EK_ev (Ev_neqO rfl rfl rfl (fun _ => rfl)) ?_)))
    | (refine is_ex ?_; first | (refine KJ_blk_exit' rfl ?_))
    | (refine is_code ?_; first | (refine KJ_cond_dec rfl (fun _ => ?_) (fun _ => ?_) <;> first | (exfalso; omega) | skip) | (refine KJ_cond_t rfl ?_) | (refine KJ_cond_f rfl ?_)))
    all_goals (refine is_ex ?_; exact KJ_done (by first | exact Or.inl rfl | exact Or.inr rfl) rfl (by (repeat' (first | exact Rvs.nil | (apply Rvs.tmp; exact rfl))); first | done | fail) v (by rfl) (Ent.of (by (repeat' (first | exact Pick.nil | apply Pick.cons | exact Sel.here | apply Sel.there)); first | done | fail) (by (repeat' (first | exact DropTo.refl | apply DropTo.there)); first | done | fail)))
  | some su =>
    obtain ⟨s, u⟩ := su
    dsimp only at hr
    obtain ⟨hu1, hu2⟩ := hrs s u rfl
    obtain ⟨un, rfl⟩ : ∃ un : Nat, u = (un : Int) := ⟨u.toNat, by omega⟩
    rw [Int.toNat_natCast] at hr
    have c2' : Ct Tryd.prog W 102 [.agg #[.pointer (some ⟨p, 0, none⟩), .int .i64 at_, .int .i64 n, .int .i64 (ver : Nat)], .int .i64 (i : Nat)] [DiskP p D] (fun _ : Unit => .tuple #[strV s, .int .i64 (un : Nat), .bool true]) (fun _ => [DiskP p D]) := c2
    repeat' (first 
    | refine KJ_stp (by first | constructor | fail) ?_
    | (refine is_oper ?_; first | (refine is_store ?_; first | (refine KJ_store rfl rfl (by (repeat' (first | exact Sel.here | apply Sel.there)); first | done | fail) (by first | exact CellsOf.agg | exact CellsOf.one rfl) (by rfl) (by (repeat' (first | exact Ones.nil | exact Ones_bvs _ | refine Ones.cons rfl ?_)); first | done | fail) (by (repeat' (first | exact Laid.nil | apply Laid.cons | apply Laid.skip)); first | done | fail) (by (repeat' (first | exact Rep.here | apply Rep.there)); first | done | fail) ?_)) | (refine is_alloc ?_; first | (refine KJ_alloc rfl (fun _ => ?_))) | (refine is_call ?_; first | (refine KJ_call (by (repeat' (first | exact Evs.nil | refine Evs.cons rfl ?_)); first | done | fail) c2' (by (repeat' (first | exact Pick.nil | apply Pick.cons | exact Sel.here | apply Sel.there)); first | done | fail) rfl (fun _ => ?_))) | (refine is_append ?_; first | (refine KJ_append (a2 := 0) rfl rfl (by rfl) (by omega) (by (repeat' (first | exact Sel.here | apply Sel.there)); first | done | fail) (Src.cells (i := 1) (by (repeat' (first | exact Sel.here | apply Sel.there)); first | done | fail) (by (repeat' (first | exact Cut.nil | apply Cut.cons | apply Cut.skip)); first | done | fail)) (by rfl) (by omega) (by (repeat' (first | exact Ones.nil | exact Ones_bvs _ | refine Ones.cons rfl ?_)); first | done | fail) (by omega) (by omega) rfl rfl (fun g5 c5 => ?_))) | (refine is_bslice ?_; first | (refine KJ_bslice1 rfl (by first | exact CellsOf.agg | exact CellsOf.one rfl) (by rfl) (by omega) rfl (fun g3 => ?_))) | (refine KJ_ek rfl ?_) | (refine KJ_ek0 ?_))
    | (refine is_ek ?_; first | (refine ek_move ?_; first | (refine EK_ev (Ev_move rfl) ?_)) | (refine ek_assign ?_; first | (refine EK_ev (Ev_assign rfl) ?_)) | (refine ek_load ?_; first | (refine EK_ev (Ev_loadAgg rfl (by (repeat' (first | exact Sel.here | apply Sel.there)); first | done | fail) (by (repeat' (first | exact Cut.nil | apply Cut.cons | apply Cut.skip)); first | done | fail)) ?_) | (refine EK_ev (Ev_load rfl (by (repeat' (first | exact Sel.here | apply Sel.there)); first | done | fail) (by rfl)) ?_) | (refine EK_ev (Ev_load rfl (by (repeat' (first | exact Sel.here | apply Sel.there)); first | done | fail) (by rfl)) ?_) | (refine EK_ev (Ev_loadOld rfl (by assumption)) ?_) | (refine EK_ev (Ev_loadAgg rfl (by (repeat' (first | exact Sel.here | apply Sel.there)); first | done | fail) (by (repeat' (first | exact Cut.nil | apply Cut.cons | apply Cut.skip)); first | done | fail)) ?_)) | (refine ek_un ?_; first | (refine EK_ev (Ev_notD rfl) ?_) | (refine EK_ev (Ev_not rfl) ?_) | (refine EK_ev (Ev_neg rfl) ?_)) | (refine ek_extract ?_; first | (refine EK_ev (Ev_extract rfl rfl) ?_)) | (refine ek_add ?_; first | (refine EK_ev (Ev_addI_v (r := ((i + un : Nat) : Int)) rfl rfl (by omega) (by omega)) ?_) | (refine EK_ev (Ev_addI rfl rfl (by omega)) ?_) | (refine EK_ev (Ev_addS rfl rfl (by simp <;> omega)) ?_) | (refine EK_ev (Ev_add rfl rfl) ?_)) | (refine ek_neq ?_; first | (refine EK_ev (Ev_neqI rfl rfl) ?_) | (refine EK_ev (Ev_neqS rfl rfl) ?_) | (refine EK_ev (Ev_neqNil rfl rfl) ?_) | (refine EK_ev (Ev_neqB rfl rfl) ?_) | (refine EK_ev (Ev_neqO rfl rfl rfl (fun _ => rfl)) ?_)))
    | (refine is_ex ?_; first | (refine KJ_blk_exit' rfl ?_))
    | (refine is_code ?_; first | (refine KJ_cond_dec rfl (fun _ => ?_) (fun _ => ?_) <;> first | (exfalso; omega) | skip) | (refine KJ_cond_t rfl ?_) | (refine KJ_cond_f rfl ?_)))
    refine KJ_again ⟨(f', i + un, acc ++ [s], .slice (some ⟨g5, 0, none⟩) (acc.length + 1) c5), hr, by dsimp only; omega, by dsimp only; omega, by dsimp only; rw [List.length_append]; show acc.length + 1 ≤ _; omega⟩ (by show f' < f' + 1; omega) (by (repeat' (first | exact Subs.nil | refine Subs.cons rfl ?_)); first | done | fail) ?_
    have em : acc.map strV ++ [strV s] = (acc ++ [s]).map strV := by simp
    dsimp only
    rw [← em, List.length_append]
    exact (Ent.of (by (repeat' (first | exact Pick.nil | apply Pick.cons | exact Sel.here | apply Sel.there)); first | done | fail) (by (repeat' (first | exact DropTo.refl | apply DropTo.there)); first | done | fail))
end
end Go.Proofs.YteklldbfdmaafaaDoor
/-
  A disk that nobody armed, as plain data.
-/
namespace Go.Proofs.YteklldbfdmaafaaDoor
open Go Go.RowKit
/-- a disk that nobody armed: its power is on -/
def Calm (D : Dsk) : Prop := D.off = false ∧ D.armed = -1
theorem gone_calm {D : Dsk} (h : Calm D) : D.gone = D := by
  obtain ⟨h1, h2⟩ := h
  unfold Dsk.gone
  rw [if_neg (by omega), if_neg (by omega)]
theorem dead_calm {D : Dsk} (h : Calm D) : D.dead = false := by simp [Dsk.dead, h.2]
theorem blank_calm (n : Nat) : Calm (Dsk.blank n) := ⟨rfl, rfl⟩
theorem writeD_calm {D : Dsk} (h : Calm D) (i : Int) (s : List UInt8) : Calm (D.writeD i s) ∧ (D.writeD i s).n = D.n := by
  have h1 : Calm ({ D with und := D.und ++ [(i.toNat, s)] } : Dsk) := h
  unfold Dsk.writeD
  split
  · exact ⟨h, rfl⟩
  split
  · split
    · simp only [dead_calm h, gone_calm h1]
      exact ⟨h, rfl⟩
    · exact ⟨h, rfl⟩
  · exact ⟨h, rfl⟩
theorem flushD_calm {D : Dsk} (h : Calm D) : Calm D.flushD ∧ D.flushD.n = D.n ∧ D.flushE = 0 ∧ D.flushD.und = [] ∧ D.flushD.img = layAll D.img D.und := by
  have e : D.flushD = { D with img := layAll D.img D.und, und := [], flushes := w64 (D.flushes + 1) } := by
    unfold Dsk.flushD
    rw [if_neg (by rw [h.1]; simp), if_neg (by rw [dead_calm h]; simp), gone_calm h]
  rw [e]
  refine ⟨h, rfl, ?_, rfl, rfl⟩
  simp [Dsk.flushE, h.1, dead_calm h]
theorem crash_clean (D : Dsk) (hu : D.und = []) (kept : List Bool) (torn bytes : Int) : (D.crash kept torn bytes).img = D.img := by
  simp [Dsk.crash, hu, layDone]

end Go.Proofs.YteklldbfdmaafaaDoor
/-
  Slots over a disk that nobody armed, as plain data: a write lays one sector; what a slot tells then.
-/
namespace Go.Proofs.YteklldbfdmaafaaDoor
open Go Go.RowKit
/-- a disk at rest: power on, nobody armed it, nothing under way -/
structure Rest (D : Dsk) : Prop where
  calm : Calm D
  und : D.und = []
  ok : D.ok
theorem Rest.rd {D : Dsk} (h : Rest D) (i : Nat) : D.rd i = D.sec i := by simp [Dsk.rd, h.und, lastW_nil]
/-- a write of a version at rest -/
theorem rest_write {D : Dsk} (h : Rest D) (a v : Nat) (s : List UInt8) (ha : a + 2 ≤ D.n) (hv : 1 ≤ v) (hv2 : v ≤ 1099511627776) (hs : s.length ≤ 234) :
    slotWE D a v s = 0 ∧ Rest (slotWD D a v s) ∧ (slotWD D a v s).n = D.n ∧ (slotWD D a v s).sec (a + v % 2) = sealB v s ∧ ∀ j, j ≠ a + v % 2 → j < D.n → (slotWD D a v s).sec j = D.sec j := by
  have hn := h.ok.n2
  have hroom : D.roomB (a : Int) = true := by unfold Dsk.roomB; exact decide_eq_true (by omega)
  have hmay : slotMay D (a : Int) (v : Int) = true := by
    unfold slotMay; rw [hroom, decide_eq_true (show (1 : Int) ≤ v by omega), decide_eq_true (show (v : Int) ≤ 1099511627776 by omega)]; rfl
  have hb : ¬ (slotMay D (a : Int) (v : Int) = false) := by rw [hmay]; simp
  have hi : ((a : Int) + (v : Int) % 2) = ((a + v % 2 : Nat) : Int) := by omega
  have hlen := sealB_length (v : Int) s hs
  have hi2 : a + v % 2 < D.n := by omega
  have hhas : D.has ((a + v % 2 : Nat) : Int) = true := by unfold Dsk.has; exact decide_eq_true (by omega)
  have hwE : D.writeE ((a : Int) + (v : Int) % 2) (sealB v s) = 0 := by
    rw [hi]; unfold Dsk.writeE; rw [if_neg (by rw [h.calm.1]; simp), if_pos hhas, if_pos hlen, if_neg (by rw [dead_calm h.calm]; simp)]
  have hD1 : Calm ({ D with und := D.und ++ [(a + v % 2, sealB (v : Int) s)] } : Dsk) := h.calm
  have hw : slotW1 D (a : Int) (v : Int) s = { D with und := [(a + v % 2, sealB (v : Int) s)], writes := w64 (D.writes + 1) } := by
    unfold slotW1 Dsk.writeD
    rw [hi, if_neg (by rw [h.calm.1]; simp), if_pos hhas, if_pos hlen]
    simp only [dead_calm h.calm, gone_calm hD1, Int.toNat_natCast]
    simp [h.und]
  have hok1 : (slotW1 D (a : Int) (v : Int) s).ok := Dsk.writeD_ok h.ok _ _
  have hc1 : Calm (slotW1 D (a : Int) (v : Int) s) := by rw [hw]; exact h.calm
  have hf := flushD_calm hc1
  have hl := h.ok.len
  have e1 : slotWE D a v s = 0 := by
    unfold slotWE
    rw [if_neg hb, if_neg (by omega), if_neg (by rw [hwE]; simp)]
    exact hf.2.2.1
  have e2 : slotWD D a v s = (slotW1 D (a : Int) (v : Int) s).flushD := by
    unfold slotWD
    rw [if_neg hb, if_neg (by omega), if_neg (by rw [hwE]; simp)]
  have hn1 : (slotW1 D (a : Int) (v : Int) s).n = D.n := by rw [hw]
  have himg : (slotWD D a v s).img = lay D.img ((a + v % 2) * 256) (sealB (v : Int) s) := by
    rw [e2, hf.2.2.2.2, hw]; rfl
  refine ⟨e1, ⟨by rw [e2]; exact hf.1, by rw [e2]; exact hf.2.2.2.1, by rw [e2]; exact Dsk.flushD_ok hok1⟩, by rw [e2, hf.2.1, hn1], ?_, fun j hj hjn => ?_⟩
  · unfold Dsk.sec
    rw [himg]
    have := cut_lay_same D.img (sealB (v : Int) s) ((a + v % 2) * 256) (by rw [hlen]; omega)
    rw [hlen] at this
    exact this
  · unfold Dsk.sec
    rw [himg]
    rcases Nat.lt_or_ge j (a + v % 2) with hlt | hge
    · exact cut_lay_before _ _ _ _ _ (by rw [hlen]; omega) (by omega)
    · exact cut_lay_behind _ _ _ _ _ (by rw [hlen]; omega) (by rw [hlen]; omega)

/-- a slot that holds version c (0: none) and its value -/
structure Holds (D : Dsk) (a c : Nat) (l : List UInt8) : Prop where
  here : 0 < c → countO (D.sec (a + c % 2)) ((c % 2 : Nat) : Int) = some ((c : Int), l)
  other : countV (D.sec (a + (c + 1) % 2)) (((c + 1) % 2 : Nat) : Int) < (if c = 0 then 1 else (c : Int))
  none_ : c = 0 → countV (D.sec a) 0 = 0
theorem Holds.keep {D D' : Dsk} {a c : Nat} {l : List UInt8} (h : Holds D a c l) (hs : ∀ k, k < 2 → D'.sec (a + k) = D.sec (a + k)) : Holds D' a c l := by
  have h0 : D'.sec a = D.sec a := hs 0 (by omega)
  exact ⟨fun q => by rw [hs _ (Nat.mod_lt _ (by omega))]; exact h.here q, by rw [hs _ (Nat.mod_lt _ (by omega))]; exact h.other, fun q => by rw [h0]; exact h.none_ q⟩
/-- the next version is written -/
theorem Holds.next {D : Dsk} {a c : Nat} {l s : List UInt8} (hr : Rest D) (ha : a + 2 ≤ D.n) (h : Holds D a c l) (hc : c + 1 ≤ 1099511627776) (hs : s.length ≤ 234) : Holds (slotWD D a (c + 1 : Nat) s) a (c + 1) s := by
  obtain ⟨_, _, _, h1, h2⟩ := rest_write hr a (c + 1) s ha (by omega) hc hs
  refine ⟨fun _ => ?_, ?_, fun q => by omega⟩
  · rw [h1, show (((c + 1) % 2 : Nat) : Int) = ((c + 1 : Nat) : Int) % 2 by omega]
    exact seal_count (c + 1) s hs (by omega) hc
  · have e : (c + 1 + 1) % 2 = c % 2 := by omega
    rw [e, h2 _ (by omega) (by omega), if_neg (by omega)]
    by_cases hz : c = 0
    · subst hz
      have : countV (D.sec a) 0 = 0 := h.none_ rfl
      show countV (D.sec a) 0 < ((0 + 1 : Nat) : Int)
      omega
    · have hh := h.here (by omega)
      have : countV (D.sec (a + c % 2)) ((c % 2 : Nat) : Int) = c := by unfold countV; rw [hh]; rfl
      rw [this]
      omega
theorem blank_sec (n i : Nat) (h : i < n) : (Dsk.blank n).sec i = zs 256 := zs_cut _ _ _ (by omega)
theorem count_zero0 : countV (zs 256) 0 = 0 := by kernel_rfl
theorem count_zero1 : countV (zs 256) 1 = 0 := by kernel_rfl
theorem Holds.blank (n a : Nat) (h : a + 2 ≤ n) : Holds (Dsk.blank n) a 0 [] := by
  refine ⟨fun q => by omega, ?_, fun _ => ?_⟩
  · show countV ((Dsk.blank n).sec (a + 1)) 1 < 1
    rw [blank_sec _ _ (by omega), count_zero1]
    omega
  · rw [blank_sec _ _ (by omega), count_zero0]
theorem blank_rest (n : Nat) (h1 : 1 ≤ n) (h2 : n ≤ 65536) : Rest (Dsk.blank n) := ⟨blank_calm n, rfl, Dsk.blank_ok n h1 h2⟩
end Go.Proofs.YteklldbfdmaafaaDoor
/-
  Slots behind crashes, as plain data: a torn sector counts for the new version only if it is whole.
-/
namespace Go.Proofs.YteklldbfdmaafaaDoor
open Go Go.RowKit
theorem ext_getD (a b : List UInt8) (h : a.length = b.length) (e : ∀ i, i < a.length → a.getD i 0 = b.getD i 0) : a = b := by
  apply List.ext_getElem h
  intro i h1 h2
  have := e i h1
  rw [List.getD, List.getElem?_eq_getElem h1, List.getD, List.getElem?_eq_getElem h2] at this
  simpa using this

/-- the first k bytes of the new one, the rest of the old one -/
def tornB (new old : List UInt8) (k : Nat) : List UInt8 := new.take k ++ old.drop k
theorem torn_length {new old : List UInt8} {k : Nat} (h1 : new.length = 256) (h2 : old.length = 256) (hk : k ≤ 256) : (tornB new old k).length = 256 := by
  simp [tornB]; omega
theorem torn_get {new old : List UInt8} {k : Nat} (h1 : new.length = 256) (hk : k ≤ 256) (i : Nat) : (tornB new old k).getD i 0 = if i < k then new.getD i 0 else old.getD i 0 := by
  unfold tornB
  simp only [List.getD]
  split
  · rw [List.getElem?_append_left (by simp; omega), List.getElem?_take_of_lt (by omega)]
  · rw [List.getElem?_append_right (by simp; omega), List.length_take, Nat.min_eq_left (by omega), List.getElem?_drop]
    congr 2
    omega
theorem torn_torn {new old : List UInt8} {k d : Nat} (h1 : new.length = 256) (h2 : old.length = 256) (hk : k ≤ 256) (hd : d ≤ 256) : new.take d ++ (tornB new old k).drop d = tornB new old (max k d) := by
  have hl := torn_length h1 h2 hk
  have e : new.take d ++ (tornB new old k).drop d = tornB new (tornB new old k) d := rfl
  have hm : max k d ≤ 256 := by omega
  rw [e]
  refine ext_getD _ _ (by rw [torn_length h1 hl hd, torn_length h1 h2 hm]) fun i _ => ?_
  rw [torn_get h1 hd, torn_get h1 hm, torn_get h1 hk]
  repeat' split
  all_goals first | rfl | omega
/-- an old sector of a version two below -/
structure Old (c : Nat) (old : List UInt8) : Prop where
  len : old.length = 256
  tail : ∀ i, i < 8 → old.getD (248 + i) 0 = byteAt ((c - 1 : Nat) : Int) i
/-- power on, nothing under way; it may be armed -/
structure Still (D : Dsk) : Prop where
  on : D.off = false
  und : D.und = []
  ok : D.ok
theorem Still.rest {D : Dsk} (h : Still D) : Rest ({ D with armed := -1 } : Dsk) := ⟨⟨h.on, rfl⟩, h.und, ⟨h.ok.n1, h.ok.n2, h.ok.len, h.ok.und, by simp, by simp⟩⟩
theorem arm_still {D : Dsk} (h : Still D) (k : Int) (hk : k ≤ 9223372036854775807) : Still (D.arm k) := ⟨h.on, h.und, Dsk.arm_ok h.ok k hk⟩
/-- a write to a disk at rest that may be armed: the three ways -/
theorem slot_three {D : Dsk} (h : Still D) (a v : Nat) (s : List UInt8) (ha : a + 2 ≤ D.n) (hv : 1 ≤ v) (hv2 : v ≤ 1099511627776) (hs : s.length ≤ 234) :
    (D.armed = 0 → slotWE D a v s = 12 ∧ slotWD D a v s = { D with off := true, und := [(a + v % 2, sealB v s)] }) ∧
    (D.armed = 1 → slotWE D a v s = 12 ∧ slotWD D a v s = { D with armed := 0, off := true, und := [(a + v % 2, sealB v s)], writes := w64 (D.writes + 1) }) ∧
    (D.armed ≠ 0 → D.armed ≠ 1 → slotWE D a v s = 0 ∧ ∃ r, slotWD D a v s = { D with armed := r, img := lay D.img ((a + v % 2) * 256) (sealB v s), writes := w64 (D.writes + 1), flushes := w64 (D.flushes + 1) }) := by
  have hroom : D.roomB (a : Int) = true := by unfold Dsk.roomB; exact decide_eq_true (by omega)
  have hmay : slotMay D (a : Int) (v : Int) = true := by
    unfold slotMay; rw [hroom, decide_eq_true (show (1 : Int) ≤ v by omega), decide_eq_true (show (v : Int) ≤ 1099511627776 by omega)]; rfl
  have hi : ((a : Int) + (v : Int) % 2) = ((a + v % 2 : Nat) : Int) := by omega
  have hlen := sealB_length (v : Int) s hs
  have hhas : D.has ((a + v % 2 : Nat) : Int) = true := by unfold Dsk.has; exact decide_eq_true (by omega)
  have ha1 := h.ok.arm1
  obtain ⟨n, img, und, off, armed, wr, fl, lf⟩ := D
  obtain rfl : off = false := h.on
  obtain rfl : und = [] := h.und
  have hb : ¬ (slotMay ({ n := n, img := img, und := [], off := false, armed := armed, writes := wr, flushes := fl, life := lf } : Dsk) (a : Int) (v : Int) = false) := by rw [hmay]; simp
  obtain ⟨q, hq⟩ : ∃ q, q = sealB (v : Int) s := ⟨_, rfl⟩
  have h234 : ¬ (234 < s.length) := by omega
  unfold slotWE slotWD slotW1
  rw [if_neg hb, if_neg h234, if_neg hb, if_neg h234, hi, ← hq]
  rw [← hq] at hlen
  obtain ⟨i, hii⟩ : ∃ i, i = a + v % 2 := ⟨_, rfl⟩
  rw [← hii] at hhas ⊢
  dsimp only at ha1
  refine ⟨fun h0 => ?_, fun h0 => ?_, fun h0 h1 => ?_⟩
  · dsimp only at h0
    subst h0
    simp [Dsk.writeE, Dsk.writeD, Dsk.dead, Dsk.gone, hhas, hlen]
  · dsimp only at h0
    subst h0
    simp [Dsk.writeE, Dsk.writeD, Dsk.flushE, Dsk.flushD, Dsk.dead, Dsk.gone, hhas, hlen]
  · dsimp only at h0 h1
    by_cases hp : 0 < armed
    · have h2 : 0 < armed - 1 := by omega
      have h3 : ¬ (armed - 1 = 0) := by omega
      have h4 : 1 < armed := by omega
      simp [h4, Dsk.writeE, Dsk.writeD, Dsk.flushE, Dsk.flushD, Dsk.dead, Dsk.gone, hhas, hlen, h0, hp, h3, layAll]
    · simp [Dsk.writeE, Dsk.writeD, Dsk.flushE, Dsk.flushD, Dsk.dead, Dsk.gone, hhas, hlen, h0, hp, layAll]

/-- a slot at place 1 of a disk of three sectors: version c with value l, and, if a next value is chosen, some of it -/
structure Kp (c : Nat) (l : List UInt8) (nx : Option (List UInt8)) (D : Dsk) : Prop where
  still : Still D
  n : D.n = 3
  len : l.length ≤ 234
  here : 0 < c → D.sec (1 + c % 2) = sealB c l
  none_ : c = 0 → D.sec 1 = zs 256
  other : ∃ old k s, Old c old ∧ k ≤ 256 ∧ s.length ≤ 234 ∧ D.sec (1 + (c + 1) % 2) = tornB (sealB (c + 1 : Nat) s) old k ∧ (∀ x, nx = some x → s = x) ∧ (nx = none → k = 0)
theorem zs_old : Old 0 (zs 256) := by
  refine ⟨zs_length _, fun i hi => ?_⟩
  have h1 : (zs 256).getD (248 + i) 0 = 0 := by
    rw [List.getD, zs, List.getElem?_replicate, if_pos (by omega)]; rfl
  rw [h1]
  apply UInt8.toNat_inj.1
  rw [byteAt_val _ _ hi]
  simp
theorem zs_old1 : Old 1 (zs 256) := ⟨zs_old.len, zs_old.tail⟩
theorem seal_old {c : Nat} {l : List UInt8} (hl : l.length ≤ 234) : Old (c + 1) (sealB c l) :=
  ⟨sealB_length _ _ hl, fun i hi => by rw [seal_tail c l hl _ (by omega) (by omega), Nat.add_sub_cancel_left, Nat.add_sub_cancel]⟩
theorem Kp.start : Kp 0 [] none (Dsk.blank 3) :=
  ⟨⟨rfl, rfl, Dsk.blank_ok 3 (by omega) (by omega)⟩, rfl, by simp, fun h => by omega, fun _ => blank_sec 3 1 (by omega), zs 256, 0, [], zs_old, by omega, by simp, by
    rw [blank_sec 3 _ (by omega)]; simp [tornB], fun x h => (by cases h), fun _ => rfl⟩
theorem Kp.choose {c : Nat} {l s : List UInt8} {D : Dsk} (h : Kp c l none D) (hs : s.length ≤ 234) : Kp c l (some s) D := by
  obtain ⟨old, k, s', ho, hk, hs', e, -, hz⟩ := h.other
  have hz := hz rfl
  subst hz
  exact ⟨h.still, h.n, h.len, h.here, h.none_, old, 0, s, ho, by omega, hs, by rw [e]; simp [tornB], fun x hx => (by cases hx; rfl), fun hx => by cases hx⟩
theorem Kp.arm {c : Nat} {l : List UInt8} {nx : Option (List UInt8)} {D : Dsk} (h : Kp c l nx D) (k : Int) (hk : k ≤ 9223372036854775807) : Kp c l nx (D.arm k) :=
  ⟨arm_still h.still k hk, h.n, h.len, h.here, h.none_, h.other⟩
/-- the new version is there -/
theorem Kp.newer {c : Nat} {l s : List UInt8} {nx : Option (List UInt8)} {D D' : Dsk} (h : Kp c l nx D) (hs : s.length ≤ 234) (hst : Still D') (hn : D'.n = 3) (h1 : D'.sec (1 + (c + 1) % 2) = sealB (c + 1 : Nat) s) (h2 : D'.sec (1 + c % 2) = D.sec (1 + c % 2)) : Kp (c + 1) s none D' := by
  refine ⟨hst, hn, hs, fun _ => h1, fun q => by omega, ?_⟩
  have e : (c + 1 + 1) % 2 = c % 2 := by omega
  rw [e, h2]
  by_cases hc : c = 0
  · subst hc
    exact ⟨zs 256, 0, [], zs_old1, by omega, by simp, by rw [show 1 + 0 % 2 = 1 from rfl, h.none_ rfl]; simp [tornB], fun x hx => (by cases hx), fun _ => rfl⟩
  · exact ⟨sealB c l, 0, [], seal_old h.len, by omega, by simp, by rw [h.here (by omega)]; simp [tornB], fun x hx => (by cases hx), fun _ => rfl⟩
theorem Kp.ok {c : Nat} {l s : List UInt8} {D : Dsk} (h : Kp c l (some s) D) (hc : c + 1 ≤ 1099511627776) (hs : s.length ≤ 234) (h0 : D.armed ≠ 0) (h1 : D.armed ≠ 1) :
    slotWE D (1 : Nat) (c + 1 : Nat) s = 0 ∧ Kp (c + 1) s none (slotWD D (1 : Nat) (c + 1 : Nat) s) := by
  have hn := h.n
  obtain ⟨e, r, hD⟩ := (slot_three h.still 1 (c + 1) s (by omega) (by omega) hc hs).2.2 h0 h1
  refine ⟨e, ?_⟩
  have hlen := sealB_length ((c + 1 : Nat) : Int) s hs
  have hl := h.still.ok.len
  have hok : (slotWD D (1 : Nat) (c + 1 : Nat) s).ok := by
    unfold slotWD slotW1
    split
    · exact h.still.ok
    split
    · exact h.still.ok
    split
    · exact Dsk.writeD_ok h.still.ok _ _
    · exact Dsk.flushD_ok (Dsk.writeD_ok h.still.ok _ _)
  refine h.newer hs ⟨by rw [hD]; exact h.still.on, by rw [hD]; exact h.still.und, hok⟩ (by rw [hD]; exact hn) ?_ ?_
  · unfold Dsk.sec
    rw [hD]
    have := cut_lay_same D.img (sealB ((c + 1 : Nat) : Int) s) ((1 + (c + 1) % 2) * 256) (by rw [hlen]; omega)
    rw [hlen] at this
    exact this
  · unfold Dsk.sec
    rw [hD]
    rcases Nat.lt_or_ge (1 + c % 2) (1 + (c + 1) % 2) with hlt | hge
    · exact cut_lay_before _ _ _ _ _ (by rw [hlen]; omega) (by omega)
    · exact cut_lay_behind _ _ _ _ _ (by rw [hlen]; omega) (by rw [hlen]; omega)
/-- a crash of a disk at rest -/
theorem Kp.crash {c : Nat} {l : List UInt8} {nx : Option (List UInt8)} {D : Dsk} (h : Kp c l nx D) (kept : List Bool) (torn bytes : Int) : Kp c l nx (D.crash kept torn bytes) := by
  have hi := crash_clean D h.still.und kept torn bytes
  have hsec : ∀ i, (D.crash kept torn bytes).sec i = D.sec i := fun i => by unfold Dsk.sec; rw [hi]
  exact ⟨⟨rfl, rfl, Dsk.crash_ok h.still.ok _ _ _⟩, h.n, h.len, fun q => by rw [hsec]; exact h.here q, fun q => by rw [hsec]; exact h.none_ q, by obtain ⟨o, k, s, a1, a2, a3, a4, a5⟩ := h.other; exact ⟨o, k, s, a1, a2, a3, by rw [hsec]; exact a4, a5⟩⟩
/-- the power goes in a write -/
theorem Kp.dead {c : Nat} {l s : List UInt8} {D : Dsk} (h : Kp c l (some s) D) (hc : c + 1 ≤ 1099511627776) (hs : s.length ≤ 234) (h0 : D.armed = 0 ∨ D.armed = 1) :
    slotWE D (1 : Nat) (c + 1 : Nat) s = 12 ∧ (slotWD D (1 : Nat) (c + 1 : Nat) s).und.length = 1 ∧ (slotWD D (1 : Nat) (c + 1 : Nat) s).n = 3 ∧ ∀ kept torn bytes, Kp c l (some s) ((slotWD D (1 : Nat) (c + 1 : Nat) s).crash kept torn bytes) := by
  have hn := h.n
  have h3 := slot_three h.still 1 (c + 1) s (by omega) (by omega) hc hs
  have hok : (slotWD D (1 : Nat) (c + 1 : Nat) s).ok := by
    unfold slotWD slotW1
    split
    · exact h.still.ok
    split
    · exact h.still.ok
    split
    · exact Dsk.writeD_ok h.still.ok _ _
    · exact Dsk.flushD_ok (Dsk.writeD_ok h.still.ok _ _)
  obtain ⟨e, hu, him, hN⟩ : slotWE D (1 : Nat) (c + 1 : Nat) s = 12 ∧ (slotWD D (1 : Nat) (c + 1 : Nat) s).und = [(1 + (c + 1) % 2, sealB (c + 1 : Nat) s)] ∧ (slotWD D (1 : Nat) (c + 1 : Nat) s).img = D.img ∧ (slotWD D (1 : Nat) (c + 1 : Nat) s).n = D.n := by
    rcases h0 with h0 | h0
    · obtain ⟨e, hD⟩ := h3.1 h0
      exact ⟨e, by rw [hD], by rw [hD], by rw [hD]⟩
    · obtain ⟨e, hD⟩ := h3.2.1 h0
      exact ⟨e, by rw [hD], by rw [hD], by rw [hD]⟩
  refine ⟨e, by rw [hu]; rfl, by rw [hN, hn], fun kept torn bytes => ?_⟩
  have hlen := sealB_length ((c + 1 : Nat) : Int) s hs
  have hl := h.still.ok.len
  have hd : done kept torn bytes 0 ≤ 256 := by
    unfold done
    split
    · omega
    · split <;> omega
  obtain ⟨d, hdd⟩ : ∃ d, d = done kept torn bytes 0 := ⟨_, rfl⟩
  rw [← hdd] at hd
  have hci : ((slotWD D (1 : Nat) (c + 1 : Nat) s).crash kept torn bytes).img = lay D.img ((1 + (c + 1) % 2) * 256) ((sealB (c + 1 : Nat) s).take d) := by
    show layDone _ _ _ _ _ = _
    rw [hu, him, hdd]
    simp [layDone]
  have htl : ((sealB ((c + 1 : Nat) : Int) s).take d).length = d := by rw [List.length_take]; omega
  have hN' : ((slotWD D (1 : Nat) (c + 1 : Nat) s).crash kept torn bytes).n = 3 := by show (slotWD D (1 : Nat) (c + 1 : Nat) s).n = 3; rw [hN, hn]
  have hfar : ((slotWD D (1 : Nat) (c + 1 : Nat) s).crash kept torn bytes).sec (1 + c % 2) = D.sec (1 + c % 2) := by
    unfold Dsk.sec
    rw [hci]
    rcases Nat.lt_or_ge (1 + c % 2) (1 + (c + 1) % 2) with hlt | hge
    · exact cut_lay_before _ _ _ _ _ (by rw [htl]; omega) (by omega)
    · exact cut_lay_behind _ _ _ _ _ (by rw [htl]; omega) (by rw [htl]; omega)
  have hnear : ((slotWD D (1 : Nat) (c + 1 : Nat) s).crash kept torn bytes).sec (1 + (c + 1) % 2) = (sealB (c + 1 : Nat) s).take d ++ (D.sec (1 + (c + 1) % 2)).drop d := by
    unfold Dsk.sec
    rw [hci]
    have hb : (1 + (c + 1) % 2) * 256 + 256 ≤ D.img.length := by omega
    obtain ⟨o, hoo⟩ : ∃ o, o = (1 + (c + 1) % 2) * 256 := ⟨_, rfl⟩
    rw [← hoo] at hb ⊢
    unfold cut lay
    rw [List.drop_left' (by simp; omega), htl, List.take_append, htl, List.take_of_length_le (by omega), List.drop_take, List.drop_drop]
  obtain ⟨old, k, s', ho, hk, hs', eo, hx, -⟩ := h.other
  have hx := hx s rfl
  subst hx
  rw [eo, torn_torn hlen ho.len hk hd] at hnear
  exact ⟨⟨rfl, rfl, Dsk.crash_ok hok _ _ _⟩, hN', h.len, fun q => by rw [hfar]; exact h.here q, fun q => by
    have := h.none_ q
    subst q
    rw [← this]; exact hfar, old, max k d, s', ho, by omega, hs', hnear, fun x hx => (by cases hx; rfl), fun hx => by cases hx⟩
end Go.Proofs.YteklldbfdmaafaaDoor
/-
  The package area, as plain data: there and back; a write that the power cuts off.
-/
namespace Go.Proofs.YteklldbfdmaafaaDoor
open Go Go.RowKit
theorem write_ways {D : Dsk} (h : D.off = false) (i : Nat) (hi : i < D.n) (s : List UInt8) (hs : s.length = 256) :
    ((D.writeE i s = 0 ∧ (D.writeD i s).off = false) ∨ D.writeE i s = 12) ∧ (D.writeD i s).und = D.und ++ [(i, s)] ∧ (D.writeD i s).img = D.img ∧ (D.writeD i s).n = D.n ∧ (D.armed = -1 → D.writeE i s = 0 ∧ (D.writeD i s).armed = -1) := by
  have hhas : D.has (i : Int) = true := by unfold Dsk.has; exact decide_eq_true (by omega)
  obtain ⟨n, img, und, off, armed, wr, fl, lf⟩ := D
  obtain rfl : off = false := h
  by_cases h0 : armed = 0
  · subst h0
    simp [Dsk.writeE, Dsk.writeD, Dsk.dead, Dsk.gone, hhas, hs]
  · by_cases hp : 0 < armed
    · simp [Dsk.writeE, Dsk.writeD, Dsk.dead, Dsk.gone, hhas, hs, h0, hp]
      omega
    · simp [Dsk.writeE, Dsk.writeD, Dsk.dead, Dsk.gone, hhas, hs, h0, hp]
end Go.Proofs.YteklldbfdmaafaaDoor
/-
  JournalCosts (chapter 10): the law's record, its fixed facts, the walk.
-/
namespace Go.Proofs.YteklldbfdmaafaaDoor
open Go Go.RowKit
def recC (fill : Int) (i : Nat) : UInt8 := UInt8.ofNat ((fill + (i : Int) * 7 + (i : Int) / 251) % 256).toNat
def recB (fill : Int) (n : Nat) : List UInt8 := (List.range n).map (recC fill)
def recL (size fill : Int) : List UInt8 := recB fill (IntKind.u64.wrap size % 3001).toNat
theorem recB_length (fill : Int) (n : Nat) : (recB fill n).length = n := by simp [recB]
theorem recB_next (fill : Int) (n : Nat) : recB fill (n + 1) = recB fill n ++ [recC fill n] := by simp [recB, List.range_succ]
theorem recC_int (fill : Int) (i : Nat) : IntKind.u8.wrap (fill + (i : Int) * 7 + (i : Int) / 251) = ((recC fill i).toNat : Int) := by
  have e : IntKind.u8.wrap (fill + (i : Int) * 7 + (i : Int) / 251) = (fill + (i : Int) * 7 + (i : Int) / 251) % 256 := rfl
  unfold recC
  rw [e, UInt8.toNat_ofNat']
  omega
section
variable {P : Program} {W : World} {n : Nat} {E : Env} {H : List SP} {x y : Operand} {t u : TypeId}
theorem Ev_neqB_w {a b c : Bool} (hx : Env.ev E x = some (.bool a)) (hy : Env.ev E y = some (.bool b)) [hu : UIs P t .bool] (h : (a != b) = c) : Ev P W n E H (.binOp .neq t x y u) (.bool c) := by
  subst h
  cases a <;> cases b <;> exact Ev_neqO (b := _) hx hy (by rfl) (fun _ => rfl)
theorem Ct.rowShape {P : Program} {W : World} {f : FuncId} {args : List Value} {Hpre : List SP} {A : SP} {e size m : Nat} {xs : List Value} (hm : 0 < m) (h : Ct P W f args Hpre (fun v : Value => .tuple #[v, .nilIface]) (fun v => [A, rowP v e size m xs])) :
    Ct P W f args Hpre (fun x : Nat × Nat => .tuple #[.slice (some ⟨x.1, 0, none⟩) m x.2, .nilIface]) (fun x => [A, rowP (.slice (some ⟨x.1, 0, none⟩) m x.2) e size m xs]) :=
  ⟨fun R w s => (h.go R w s).mono fun en w' ⟨v, he, st⟩ => by
    have hrow := St.row (v := v) (e := e) (size := size) (n := m) (xs := xs) st (.there .here)
    rcases hrow.2 with ⟨_, q⟩ | ⟨g, cap, cur, hv, _⟩
    · omega
    · subst hv
      exact ⟨(g, cap), he, st⟩⟩
end
section
variable {W : World} {E : Nat → Addr} {p g : Nat} {D : Dsk}
set_option maxHeartbeats 400000 in
set_option maxRecDepth 100000 in
theorem record10_ct (size fill : Int) (hf : 0 ≤ fill ∧ fill ≤ 1099511627776) : Ct Tryd.prog W 68 [.int .i64 size, .int .i64 fill] [] (fun _ : Unit => strV (recL size fill)) (fun _ => []) := by
  obtain ⟨B, hB⟩ : ∃ B, IntKind.u64.wrap size = B := ⟨_, rfl⟩
  have hBb : 0 ≤ B ∧ B < 18446744073709551616 := by
    have e : IntKind.u64.wrap size = size % 18446744073709551616 := rfl
    omega
  obtain ⟨n, hn⟩ : ∃ n : Nat, B % 3001 = (n : Int) := ⟨(B % 3001).toNat, by omega⟩
  have hn2 : n ≤ 3000 := by omega
  have eL : recL size fill = recB fill n := by unfold recL; rw [hB, hn]; rfl
  rw [eL]
  clear eL
  refine Ct.enter Tryd.func68 rfl Tryd.ntmps68 (by simp) (fun R => ?_)
  repeat' (first 
    | refine KJ_stp (by first | constructor | fail) ?_
    | (refine is_oper ?_; first | (refine is_store ?_; first | (refine KJ_store rfl rfl (by (repeat' (first | exact Sel.here | apply Sel.there)); first | done | fail) (by first | exact CellsOf.agg | exact CellsOf.one rfl) (by rfl) (by (repeat' (first | exact Ones.nil | exact Ones_bvs _ | refine Ones.cons rfl ?_)); first | done | fail) (by (repeat' (first | exact Laid.nil | apply Laid.cons | apply Laid.skip)); first | done | fail) (by (repeat' (first | exact Rep.here | apply Rep.there)); first | done | fail) ?_)) | (refine is_mkSlice ?_; first | (refine KJ_makeBytes rfl rfl rfl (by omega) rfl (fun g => ?_))) | (refine KJ_ek rfl ?_) | (refine KJ_ek0 ?_))
    | (refine is_ek ?_; first | (refine ek_move ?_; first | (refine EK_ev (Ev_move rfl) ?_)) | (refine ek_assign ?_; first | (refine EK_ev (Ev_assign rfl) ?_)) | (refine ek_conv ?_; first | (refine EK_ev (Ev_convI_v rfl hB) ?_) | (refine EK_ev (Ev_convI64 rfl (by omega)) ?_) | (refine EK_ev (Ev_convI rfl) ?_) | (refine EK_ev (Ev_convS rfl) ?_)) | (refine ek_indexAddr ?_; first | (refine EK_ev (Ev_indexSlice rfl rfl (by omega)) ?_) | (refine EK_ev (Ev_indexArr rfl rfl (by omega)) ?_)) | (refine ek_len ?_; first | (refine EK_ev (Ev_len_str rfl) ?_) | (refine EK_ev (Ev_len_slice rfl) ?_) | (refine EK_ev (Ev_len_arr rfl) ?_) | (refine EK_ev (Ev_len_map rfl (by (repeat' (first | exact Sel.here | apply Sel.there)); first | done | fail)) ?_)) | (refine ek_add ?_; first | (refine EK_ev (Ev_addI rfl rfl (by omega)) ?_) | (refine EK_ev (Ev_addS rfl rfl (by simp <;> omega)) ?_) | (refine EK_ev (Ev_add rfl rfl) ?_)) | (refine ek_mul ?_; first | (refine EK_ev (Ev_mulI rfl rfl (by omega)) ?_) | (refine EK_ev (Ev_mul rfl rfl) ?_)) | (refine ek_quo ?_; first | (refine EK_ev (Ev_quoI rfl rfl (by omega)) ?_) | (refine EK_ev (Ev_quo rfl rfl (by omega)) ?_)) | (refine ek_rem ?_; first | (refine EK_ev (Ev_rem_w rfl rfl (by omega) hn) ?_) | (refine EK_ev (Ev_remI rfl rfl (by omega)) ?_) | (refine EK_ev (Ev_rem rfl rfl (by omega)) ?_)) | (refine ek_lss ?_; first | (refine EK_ev (Ev_lssI rfl rfl) ?_) | (refine EK_ev (Ev_lssS rfl rfl) ?_)))
    | (refine is_ex ?_; first | (refine KJ_blk_exit' rfl ?_))
    | (refine is_code ?_; first | (refine KJ_cond_dec rfl (fun _ => ?_) (fun _ => ?_) <;> first | (exfalso; omega) | skip) | (refine KJ_cond_t rfl ?_) | (refine KJ_cond_f rfl ?_)))
  refine KJ_loop (fun i : {k : Nat // k ≤ n} => [(1, .int .i64 fill), (6, .slice (some ⟨g, 0, none⟩) n n), (15, .int .i64 (n : Nat)), (16, .int .i64 (i.1 : Nat))]) (fun i => [cellsP g (bvs (recB fill i.1 ++ zs (n - i.1))) 5] ++ R) (fun i => n - i.1) ⟨0, by omega⟩ (by (repeat' (first | exact Subs.nil | refine Subs.cons rfl ?_)); first | done | fail) (by show ∀ h, starL (cellsP g (bvs (zs n)) 5 :: R) h → _; exact (Ent.of (by (repeat' (first | exact Pick.nil | apply Pick.cons | exact Sel.here | apply Sel.there)); first | done | fail) (by (repeat' (first | exact DropTo.refl | apply DropTo.there)); first | done | fail))) (fun ⟨k, hk⟩ => ?_)
  dsimp only
  by_cases hlt : k < n
  · have ql : decide ((k : Int) < (n : Nat)) = true := decide_eq_true (by omega)
    have hlen := recB_length fill k
    have hzl : (zs (n - k)).length = n - k := by simp [zs]
    have hcv := recC_int fill k
    have hfit : 0 + (k : Int).toNat * 1 + [Value.int IntKind.u8 ((recC fill k).toNat : Int)].length ≤ (bvs (recB fill k ++ zs (n - k))).length := by rw [bvs_length', List.length_append, hlen, hzl]; simp; omega
    repeat' (first 
    | refine KJ_stp (by first | constructor | fail) ?_
    | (refine is_oper ?_; first | (refine is_store ?_; first | (refine KJ_store (v := .int .u8 ((recC fill k).toNat : Int)) rfl rfl (by (repeat' (first | exact Sel.here | apply Sel.there)); first | done | fail) (by first | exact CellsOf.agg | exact CellsOf.one rfl) (by rfl) (by (repeat' (first | exact Ones.nil | exact Ones_bvs _ | refine Ones.cons rfl ?_)); first | done | fail) (Laid.of hfit) (by (repeat' (first | exact Rep.here | apply Rep.there)); first | done | fail) ?_) | (refine KJ_store rfl rfl (by (repeat' (first | exact Sel.here | apply Sel.there)); first | done | fail) (by first | exact CellsOf.agg | exact CellsOf.one rfl) (by rfl) (by (repeat' (first | exact Ones.nil | exact Ones_bvs _ | refine Ones.cons rfl ?_)); first | done | fail) (by (repeat' (first | exact Laid.nil | apply Laid.cons | apply Laid.skip)); first | done | fail) (by (repeat' (first | exact Rep.here | apply Rep.there)); first | done | fail) ?_)) | (refine KJ_ek rfl ?_) | (refine KJ_ek0 ?_))
    | (refine is_ek ?_; first | (refine ek_move ?_; first | (refine EK_ev (Ev_move rfl) ?_)) | (refine ek_assign ?_; first | (refine EK_ev (Ev_assign rfl) ?_)) | (refine ek_conv ?_; first | (refine EK_ev (Ev_convI_v rfl hcv) ?_) | (refine EK_ev (Ev_convI64 rfl (by omega)) ?_) | (refine EK_ev (Ev_convI rfl) ?_) | (refine EK_ev (Ev_convS rfl) ?_)) | (refine ek_indexAddr ?_; first | (refine EK_ev (Ev_indexSlice rfl rfl (by omega)) ?_) | (refine EK_ev (Ev_indexArr rfl rfl (by omega)) ?_)) | (refine ek_len ?_; first | (refine EK_ev (Ev_len_str rfl) ?_) | (refine EK_ev (Ev_len_slice rfl) ?_) | (refine EK_ev (Ev_len_arr rfl) ?_) | (refine EK_ev (Ev_len_map rfl (by (repeat' (first | exact Sel.here | apply Sel.there)); first | done | fail)) ?_)) | (refine ek_add ?_; first | (refine EK_ev (Ev_addI_v (r := ((k + 1 : Nat) : Int)) rfl rfl (by first | rfl | (exact rfl)) (by omega)) ?_) | (refine EK_ev (Ev_addI rfl rfl (by omega)) ?_) | (refine EK_ev (Ev_addS rfl rfl (by simp <;> omega)) ?_) | (refine EK_ev (Ev_add rfl rfl) ?_)) | (refine ek_mul ?_; first | (refine EK_ev (Ev_mulI rfl rfl (by omega)) ?_) | (refine EK_ev (Ev_mul rfl rfl) ?_)) | (refine ek_quo ?_; first | (refine EK_ev (Ev_quoI rfl rfl (by omega)) ?_) | (refine EK_ev (Ev_quo rfl rfl (by omega)) ?_)) | (refine ek_rem ?_; first | (refine EK_ev (Ev_remI rfl rfl (by omega)) ?_) | (refine EK_ev (Ev_rem rfl rfl (by omega)) ?_)) | (refine ek_lss ?_; first | (refine EK_ev (Ev_lssI_q rfl rfl ql) ?_) | (refine EK_ev (Ev_lssI rfl rfl) ?_) | (refine EK_ev (Ev_lssS rfl rfl) ?_)))
    | (refine is_ex ?_; first | (refine KJ_blk_exit' rfl ?_))
    | (refine is_code ?_; first | (refine KJ_cond_dec rfl (fun _ => ?_) (fun _ => ?_) <;> first | (exfalso; omega) | skip) | (refine KJ_cond_t rfl ?_) | (refine KJ_cond_f rfl ?_)))
    refine KJ_again ⟨k + 1, by omega⟩ (by show n - (k + 1) < n - k; omega) (by (repeat' (first | exact Subs.nil | refine Subs.cons rfl ?_)); first | done | fail) ?_
    have e3 : 0 + (k : Int).toNat * 1 = k := by simp
    have e := lay_zs (recB fill k) k (n - k - 1) (recC fill k) hlen
    rw [show n - k - 1 + 1 = n - k by omega, ← recB_next] at e
    rw [e3]
    have e2 : lay (bvs (recB fill k ++ zs (n - k))) k [Value.int IntKind.u8 ((recC fill k).toNat : Int)] = bvs (recB fill (k + 1) ++ zs (n - (k + 1))) := by
      rw [show n - (k + 1) = n - k - 1 by omega]; exact e
    rw [e2]
    exact (Ent.of (by (repeat' (first | exact Pick.nil | apply Pick.cons | exact Sel.here | apply Sel.there)); first | done | fail) (by (repeat' (first | exact DropTo.refl | apply DropTo.there)); first | done | fail))
  · have hkn : k = n := by omega
    subst hkn
    have ql : decide ((k : Int) < (k : Int)) = false := decide_eq_false (by omega)
    have e0 : recB fill k ++ zs (k - k) = recB fill k := by simp [zs]
    rw [e0]
    repeat' (first 
    | refine KJ_stp (by first | constructor | fail) ?_
    | (refine is_oper ?_; first | (refine is_store ?_; first | (refine KJ_store rfl rfl (by (repeat' (first | exact Sel.here | apply Sel.there)); first | done | fail) (by first | exact CellsOf.agg | exact CellsOf.one rfl) (by rfl) (by (repeat' (first | exact Ones.nil | exact Ones_bvs _ | refine Ones.cons rfl ?_)); first | done | fail) (by (repeat' (first | exact Laid.nil | apply Laid.cons | apply Laid.skip)); first | done | fail) (by (repeat' (first | exact Rep.here | apply Rep.there)); first | done | fail) ?_)) | (refine KJ_ek rfl ?_) | (refine KJ_ek0 ?_))
    | (refine is_ek ?_; first | (refine ek_move ?_; first | (refine EK_ev (Ev_move rfl) ?_)) | (refine ek_assign ?_; first | (refine EK_ev (Ev_assign rfl) ?_)) | (refine ek_conv ?_; first | (refine EK_ev (Ev_bytesAll rfl (by (repeat' (first | exact Sel.here | apply Sel.there)); first | done | fail) (recB_length _ _)) ?_) | (refine EK_ev (Ev_convI64 rfl (by omega)) ?_) | (refine EK_ev (Ev_convI rfl) ?_) | (refine EK_ev (Ev_convS rfl) ?_)) | (refine ek_indexAddr ?_; first | (refine EK_ev (Ev_indexSlice rfl rfl (by omega)) ?_) | (refine EK_ev (Ev_indexArr rfl rfl (by omega)) ?_)) | (refine ek_len ?_; first | (refine EK_ev (Ev_len_str rfl) ?_) | (refine EK_ev (Ev_len_slice rfl) ?_) | (refine EK_ev (Ev_len_arr rfl) ?_) | (refine EK_ev (Ev_len_map rfl (by (repeat' (first | exact Sel.here | apply Sel.there)); first | done | fail)) ?_)) | (refine ek_add ?_; first | (refine EK_ev (Ev_addI rfl rfl (by omega)) ?_) | (refine EK_ev (Ev_addS rfl rfl (by simp <;> omega)) ?_) | (refine EK_ev (Ev_add rfl rfl) ?_)) | (refine ek_mul ?_; first | (refine EK_ev (Ev_mulI rfl rfl (by omega)) ?_) | (refine EK_ev (Ev_mul rfl rfl) ?_)) | (refine ek_quo ?_; first | (refine EK_ev (Ev_quoI rfl rfl (by omega)) ?_) | (refine EK_ev (Ev_quo rfl rfl (by omega)) ?_)) | (refine ek_rem ?_; first | (refine EK_ev (Ev_remI rfl rfl (by omega)) ?_) | (refine EK_ev (Ev_rem rfl rfl (by omega)) ?_)) | (refine ek_lss ?_; first | (refine EK_ev (Ev_lssI_q rfl rfl ql) ?_) | (refine EK_ev (Ev_lssI rfl rfl) ?_) | (refine EK_ev (Ev_lssS rfl rfl) ?_)))
    | (refine is_ex ?_; first | (refine KJ_blk_exit' rfl ?_))
    | (refine is_code ?_; first | (refine KJ_cond_dec rfl (fun _ => ?_) (fun _ => ?_) <;> first | (exfalso; omega) | skip) | (refine KJ_cond_t rfl ?_) | (refine KJ_cond_f rfl ?_)))
    all_goals (refine is_ex ?_; exact KJ_done (by first | exact Or.inl rfl | exact Or.inr rfl) rfl (by (repeat' (first | exact Rvs.nil | (apply Rvs.tmp; exact rfl))); first | done | fail) () (by rfl) (Ent.of (by (repeat' (first | exact Pick.nil | apply Pick.cons | exact Sel.here | apply Sel.there)); first | done | fail) (by (repeat' (first | exact DropTo.refl | apply DropTo.there)); first | done | fail)))
def RJ2 : List UInt8 := recL 300 1
def RJ3 : List UInt8 := recL 230 2
def JD1 : Dsk := (apGo 2 1 0 (pcsJ [97]) 0 (Dsk.blank 8)).2
def JD2 : Dsk := (apGo 2 1 1 (pcsJ RJ2) 0 JD1).2
theorem JD1_ok : (apGo 2 1 0 (pcsJ [97]) 0 (Dsk.blank 8)).1 = true := by kernel_rfl
theorem JD2_ok : (apGo 2 1 1 (pcsJ RJ2) 0 JD1).1 = true := by kernel_rfl
theorem JD1_n : JD1.n = 8 := by kernel_rfl
theorem JD1_d : downB JD1 0 false = false := by kernel_rfl
theorem JD1_u : JD1.und.length = 1 := by kernel_rfl
theorem JD2_n : JD2.n = 8 := by kernel_rfl
theorem JD2_d : downB JD2 0 false = false := by kernel_rfl
theorem JD2_o : JD2.off = false := by kernel_rfl
theorem JD2_r : rpGo JD2 2 4 1 5 0 [] = [[97], RJ2] := by kernel_rfl
theorem RJ2_l : RJ2.length = 300 := recB_length _ _
theorem RJ3_l : RJ3.length = 230 := recB_length _ _
set_option maxHeartbeats 1000000 in
set_option maxRecDepth 100000 in
theorem fixed10_ct (hE : ErrsAt W E) (hN : NibAt W) (hg : gB ≤ W.heap.size) : Ct Tryd.prog W 60 [] [] (fun _ : Unit => .bool true) (fun _ => []) := by
  have hE8 : ErrsOn L8 W E := hE.on
  have e17 : W.cell? ⟨6, 0, none⟩ = some (errV E 17) := hE.all.at_ 17 (by decide)
  have c1 : Ct Tryd.prog W 33 [.int .i64 8] [] (fun p : Nat => .tuple #[.pointer (some ⟨p, 0, none⟩), .nilIface]) (fun p => [DiskP p (Dsk.blank 8)]) := new_ct 8 (by omega) (by omega) hg
  have cb : ∀ p, Ct Tryd.prog W 65 [.pointer (some ⟨p, 0, none⟩), .int .i64 2, .int .i64 4, .int .i64 1] [DiskP p (Dsk.blank 8)] (fun g : Nat => .tuple #[.pointer (some ⟨g, 0, none⟩), .nilIface]) (fun g => [DiskP p (Dsk.blank 8), cellsP g [.pointer (some ⟨p, 0, none⟩), .int .i64 2, .int .i64 4, .int .i64 1, .int .i64 0, .int .i64 0, .bool false] 165]) := fun p =>
    begin_ct (by show 8 ≤ 65536; omega) rfl 2 4 1 ⟨by omega, by omega, by show (2 : Int) ≤ 8; omega, by show (4 : Int) ≤ 8 - 2; omega, by omega, by omega, by omega⟩
  have ca1 : ∀ p g, Ct Tryd.prog W 67 [.pointer (some ⟨g, 0, none⟩), strV [97]] [DiskP p (Dsk.blank 8), cellsP g [.pointer (some ⟨p, 0, none⟩), .int .i64 2, .int .i64 4, .int .i64 1, .int .i64 0, .int .i64 0, .bool false] 165] (fun _ : Unit => .nilIface) (fun _ => [DiskP p JD1, cellsP g [.pointer (some ⟨p, 0, none⟩), .int .i64 2, .int .i64 4, .int .i64 1, .int .i64 1, .int .i64 0, .bool false] 165]) := fun p g => by
    have h := append_ct (W := W) (p := p) (g := g) (D := Dsk.blank 8) hE8 e17 hN 2 4 0 1 0 [97] (by show 8 ≤ 65536; omega) rfl (by omega) (by omega) (by decide) (by show (1 : Int) ≤ 4 - 0; omega) (by omega) (by omega) (by show 0 + 65536 < 1073741823; omega)
    rw [JD1_ok] at h
    exact h
  have cr2 : Ct Tryd.prog W 68 [.int .i64 300, .int .i64 1] [] (fun _ : Unit => strV RJ2) (fun _ => []) := record10_ct 300 1 (by omega)
  have ca2 : ∀ p g, Ct Tryd.prog W 67 [.pointer (some ⟨g, 0, none⟩), strV RJ2] [DiskP p JD1, cellsP g [.pointer (some ⟨p, 0, none⟩), .int .i64 2, .int .i64 4, .int .i64 1, .int .i64 1, .int .i64 0, .bool false] 165] (fun _ : Unit => .nilIface) (fun _ => [DiskP p JD2, cellsP g [.pointer (some ⟨p, 0, none⟩), .int .i64 2, .int .i64 4, .int .i64 1, .int .i64 3, .int .i64 0, .bool false] 165]) := fun p g => by
    have h := append_ct (W := W) (p := p) (g := g) (D := JD1) hE8 e17 hN 2 4 0 1 1 RJ2 (by rw [JD1_n]; omega) JD1_d (by omega) (by omega) (by rw [RJ2_l]; omega) (by rw [RJ2_l]; show (2 : Int) ≤ 4 - 1; omega) (by omega) (by omega) (by rw [JD1_u]; omega)
    rw [JD2_ok, RJ2_l] at h
    exact h
  have cu : ∀ p g, Ct Tryd.prog W 69 [.pointer (some ⟨g, 0, none⟩)] [cellsP g [.pointer (some ⟨p, 0, none⟩), .int .i64 2, .int .i64 4, .int .i64 1, .int .i64 3, .int .i64 0, .bool false] 165] (fun _ : Unit => .int .i64 3) (fun _ => [cellsP g [.pointer (some ⟨p, 0, none⟩), .int .i64 2, .int .i64 4, .int .i64 1, .int .i64 3, .int .i64 0, .bool false] 165]) := fun p g => used_ct 2 4 1 3 0 false
  have cf1 : ∀ p g, Ct Tryd.prog W 66 [.pointer (some ⟨g, 0, none⟩), .int .i64 229] [cellsP g [.pointer (some ⟨p, 0, none⟩), .int .i64 2, .int .i64 4, .int .i64 1, .int .i64 3, .int .i64 0, .bool false] 165] (fun _ : Unit => .bool true) (fun _ => [cellsP g [.pointer (some ⟨p, 0, none⟩), .int .i64 2, .int .i64 4, .int .i64 1, .int .i64 3, .int .i64 0, .bool false] 165]) := fun p g => fits_ct 2 4 1 3 0 false 229 (by omega) (by omega) (by omega)
  have cf2 : ∀ p g, Ct Tryd.prog W 66 [.pointer (some ⟨g, 0, none⟩), .int .i64 230] [cellsP g [.pointer (some ⟨p, 0, none⟩), .int .i64 2, .int .i64 4, .int .i64 1, .int .i64 3, .int .i64 0, .bool false] 165] (fun _ : Unit => .bool false) (fun _ => [cellsP g [.pointer (some ⟨p, 0, none⟩), .int .i64 2, .int .i64 4, .int .i64 1, .int .i64 3, .int .i64 0, .bool false] 165]) := fun p g => fits_ct 2 4 1 3 0 false 230 (by omega) (by omega) (by omega)
  have cp : ∀ p, Ct Tryd.prog W 70 [.pointer (some ⟨p, 0, none⟩), .int .i64 2, .int .i64 4, .int .i64 1] [DiskP p JD2] (fun x : Nat × Nat => .tuple #[.slice (some ⟨x.1, 0, none⟩) 2 x.2, .nilIface]) (fun x => [DiskP p JD2, rowP (.slice (some ⟨x.1, 0, none⟩) 2 x.2) 9 1 2 [strV [97], strV RJ2]]) := fun p => by
    have h := replay_ct (W := W) (p := p) (D := JD2) hE8 hN 2 4 1 (by rw [JD2_n]; omega) JD2_o ⟨by omega, by omega, by rw [JD2_n]; omega, by rw [JD2_n]; omega, by omega, by omega, by omega⟩
    rw [show ((4 : Int).toNat + 1) = 5 from rfl, JD2_r] at h
    exact Ct.rowShape (by omega) h
  have cr3 : Ct Tryd.prog W 68 [.int .i64 230, .int .i64 2] [] (fun _ : Unit => strV RJ3) (fun _ => []) := record10_ct 230 2 (by omega)
  have ca3 : ∀ p g, Ct Tryd.prog W 67 [.pointer (some ⟨g, 0, none⟩), strV RJ3] [DiskP p JD2, cellsP g [.pointer (some ⟨p, 0, none⟩), .int .i64 2, .int .i64 4, .int .i64 1, .int .i64 3, .int .i64 0, .bool false] 165] (fun _ : Unit => errV E 17) (fun _ => [DiskP p JD2, cellsP g [.pointer (some ⟨p, 0, none⟩), .int .i64 2, .int .i64 4, .int .i64 1, .int .i64 3, .int .i64 0, .bool false] 165]) := fun p g =>
    append_full (W := W) (p := p) (g := g) (D := JD2) hE8 e17 hN 2 4 0 1 3 RJ3 (by rw [JD2_n]; omega) JD2_d (by omega) (by omega) (by rw [RJ3_l]; omega) (by rw [RJ3_l]; show ¬ ((2 : Int) ≤ 4 - 3); omega)
  have cn : Ct Tryd.prog W 35 [errV E 17] [] (fun _ : Unit => .int .i64 17) (fun _ => []) := num_ct hE hg 17 (by omega)
  have cc : Ct Tryd.prog W 61 [.int .i64 230] [] (fun _ : Unit => .int .i64 2) (fun _ => []) := cost_ct 230 (by omega)
  obtain ⟨D0, hD0⟩ : ∃ D, D = Dsk.blank 8 := ⟨_, rfl⟩
  obtain ⟨D1, hD1⟩ : ∃ D, D = JD1 := ⟨_, rfl⟩
  obtain ⟨D2, hD2⟩ : ∃ D, D = JD2 := ⟨_, rfl⟩
  obtain ⟨R2, hR2⟩ : ∃ r, r = RJ2 := ⟨_, rfl⟩
  obtain ⟨R3, hR3⟩ : ∃ r, r = RJ3 := ⟨_, rfl⟩
  simp only [← hD0, ← hD1, ← hD2, ← hR2, ← hR3] at c1 cb ca1 cr2 ca2 cp cr3 ca3
  clear hD0 hD1 hD2 hR2 hR3
  have hg0 : [strV [97], strV R2][0 + (0 : Int).toNat * 1]? = some (strV [97]) := rfl
  have hg1 : [strV [97], strV R2][0 + (1 : Int).toNat * 1]? = some (strV R2) := rfl
  refine Ct.enter Tryd.func60 rfl Tryd.ntmps60 (by simp) (fun R => ?_)
  repeat' (first 
    | refine KJ_stp (by first | constructor | fail) ?_
    | (refine is_list ?_; first | (refine KJ_guard_dec_t rfl rfl rfl (fun _ => ?_) (fun _ => ?_) <;> first | (exfalso; omega) | skip) | (refine KJ_guard_dec_f rfl rfl rfl (fun _ => ?_) (fun _ => ?_) <;> first | (exfalso; omega) | skip) | (refine KJ_guard_yes rfl rfl ?_) | (refine KJ_guard_no rfl rfl rfl rfl ?_))
    | (refine is_oper ?_; first | (refine is_call ?_; first | (refine KJ_call (by (repeat' (first | exact Evs.nil | refine Evs.cons rfl ?_)); first | done | fail) cc (by (repeat' (first | exact Pick.nil | apply Pick.cons | exact Sel.here | apply Sel.there)); first | done | fail) rfl (fun _ => ?_)) | (refine KJ_call (by (repeat' (first | exact Evs.nil | refine Evs.cons rfl ?_)); first | done | fail) cn (by (repeat' (first | exact Pick.nil | apply Pick.cons | exact Sel.here | apply Sel.there)); first | done | fail) rfl (fun _ => ?_)) | (refine KJ_call (by (repeat' (first | exact Evs.nil | refine Evs.cons rfl ?_)); first | done | fail) (ca3 _ _) (by (repeat' (first | exact Pick.nil | apply Pick.cons | exact Sel.here | apply Sel.there)); first | done | fail) rfl (fun _ => ?_)) | (refine KJ_call (by (repeat' (first | exact Evs.nil | refine Evs.cons rfl ?_)); first | done | fail) cr3 (by (repeat' (first | exact Pick.nil | apply Pick.cons | exact Sel.here | apply Sel.there)); first | done | fail) rfl (fun _ => ?_)) | (refine KJ_call (by (repeat' (first | exact Evs.nil | refine Evs.cons rfl ?_)); first | done | fail) (cp _) (by (repeat' (first | exact Pick.nil | apply Pick.cons | exact Sel.here | apply Sel.there)); first | done | fail) rfl (fun x => ?_)) | (refine KJ_call (by (repeat' (first | exact Evs.nil | refine Evs.cons rfl ?_)); first | done | fail) (cf2 p g) (by (repeat' (first | exact Pick.nil | apply Pick.cons | exact Sel.here | apply Sel.there)); first | done | fail) rfl (fun _ => ?_)) | (refine KJ_call (by (repeat' (first | exact Evs.nil | refine Evs.cons rfl ?_)); first | done | fail) (cf1 p g) (by (repeat' (first | exact Pick.nil | apply Pick.cons | exact Sel.here | apply Sel.there)); first | done | fail) rfl (fun _ => ?_)) | (refine KJ_call (by (repeat' (first | exact Evs.nil | refine Evs.cons rfl ?_)); first | done | fail) (cu p g) (by (repeat' (first | exact Pick.nil | apply Pick.cons | exact Sel.here | apply Sel.there)); first | done | fail) rfl (fun _ => ?_)) | (refine KJ_call (by (repeat' (first | exact Evs.nil | refine Evs.cons rfl ?_)); first | done | fail) (ca2 _ _) (by (repeat' (first | exact Pick.nil | apply Pick.cons | exact Sel.here | apply Sel.there)); first | done | fail) rfl (fun _ => ?_)) | (refine KJ_call (by (repeat' (first | exact Evs.nil | refine Evs.cons rfl ?_)); first | done | fail) cr2 (by (repeat' (first | exact Pick.nil | apply Pick.cons | exact Sel.here | apply Sel.there)); first | done | fail) rfl (fun _ => ?_)) | (refine KJ_call (by (repeat' (first | exact Evs.nil | refine Evs.cons rfl ?_)); first | done | fail) (ca1 _ _) (by (repeat' (first | exact Pick.nil | apply Pick.cons | exact Sel.here | apply Sel.there)); first | done | fail) rfl (fun _ => ?_)) | (refine KJ_call (by (repeat' (first | exact Evs.nil | refine Evs.cons rfl ?_)); first | done | fail) (cb _) (by (repeat' (first | exact Pick.nil | apply Pick.cons | exact Sel.here | apply Sel.there)); first | done | fail) rfl (fun g => ?_)) | (refine KJ_call (by (repeat' (first | exact Evs.nil | refine Evs.cons rfl ?_)); first | done | fail) c1 (by (repeat' (first | exact Pick.nil | apply Pick.cons | exact Sel.here | apply Sel.there)); first | done | fail) rfl (fun p => ?_))) | (refine KJ_ek rfl ?_) | (refine KJ_ek0 ?_))
    | (refine is_ek ?_; first | (refine ek_move ?_; first | (refine EK_ev (Ev_move rfl) ?_)) | (refine ek_assign ?_; first | (refine EK_ev (Ev_assign rfl) ?_)) | (refine ek_pick ?_; first | (refine EK_ev (Ev_pick_t rfl rfl) ?_) | (refine EK_ev (Ev_pick_f rfl rfl) ?_)) | (refine ek_load ?_; first | (refine EK_ev (Ev_loadAgg rfl (by (repeat' (first | exact Sel.here | apply Sel.there)); first | done | fail) (by (repeat' (first | exact Cut.nil | apply Cut.cons | apply Cut.skip)); first | done | fail)) ?_) | (refine EK_ev (Ev_load rfl (by (repeat' (first | exact Sel.here | apply Sel.there)); first | done | fail) (by rfl)) ?_) | (refine EK_ev (Ev_loadRow rfl (by (repeat' (first | exact Sel.here | apply Sel.there)); first | done | fail) hg1) ?_) | (refine EK_ev (Ev_loadRow rfl (by (repeat' (first | exact Sel.here | apply Sel.there)); first | done | fail) hg0) ?_) | (refine EK_ev (Ev_load rfl (by (repeat' (first | exact Sel.here | apply Sel.there)); first | done | fail) (by rfl)) ?_) | (refine EK_ev (Ev_loadOld rfl (by assumption)) ?_) | (refine EK_ev (Ev_loadAgg rfl (by (repeat' (first | exact Sel.here | apply Sel.there)); first | done | fail) (by (repeat' (first | exact Cut.nil | apply Cut.cons | apply Cut.skip)); first | done | fail)) ?_)) | (refine ek_un ?_; first | (refine EK_ev (Ev_notD rfl) ?_) | (refine EK_ev (Ev_not rfl) ?_) | (refine EK_ev (Ev_neg rfl) ?_)) | (refine ek_extract ?_; first | (refine EK_ev (Ev_extract rfl rfl) ?_)) | (refine ek_indexAddr ?_; first | (refine EK_ev (Ev_indexSlice rfl rfl (by omega)) ?_) | (refine EK_ev (Ev_indexArr rfl rfl (by omega)) ?_)) | (refine ek_len ?_; first | (refine EK_ev (Ev_len_str rfl) ?_) | (refine EK_ev (Ev_len_slice rfl) ?_) | (refine EK_ev (Ev_len_arr rfl) ?_) | (refine EK_ev (Ev_len_map rfl (by (repeat' (first | exact Sel.here | apply Sel.there)); first | done | fail)) ?_)) | (refine ek_eql ?_; first | (refine EK_ev (Ev_eqlS_t rfl rfl rfl) ?_) | (refine EK_ev (Ev_eqlI_t rfl rfl rfl) ?_) | (refine EK_ev (Ev_eqlI rfl rfl) ?_) | (refine EK_ev (Ev_eqlS rfl rfl) ?_) | (refine EK_ev (Ev_eqlNil rfl rfl) ?_) | (refine EK_ev (Ev_eqlB rfl rfl) ?_) | (refine EK_ev (Ev_eqlO rfl rfl rfl (fun _ => rfl)) ?_)) | (refine ek_neq ?_; first | (refine EK_ev (Ev_neqI_f rfl rfl rfl) ?_) | (refine EK_ev (Ev_neqI rfl rfl) ?_) | (refine EK_ev (Ev_neqS rfl rfl) ?_) | (refine EK_ev (Ev_neqNil rfl rfl) ?_) | (refine EK_ev (Ev_neqB rfl rfl) ?_) | (refine EK_ev (Ev_neqO rfl rfl rfl (fun _ => rfl)) ?_)))
    | (refine is_ex ?_; first | (refine KJ_blk_exit' rfl ?_))
    | (refine is_code ?_; first | (refine KJ_cond_dec rfl (fun _ => ?_) (fun _ => ?_) <;> first | (exfalso; omega) | skip) | (refine KJ_cond_t rfl ?_) | (refine KJ_cond_f rfl ?_) | (refine KJ_draws (id := 8) (.op 0 (.op 1 (.op 2 (.op 3 (.op 4 (.op 5 (.op 6 (.op 7 (.op 8 (.op 9 (.op 10 (.op 11 (.op 12 (.op 13 (.op 14 (.op 15 (.op 16 (.ef 17 [16, 15, 14] (.op 18 (.op 19 (.op 20 (.op 21 (.ef 22 [21] (.ef 23 [] (.ef 24 [] (.op 25 (.op 26 (.op 27 (.ef 28 [] (.op 29 (.op 30 (.op 31 .nil)))))))))))))))))))))))))))))))) (by kernel_rfl) (by kernel_rfl) ?_))
    | (refine is_fw ?_; first | (refine FW_open rfl ?_) | (refine FW_nil ?_) | (refine FW_ef rfl ?_) | (refine FW_efg rfl rfl rfl ?_) | (refine FW_alt ?_ ?_))
    | (refine is_fo ?_; first | (refine FO_dec_t rfl rfl (fun _ => ?_) (fun _ => ?_) <;> first | (exfalso; omega) | skip) | (refine FO_dec_f rfl rfl (fun _ => ?_) (fun _ => ?_) <;> first | (exfalso; omega) | skip) | (refine FO_no rfl rfl rfl rfl ?_) | (refine FO_ekg rfl rfl rfl ?_) | (refine FO_ek rfl ?_))
    | (refine is_ro ?_; first | (refine RO_no rfl rfl rfl rfl ?_) | (refine RO_ekg rfl rfl ?_) | (refine RO_ek ?_))
    | (refine is_raw ?_; first | (refine KJ_flow ?_ ?_))
    | (refine AtR_mk rfl ?_)
    | exact Rech.nil
    | (refine Rech_open rfl ?_))
  all_goals (refine is_ex ?_; exact KJ_done (by first | exact Or.inl rfl | exact Or.inr rfl) rfl (by (repeat' (first | exact Rvs.nil | (apply Rvs.tmp; exact rfl))); first | done | fail) () (by rfl) (Ent.of (by (repeat' (first | exact Pick.nil | apply Pick.cons | exact Sel.here | apply Sel.there)); first | done | fail) (by (repeat' (first | exact DropTo.refl | apply DropTo.there)); first | done | fail)))
end
end Go.Proofs.YteklldbfdmaafaaDoor
/-
  JournalCosts (chapter 10): the walk.
-/
namespace Go.Proofs.YteklldbfdmaafaaDoor
open Go Go.RowKit
theorem w64_in (x : Int) (h : -9223372036854775808 ≤ x ∧ x ≤ 9223372036854775807) : w64 x = x := by unfold w64 Go.RowKit.wrap64; omega
theorem write_calm {D : Dsk} (h : Calm D) (i : Nat) (hi : i < D.n) (s : List UInt8) (hs : s.length = 256) : D.writeE i s = 0 ∧ D.writeD i s = { D with und := D.und ++ [(i, s)], writes := w64 (D.writes + 1) } := by
  have hhas : D.has (i : Int) = true := by unfold Dsk.has; exact decide_eq_true (by omega)
  have hD1 : Calm ({ D with und := D.und ++ [(i, s)] } : Dsk) := h
  refine ⟨((write_ways h.1 i hi s hs).2.2.2.2 h.2).1, ?_⟩
  unfold Dsk.writeD
  rw [if_neg (by rw [h.1]; simp), if_pos hhas, if_pos hs]
  simp only [dead_calm h, gone_calm hD1, Int.toNat_natCast]
  simp
theorem ap_calm (ver used : Nat) : ∀ (ps : List (List UInt8)) (i : Nat) (D : Dsk), Calm D → (∀ q ∈ ps, q.length ≤ 234) → used + i + ps.length ≤ D.n → 0 ≤ D.writes → D.writes + ps.length ≤ 1099511627776 →
    (apGo 0 ver used ps i D).1 = true ∧ (apGo 0 ver used ps i D).2.und.length = D.und.length + ps.length ∧ (apGo 0 ver used ps i D).2.writes = D.writes + ps.length ∧ (apGo 0 ver used ps i D).2.flushes = D.flushes := by
  intro ps
  induction ps with
  | nil => intro i D h _ _ _ _; exact ⟨rfl, rfl, by show D.writes = D.writes + 0; omega, rfl⟩
  | cons q ps ih =>
    intro i D h hl hn hw hw2
    rw [List.length_cons] at hn hw2
    have hS := sealB_length (stampN ver (used + i) : Nat) q (hl q (by simp))
    obtain ⟨w1, w2⟩ := write_calm h (used + i) (by omega) _ hS
    have hadr : (0 : Int) + (used : Nat) + (i : Nat) = ((used + i : Nat) : Int) := by omega
    have hu : apGo 0 ver used (q :: ps) i D = if D.writeE ((used + i : Nat) : Int) (sealB (stampN ver (used + i) : Nat) q) ≠ 0 then (false, D.writeD ((used + i : Nat) : Int) (sealB (stampN ver (used + i) : Nat) q))
        else apGo 0 ver used ps (i + 1) (D.writeD ((used + i : Nat) : Int) (sealB (stampN ver (used + i) : Nat) q)) := by
      rw [← hadr]; rfl
    rw [hu, if_neg (by rw [w1]; simp)]
    clear hu
    have hww : w64 (D.writes + 1) = D.writes + 1 := w64_in _ (by omega)
    rw [hww] at w2
    have hc := writeD_calm h ((used + i : Nat) : Int) (sealB (stampN ver (used + i) : Nat) q)
    obtain ⟨D1, hD1⟩ : ∃ D1, D1 = D.writeD ((used + i : Nat) : Int) (sealB (stampN ver (used + i) : Nat) q) := ⟨_, rfl⟩
    rw [← hD1] at w2 hc ⊢
    have e1 : D1.und.length = D.und.length + 1 := by rw [w2]; simp
    have e2 : D1.writes = D.writes + 1 := by rw [w2]
    have e3 : D1.flushes = D.flushes := by rw [w2]
    obtain ⟨r1, r2, r3, r4⟩ := ih (i + 1) D1 hc.1 (fun x hx => hl x (by simp [hx])) (by rw [hc.2]; omega) (by omega) (by omega)
    exact ⟨r1, by rw [r2, e1, List.length_cons]; omega, by rw [r3, e2, List.length_cons]; omega, by rw [r4, e3]⟩
section
variable {W : World} {E : Nat → Addr}
set_option maxHeartbeats 4000000 in
set_option maxRecDepth 100000 in
theorem costs10_ct (hE : ErrsAt W E) (hN : NibAt W) (hg : gB ≤ W.heap.size) (n b : Int) (hn : -9223372036854775808 ≤ n ∧ n ≤ 9223372036854775807) (hb : -9223372036854775808 ≤ b ∧ b ≤ 9223372036854775807) :
    Ct Tryd.prog W 17 [.int .i64 n, .int .i64 b] [] (fun _ : Unit => .bool true) (fun _ => []) := by
  have hE8 : ErrsOn L8 W E := hE.on
  have e17 : W.cell? ⟨6, 0, none⟩ = some (errV E 17) := hE.all.at_ 17 (by decide)
  have cl := fixed10_ct hE hN hg
  have k1 := cost_ct (W := W) b hb.2
  have k2 := costr_ct (W := W) b hb.2
  have k3 := largest_ct (W := W) n hn.2
  have k4 := largestr_ct (W := W) n hn.2
  have hlin := largest_in n
  obtain ⟨cb, hcb⟩ : ∃ c, c = costI b := ⟨_, rfl⟩
  rw [← hcb] at k1 k2
  obtain ⟨ln, hln⟩ : ∃ c, c = largestI n := ⟨_, rfl⟩
  rw [← hln] at k3 k4 hlin
  clear hcb hln
  refine Ct.enter Tryd.func17 rfl Tryd.ntmps17 (by simp) (fun R => ?_)
  apply KJ_rest (fun K => KJ W 146 K [(0, .int .i64 n), (1, .int .i64 b)] (([] : List SP) ++ R))
  · intro rest
    by_cases h1 : 1 ≤ n
    rotate_left
    · have q1 : decide (1 ≤ n) = false := decide_eq_false h1
      repeat' (first 
    | (refine at_seq_region (id := 7) ?_; exact KJ.weak rest (by (repeat' (first | exact Subs.nil | refine Subs.cons rfl ?_)); first | done | fail) (Ent.of (by (repeat' (first | exact Pick.nil | apply Pick.cons | exact Sel.here | apply Sel.there)); first | done | fail) (by (repeat' (first | exact DropTo.refl | apply DropTo.there)); first | done | fail)))
    | refine KJ_stp (by first | constructor | fail) ?_
    | (refine is_list ?_; first | (refine KJ_guard_dec_t rfl rfl rfl (fun _ => ?_) (fun _ => ?_) <;> first | (exfalso; omega) | skip) | (refine KJ_guard_dec_f rfl rfl rfl (fun _ => ?_) (fun _ => ?_) <;> first | (exfalso; omega) | skip) | (refine KJ_guard_yes rfl rfl ?_) | (refine KJ_guard_no rfl rfl rfl rfl ?_))
    | (refine is_oper ?_; first | (refine is_call ?_; first | (refine KJ_call (by (repeat' (first | exact Evs.nil | refine Evs.cons rfl ?_)); first | done | fail) k4 (by (repeat' (first | exact Pick.nil | apply Pick.cons | exact Sel.here | apply Sel.there)); first | done | fail) rfl (fun _ => ?_)) | (refine KJ_call (by (repeat' (first | exact Evs.nil | refine Evs.cons rfl ?_)); first | done | fail) k3 (by (repeat' (first | exact Pick.nil | apply Pick.cons | exact Sel.here | apply Sel.there)); first | done | fail) rfl (fun _ => ?_)) | (refine KJ_call (by (repeat' (first | exact Evs.nil | refine Evs.cons rfl ?_)); first | done | fail) k2 (by (repeat' (first | exact Pick.nil | apply Pick.cons | exact Sel.here | apply Sel.there)); first | done | fail) rfl (fun _ => ?_)) | (refine KJ_call (by (repeat' (first | exact Evs.nil | refine Evs.cons rfl ?_)); first | done | fail) k1 (by (repeat' (first | exact Pick.nil | apply Pick.cons | exact Sel.here | apply Sel.there)); first | done | fail) rfl (fun _ => ?_)) | (refine KJ_call (by (repeat' (first | exact Evs.nil | refine Evs.cons rfl ?_)); first | done | fail) cl (by (repeat' (first | exact Pick.nil | apply Pick.cons | exact Sel.here | apply Sel.there)); first | done | fail) rfl (fun _ => ?_))) | (refine KJ_ek rfl ?_) | (refine KJ_ek0 ?_))
    | (refine is_ek ?_; first | (refine ek_move ?_; first | (refine EK_ev (Ev_move rfl) ?_)) | (refine ek_assign ?_; first | (refine EK_ev (Ev_assign rfl) ?_)) | (refine ek_pick ?_; first | (refine EK_ev (Ev_pick_t rfl rfl) ?_) | (refine EK_ev (Ev_pick_f rfl rfl) ?_)) | (refine ek_un ?_; first | (refine EK_ev (Ev_notD rfl) ?_) | (refine EK_ev (Ev_not rfl) ?_) | (refine EK_ev (Ev_neg rfl) ?_)) | (refine ek_conv ?_; first | (refine EK_ev (Ev_convI64 rfl (by omega)) ?_) | (refine EK_ev (Ev_convI rfl) ?_) | (refine EK_ev (Ev_convS rfl) ?_)) | (refine ek_extract ?_; first | (refine EK_ev (Ev_extract rfl rfl) ?_)) | (refine ek_add ?_; first | (refine EK_ev (Ev_addI rfl rfl (by omega)) ?_) | (refine EK_ev (Ev_addS rfl rfl (by simp <;> omega)) ?_) | (refine EK_ev (Ev_add rfl rfl) ?_)) | (refine ek_rem ?_; first | (refine EK_ev (Ev_remI rfl rfl (by omega)) ?_) | (refine EK_ev (Ev_rem rfl rfl (by omega)) ?_)) | (refine ek_eql ?_; first | (refine EK_ev (Ev_eqlI rfl rfl) ?_) | (refine EK_ev (Ev_eqlS rfl rfl) ?_) | (refine EK_ev (Ev_eqlNil rfl rfl) ?_) | (refine EK_ev (Ev_eqlB rfl rfl) ?_) | (refine EK_ev (Ev_eqlO rfl rfl rfl (fun _ => rfl)) ?_)) | (refine ek_neq ?_; first | (refine EK_ev (Ev_neqI_f rfl rfl rfl) ?_) | (refine EK_ev (Ev_neqI rfl rfl) ?_) | (refine EK_ev (Ev_neqS rfl rfl) ?_) | (refine EK_ev (Ev_neqNil rfl rfl) ?_) | (refine EK_ev (Ev_neqB rfl rfl) ?_) | (refine EK_ev (Ev_neqO rfl rfl rfl (fun _ => rfl)) ?_)) | (refine ek_leq ?_; first | (refine EK_ev (Ev_leqI rfl rfl) ?_) | (refine EK_ev (Ev_leqS rfl rfl) ?_)) | (refine ek_geq ?_; first | (refine EK_ev (Ev_geqI_q rfl rfl q1) ?_) | (refine EK_ev (Ev_geqI rfl rfl) ?_) | (refine EK_ev (Ev_geqS rfl rfl) ?_)))
    | (refine is_ex ?_; first | (refine KJ_blk_exit' rfl ?_))
    | (refine is_code ?_; first | (refine KJ_cond_dec rfl (fun _ => ?_) (fun _ => ?_) <;> first | (exfalso; omega) | skip) | (refine KJ_cond_t rfl ?_) | (refine KJ_cond_f rfl ?_)))
    have q1 : decide (1 ≤ n) = true := decide_eq_true h1
    by_cases h2 : n ≤ 1099511627776
    rotate_left
    · have q2 : decide (n ≤ 1099511627776) = false := decide_eq_false h2
      repeat' (first 
    | (refine at_seq_region (id := 7) ?_; exact KJ.weak rest (by (repeat' (first | exact Subs.nil | refine Subs.cons rfl ?_)); first | done | fail) (Ent.of (by (repeat' (first | exact Pick.nil | apply Pick.cons | exact Sel.here | apply Sel.there)); first | done | fail) (by (repeat' (first | exact DropTo.refl | apply DropTo.there)); first | done | fail)))
    | refine KJ_stp (by first | constructor | fail) ?_
    | (refine is_list ?_; first | (refine KJ_guard_dec_t rfl rfl rfl (fun _ => ?_) (fun _ => ?_) <;> first | (exfalso; omega) | skip) | (refine KJ_guard_dec_f rfl rfl rfl (fun _ => ?_) (fun _ => ?_) <;> first | (exfalso; omega) | skip) | (refine KJ_guard_yes rfl rfl ?_) | (refine KJ_guard_no rfl rfl rfl rfl ?_))
    | (refine is_oper ?_; first | (refine is_call ?_; first | (refine KJ_call (by (repeat' (first | exact Evs.nil | refine Evs.cons rfl ?_)); first | done | fail) k4 (by (repeat' (first | exact Pick.nil | apply Pick.cons | exact Sel.here | apply Sel.there)); first | done | fail) rfl (fun _ => ?_)) | (refine KJ_call (by (repeat' (first | exact Evs.nil | refine Evs.cons rfl ?_)); first | done | fail) k3 (by (repeat' (first | exact Pick.nil | apply Pick.cons | exact Sel.here | apply Sel.there)); first | done | fail) rfl (fun _ => ?_)) | (refine KJ_call (by (repeat' (first | exact Evs.nil | refine Evs.cons rfl ?_)); first | done | fail) k2 (by (repeat' (first | exact Pick.nil | apply Pick.cons | exact Sel.here | apply Sel.there)); first | done | fail) rfl (fun _ => ?_)) | (refine KJ_call (by (repeat' (first | exact Evs.nil | refine Evs.cons rfl ?_)); first | done | fail) k1 (by (repeat' (first | exact Pick.nil | apply Pick.cons | exact Sel.here | apply Sel.there)); first | done | fail) rfl (fun _ => ?_)) | (refine KJ_call (by (repeat' (first | exact Evs.nil | refine Evs.cons rfl ?_)); first | done | fail) cl (by (repeat' (first | exact Pick.nil | apply Pick.cons | exact Sel.here | apply Sel.there)); first | done | fail) rfl (fun _ => ?_))) | (refine KJ_ek rfl ?_) | (refine KJ_ek0 ?_))
    | (refine is_ek ?_; first | (refine ek_move ?_; first | (refine EK_ev (Ev_move rfl) ?_)) | (refine ek_assign ?_; first | (refine EK_ev (Ev_assign rfl) ?_)) | (refine ek_pick ?_; first | (refine EK_ev (Ev_pick_t rfl rfl) ?_) | (refine EK_ev (Ev_pick_f rfl rfl) ?_)) | (refine ek_un ?_; first | (refine EK_ev (Ev_notD rfl) ?_) | (refine EK_ev (Ev_not rfl) ?_) | (refine EK_ev (Ev_neg rfl) ?_)) | (refine ek_conv ?_; first | (refine EK_ev (Ev_convI64 rfl (by omega)) ?_) | (refine EK_ev (Ev_convI rfl) ?_) | (refine EK_ev (Ev_convS rfl) ?_)) | (refine ek_extract ?_; first | (refine EK_ev (Ev_extract rfl rfl) ?_)) | (refine ek_add ?_; first | (refine EK_ev (Ev_addI rfl rfl (by omega)) ?_) | (refine EK_ev (Ev_addS rfl rfl (by simp <;> omega)) ?_) | (refine EK_ev (Ev_add rfl rfl) ?_)) | (refine ek_rem ?_; first | (refine EK_ev (Ev_remI rfl rfl (by omega)) ?_) | (refine EK_ev (Ev_rem rfl rfl (by omega)) ?_)) | (refine ek_eql ?_; first | (refine EK_ev (Ev_eqlI rfl rfl) ?_) | (refine EK_ev (Ev_eqlS rfl rfl) ?_) | (refine EK_ev (Ev_eqlNil rfl rfl) ?_) | (refine EK_ev (Ev_eqlB rfl rfl) ?_) | (refine EK_ev (Ev_eqlO rfl rfl rfl (fun _ => rfl)) ?_)) | (refine ek_neq ?_; first | (refine EK_ev (Ev_neqI_f rfl rfl rfl) ?_) | (refine EK_ev (Ev_neqI rfl rfl) ?_) | (refine EK_ev (Ev_neqS rfl rfl) ?_) | (refine EK_ev (Ev_neqNil rfl rfl) ?_) | (refine EK_ev (Ev_neqB rfl rfl) ?_) | (refine EK_ev (Ev_neqO rfl rfl rfl (fun _ => rfl)) ?_)) | (refine ek_leq ?_; first | (refine EK_ev (Ev_leqI_q rfl rfl q2) ?_) | (refine EK_ev (Ev_leqI rfl rfl) ?_) | (refine EK_ev (Ev_leqS rfl rfl) ?_)) | (refine ek_geq ?_; first | (refine EK_ev (Ev_geqI_q rfl rfl q1) ?_) | (refine EK_ev (Ev_geqI rfl rfl) ?_) | (refine EK_ev (Ev_geqS rfl rfl) ?_)))
    | (refine is_ex ?_; first | (refine KJ_blk_exit' rfl ?_))
    | (refine is_code ?_; first | (refine KJ_cond_dec rfl (fun _ => ?_) (fun _ => ?_) <;> first | (exfalso; omega) | skip) | (refine KJ_cond_t rfl ?_) | (refine KJ_cond_f rfl ?_)))
    have q2 : decide (n ≤ 1099511627776) = true := decide_eq_true h2
    have hl := hlin h1 h2
    have k5 := cost_ct (W := W) ln (by omega)
    have k6 := cost_ct (W := W) (ln + 1) (by omega)
    have e5 : costI ln = n := by unfold costI; rw [if_neg (by omega)]; split <;> omega
    have e6 : costI (ln + 1) = n + 1 := by unfold costI; rw [if_neg (by omega), if_neg (by omega)]; omega
    rw [e5] at k5
    rw [e6] at k6
    repeat' (first 
    | (refine at_seq_region (id := 7) ?_; exact KJ.weak rest (by (repeat' (first | exact Subs.nil | refine Subs.cons rfl ?_)); first | done | fail) (Ent.of (by (repeat' (first | exact Pick.nil | apply Pick.cons | exact Sel.here | apply Sel.there)); first | done | fail) (by (repeat' (first | exact DropTo.refl | apply DropTo.there)); first | done | fail)))
    | refine KJ_stp (by first | constructor | fail) ?_
    | (refine is_list ?_; first | (refine KJ_guard_dec_t rfl rfl rfl (fun _ => ?_) (fun _ => ?_) <;> first | (exfalso; omega) | skip) | (refine KJ_guard_dec_f rfl rfl rfl (fun _ => ?_) (fun _ => ?_) <;> first | (exfalso; omega) | skip) | (refine KJ_guard_yes rfl rfl ?_) | (refine KJ_guard_no rfl rfl rfl rfl ?_))
    | (refine is_oper ?_; first | (refine is_call ?_; first | (refine KJ_call (by (repeat' (first | exact Evs.nil | refine Evs.cons rfl ?_)); first | done | fail) k6 (by (repeat' (first | exact Pick.nil | apply Pick.cons | exact Sel.here | apply Sel.there)); first | done | fail) rfl (fun _ => ?_)) | (refine KJ_call (by (repeat' (first | exact Evs.nil | refine Evs.cons rfl ?_)); first | done | fail) k5 (by (repeat' (first | exact Pick.nil | apply Pick.cons | exact Sel.here | apply Sel.there)); first | done | fail) rfl (fun _ => ?_)) | (refine KJ_call (by (repeat' (first | exact Evs.nil | refine Evs.cons rfl ?_)); first | done | fail) k4 (by (repeat' (first | exact Pick.nil | apply Pick.cons | exact Sel.here | apply Sel.there)); first | done | fail) rfl (fun _ => ?_)) | (refine KJ_call (by (repeat' (first | exact Evs.nil | refine Evs.cons rfl ?_)); first | done | fail) k3 (by (repeat' (first | exact Pick.nil | apply Pick.cons | exact Sel.here | apply Sel.there)); first | done | fail) rfl (fun _ => ?_)) | (refine KJ_call (by (repeat' (first | exact Evs.nil | refine Evs.cons rfl ?_)); first | done | fail) k2 (by (repeat' (first | exact Pick.nil | apply Pick.cons | exact Sel.here | apply Sel.there)); first | done | fail) rfl (fun _ => ?_)) | (refine KJ_call (by (repeat' (first | exact Evs.nil | refine Evs.cons rfl ?_)); first | done | fail) k1 (by (repeat' (first | exact Pick.nil | apply Pick.cons | exact Sel.here | apply Sel.there)); first | done | fail) rfl (fun _ => ?_)) | (refine KJ_call (by (repeat' (first | exact Evs.nil | refine Evs.cons rfl ?_)); first | done | fail) cl (by (repeat' (first | exact Pick.nil | apply Pick.cons | exact Sel.here | apply Sel.there)); first | done | fail) rfl (fun _ => ?_))) | (refine KJ_ek rfl ?_) | (refine KJ_ek0 ?_))
    | (refine is_ek ?_; first | (refine ek_move ?_; first | (refine EK_ev (Ev_move rfl) ?_)) | (refine ek_assign ?_; first | (refine EK_ev (Ev_assign rfl) ?_)) | (refine ek_pick ?_; first | (refine EK_ev (Ev_pick_t rfl rfl) ?_) | (refine EK_ev (Ev_pick_f rfl rfl) ?_)) | (refine ek_un ?_; first | (refine EK_ev (Ev_notD rfl) ?_) | (refine EK_ev (Ev_not rfl) ?_) | (refine EK_ev (Ev_neg rfl) ?_)) | (refine ek_conv ?_; first | (refine EK_ev (Ev_convI64 rfl (by omega)) ?_) | (refine EK_ev (Ev_convI rfl) ?_) | (refine EK_ev (Ev_convS rfl) ?_)) | (refine ek_extract ?_; first | (refine EK_ev (Ev_extract rfl rfl) ?_)) | (refine ek_add ?_; first | (refine EK_ev (Ev_addI rfl rfl (by omega)) ?_) | (refine EK_ev (Ev_addS rfl rfl (by simp <;> omega)) ?_) | (refine EK_ev (Ev_add rfl rfl) ?_)) | (refine ek_rem ?_; first | (refine EK_ev (Ev_remI rfl rfl (by omega)) ?_) | (refine EK_ev (Ev_rem rfl rfl (by omega)) ?_)) | (refine ek_eql ?_; first | (refine EK_ev (Ev_eqlI rfl rfl) ?_) | (refine EK_ev (Ev_eqlS rfl rfl) ?_) | (refine EK_ev (Ev_eqlNil rfl rfl) ?_) | (refine EK_ev (Ev_eqlB rfl rfl) ?_) | (refine EK_ev (Ev_eqlO rfl rfl rfl (fun _ => rfl)) ?_)) | (refine ek_neq ?_; first | (refine EK_ev (Ev_neqI_f rfl rfl rfl) ?_) | (refine EK_ev (Ev_neqI rfl rfl) ?_) | (refine EK_ev (Ev_neqS rfl rfl) ?_) | (refine EK_ev (Ev_neqNil rfl rfl) ?_) | (refine EK_ev (Ev_neqB rfl rfl) ?_) | (refine EK_ev (Ev_neqO rfl rfl rfl (fun _ => rfl)) ?_)) | (refine ek_leq ?_; first | (refine EK_ev (Ev_leqI_q rfl rfl q2) ?_) | (refine EK_ev (Ev_leqI rfl rfl) ?_) | (refine EK_ev (Ev_leqS rfl rfl) ?_)) | (refine ek_geq ?_; first | (refine EK_ev (Ev_geqI_q rfl rfl q1) ?_) | (refine EK_ev (Ev_geqI rfl rfl) ?_) | (refine EK_ev (Ev_geqS rfl rfl) ?_)))
    | (refine is_ex ?_; first | (refine KJ_blk_exit' rfl ?_))
    | (refine is_code ?_; first | (refine KJ_cond_dec rfl (fun _ => ?_) (fun _ => ?_) <;> first | (exfalso; omega) | skip) | (refine KJ_cond_t rfl ?_) | (refine KJ_cond_f rfl ?_)))
  clear k1 k2 k3 k4 hlin
  obtain ⟨B, hB⟩ : ∃ B, IntKind.u64.wrap b = B := ⟨_, rfl⟩
  have hBb : 0 ≤ B ∧ B < 18446744073709551616 := by
    have e : IntKind.u64.wrap b = b % 18446744073709551616 := rfl
    omega
  obtain ⟨m, hm⟩ : ∃ m : Nat, B % 3001 = (m : Int) := ⟨(B % 3001).toNat, by omega⟩
  obtain ⟨N1, hN1⟩ : ∃ N1, IntKind.u64.wrap n = N1 := ⟨_, rfl⟩
  have hNb : 0 ≤ N1 ∧ N1 < 18446744073709551616 := by
    have e : IntKind.u64.wrap n = n % 18446744073709551616 := rfl
    omega
  obtain ⟨k0, hk0⟩ : ∃ k : Nat, N1 % 16 = (k : Int) := ⟨(N1 % 16).toNat, by omega⟩
  obtain ⟨K, hK⟩ : ∃ K : Nat, K = 1 + k0 := ⟨_, rfl⟩
  have hm2 : m ≤ 3000 := by omega
  have hK2 : 1 ≤ K ∧ K ≤ 16 := by omega
  have c1 : Ct Tryd.prog W 33 [.int .i64 16] [] (fun p : Nat => .tuple #[.pointer (some ⟨p, 0, none⟩), .nilIface]) (fun p => [DiskP p (Dsk.blank 16)]) := new_ct 16 (by omega) (by omega) hg
  have c2 : ∀ p, Ct Tryd.prog W 65 [.pointer (some ⟨p, 0, none⟩), .int .i64 0, .int .i64 (K : Nat), .int .i64 9] [DiskP p (Dsk.blank 16)] (fun g : Nat => .tuple #[.pointer (some ⟨g, 0, none⟩), .nilIface]) (fun g => [DiskP p (Dsk.blank 16), cellsP g [.pointer (some ⟨p, 0, none⟩), .int .i64 0, .int .i64 (K : Nat), .int .i64 9, .int .i64 0, .int .i64 0, .bool false] 165]) := fun p =>
    begin_ct (by show 16 ≤ 65536; omega) rfl 0 (K : Nat) 9 ⟨by omega, by omega, by show (0 : Int) ≤ 16; omega, by show (K : Int) ≤ 16 - 0; omega, by omega, by omega, by omega⟩
  have c3 : Ct Tryd.prog W 68 [.int .i64 (m : Nat), .int .i64 3] [] (fun _ : Unit => strV (recL (m : Nat) 3)) (fun _ => []) := record10_ct (m : Nat) 3 (by omega)
  have hrl : (recL (m : Nat) 3).length = m := by
    unfold recL
    rw [recB_length, u64_of_lt m (by omega)]
    omega
  have c4 : ∀ p g, Ct Tryd.prog W 66 [.pointer (some ⟨g, 0, none⟩), .int .i64 (m : Nat)] [cellsP g [.pointer (some ⟨p, 0, none⟩), .int .i64 0, .int .i64 (K : Nat), .int .i64 9, .int .i64 0, .int .i64 0, .bool false] 165] (fun _ : Unit => .bool (decide (0 ≤ (m : Int) ∧ costI (m : Nat) ≤ (K : Int) - 0))) (fun _ => [cellsP g [.pointer (some ⟨p, 0, none⟩), .int .i64 0, .int .i64 (K : Nat), .int .i64 9, .int .i64 0, .int .i64 0, .bool false] 165]) := fun p g => fits_ct 0 (K : Nat) 9 0 0 false (m : Nat) (by omega) (by omega) (by omega)
  have c5 := cost_ct (W := W) (m : Nat) (by omega)
  have c6 : Ct Tryd.prog W 63 [.int .i64 (K : Nat)] [] (fun _ : Unit => .int .i64 (229 + 233 * ((K : Int) - 1))) (fun _ => []) := by rw [← largest_in (K : Nat) (by omega) (by omega)]; exact largest_ct (K : Nat) (by omega)
  have hco : costI (m : Nat) = if (m : Int) ≤ 229 then 1 else 2 + ((m : Int) - 230) / 233 := by unfold costI; rw [if_neg (by omega)]
  have hpl := pcsJ_length (recL (m : Nat) 3)
  rw [hrl] at hpl
  have hple := pcsJ_le (recL (m : Nat) 3)
  have hap := ap_calm 9 0 (pcsJ (recL (m : Nat) 3)) 0 (Dsk.blank 16) (blank_calm 16) hple
  have ha1 := fun p g => append_ct (W := W) (p := p) (g := g) (D := Dsk.blank 16) hE8 e17 hN 0 (K : Nat) 0 9 0 (recL (m : Nat) 3) (by show 16 ≤ 65536; omega) rfl (by omega) (by omega) (by rw [hrl]; omega)
  have ha2 := fun p g => append_full (W := W) (p := p) (g := g) (D := Dsk.blank 16) hE8 e17 hN 0 (K : Nat) 0 9 0 (recL (m : Nat) 3) (by show 16 ≤ 65536; omega) rfl (by omega) (by omega) (by rw [hrl]; omega)
  rw [hrl] at ha1 ha2
  obtain ⟨lk, hlk⟩ : ∃ l, l = 229 + 233 * ((K : Int) - 1) := ⟨_, rfl⟩
  rw [← hlk] at c6
  obtain ⟨co, hc⟩ : ∃ c, c = costI (m : Nat) := ⟨_, rfl⟩
  rw [← hc] at hco hpl c5 ha1 ha2
  simp only [← hc] at c4
  have hbw : (Dsk.blank 16).writes = 0 := rfl
  have hbn : (Dsk.blank 16).n = 16 := rfl
  have hbu : (Dsk.blank 16).und.length = 0 := rfl
  have hbf : (Dsk.blank 16).flushes = 0 := rfl
  obtain ⟨D0, hD0⟩ : ∃ D, D = Dsk.blank 16 := ⟨_, rfl⟩
  obtain ⟨r, hr⟩ : ∃ r, r = recL (m : Nat) 3 := ⟨_, rfl⟩
  simp only [← hD0, ← hr] at c1 c2 c3 hap ha1 ha2 hbw hbn hbu hbf hrl hpl
  clear hD0 hr hc hple
  by_cases hfit : co ≤ (K : Int) - 0
  · have qf : decide (0 ≤ (m : Int) ∧ co ≤ (K : Int) - 0) = true := decide_eq_true ⟨by omega, hfit⟩
    simp only [qf] at c4
    have ql : decide ((m : Int) ≤ lk) = true := decide_eq_true (by rw [hlk]; split at hco <;> omega)
    obtain ⟨a1, a2, a3, a4⟩ := hap (by omega) (by omega) (by omega)
    have c7 := fun p g => ha1 p g hfit (by omega) (by omega) (by rw [hbu]; omega)
    simp only [a1, if_true] at c7
    obtain ⟨D1, hD1⟩ : ∃ D1, D1 = (apGo 0 9 0 (pcsJ r) 0 D0).2 := ⟨_, rfl⟩
    rw [← hD1] at a2 a3 a4
    simp only [← hD1] at c7
    clear hD1 ha1 ha2 hap
    have c8 : ∀ p g, Ct Tryd.prog W 67 [.pointer (some ⟨g, 0, none⟩), strV r] [DiskP p D0, cellsP g [.pointer (some ⟨p, 0, none⟩), .int .i64 0, .int .i64 (K : Nat), .int .i64 9, .int .i64 0, .int .i64 0, .bool false] 165] (fun _ : Unit => .nilIface) (fun _ => [DiskP p D1, cellsP g [.pointer (some ⟨p, 0, none⟩), .int .i64 0, .int .i64 (K : Nat), .int .i64 9, .int .i64 co, .int .i64 0, .bool false] 165]) := fun p g => by
      have h := c7 p g
      have e0 : ((0 : Nat) : Int) + co = co := by omega
      rw [e0] at h
      exact h
    have c9 : ∀ p, Ct Tryd.prog W 38 [.pointer (some ⟨p, 0, none⟩)] [DiskP p D1] (fun _ : Unit => .tuple #[.int .i64 co, .int .i64 0]) (fun _ => [DiskP p D1]) := fun p => by
      have h := counts_ct (W := W) (p := p) (D := D1)
      rw [a3, a4, hbw, hbf, show (0 : Int) + ((pcsJ r).length : Int) = co by omega] at h
      exact h
    have c10 : ∀ p, Ct Tryd.prog W 25 [.pointer (some ⟨p, 0, none⟩)] [DiskP p D1] (fun _ : Unit => .int .i64 co) (fun _ => [DiskP p D1]) := fun p => by
      have h := pending_ct (W := W) (p := p) (D := D1)
      rw [a2, hbu, show ((0 + (pcsJ r).length : Nat) : Int) = co by omega] at h
      exact h
    have c11 := fun p g => used_ct (W := W) (p := p) (g := g) 0 (K : Nat) 9 co 0 false
    clear c7 a1 a2 a3 a4
    repeat' (first 
    | refine KJ_stp (by first | constructor | fail) ?_
    | (refine is_list ?_; first | (refine KJ_guard_dec_t rfl rfl rfl (fun _ => ?_) (fun _ => ?_) <;> first | (exfalso; omega) | skip) | (refine KJ_guard_dec_f rfl rfl rfl (fun _ => ?_) (fun _ => ?_) <;> first | (exfalso; omega) | skip) | (refine KJ_guard_yes rfl rfl ?_) | (refine KJ_guard_no rfl rfl rfl rfl ?_))
    | (refine is_oper ?_; first | (refine is_call ?_; first | (refine KJ_call (by (repeat' (first | exact Evs.nil | refine Evs.cons rfl ?_)); first | done | fail) (c11 p g) (by (repeat' (first | exact Pick.nil | apply Pick.cons | exact Sel.here | apply Sel.there)); first | done | fail) rfl (fun _ => ?_)) | (refine KJ_call (by (repeat' (first | exact Evs.nil | refine Evs.cons rfl ?_)); first | done | fail) (c10 _) (by (repeat' (first | exact Pick.nil | apply Pick.cons | exact Sel.here | apply Sel.there)); first | done | fail) rfl (fun _ => ?_)) | (refine KJ_call (by (repeat' (first | exact Evs.nil | refine Evs.cons rfl ?_)); first | done | fail) (c9 _) (by (repeat' (first | exact Pick.nil | apply Pick.cons | exact Sel.here | apply Sel.there)); first | done | fail) rfl (fun _ => ?_)) | (refine KJ_call (by (repeat' (first | exact Evs.nil | refine Evs.cons rfl ?_)); first | done | fail) (c8 _ _) (by (repeat' (first | exact Pick.nil | apply Pick.cons | exact Sel.here | apply Sel.there)); first | done | fail) rfl (fun _ => ?_)) | (refine KJ_call (by (repeat' (first | exact Evs.nil | refine Evs.cons rfl ?_)); first | done | fail) c6 (by (repeat' (first | exact Pick.nil | apply Pick.cons | exact Sel.here | apply Sel.there)); first | done | fail) rfl (fun _ => ?_)) | (refine KJ_call (by (repeat' (first | exact Evs.nil | refine Evs.cons rfl ?_)); first | done | fail) c5 (by (repeat' (first | exact Pick.nil | apply Pick.cons | exact Sel.here | apply Sel.there)); first | done | fail) rfl (fun _ => ?_)) | (refine KJ_call (by (repeat' (first | exact Evs.nil | refine Evs.cons rfl ?_)); first | done | fail) (c4 p g) (by (repeat' (first | exact Pick.nil | apply Pick.cons | exact Sel.here | apply Sel.there)); first | done | fail) rfl (fun _ => ?_)) | (refine KJ_call (by (repeat' (first | exact Evs.nil | refine Evs.cons rfl ?_)); first | done | fail) c3 (by (repeat' (first | exact Pick.nil | apply Pick.cons | exact Sel.here | apply Sel.there)); first | done | fail) rfl (fun _ => ?_)) | (refine KJ_call (by (repeat' (first | exact Evs.nil | refine Evs.cons rfl ?_)); first | done | fail) (c2 _) (by (repeat' (first | exact Pick.nil | apply Pick.cons | exact Sel.here | apply Sel.there)); first | done | fail) rfl (fun g => ?_)) | (refine KJ_call (by (repeat' (first | exact Evs.nil | refine Evs.cons rfl ?_)); first | done | fail) c1 (by (repeat' (first | exact Pick.nil | apply Pick.cons | exact Sel.here | apply Sel.there)); first | done | fail) rfl (fun p => ?_))) | (refine KJ_ek rfl ?_) | (refine KJ_ek0 ?_))
    | (refine is_ek ?_; first | (refine ek_move ?_; first | (refine EK_ev (Ev_move rfl) ?_)) | (refine ek_assign ?_; first | (refine EK_ev (Ev_assign rfl) ?_)) | (refine ek_pick ?_; first | (refine EK_ev (Ev_pick_t rfl rfl) ?_) | (refine EK_ev (Ev_pick_f rfl rfl) ?_)) | (refine ek_un ?_; first | (refine EK_ev (Ev_notD rfl) ?_) | (refine EK_ev (Ev_not rfl) ?_) | (refine EK_ev (Ev_neg rfl) ?_)) | (refine ek_conv ?_; first | (refine EK_ev (Ev_convI_v rfl hN1) ?_) | (refine EK_ev (Ev_convI_v rfl hB) ?_) | (refine EK_ev (Ev_convI64 rfl (by omega)) ?_) | (refine EK_ev (Ev_convI rfl) ?_) | (refine EK_ev (Ev_convS rfl) ?_)) | (refine ek_extract ?_; first | (refine EK_ev (Ev_extract rfl rfl) ?_)) | (refine ek_add ?_; first | (refine EK_ev (Ev_addI_v (r := (K : Nat)) rfl rfl (by omega) (by omega)) ?_) | (refine EK_ev (Ev_addI rfl rfl (by omega)) ?_) | (refine EK_ev (Ev_addS rfl rfl (by simp <;> omega)) ?_) | (refine EK_ev (Ev_add rfl rfl) ?_)) | (refine ek_rem ?_; first | (refine EK_ev (Ev_rem_w rfl rfl (by omega) hk0) ?_) | (refine EK_ev (Ev_rem_w rfl rfl (by omega) hm) ?_) | (refine EK_ev (Ev_remI rfl rfl (by omega)) ?_) | (refine EK_ev (Ev_rem rfl rfl (by omega)) ?_)) | (refine ek_eql ?_; first | (refine EK_ev (Ev_eqlI_t rfl rfl rfl) ?_) | (refine EK_ev (Ev_eqlI rfl rfl) ?_) | (refine EK_ev (Ev_eqlS rfl rfl) ?_) | (refine EK_ev (Ev_eqlNil rfl rfl) ?_) | (refine EK_ev (Ev_eqlB rfl rfl) ?_) | (refine EK_ev (Ev_eqlO rfl rfl rfl (fun _ => rfl)) ?_)) | (refine ek_neq ?_; first | (refine EK_ev (Ev_neqB_w (c := false) rfl rfl rfl) ?_) | (refine EK_ev (Ev_neqI rfl rfl) ?_) | (refine EK_ev (Ev_neqS rfl rfl) ?_) | (refine EK_ev (Ev_neqNil rfl rfl) ?_) | (refine EK_ev (Ev_neqB rfl rfl) ?_) | (refine EK_ev (Ev_neqO rfl rfl rfl (fun _ => rfl)) ?_)) | (refine ek_leq ?_; first | (refine EK_ev (Ev_leqI_q rfl rfl ql) ?_) | (refine EK_ev (Ev_leqI rfl rfl) ?_) | (refine EK_ev (Ev_leqS rfl rfl) ?_)) | (refine ek_geq ?_; first | (refine EK_ev (Ev_geqI rfl rfl) ?_) | (refine EK_ev (Ev_geqS rfl rfl) ?_)))
    | (refine is_ex ?_; first | (refine KJ_blk_exit' rfl ?_))
    | (refine is_code ?_; first | (refine KJ_cond_dec rfl (fun _ => ?_) (fun _ => ?_) <;> first | (exfalso; omega) | skip) | (refine KJ_cond_t rfl ?_) | (refine KJ_cond_f rfl ?_)))
    all_goals (refine is_ex ?_; exact KJ_done (by first | exact Or.inl rfl | exact Or.inr rfl) rfl (by (repeat' (first | exact Rvs.nil | (apply Rvs.tmp; exact rfl))); first | done | fail) () (by rfl) (Ent.of (by (repeat' (first | exact Pick.nil | apply Pick.cons | exact Sel.here | apply Sel.there)); first | done | fail) (by (repeat' (first | exact DropTo.refl | apply DropTo.there)); first | done | fail)))
  · have qf : decide (0 ≤ (m : Int) ∧ co ≤ (K : Int) - 0) = false := decide_eq_false (fun h => hfit h.2)
    simp only [qf] at c4
    have ql : decide ((m : Int) ≤ lk) = false := decide_eq_false (by rw [hlk]; split at hco <;> omega)
    have c8 := fun p g => ha2 p g hfit
    clear ha1 ha2 hap
    have c9 : ∀ p, Ct Tryd.prog W 38 [.pointer (some ⟨p, 0, none⟩)] [DiskP p D0] (fun _ : Unit => .tuple #[.int .i64 0, .int .i64 0]) (fun _ => [DiskP p D0]) := fun p => by
      have h := counts_ct (W := W) (p := p) (D := D0)
      rw [hbw, hbf] at h
      exact h
    have c10 : ∀ p, Ct Tryd.prog W 25 [.pointer (some ⟨p, 0, none⟩)] [DiskP p D0] (fun _ : Unit => .int .i64 0) (fun _ => [DiskP p D0]) := fun p => by
      have h := pending_ct (W := W) (p := p) (D := D0)
      rw [hbu] at h
      exact h
    have c11 := fun p g => used_ct (W := W) (p := p) (g := g) 0 (K : Nat) 9 0 0 false
    have cn : Ct Tryd.prog W 35 [errV E 17] [] (fun _ : Unit => .int .i64 17) (fun _ => []) := num_ct hE hg 17 (by omega)
    obtain ⟨ea, hea⟩ := errV_ne (E := E) (show (17 : Nat) ≠ 0 by omega)
    rw [hea] at cn
    simp only [hea] at c8
    repeat' (first 
    | refine KJ_stp (by first | constructor | fail) ?_
    | (refine is_list ?_; first | (refine KJ_guard_dec_t rfl rfl rfl (fun _ => ?_) (fun _ => ?_) <;> first | (exfalso; omega) | skip) | (refine KJ_guard_dec_f rfl rfl rfl (fun _ => ?_) (fun _ => ?_) <;> first | (exfalso; omega) | skip) | (refine KJ_guard_yes rfl rfl ?_) | (refine KJ_guard_no rfl rfl rfl rfl ?_))
    | (refine is_oper ?_; first | (refine is_call ?_; first | (refine KJ_call (by (repeat' (first | exact Evs.nil | refine Evs.cons rfl ?_)); first | done | fail) cn (by (repeat' (first | exact Pick.nil | apply Pick.cons | exact Sel.here | apply Sel.there)); first | done | fail) rfl (fun _ => ?_)) | (refine KJ_call (by (repeat' (first | exact Evs.nil | refine Evs.cons rfl ?_)); first | done | fail) (c11 p g) (by (repeat' (first | exact Pick.nil | apply Pick.cons | exact Sel.here | apply Sel.there)); first | done | fail) rfl (fun _ => ?_)) | (refine KJ_call (by (repeat' (first | exact Evs.nil | refine Evs.cons rfl ?_)); first | done | fail) (c10 _) (by (repeat' (first | exact Pick.nil | apply Pick.cons | exact Sel.here | apply Sel.there)); first | done | fail) rfl (fun _ => ?_)) | (refine KJ_call (by (repeat' (first | exact Evs.nil | refine Evs.cons rfl ?_)); first | done | fail) (c9 _) (by (repeat' (first | exact Pick.nil | apply Pick.cons | exact Sel.here | apply Sel.there)); first | done | fail) rfl (fun _ => ?_)) | (refine KJ_call (by (repeat' (first | exact Evs.nil | refine Evs.cons rfl ?_)); first | done | fail) (c8 _ _) (by (repeat' (first | exact Pick.nil | apply Pick.cons | exact Sel.here | apply Sel.there)); first | done | fail) rfl (fun _ => ?_)) | (refine KJ_call (by (repeat' (first | exact Evs.nil | refine Evs.cons rfl ?_)); first | done | fail) c6 (by (repeat' (first | exact Pick.nil | apply Pick.cons | exact Sel.here | apply Sel.there)); first | done | fail) rfl (fun _ => ?_)) | (refine KJ_call (by (repeat' (first | exact Evs.nil | refine Evs.cons rfl ?_)); first | done | fail) c5 (by (repeat' (first | exact Pick.nil | apply Pick.cons | exact Sel.here | apply Sel.there)); first | done | fail) rfl (fun _ => ?_)) | (refine KJ_call (by (repeat' (first | exact Evs.nil | refine Evs.cons rfl ?_)); first | done | fail) (c4 p g) (by (repeat' (first | exact Pick.nil | apply Pick.cons | exact Sel.here | apply Sel.there)); first | done | fail) rfl (fun _ => ?_)) | (refine KJ_call (by (repeat' (first | exact Evs.nil | refine Evs.cons rfl ?_)); first | done | fail) c3 (by (repeat' (first | exact Pick.nil | apply Pick.cons | exact Sel.here | apply Sel.there)); first | done | fail) rfl (fun _ => ?_)) | (refine KJ_call (by (repeat' (first | exact Evs.nil | refine Evs.cons rfl ?_)); first | done | fail) (c2 _) (by (repeat' (first | exact Pick.nil | apply Pick.cons | exact Sel.here | apply Sel.there)); first | done | fail) rfl (fun g => ?_)) | (refine KJ_call (by (repeat' (first | exact Evs.nil | refine Evs.cons rfl ?_)); first | done | fail) c1 (by (repeat' (first | exact Pick.nil | apply Pick.cons | exact Sel.here | apply Sel.there)); first | done | fail) rfl (fun p => ?_))) | (refine KJ_ek rfl ?_) | (refine KJ_ek0 ?_))
    | (refine is_ek ?_; first | (refine ek_move ?_; first | (refine EK_ev (Ev_move rfl) ?_)) | (refine ek_assign ?_; first | (refine EK_ev (Ev_assign rfl) ?_)) | (refine ek_pick ?_; first | (refine EK_ev (Ev_pick_t rfl rfl) ?_) | (refine EK_ev (Ev_pick_f rfl rfl) ?_)) | (refine ek_un ?_; first | (refine EK_ev (Ev_notD rfl) ?_) | (refine EK_ev (Ev_not rfl) ?_) | (refine EK_ev (Ev_neg rfl) ?_)) | (refine ek_conv ?_; first | (refine EK_ev (Ev_convI_v rfl hN1) ?_) | (refine EK_ev (Ev_convI_v rfl hB) ?_) | (refine EK_ev (Ev_convI64 rfl (by omega)) ?_) | (refine EK_ev (Ev_convI rfl) ?_) | (refine EK_ev (Ev_convS rfl) ?_)) | (refine ek_extract ?_; first | (refine EK_ev (Ev_extract rfl rfl) ?_)) | (refine ek_add ?_; first | (refine EK_ev (Ev_addI_v (r := (K : Nat)) rfl rfl (by omega) (by omega)) ?_) | (refine EK_ev (Ev_addI rfl rfl (by omega)) ?_) | (refine EK_ev (Ev_addS rfl rfl (by simp <;> omega)) ?_) | (refine EK_ev (Ev_add rfl rfl) ?_)) | (refine ek_rem ?_; first | (refine EK_ev (Ev_rem_w rfl rfl (by omega) hk0) ?_) | (refine EK_ev (Ev_rem_w rfl rfl (by omega) hm) ?_) | (refine EK_ev (Ev_remI rfl rfl (by omega)) ?_) | (refine EK_ev (Ev_rem rfl rfl (by omega)) ?_)) | (refine ek_eql ?_; first | (refine EK_ev (Ev_eqlI_t rfl rfl rfl) ?_) | (refine EK_ev (Ev_eqlI rfl rfl) ?_) | (refine EK_ev (Ev_eqlS rfl rfl) ?_) | (refine EK_ev (Ev_eqlNil rfl rfl) ?_) | (refine EK_ev (Ev_eqlB rfl rfl) ?_) | (refine EK_ev (Ev_eqlO rfl rfl rfl (fun _ => rfl)) ?_)) | (refine ek_neq ?_; first | (refine EK_ev (Ev_neqB_w (c := false) rfl rfl rfl) ?_) | (refine EK_ev (Ev_neqI_f rfl rfl rfl) ?_) | (refine EK_ev (Ev_neqI rfl rfl) ?_) | (refine EK_ev (Ev_neqS rfl rfl) ?_) | (refine EK_ev (Ev_neqNil rfl rfl) ?_) | (refine EK_ev (Ev_neqB rfl rfl) ?_) | (refine EK_ev (Ev_neqO rfl rfl rfl (fun _ => rfl)) ?_)) | (refine ek_leq ?_; first | (refine EK_ev (Ev_leqI_q rfl rfl ql) ?_) | (refine EK_ev (Ev_leqI rfl rfl) ?_) | (refine EK_ev (Ev_leqS rfl rfl) ?_)) | (refine ek_geq ?_; first | (refine EK_ev (Ev_geqI rfl rfl) ?_) | (refine EK_ev (Ev_geqS rfl rfl) ?_)))
    | (refine is_ex ?_; first | (refine KJ_blk_exit' rfl ?_))
    | (refine is_code ?_; first | (refine KJ_cond_dec rfl (fun _ => ?_) (fun _ => ?_) <;> first | (exfalso; omega) | skip) | (refine KJ_cond_t rfl ?_) | (refine KJ_cond_f rfl ?_)))
    all_goals (refine is_ex ?_; exact KJ_done (by first | exact Or.inl rfl | exact Or.inr rfl) rfl (by (repeat' (first | exact Rvs.nil | (apply Rvs.tmp; exact rfl))); first | done | fail) () (by rfl) (Ent.of (by (repeat' (first | exact Pick.nil | apply Pick.cons | exact Sel.here | apply Sel.there)); first | done | fail) (by (repeat' (first | exact DropTo.refl | apply DropTo.there)); first | done | fail)))
end
end Go.Proofs.YteklldbfdmaafaaDoor
/-
  The arguments of the laws of chapter 6, opened: a fate, a script; with what the bound gives of their sizes.
-/
namespace Go.Proofs.YteklldbfdmaafaaDoor
open Go Go.RowKit Go.ChangeShapes Go.WideShapes Go.Deep
section
variable {H : Type} {enc : TypeId × Value → H} {W : World} {base : Nat} {held : Bool}
instance : Inhabited POp := ⟨⟨0, 0, [], 0, [], 0, 0⟩⟩
end
end Go.Proofs.YteklldbfdmaafaaDoor
/-
  SlotsApart (chapter 8): slots at two places do not see each other; no other sector is touched.
-/
namespace Go.Proofs.YteklldbfdmaafaaDoor
open Go Go.RowKit
/-- what stands behind the first values -/
structure ApSt (c0 c1 : Nat) (l0 l1 : List UInt8) (m : Nat) (D : Dsk) : Prop where
  rest : Rest D
  n : D.n = 6
  h0 : Holds D 1 c0 l0
  h1 : Holds D 3 c1 l1
  z0 : D.sec 0 = zs 256
  z5 : D.sec 5 = zs 256
  m0 : c0 ≤ m
  m1 : c1 ≤ m
theorem ApSt.start : ApSt 0 0 [] [] 0 (Dsk.blank 6) :=
  ⟨blank_rest 6 (by omega) (by omega), rfl, Holds.blank 6 1 (by omega), Holds.blank 6 3 (by omega), blank_sec _ _ (by omega), blank_sec _ _ (by omega), Nat.le_refl _, Nat.le_refl _⟩
theorem ApSt.step {c0 c1 m : Nat} {l0 l1 : List UInt8} {D : Dsk} (h : ApSt c0 c1 l0 l1 m D) : ApSt c0 c1 l0 l1 (m + 1) D :=
  ⟨h.rest, h.n, h.h0, h.h1, h.z0, h.z5, by have := h.m0; omega, by have := h.m1; omega⟩
end Go.Proofs.YteklldbfdmaafaaDoor
/-
  Arguments opened: slices of texts, of bools, of structs; with what the bound gives of their sizes.
-/
namespace Go.Proofs.YteklldbfdmaafaaDoor
open Go Go.RowKit Go.ChangeShapes Go.WideShapes Go.Deep
section
variable {H : Type} {enc : TypeId × Value → H} {W : World} {base : Nat} {held : Bool}
/-- a step of SlotsKeeps -/
structure KStep where
  val : List UInt8
  arm : Int
  crash : Bool
  kept : List Bool
  torn : Int
  bytes : Int
instance : Inhabited KStep := ⟨⟨[], 0, false, [], 0, 0⟩⟩
def KStep.cells (o : KStep) (kv : Value) : List Value := [strV o.val, .int .i64 o.arm, .bool o.crash, kv, .int .i64 o.torn, .int .i64 o.bytes]
end
end Go.Proofs.YteklldbfdmaafaaDoor
/-
  The closed facts of the whole program that every row of this seat asks, each asked once.
-/
namespace Go.Proofs.YteklldbfdmaafaaDoor
open Go Go.RowKit
theorem band {a b : Bool} (h : a = true) (k : b = true) : (a && b) = true := by rw [h, k]; rfl
theorem mapsRowedF : mapsRowed Tryd.prog = true := by kernel_rfl
theorem stopsF : (Tryd.prog.stops == []) = true := by kernel_rfl
theorem stopKnobsF : (Tryd.prog.stopKnobs == []) = true := by kernel_rfl
theorem plainKeysF : (Rows.diskFlushesUptoRow.plainKeys == Tryd.prog.plainKeys) = true := by kernel_rfl
theorem stopsHeardF : Tryd.prog.stopsHeard = true := by kernel_rfl
theorem mayEnterF : Tryd.prog.mayEnter = true := by kernel_rfl
theorem liftsF : (Rows.diskFlushesUptoRow.lifted == Tryd.prog.liftsFinal) = true := by kernel_rfl
theorem makeF : (Tryd.prog.make == some Rows.diskFlushesUptoRow.make) = true := by kernel_rfl
end Go.Proofs.YteklldbfdmaafaaDoor
