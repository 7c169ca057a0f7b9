/-
  WiL1, WiL2.
-/
import Derived.Test.YtnbgcimalpdfoaaGreatDoorPCX
import Derived.Test.YtnbgcimalpdfoaaGreatDoorPEJ
/-
  The laws of chapter 19: a transaction over an empty store; Take and Used over its rows; the calls that are fixed.
-/
namespace Go.Proofs.YtnbgcimalpdfoaaGreatDoor
open Go Go.RowKit
/-- the rows behind a Take -/
def takeRows (r : Rows) (acc : List UInt8) (now span most amount : Int) : Rows := match takeR (lk r (wKey acc)) now span most amount with
  | none => r
  | some v => putR r (wKey acc) v
theorem takeE_some {o : Option (List UInt8)} {now span most amount : Int} {val : List UInt8} (h : takeR o now span most amount = some val) : takeE o now span most amount = 0 := by
  obtain ⟨h1, h2, h3, h4, h5, h6, -⟩ := takeR_some h
  unfold takeE
  rw [if_neg (by omega), if_neg h3, if_neg h4, if_neg (by omega)]
theorem takeE_le (o : Option (List UInt8)) (now span most amount : Int) : takeE o now span most amount ≤ 37 := by
  unfold takeE
  repeat' split
  all_goals omega
section
variable {W : World} {F : Nat → Addr} {t m : Nat} {r : Rows} {ended : Bool} {acc : List UInt8} {now span most amount : Int}
theorem TxQ.up {t m m' : Nat} {r : Rows} {ended : Bool} (h : m ≤ m') {R : List SP} : ∀ g, starL (TxQ t r ended m :: R) g → starL (TxQ t r ended m' :: R) g := fun g q => by
  obtain ⟨⟨⟨s, K, U⟩, hU⟩, q2⟩ := unpack_star q
  exact TxQ.star (Nat.le_trans hU h) g q2
theorem qtake_ct (hE : ErrsOn L37 W F) (ha : acc.length ≤ 1099511627776) (hn : now ≤ 9223372036854775807) (hm : most ≤ 9223372036854775807) (hl : r.length ≤ 288230376151711744) (hu : (m + 1) * 8 ≤ 140737488355328) :
    Ct Tryz.prog W 14 [.pointer (some ⟨t, 0, none⟩), strV acc, .int .i64 now, .int .i64 span, .int .i64 most, .int .i64 amount] [TxQ t r false m] (fun _ : Unit => errV F (takeE (lk r (wKey acc)) now span most amount)) (fun _ => [TxQ t (takeRows r acc now span most amount) false (m + 1)]) := by
  have cg := txgetQ (W := W) (t := t) (m := m) (r := r) (ended := false) (wKey acc)
  cases h : takeR (lk r (wKey acc)) now span most amount with
  | none =>
    have e : takeRows r acc now span most amount = r := by unfold takeRows; rw [h]
    rw [e]
    exact (witake_no (W := W) hE ha hn hm cg h).to id (fun _ => rfl) (fun _ R g q => TxQ.up (Nat.le_succ m) g q)
  | some v =>
    have e : takeRows r acc now span most amount = putR r (wKey acc) v := by unfold takeRows; rw [h]
    rw [e, takeE_some h]
    exact witake_yes (W := W) ha hn hm cg h (txputQ (W := W) (wKey acc) v hl hu)
theorem qused_ct (ha : acc.length ≤ 1099511627776) (hn : now ≤ 9223372036854775807) :
    Ct Tryz.prog W 13 [.pointer (some ⟨t, 0, none⟩), strV acc, .int .i64 now, .int .i64 span] [TxQ t r ended m] (fun _ : Unit => .int .i64 (usedW (lk (seenR r ended) (wKey acc)) now span)) (fun _ => [TxQ t r ended m]) :=
  wiused_ct (W := W) ha hn (txgetQ (W := W) (t := t) (m := m) (r := r) (ended := ended) (wKey acc))
set_option maxHeartbeats 2000000 in
theorem begun_ct (hE : ErrsAt W F) (hN : NibAt W) (hg : gB ≤ W.heap.size) : Ct Tryz.prog W 11 [] [] (fun t : Nat => .pointer (some ⟨t, 0, none⟩)) (fun t => [TxQ t [] false 0]) := by
  have cn : Ct Tryz.prog W 54 [.int .i64 64] [] (fun p : Nat => .tuple #[.pointer (some ⟨p, 0, none⟩), .nilIface]) (fun p => [DiskP p (Dsk.blank 64)]) := new_ct 64 (by omega) (by omega) hg
  refine Ct.enter Tryz.func11 rfl Tryz.ntmps11 (by simp) (fun R => ?_)
  repeat' (first 
    | (refine is_call ?_; refine KJ_call xE cn xP rfl (fun d => ?_); refine hold ?_)
    | refine xst ?_
    | (refine xsa ?_; intro _)
    | (refine xsb ?_ ?_ <;> intro _ <;> first | (exfalso; omega) | skip)
    | refine xsc ?_
    | fail)
  all_goals refine Hold.mk ?_
  obtain ⟨D1, D2, c1, c2, c3⟩ := txnew_ct (W := W) hE.all hE.on hN d 64 (by omega) (by omega)
  repeat' (first 
    | (refine is_call ?_; first | (refine KJ_call xE (c3 _ _ _) xP rfl (fun t => ?_)) | (refine KJ_call xE c2 xP rfl (fun x => ?_); obtain ⟨s, q, g⟩ := x) | (refine KJ_call xE c1 xP rfl (fun _ => ?_)))
    | refine xst ?_
    | (refine xsa ?_; intro _)
    | (refine xsb ?_ ?_ <;> intro _ <;> first | (exfalso; omega) | skip)
    | refine xsc ?_
    | fail)
  all_goals (exact xdn t)
end
end Go.Proofs.YtnbgcimalpdfoaaGreatDoor
/-
  The laws of chapter 19: the calls that are fixed; WindowsNone.
-/
namespace Go.Proofs.YtnbgcimalpdfoaaGreatDoor
open Go Go.RowKit
theorem lk_put_self {r : Rows} (h : RisR r) (k v : List UInt8) : lk (putR r k v) k = some v := by rw [lk_putR h, if_pos rfl]
/-- a row that is put, from what was used -/
theorem takeR_u {o : Option (List UInt8)} {now span most amount u : Nat} (hu : usedW o now span = (u : Nat)) (h1 : 1 ≤ most) (h2 : 1 ≤ span) (h5 : amount ≤ most) (h6 : u + amount ≤ most) : takeR o now span most amount = some (rowW (now / span) (u + amount)) := by
  unfold takeR
  rw [if_neg (by omega), if_neg (by omega), if_neg (by omega), hu, if_neg (by omega)]
  have e1 : ((now : Int) / (span : Int)).toNat = now / span := by
    have : ((now : Int) / (span : Int)) = ((now / span : Nat) : Int) := by simp
    rw [this, Int.toNat_natCast]
  have e2 : ((u : Int) + (amount : Int)).toNat = u + amount := by omega
  rw [e1, e2]
theorem takeE_u {o : Option (List UInt8)} {now span most amount u : Nat} (hu : usedW o now span = (u : Nat)) (h1 : 1 ≤ most) (h2 : 1 ≤ span) (h6 : most < amount ∨ most < u + amount) : takeE o now span most amount = 30 := by
  unfold takeE
  rw [if_neg (by omega), if_neg (by omega), if_neg (by omega), hu, if_pos (by omega)]
theorem takeR_e {o : Option (List UInt8)} {now span most amount : Int} (h : takeE o now span most amount ≠ 0) : takeR o now span most amount = none := by
  cases h2 : takeR o now span most amount with
  | none => rfl
  | some v => exact absurd (takeE_some h2) h
section
variable {W : World} {F : Nat → Addr}
set_option maxHeartbeats 4000000 in
theorem fixed19_ct (hE : ErrsAt W F) (hN : NibAt W) (hg : gB ≤ W.heap.size) : Ct Tryz.prog W 10 [] [] (fun _ : Unit => .bool true) (fun _ => []) := by
  have cb := begun_ct (W := W) hE hN hg
  obtain ⟨k, hk⟩ : ∃ k, k = wKey [97] := ⟨_, rfl⟩
  obtain ⟨r1, hr1⟩ : ∃ r, r = putR [] k (rowW 0 60) := ⟨_, rfl⟩
  obtain ⟨r3, hr3⟩ : ∃ r, r = putR r1 k (rowW 0 100) := ⟨_, rfl⟩
  have hris1 : RisR r1 := by rw [hr1]; exact putR_ris List.Pairwise.nil _ _
  have l1 : lk r1 k = some (rowW 0 60) := by rw [hr1]; exact lk_put_self List.Pairwise.nil _ _
  have l3 : lk r3 k = some (rowW 0 100) := by rw [hr3]; exact lk_put_self hris1 _ _
  have hn0 : usedW (lk [] k) ((3 : Nat) : Int) ((10 : Nat) : Int) = (0 : Nat) := usedW_none _ _
  have u1 : usedW (lk r1 k) ((9 : Nat) : Int) ((10 : Nat) : Int) = (60 : Nat) := by rw [l1]; exact (usedW_row (by omega) (by omega) (by omega)).trans (if_pos (by omega))
  have u3 : usedW (lk r3 k) ((9 : Nat) : Int) ((10 : Nat) : Int) = (100 : Nat) := by rw [l3]; exact (usedW_row (by omega) (by omega) (by omega)).trans (if_pos (by omega))
  have u4 : usedW (lk r3 k) ((10 : Nat) : Int) ((10 : Nat) : Int) = 0 := by rw [l3]; exact (usedW_row (by omega) (by omega) (by omega)).trans (if_neg (by omega))
  have t1 : takeR (lk [] k) 3 10 100 60 = some (rowW 0 60) := takeR_u (now := 3) (span := 10) (most := 100) (amount := 60) hn0 (by omega) (by omega) (by omega) (by omega)
  have t2 : takeE (lk r1 k) 9 10 100 41 = 30 := takeE_u (now := 9) (span := 10) (most := 100) (amount := 41) u1 (by omega) (by omega) (by omega)
  have t3 : takeR (lk r1 k) 9 10 100 40 = some (rowW 0 100) := takeR_u (now := 9) (span := 10) (most := 100) (amount := 40) u1 (by omega) (by omega) (by omega) (by omega)
  have s1 : takeRows [] [97] 3 10 100 60 = r1 := by unfold takeRows; rw [← hk, t1, hr1]
  have s2 : takeRows r1 [97] 9 10 100 41 = r1 := by unfold takeRows; rw [← hk, takeR_e (by rw [t2]; decide)]
  have s3 : takeRows r1 [97] 9 10 100 40 = r3 := by unfold takeRows; rw [← hk, t3, hr3]
  have hl1 : r1.length ≤ 1 := by rw [hr1]; exact putR_len [] k _
  have cT1 : ∀ t, Ct Tryz.prog W 14 [.pointer (some ⟨t, 0, none⟩), strV [97], .int .i64 3, .int .i64 10, .int .i64 100, .int .i64 60] [TxQ t [] false 0] (fun _ : Unit => .nilIface) (fun _ => [TxQ t r1 false 1]) := fun t => by
    have := qtake_ct (W := W) (t := t) (m := 0) (r := []) (acc := [97]) (now := 3) (span := 10) (most := 100) (amount := 60) hE.all (by simp) (by omega) (by omega) (by simp) (by omega)
    rw [s1, ← hk, takeE_some t1] at this
    exact this
  have cU1 : ∀ t, Ct Tryz.prog W 13 [.pointer (some ⟨t, 0, none⟩), strV [97], .int .i64 9, .int .i64 10] [TxQ t r1 false 1] (fun _ : Unit => .int .i64 60) (fun _ => [TxQ t r1 false 1]) := fun t => by
    have := qused_ct (W := W) (t := t) (m := 1) (r := r1) (ended := false) (acc := [97]) (now := 9) (span := 10) (by simp) (by omega)
    rw [← hk, show usedW (lk (seenR r1 false) k) 9 10 = 60 from u1] at this
    exact this
  have cT2 : ∀ t, Ct Tryz.prog W 14 [.pointer (some ⟨t, 0, none⟩), strV [97], .int .i64 9, .int .i64 10, .int .i64 100, .int .i64 41] [TxQ t r1 false 1] (fun _ : Unit => errV F 30) (fun _ => [TxQ t r1 false 2]) := fun t => by
    have := qtake_ct (W := W) (t := t) (m := 1) (r := r1) (acc := [97]) (now := 9) (span := 10) (most := 100) (amount := 41) hE.all (by simp) (by omega) (by omega) (by omega) (by omega)
    rw [s2, ← hk, t2] at this
    exact this
  have cN := numA_ct hE hg 30 (by omega)
  have cT3 : ∀ t, Ct Tryz.prog W 14 [.pointer (some ⟨t, 0, none⟩), strV [97], .int .i64 9, .int .i64 10, .int .i64 100, .int .i64 40] [TxQ t r1 false 2] (fun _ : Unit => .nilIface) (fun _ => [TxQ t r3 false 3]) := fun t => by
    have := qtake_ct (W := W) (t := t) (m := 2) (r := r1) (acc := [97]) (now := 9) (span := 10) (most := 100) (amount := 40) hE.all (by simp) (by omega) (by omega) (by omega) (by omega)
    rw [s3, ← hk, takeE_some t3] at this
    exact this
  have cU3 : ∀ t, Ct Tryz.prog W 13 [.pointer (some ⟨t, 0, none⟩), strV [97], .int .i64 9, .int .i64 10] [TxQ t r3 false 3] (fun _ : Unit => .int .i64 100) (fun _ => [TxQ t r3 false 3]) := fun t => by
    have := qused_ct (W := W) (t := t) (m := 3) (r := r3) (ended := false) (acc := [97]) (now := 9) (span := 10) (by simp) (by omega)
    rw [← hk, show usedW (lk (seenR r3 false) k) 9 10 = 100 from u3] at this
    exact this
  have cU4 : ∀ t, Ct Tryz.prog W 13 [.pointer (some ⟨t, 0, none⟩), strV [97], .int .i64 10, .int .i64 10] [TxQ t r3 false 3] (fun _ : Unit => .int .i64 0) (fun _ => [TxQ t r3 false 3]) := fun t => by
    have := qused_ct (W := W) (t := t) (m := 3) (r := r3) (ended := false) (acc := [97]) (now := 10) (span := 10) (by simp) (by omega)
    rw [← hk, show usedW (lk (seenR r3 false) k) 10 10 = 0 from u4] at this
    exact this
  have ck := wikey_ct (W := W) [97] (by simp)
  have hkl : (wKey [97]).length = 8 := rfl
  have ql : decide (((wKey [97]).length : Int) = 8) = true := by rw [hkl]; rfl
  refine Ct.enter Tryz.func10 rfl Tryz.ntmps10 (by simp) (fun R => ?_)
  repeat' (first 
    | (refine is_call ?_; first | (refine KJ_call xE (cT1 _) xP rfl (fun _ => ?_)) | (refine KJ_call xE (cT2 _) xP rfl (fun _ => ?_)) | (refine KJ_call xE (cT3 _) xP rfl (fun _ => ?_)) | (refine KJ_call xE (cU1 _) xP rfl (fun _ => ?_)) | (refine KJ_call xE (cU3 _) xP rfl (fun _ => ?_)) | (refine KJ_call xE (cU4 _) xP rfl (fun _ => ?_)) | (refine KJ_call xE cN xP rfl (fun _ => ?_)) | (refine KJ_call xE ck xP rfl (fun _ => ?_)) | (refine KJ_call xE cb xP rfl (fun t => ?_)))
    | (refine ek_eql ?_; first | refine EK_ev (Ev_eqlI_q rfl rfl ql) ?_ | refine EK_ev (Ev_eqlI_q (q := true) rfl rfl rfl) ?_)
    | (refine ek_neq ?_; refine EK_ev (Ev_neqI_q (q := false) rfl rfl rfl) ?_)
    | refine xst ?_
    | (refine xsa ?_; intro _)
    | (refine xsb ?_ ?_ <;> intro _ <;> first | (exfalso; omega) | skip)
    | refine xsc ?_
    | fail)
  all_goals (exact xdn ())
end
end Go.Proofs.YtnbgcimalpdfoaaGreatDoor
