/-
  ChL3.
-/
import Derived.Test.YtnbgcimalpdfoaaGreatDoorQEX
import Derived.Test.YtnbgcimalpdfoaaGreatDoorQFJ
import Derived.Test.YtnbgcimalpdfoaaGreatDoorQFB
/-
  ChartLives (chapter 15). (Printed by genchl3.py.)
-/
namespace Go.Proofs.YtnbgcimalpdfoaaGreatDoor
open Go Go.RowKit
section
variable {W : World} {F : Nat → Addr}
instance fn_dmake : FnIs Tryz.prog 41 := ⟨by kernel_rfl⟩
set_option maxHeartbeats 4000000 in
theorem dmake_no (b : List UInt8) (hb : b.length ≤ 1100000) (h : bodyOk b = false) : Ct Tryz.prog W 41 [strV frB, strV b] [] (fun _ : Unit => .tuple #[strV [], .int .i64 7]) (fun _ => []) := by
  have ca := dall_cap (W := W) frB (by decide)
  have cb := dall_pln (W := W) b (by omega)
  have q0 : decide (((frB.length : Nat) : Int) ≠ 2) = false := rfl
  rw [show frB.all capB = true by decide] at ca
  by_cases h1 : 1 ≤ b.length
  rotate_left
  · have q1 : decide (((b.length : Nat) : Int) < 1) = true := decide_eq_true (by omega)
    refine Ct.enter Tryz.func41 rfl Tryz.ntmps41 (by simp) (fun R => ?_)
    repeat' (first 
    | (refine is_call ?_; refine KJ_call xE ca xP rfl (fun _ => ?_))
    | (refine ek_neq ?_; refine EK_ev (Ev_neqI_q rfl rfl q0) ?_)
    | (refine ek_lss ?_; refine EK_ev (Ev_lssI_q rfl rfl q1) ?_)
    | refine xst ?_
    | (refine xsa ?_; intro _)
    | (refine xsb ?_ ?_ <;> intro _ <;> first | (exfalso; omega) | skip)
    | refine xsc ?_
    | fail)
    all_goals (exact xdn ())
  have q1 : decide (((b.length : Nat) : Int) < 1) = false := decide_eq_false (by omega)
  by_cases h2 : b.length ≤ 30
  rotate_left
  · have q2 : decide ((30 : Int) < ((b.length : Nat) : Int)) = true := decide_eq_true (by omega)
    refine Ct.enter Tryz.func41 rfl Tryz.ntmps41 (by simp) (fun R => ?_)
    repeat' (first 
    | (refine is_call ?_; refine KJ_call xE ca xP rfl (fun _ => ?_))
    | (refine ek_neq ?_; refine EK_ev (Ev_neqI_q rfl rfl q0) ?_)
    | (refine ek_lss ?_; refine EK_ev (Ev_lssI_q rfl rfl q1) ?_)
    | (refine ek_gtr ?_; refine EK_ev (Ev_gtrI_q rfl rfl q2) ?_)
    | refine xst ?_
    | (refine xsa ?_; intro _)
    | (refine xsb ?_ ?_ <;> intro _ <;> first | (exfalso; omega) | skip)
    | refine xsc ?_
    | fail)
    all_goals (exact xdn ())
  have q2 : decide ((30 : Int) < ((b.length : Nat) : Int)) = false := decide_eq_false (by omega)
  have h3 : (b.all fun x => capB x || digB x) = false := by
    unfold bodyOk at h
    rw [decide_eq_true h1, decide_eq_true h2] at h
    exact h
  rw [h3] at cb
  refine Ct.enter Tryz.func41 rfl Tryz.ntmps41 (by simp) (fun R => ?_)
  repeat' (first 
    | (refine is_call ?_; first | (refine KJ_call xE ca xP rfl (fun _ => ?_)) | (refine KJ_call xE cb xP rfl (fun _ => ?_)))
    | (refine ek_neq ?_; refine EK_ev (Ev_neqI_q rfl rfl q0) ?_)
    | (refine ek_lss ?_; refine EK_ev (Ev_lssI_q rfl rfl q1) ?_)
    | (refine ek_gtr ?_; refine EK_ev (Ev_gtrI_q rfl rfl q2) ?_)
    | refine xst ?_
    | (refine xsa ?_; intro _)
    | (refine xsb ?_ ?_ <;> intro _ <;> first | (exfalso; omega) | skip)
    | refine xsc ?_
    | fail)
  all_goals (exact xdn ())
set_option maxHeartbeats 4000000 in
theorem dmake_ct (b : List UInt8) (h : bodyOk b = true) : ∃ id : List UInt8, accE id = 0 ∧ id.length ≤ 34 ∧ id.getD 0 0 = 70 ∧ Ct Tryz.prog W 41 [strV frB, strV b] [] (fun _ : Unit => .tuple #[strV id, .int .i64 0]) (fun _ => []) := by
  have h' := h
  unfold bodyOk at h'
  simp only [Bool.and_eq_true, decide_eq_true_eq] at h'
  obtain ⟨⟨h1, h2⟩, h3⟩ := h'
  have hall : ((b ++ frB).all fun x => digB x || capB x) = true := by
    rw [List.all_append, ← all_swap, h3]; rfl
  have hne : b ++ frB ≠ [] := by intro h; have := congrArg List.length h; rw [List.length_append] at this; exact absurd this (by show b.length + 2 ≠ 0; omega)
  obtain ⟨x, hx, -⟩ := digits2_some hall hne
  have hd : (dig2 x).length = 2 := rfl
  refine ⟨frB ++ dig2 x ++ b, made_ok h hx, by rw [List.length_append, List.length_append, hd]; show 2 + 2 + b.length ≤ 34; omega, rfl, ?_⟩
  have ca := dall_cap (W := W) frB (by decide)
  have cb := dall_pln (W := W) b (by omega)
  have q0 : decide (((frB.length : Nat) : Int) ≠ 2) = false := rfl
  rw [show frB.all capB = true by decide] at ca
  rw [h3] at cb
  have q1 : decide (((b.length : Nat) : Int) < 1) = false := decide_eq_false (by omega)
  have q2 : decide ((30 : Int) < ((b.length : Nat) : Int)) = false := decide_eq_false (by omega)
  have bl : b.length + frB.length ≤ 9223372036854775807 := by show b.length + 2 ≤ _; omega
  have cd := ddigits_ct (W := W) (b ++ frB) (by rw [List.length_append]; show b.length + 2 ≤ _; omega) hne hall x hx
  obtain ⟨d, hdd⟩ : ∃ d, d = dig2 x := ⟨_, rfl⟩
  rw [← hdd] at cd hd ⊢
  have bl2 : frB.length + d.length ≤ 9223372036854775807 := by rw [hd]; decide
  have bl3 : (frB ++ d).length + b.length ≤ 9223372036854775807 := by rw [List.length_append, hd]; show 2 + 2 + b.length ≤ _; omega
  clear hdd hx
  refine Ct.enter Tryz.func41 rfl Tryz.ntmps41 (by simp) (fun R => ?_)
  repeat' (first 
    | (refine is_call ?_; first | (refine KJ_call xE ca xP rfl (fun _ => ?_)) | (refine KJ_call xE cb xP rfl (fun _ => ?_)) | (refine KJ_call xE cd xP rfl (fun _ => ?_)))
    | (refine ek_add ?_; first | refine EK_ev (Ev_addS (a := b) (b := frB) rfl rfl bl) ?_ | refine EK_ev (Ev_addS (a := frB) (b := d) rfl rfl bl2) ?_ | refine EK_ev (Ev_addS (a := frB ++ d) (b := b) rfl rfl bl3) ?_)
    | (refine ek_neq ?_; refine EK_ev (Ev_neqI_q rfl rfl q0) ?_)
    | (refine ek_lss ?_; refine EK_ev (Ev_lssI_q rfl rfl q1) ?_)
    | (refine ek_gtr ?_; refine EK_ev (Ev_gtrI_q rfl rfl q2) ?_)
    | refine xst ?_
    | (refine xsa ?_; intro _)
    | (refine xsb ?_ ?_ <;> intro _ <;> first | (exfalso; omega) | skip)
    | refine xsc ?_
    | fail)
  all_goals (exact xdn ())
/-- the dollar -/
abbrev usdB : List UInt8 := [85, 83, 68]
theorem usdB_ok : codeB usdB = true := by kernel_rfl
theorem id_sys {id : List UInt8} (h0 : id.getD 0 0 = 70) (c : List UInt8) : ∀ j, j < 4 → aKey id ≠ sysK j c
  | 0, _, h => absurd (show (70 : UInt8) = 111 from h0.symm.trans (congrArg (fun l => l.getD 0 0) (aKey_inj h))) (by decide)
  | 1, _, h => absurd (show (70 : UInt8) = 115 from h0.symm.trans (congrArg (fun l => l.getD 0 0) (aKey_inj h))) (by decide)
  | 2, _, h => absurd (show (70 : UInt8) = 99 from h0.symm.trans (congrArg (fun l => l.getD 0 0) (aKey_inj h))) (by decide)
  | 3, _, h => absurd (show (70 : UInt8) = 102 from h0.symm.trans (congrArg (fun l => l.getD 0 0) (aKey_inj h))) (by decide)
  | j + 4, hj, _ => absurd hj (by omega)
/-- a life's cells -/
abbrev lifC (b : List UInt8) (bal held : Int) (on : Bool) : List Value := [strV b, .int .i64 bal, .int .i64 held, .bool on]
set_option maxHeartbeats 16000000 in
set_option maxRecDepth 100000 in
theorem lives_nil (hE : ErrsAt W F) (hN : NibAt W) (hg : gB ≤ W.heap.size) (b : List UInt8) (bal held : Int) (on : Bool) (hb : bodyOk b = true) (hz1 : uT bal % 900000000000000 = 0) (hz2 : uT held % 100000000000001 = 0) :
    Ct Tryz.prog W 7 [.agg (lifC b bal held on).toArray] [] (fun _ : Unit => .bool true) (fun _ => []) := by
  have cL := lives15_ct hE hN hg
  obtain ⟨id, hid, hidl, hid0, cM⟩ := dmake_ct (W := W) b hb
  have cb := begin15_nil (W := W) hE hN hg
  have nkid : aKey numB ≠ aKey id := fun h => by
    have h := congrArg (fun l => l.getD 0 0) (aKey_inj h)
    have h : (71 : UInt8) = id.getD 0 0 := h
    rw [hid0] at h
    revert h; decide
  have nsid := id_sys hid0 usdB
  have nsk := numB_sys usdB
  obtain ⟨k, hk⟩ : ∃ k, k = aKey numB := ⟨_, rfl⟩
  obtain ⟨v, hv⟩ : ∃ v, v = rowA (newA numB eurB) := ⟨_, rfl⟩
  obtain ⟨ki, hki⟩ : ∃ k, k = aKey id := ⟨_, rfl⟩
  rw [← hk] at nkid nsk
  rw [← hki] at nkid nsid
  -- the balance and what is held
  obtain ⟨x1, hx1⟩ : ∃ x, x = uT bal % 900000000000000 := ⟨_, rfl⟩
  obtain ⟨x2, hx2⟩ : ∃ x, x = uT held % 100000000000001 := ⟨_, rfl⟩
  have lt1 : x1 < 900000000000000 := by rw [hx1]; exact Nat.mod_lt _ (by omega)
  have lt2 : x2 < 100000000000001 := by rw [hx2]; exact Nat.mod_lt _ (by omega)
  have w1 := u64_uT bal
  have w2 := u64_uT held
  have m1 : ((uT bal : Nat) : Int) % 900000000000000 = ((x1 : Nat) : Int) := by rw [hx1]; omega
  have m2 : ((uT held : Nat) : Int) % 100000000000001 = ((x2 : Nat) : Int) := by rw [hx2]; omega
  have v1 : IntKind.i64.wrap ((x1 : Nat) : Int) = ((x1 : Nat) : Int) := i64_in _ (by omega)
  have v2 : IntKind.i64.wrap ((x2 : Nat) : Int) = ((x2 : Nat) : Int) := i64_in _ (by omega)
  have z1 : x1 = 0 := by rw [hx1]; exact hz1
  have z2 : x2 = 0 := by rw [hx2]; exact hz2
  clear hx1 hx2
  -- the account
  have g1 : goodA ⟨id, usdB, 1, false, (x1 : Nat), (x2 : Nat)⟩ = true := goodA_yesC rfl usdB_ok ⟨hid, by show (0 : Int) ≤ ((x1 : Nat) : Int); omega, by show (0 : Int) ≤ ((x2 : Nat) : Int); omega, by show ((x1 : Nat) : Int) ≤ 1000000000000000; omega, by show ((x2 : Nat) : Int) ≤ 1000000000000000 - ((x1 : Nat) : Int); omega⟩
  have g2 := frozen_good (a := ⟨id, usdB, 1, false, (x1 : Nat), (x2 : Nat)⟩) rfl g1 on
  have gn := newA_good hid usdB_ok
  have gN := newA_good numB_ok eurB_ok
  -- the rows
  obtain ⟨r1, hr1⟩ : ∃ r, r = putR [] k v := ⟨_, rfl⟩
  have ris1 : RisR r1 := by rw [hr1]; exact putR_ris List.Pairwise.nil _ _
  have l1 : ∀ y, lk r1 y = if y = k then some v else none := fun y => by rw [hr1, lk_putR List.Pairwise.nil]; rfl
  have len1 : r1.length ≤ 1 := by rw [hr1]; exact putR_len [] k v
  have f0 : foundE r1 usdB = 0 := found_no usdB_ok fun j hj => by rw [l1, if_neg (fun h => nsk j hj h.symm)]; rfl
  obtain ⟨r2, hr2⟩ : ∃ r, r = foundTo r1 usdB 4 := ⟨_, rfl⟩
  have f0r : foundR r1 usdB = r2 := by rw [hr2]; exact if_pos f0
  have ris2 : RisR r2 := by rw [hr2]; exact foundTo_ris ris1 _ 4
  have l2k : lk r2 k = some v := by rw [hr2, lk_foundTo ris1 _ _ 4 nsk, l1, if_pos rfl]
  have l2i : lk r2 ki = none := by rw [hr2, lk_foundTo ris1 _ _ 4 nsid, l1, if_neg (fun h => nkid h.symm)]
  have len2 : r2.length ≤ 5 := by rw [hr2]; have := foundTo_len r1 usdB 4; omega
  obtain ⟨r3, hr3⟩ : ∃ r, r = putR r2 ki (rowA (newA id usdB)) := ⟨_, rfl⟩
  have ris3 : RisR r3 := by rw [hr3]; exact putR_ris ris2 _ _
  have l3 : ∀ y, lk r3 y = if y = ki then some (rowA (newA id usdB)) else lk r2 y := fun y => by rw [hr3, lk_putR ris2]
  have len3 : r3.length ≤ 6 := by rw [hr3]; have := putR_len r2 ki (rowA (newA id usdB)); omega
  obtain ⟨r4, hr4⟩ : ∃ r, r = putR r3 ki (rowA ⟨id, usdB, 1, false, (x1 : Nat), (x2 : Nat)⟩) := ⟨_, rfl⟩
  have ris4 : RisR r4 := by rw [hr4]; exact putR_ris ris3 _ _
  have l4 : ∀ y, lk r4 y = if y = ki then some (rowA ⟨id, usdB, 1, false, (x1 : Nat), (x2 : Nat)⟩) else lk r3 y := fun y => by rw [hr4, lk_putR ris3]
  have len4 : r4.length ≤ 7 := by rw [hr4]; have := putR_len r3 ki (rowA ⟨id, usdB, 1, false, (x1 : Nat), (x2 : Nat)⟩); omega
  obtain ⟨fe, ris5, l5⟩ := freezeQ (id := id) (a := ⟨id, usdB, 1, false, (x1 : Nat), (x2 : Nat)⟩) ris4 (by rw [← hki, l4, if_pos rfl]) rfl g1 rfl on
  rw [← hki] at l5
  have len5 : (freezeR r4 id on).length ≤ 8 := by
    unfold freezeR
    split
    · omega
    · split
      · omega
      · rename_i a _ _; have := putR_len r4 (aKey id) (rowA { a with frozen := on }); omega
  obtain ⟨r5, hr5⟩ : ∃ r, r = freezeR r4 id on := ⟨_, rfl⟩
  rw [← hr5] at ris5 l5 len5
  have l5k : lk r5 k = some v := by rw [l5, if_neg nkid, l4, if_neg nkid, l3, if_neg nkid, l2k]
  obtain ⟨a2, ha2⟩ : ∃ a : Acct, a = ⟨id, usdB, 1, on, (x1 : Nat), (x2 : Nat)⟩ := ⟨_, rfl⟩
  have g2 : goodA a2 = true := by rw [ha2]; exact g2
  have l5i : lk r5 ki = some (rowA a2) := by rw [l5, if_pos rfl, ha2]
  -- the calls
  have cO1 : ∀ t, Ct Tryz.prog W 42 [.pointer (some ⟨t, 0, none⟩), strV numB, strV eurB] [TxQ t [] false 0] (fun _ : Unit => .nilIface) (fun _ => [TxQ t r1 false 1]) := fun t => by
    have := chopen_ct (W := W) (F := F) (t := t) (m := 0) (r := []) (id := numB) (cur := eurB) hE.all (by decide) (by decide) (by simp) (by omega)
    obtain ⟨q1, q2⟩ := openQ_yes (r := []) numB_ok eurB_ok rfl
    rw [q1, q2, ← hk, ← hv, ← hr1] at this
    exact this
  have cF : ∀ t, Ct Tryz.prog W 43 [.pointer (some ⟨t, 0, none⟩), strV usdB] [TxQ t r1 false 1] (fun _ : Unit => .nilIface) (fun _ => [TxQ t r2 false 5]) := fun t => by
    have := chfound_ct (W := W) (F := F) (t := t) (m := 1) (r := r1) (cur := usdB) hE.all (by decide) (by omega) (by omega)
    rw [f0, f0r] at this
    exact this
  have getN : ∀ {r : Rows} {m : Nat} (t : Nat), lk r k = some v → Ct Tryz.prog W 44 [.pointer (some ⟨t, 0, none⟩), strV numB] [TxQ t r false m] (fun _ : Unit => .tuple #[acV (newA numB eurB), .nilIface]) (fun _ => [TxQ t r false m]) := fun {r m} t hl => by
    have := chget_ct (W := W) (F := F) (id := numB) (o := lk r (aKey numB)) (by decide) (fun s hs => by rw [← hk, hl] at hs; cases hs; rw [hv, rowA_len (goodA_in gN).1]; omega) hE.all (txgetC (W := W) (t := t) (r := r) (m := m) (aKey numB))
    have hdec : getO numB (some v) = some (newA numB eurB) := by rw [hv]; exact dec_of_row gN
    have e : getV F numB (some v) = .tuple #[acV (newA numB eurB), .nilIface] := by unfold getV; rw [hdec, getE_some hdec]; rfl
    rw [← hk, hl, e] at this
    exact this
  have getI : ∀ {r : Rows} {m : Nat} (t : Nat), lk r ki = some (rowA a2) → Ct Tryz.prog W 44 [.pointer (some ⟨t, 0, none⟩), strV id] [TxQ t r false m] (fun _ : Unit => .tuple #[acV a2, .nilIface]) (fun _ => [TxQ t r false m]) := fun {r m} t hl => by
    have := chget_ct (W := W) (F := F) (id := id) (o := lk r (aKey id)) (by omega) (fun s hs => by rw [← hki, hl] at hs; cases hs; rw [rowA_len (goodA_in g2).1]; omega) hE.all (txgetC (W := W) (t := t) (r := r) (m := m) (aKey id))
    have hdec : getO id (some (rowA a2)) = some a2 := by have := dec_of_row g2; rw [show a2.id = id by rw [ha2]] at this; exact this
    have e : getV F id (some (rowA a2)) = .tuple #[acV a2, .nilIface] := by unfold getV; rw [hdec, getE_some hdec]; rfl
    rw [← hki, hl, e] at this
    exact this
  have cG1 := fun t => getN (r := r2) (m := 5) t l2k
  have cC1 : ∀ t, Ct Tryz.prog W 45 [.pointer (some ⟨t, 0, none⟩), strV id] [TxQ t r2 false 5] (fun _ : Unit => errV F 20) (fun _ => [TxQ t r2 false 6]) := fun t => by
    have := chclose_ct (W := W) (F := F) (t := t) (m := 5) (r := r2) (id := id) hE.all (by omega) (fun s hs => by rw [← hki, l2i] at hs; cases hs) (by omega) (by omega)
    obtain ⟨q1, q2⟩ := closeQ_none (r := r2) (id := id) (by rw [← hki]; exact l2i)
    rw [q1, q2] at this
    exact this
  have cO2 : ∀ t, Ct Tryz.prog W 42 [.pointer (some ⟨t, 0, none⟩), strV id, strV usdB] [TxQ t r2 false 6] (fun _ : Unit => .nilIface) (fun _ => [TxQ t r3 false 7]) := fun t => by
    have := chopen_ct (W := W) (F := F) (t := t) (m := 6) (r := r2) (id := id) (cur := usdB) hE.all (by omega) (by decide) (by omega) (by omega)
    obtain ⟨q1, q2⟩ := openQ_yes (r := r2) hid usdB_ok (by rw [← hki]; exact l2i)
    rw [q1, q2, ← hki, ← hr3] at this
    exact this
  have cO3 : ∀ t, Ct Tryz.prog W 42 [.pointer (some ⟨t, 0, none⟩), strV id, strV eurB] [TxQ t r3 false 7] (fun _ : Unit => errV F 21) (fun _ => [TxQ t r3 false 8]) := fun t => by
    have := chopen_ct (W := W) (F := F) (t := t) (m := 7) (r := r3) (id := id) (cur := eurB) hE.all (by omega) (by decide) (by omega) (by omega)
    obtain ⟨q1, q2⟩ := openQ_there (r := r3) (v := rowA (newA id usdB)) hid eurB_ok (by rw [← hki, l3, if_pos rfl])
    rw [q1, q2] at this
    exact this
  have cS1 : ∀ t, Ct Tryz.prog W 46 [.pointer (some ⟨t, 0, none⟩), .agg #[strV id, strV usdB, .int .i64 1, .bool false, .int .i64 ((x1 : Nat) : Int), .int .i64 ((x2 : Nat) : Int)]] [TxQ t r3 false 8] (fun _ : Unit => .nilIface) (fun _ => [TxQ t r4 false 9]) := fun t => by
    have := chset_ct (W := W) (F := F) (t := t) (m := 8) (r := r3) (a := ⟨id, usdB, 1, false, (x1 : Nat), (x2 : Nat)⟩) hE.all (by show id.length ≤ _; omega) (by show 3 ≤ 2000000; decide) ⟨by show (-9223372036854775808 : Int) ≤ ((x1 : Nat) : Int); omega, by show ((x1 : Nat) : Int) ≤ 9223372036854775807; omega⟩ (by omega) (by omega)
    obtain ⟨q1, q2⟩ := setQ_yes (r := r3) (v := rowA (newA id usdB)) g1 (by show lk r3 (aKey id) = _; rw [← hki, l3, if_pos rfl])
    rw [q1, q2] at this
    have e : putR r3 (aKey id) (rowA ⟨id, usdB, 1, false, (x1 : Nat), (x2 : Nat)⟩) = r4 := by rw [hr4, hki]
    rw [e] at this
    exact this
  have cZ : ∀ t, Ct Tryz.prog W 47 [.pointer (some ⟨t, 0, none⟩), strV id, .bool on] [TxQ t r4 false 9] (fun _ : Unit => .nilIface) (fun _ => [TxQ t r5 false 10]) := fun t => by
    have := chfreeze_ct (W := W) (F := F) (t := t) (m := 9) (r := r4) (id := id) hE.all (by omega) (fun s hs => by rw [← hki, l4, if_pos rfl] at hs; cases hs; rw [rowA_len (goodA_in g1).1]; omega) (by omega) (by omega) on
    rw [fe, ← hr5] at this
    exact this
  have cG2 := fun t => getI (r := r5) (m := 10) t l5i
  have hv2 : acV a2 = .agg #[strV id, strV usdB, .int .i64 1, .bool on, .int .i64 ((x1 : Nat) : Int), .int .i64 ((x2 : Nat) : Int)] := by rw [ha2]; rfl
  have hself := ac_self a2 Tryz.underlying51
  have hvC : acC a2 = [strV id, strV usdB, .int .i64 1, .bool on, .int .i64 ((x1 : Nat) : Int), .int .i64 ((x2 : Nat) : Int)] := by rw [ha2]; rfl
  rw [hvC] at hself
  have hselfN := ac_self (newA numB eurB) Tryz.underlying51
  have cN20 := numA_ct hE hg 20 (by omega)
  have cN21 := numA_ct hE hg 21 (by omega)
  have cN37 := numA_ct hE hg 37 (by omega)
  have hk2 : a2.kind = 1 := by rw [ha2]
  have hb2 : a2.bal = ((x1 : Nat) : Int) := by rw [ha2]
  have hh2 : a2.held = ((x2 : Nat) : Int) := by rw [ha2]
  have hi2 : a2.id = id := by rw [ha2]
  -- the end: the account goes
  have ris7 : RisR (mdel r5 ki) := mdel_ris ris5 ki
  have l7 : ∀ y, lk (mdel r5 ki) y = if y = ki then none else lk r5 y := fun y => lk_del _ _ _
  have len7 : (mdel r5 ki).length ≤ 9 := Nat.le_trans (List.length_filter_le _ _) (show r5.length ≤ 9 by omega)
  obtain ⟨r7, hr7⟩ : ∃ r, r = mdel r5 ki := ⟨_, rfl⟩
  rw [← hr7] at ris7 l7 len7
  have l7k : lk r7 k = some v := by rw [l7, if_neg nkid]; exact l5k
  have l7i : lk r7 ki = none := by rw [l7, if_pos rfl]
  have cC3 : ∀ t, Ct Tryz.prog W 45 [.pointer (some ⟨t, 0, none⟩), strV id] [TxQ t r5 false 10] (fun _ : Unit => .nilIface) (fun _ => [TxQ t r7 false 11]) := fun t => by
    have := chclose_ct (W := W) (F := F) (t := t) (m := 10) (r := r5) (id := id) hE.all (by omega) (fun s hs => by rw [← hki, l5i] at hs; cases hs; rw [rowA_len (goodA_in g2).1]; omega) (by omega) (by omega)
    obtain ⟨q1, q2⟩ := closeQ_yes (r := r5) (id := id) (a := a2) (custO_row (by rw [← hki]; exact l5i) hi2 g2 hk2) (by rw [hb2, z1]; rfl) (by rw [hh2, z2]; rfl)
    rw [q1, q2, ← hki, ← hr7] at this
    exact this
  have cG4 : ∀ t, Ct Tryz.prog W 44 [.pointer (some ⟨t, 0, none⟩), strV id] [TxQ t r7 false 11] (fun _ : Unit => .tuple #[acV ac0, errV F 20]) (fun _ => [TxQ t r7 false 11]) := fun t => by
    have := chget_ct (W := W) (F := F) (id := id) (o := lk r7 (aKey id)) (by omega) (fun s hs => by rw [← hki, l7i] at hs; cases hs) hE.all (txgetC (W := W) (t := t) (r := r7) (m := 11) (aKey id))
    rw [← hki, l7i] at this
    exact this
  have cG5 := fun t => getN (r := r7) (m := 11) t l7k
  have cO4 : ∀ t, Ct Tryz.prog W 42 [.pointer (some ⟨t, 0, none⟩), strV id, strV eurB] [TxQ t r7 false 11] (fun _ : Unit => .nilIface) (fun _ => [TxQ t (putR r7 ki (rowA (newA id eurB))) false 12]) := fun t => by
    have := chopen_ct (W := W) (F := F) (t := t) (m := 11) (r := r7) (id := id) (cur := eurB) hE.all (by omega) (by decide) (by omega) (by omega)
    obtain ⟨q1, q2⟩ := openQ_yes (r := r7) hid eurB_ok (by rw [← hki]; exact l7i)
    rw [q1, q2, ← hki] at this
    exact this
  rw [hv2] at cG2
  have q1 : decide (((x1 : Nat) : Int) ≠ 0) = false := decide_eq_false (by omega)
  have q2 : decide (((x2 : Nat) : Int) ≠ 0) = false := decide_eq_false (by omega)
  clear l1 l3 l4 l5 l7 getN getI
  refine Ct.enter Tryz.func7 rfl Tryz.ntmps7 (by simp) (fun R => ?_)
  repeat' (first 
    | (refine is_box ?_; refine KJ_box rfl xF rfl (fun g1 => ?_))
    | (refine is_call ?_; first | (refine KJ_call xE cN37 xP rfl (fun _ => ?_)) | (refine KJ_call xE cN21 xP rfl (fun _ => ?_)) | (refine KJ_call xE cN20 xP rfl (fun _ => ?_)) | (refine KJ_call xE (cO1 _) xP rfl (fun _ => ?_)) | (refine KJ_call xE (cF _) xP rfl (fun _ => ?_)) | (refine KJ_call xE (cG1 _) xP rfl (fun _ => ?_)) | (refine KJ_call xE (cC1 _) xP rfl (fun _ => ?_)) | (refine KJ_call xE (cO2 _) xP rfl (fun _ => ?_)) | (refine KJ_call xE (cO3 _) xP rfl (fun _ => ?_)) | (refine KJ_call xE (cS1 _) xP rfl (fun _ => ?_)) | (refine KJ_call xE (cZ _) xP rfl (fun _ => ?_)) | (refine KJ_call xE (cG2 _) xP rfl (fun _ => ?_)) | (refine KJ_call xE (cC3 _) xP rfl (fun _ => ?_)) | (refine KJ_call xE (cG4 _) xP rfl (fun _ => ?_)) | (refine KJ_call xE (cG5 _) xP rfl (fun _ => ?_)) | (refine KJ_call xE (cO4 _) xP rfl (fun _ => ?_)) | (refine KJ_call xE (cb) xP rfl (fun t => ?_)) | (refine KJ_call xE cM xP rfl (fun _ => ?_)) | (refine KJ_call xE cL xP rfl (fun _ => ?_)))
    | (refine ek_conv ?_; first | refine EK_ev (Ev_convI_v rfl w2) ?_ | refine EK_ev (Ev_convI_v rfl w1) ?_ | refine EK_ev (Ev_convI_v rfl v2) ?_ | refine EK_ev (Ev_convI_v rfl v1) ?_)
    | (refine ek_build ?_; refine EK_ev (Ev_build xV xW) ?_)
    | (refine ek_rem ?_; first | refine EK_ev (Ev_rem_w rfl rfl (by omega) m2) ?_ | refine EK_ev (Ev_rem_w rfl rfl (by omega) m1) ?_)
    | (refine ek_eql ?_; first | refine EK_ev (Ev_eqlSt rfl rfl hselfN rfl) ?_ | refine EK_ev (Ev_eqlI_q (q := true) rfl rfl rfl) ?_)
    | (refine ek_neq ?_; first | refine EK_ev (Ev_neqI_q rfl rfl q2) ?_ | refine EK_ev (Ev_neqI_q rfl rfl q1) ?_ | refine EK_ev (Ev_neqSt rfl rfl hself rfl) ?_ | refine EK_ev (Ev_neqI_q (q := false) rfl rfl rfl) ?_)
    | refine xst ?_
    | (refine xsa ?_; intro _)
    | (refine xsb ?_ ?_ <;> intro _ <;> first | (exfalso; omega) | skip)
    | refine xsc ?_
    | (refine KJ_draws (id := 3) (.op 0 (.op 1 (.op 2 (.op 3 (.op 4 (.op 5 (.op 6 (.op 7 (.op 8 .nil))))))))) (by kernel_rfl) (by kernel_rfl) ?_)
    | refine FW_alt ?_ ?_
    | refine FW_efn rfl rfl rfl rfl rfl ?_ ?_
    | refine KJ_flow ?_ ?_
    | exact Rech.nil
    | fail)
  all_goals (exact xdn ())
set_option maxHeartbeats 16000000 in
set_option maxRecDepth 100000 in
theorem lives_bal (hE : ErrsAt W F) (hN : NibAt W) (hg : gB ≤ W.heap.size) (b : List UInt8) (bal held : Int) (on : Bool) (hb : bodyOk b = true) (hz : uT bal % 900000000000000 ≠ 0) :
    Ct Tryz.prog W 7 [.agg (lifC b bal held on).toArray] [] (fun _ : Unit => .bool true) (fun _ => []) := by
  have cL := lives15_ct hE hN hg
  obtain ⟨id, hid, hidl, hid0, cM⟩ := dmake_ct (W := W) b hb
  have cb := begin15_nil (W := W) hE hN hg
  have nkid : aKey numB ≠ aKey id := fun h => by
    have h := congrArg (fun l => l.getD 0 0) (aKey_inj h)
    have h : (71 : UInt8) = id.getD 0 0 := h
    rw [hid0] at h
    revert h; decide
  have nsid := id_sys hid0 usdB
  have nsk := numB_sys usdB
  obtain ⟨k, hk⟩ : ∃ k, k = aKey numB := ⟨_, rfl⟩
  obtain ⟨v, hv⟩ : ∃ v, v = rowA (newA numB eurB) := ⟨_, rfl⟩
  obtain ⟨ki, hki⟩ : ∃ k, k = aKey id := ⟨_, rfl⟩
  rw [← hk] at nkid nsk
  rw [← hki] at nkid nsid
  -- the balance and what is held
  obtain ⟨x1, hx1⟩ : ∃ x, x = uT bal % 900000000000000 := ⟨_, rfl⟩
  obtain ⟨x2, hx2⟩ : ∃ x, x = uT held % 100000000000001 := ⟨_, rfl⟩
  have lt1 : x1 < 900000000000000 := by rw [hx1]; exact Nat.mod_lt _ (by omega)
  have lt2 : x2 < 100000000000001 := by rw [hx2]; exact Nat.mod_lt _ (by omega)
  have w1 := u64_uT bal
  have w2 := u64_uT held
  have m1 : ((uT bal : Nat) : Int) % 900000000000000 = ((x1 : Nat) : Int) := by rw [hx1]; omega
  have m2 : ((uT held : Nat) : Int) % 100000000000001 = ((x2 : Nat) : Int) := by rw [hx2]; omega
  have v1 : IntKind.i64.wrap ((x1 : Nat) : Int) = ((x1 : Nat) : Int) := i64_in _ (by omega)
  have v2 : IntKind.i64.wrap ((x2 : Nat) : Int) = ((x2 : Nat) : Int) := i64_in _ (by omega)
  have nz : x1 ≠ 0 := by rw [hx1]; exact hz
  have nz' : x1 ≠ 0 ∨ x2 ≠ 0 := .inl nz
  clear hx1 hx2
  -- the account
  have g1 : goodA ⟨id, usdB, 1, false, (x1 : Nat), (x2 : Nat)⟩ = true := goodA_yesC rfl usdB_ok ⟨hid, by show (0 : Int) ≤ ((x1 : Nat) : Int); omega, by show (0 : Int) ≤ ((x2 : Nat) : Int); omega, by show ((x1 : Nat) : Int) ≤ 1000000000000000; omega, by show ((x2 : Nat) : Int) ≤ 1000000000000000 - ((x1 : Nat) : Int); omega⟩
  have g2 := frozen_good (a := ⟨id, usdB, 1, false, (x1 : Nat), (x2 : Nat)⟩) rfl g1 on
  have gn := newA_good hid usdB_ok
  have gN := newA_good numB_ok eurB_ok
  -- the rows
  obtain ⟨r1, hr1⟩ : ∃ r, r = putR [] k v := ⟨_, rfl⟩
  have ris1 : RisR r1 := by rw [hr1]; exact putR_ris List.Pairwise.nil _ _
  have l1 : ∀ y, lk r1 y = if y = k then some v else none := fun y => by rw [hr1, lk_putR List.Pairwise.nil]; rfl
  have len1 : r1.length ≤ 1 := by rw [hr1]; exact putR_len [] k v
  have f0 : foundE r1 usdB = 0 := found_no usdB_ok fun j hj => by rw [l1, if_neg (fun h => nsk j hj h.symm)]; rfl
  obtain ⟨r2, hr2⟩ : ∃ r, r = foundTo r1 usdB 4 := ⟨_, rfl⟩
  have f0r : foundR r1 usdB = r2 := by rw [hr2]; exact if_pos f0
  have ris2 : RisR r2 := by rw [hr2]; exact foundTo_ris ris1 _ 4
  have l2k : lk r2 k = some v := by rw [hr2, lk_foundTo ris1 _ _ 4 nsk, l1, if_pos rfl]
  have l2i : lk r2 ki = none := by rw [hr2, lk_foundTo ris1 _ _ 4 nsid, l1, if_neg (fun h => nkid h.symm)]
  have len2 : r2.length ≤ 5 := by rw [hr2]; have := foundTo_len r1 usdB 4; omega
  obtain ⟨r3, hr3⟩ : ∃ r, r = putR r2 ki (rowA (newA id usdB)) := ⟨_, rfl⟩
  have ris3 : RisR r3 := by rw [hr3]; exact putR_ris ris2 _ _
  have l3 : ∀ y, lk r3 y = if y = ki then some (rowA (newA id usdB)) else lk r2 y := fun y => by rw [hr3, lk_putR ris2]
  have len3 : r3.length ≤ 6 := by rw [hr3]; have := putR_len r2 ki (rowA (newA id usdB)); omega
  obtain ⟨r4, hr4⟩ : ∃ r, r = putR r3 ki (rowA ⟨id, usdB, 1, false, (x1 : Nat), (x2 : Nat)⟩) := ⟨_, rfl⟩
  have ris4 : RisR r4 := by rw [hr4]; exact putR_ris ris3 _ _
  have l4 : ∀ y, lk r4 y = if y = ki then some (rowA ⟨id, usdB, 1, false, (x1 : Nat), (x2 : Nat)⟩) else lk r3 y := fun y => by rw [hr4, lk_putR ris3]
  have len4 : r4.length ≤ 7 := by rw [hr4]; have := putR_len r3 ki (rowA ⟨id, usdB, 1, false, (x1 : Nat), (x2 : Nat)⟩); omega
  obtain ⟨fe, ris5, l5⟩ := freezeQ (id := id) (a := ⟨id, usdB, 1, false, (x1 : Nat), (x2 : Nat)⟩) ris4 (by rw [← hki, l4, if_pos rfl]) rfl g1 rfl on
  rw [← hki] at l5
  have len5 : (freezeR r4 id on).length ≤ 8 := by
    unfold freezeR
    split
    · omega
    · split
      · omega
      · rename_i a _ _; have := putR_len r4 (aKey id) (rowA { a with frozen := on }); omega
  obtain ⟨r5, hr5⟩ : ∃ r, r = freezeR r4 id on := ⟨_, rfl⟩
  rw [← hr5] at ris5 l5 len5
  have l5k : lk r5 k = some v := by rw [l5, if_neg nkid, l4, if_neg nkid, l3, if_neg nkid, l2k]
  obtain ⟨a2, ha2⟩ : ∃ a : Acct, a = ⟨id, usdB, 1, on, (x1 : Nat), (x2 : Nat)⟩ := ⟨_, rfl⟩
  have g2 : goodA a2 = true := by rw [ha2]; exact g2
  have l5i : lk r5 ki = some (rowA a2) := by rw [l5, if_pos rfl, ha2]
  -- the calls
  have cO1 : ∀ t, Ct Tryz.prog W 42 [.pointer (some ⟨t, 0, none⟩), strV numB, strV eurB] [TxQ t [] false 0] (fun _ : Unit => .nilIface) (fun _ => [TxQ t r1 false 1]) := fun t => by
    have := chopen_ct (W := W) (F := F) (t := t) (m := 0) (r := []) (id := numB) (cur := eurB) hE.all (by decide) (by decide) (by simp) (by omega)
    obtain ⟨q1, q2⟩ := openQ_yes (r := []) numB_ok eurB_ok rfl
    rw [q1, q2, ← hk, ← hv, ← hr1] at this
    exact this
  have cF : ∀ t, Ct Tryz.prog W 43 [.pointer (some ⟨t, 0, none⟩), strV usdB] [TxQ t r1 false 1] (fun _ : Unit => .nilIface) (fun _ => [TxQ t r2 false 5]) := fun t => by
    have := chfound_ct (W := W) (F := F) (t := t) (m := 1) (r := r1) (cur := usdB) hE.all (by decide) (by omega) (by omega)
    rw [f0, f0r] at this
    exact this
  have getN : ∀ {r : Rows} {m : Nat} (t : Nat), lk r k = some v → Ct Tryz.prog W 44 [.pointer (some ⟨t, 0, none⟩), strV numB] [TxQ t r false m] (fun _ : Unit => .tuple #[acV (newA numB eurB), .nilIface]) (fun _ => [TxQ t r false m]) := fun {r m} t hl => by
    have := chget_ct (W := W) (F := F) (id := numB) (o := lk r (aKey numB)) (by decide) (fun s hs => by rw [← hk, hl] at hs; cases hs; rw [hv, rowA_len (goodA_in gN).1]; omega) hE.all (txgetC (W := W) (t := t) (r := r) (m := m) (aKey numB))
    have hdec : getO numB (some v) = some (newA numB eurB) := by rw [hv]; exact dec_of_row gN
    have e : getV F numB (some v) = .tuple #[acV (newA numB eurB), .nilIface] := by unfold getV; rw [hdec, getE_some hdec]; rfl
    rw [← hk, hl, e] at this
    exact this
  have getI : ∀ {r : Rows} {m : Nat} (t : Nat), lk r ki = some (rowA a2) → Ct Tryz.prog W 44 [.pointer (some ⟨t, 0, none⟩), strV id] [TxQ t r false m] (fun _ : Unit => .tuple #[acV a2, .nilIface]) (fun _ => [TxQ t r false m]) := fun {r m} t hl => by
    have := chget_ct (W := W) (F := F) (id := id) (o := lk r (aKey id)) (by omega) (fun s hs => by rw [← hki, hl] at hs; cases hs; rw [rowA_len (goodA_in g2).1]; omega) hE.all (txgetC (W := W) (t := t) (r := r) (m := m) (aKey id))
    have hdec : getO id (some (rowA a2)) = some a2 := by have := dec_of_row g2; rw [show a2.id = id by rw [ha2]] at this; exact this
    have e : getV F id (some (rowA a2)) = .tuple #[acV a2, .nilIface] := by unfold getV; rw [hdec, getE_some hdec]; rfl
    rw [← hki, hl, e] at this
    exact this
  have cG1 := fun t => getN (r := r2) (m := 5) t l2k
  have cC1 : ∀ t, Ct Tryz.prog W 45 [.pointer (some ⟨t, 0, none⟩), strV id] [TxQ t r2 false 5] (fun _ : Unit => errV F 20) (fun _ => [TxQ t r2 false 6]) := fun t => by
    have := chclose_ct (W := W) (F := F) (t := t) (m := 5) (r := r2) (id := id) hE.all (by omega) (fun s hs => by rw [← hki, l2i] at hs; cases hs) (by omega) (by omega)
    obtain ⟨q1, q2⟩ := closeQ_none (r := r2) (id := id) (by rw [← hki]; exact l2i)
    rw [q1, q2] at this
    exact this
  have cO2 : ∀ t, Ct Tryz.prog W 42 [.pointer (some ⟨t, 0, none⟩), strV id, strV usdB] [TxQ t r2 false 6] (fun _ : Unit => .nilIface) (fun _ => [TxQ t r3 false 7]) := fun t => by
    have := chopen_ct (W := W) (F := F) (t := t) (m := 6) (r := r2) (id := id) (cur := usdB) hE.all (by omega) (by decide) (by omega) (by omega)
    obtain ⟨q1, q2⟩ := openQ_yes (r := r2) hid usdB_ok (by rw [← hki]; exact l2i)
    rw [q1, q2, ← hki, ← hr3] at this
    exact this
  have cO3 : ∀ t, Ct Tryz.prog W 42 [.pointer (some ⟨t, 0, none⟩), strV id, strV eurB] [TxQ t r3 false 7] (fun _ : Unit => errV F 21) (fun _ => [TxQ t r3 false 8]) := fun t => by
    have := chopen_ct (W := W) (F := F) (t := t) (m := 7) (r := r3) (id := id) (cur := eurB) hE.all (by omega) (by decide) (by omega) (by omega)
    obtain ⟨q1, q2⟩ := openQ_there (r := r3) (v := rowA (newA id usdB)) hid eurB_ok (by rw [← hki, l3, if_pos rfl])
    rw [q1, q2] at this
    exact this
  have cS1 : ∀ t, Ct Tryz.prog W 46 [.pointer (some ⟨t, 0, none⟩), .agg #[strV id, strV usdB, .int .i64 1, .bool false, .int .i64 ((x1 : Nat) : Int), .int .i64 ((x2 : Nat) : Int)]] [TxQ t r3 false 8] (fun _ : Unit => .nilIface) (fun _ => [TxQ t r4 false 9]) := fun t => by
    have := chset_ct (W := W) (F := F) (t := t) (m := 8) (r := r3) (a := ⟨id, usdB, 1, false, (x1 : Nat), (x2 : Nat)⟩) hE.all (by show id.length ≤ _; omega) (by show 3 ≤ 2000000; decide) ⟨by show (-9223372036854775808 : Int) ≤ ((x1 : Nat) : Int); omega, by show ((x1 : Nat) : Int) ≤ 9223372036854775807; omega⟩ (by omega) (by omega)
    obtain ⟨q1, q2⟩ := setQ_yes (r := r3) (v := rowA (newA id usdB)) g1 (by show lk r3 (aKey id) = _; rw [← hki, l3, if_pos rfl])
    rw [q1, q2] at this
    have e : putR r3 (aKey id) (rowA ⟨id, usdB, 1, false, (x1 : Nat), (x2 : Nat)⟩) = r4 := by rw [hr4, hki]
    rw [e] at this
    exact this
  have cZ : ∀ t, Ct Tryz.prog W 47 [.pointer (some ⟨t, 0, none⟩), strV id, .bool on] [TxQ t r4 false 9] (fun _ : Unit => .nilIface) (fun _ => [TxQ t r5 false 10]) := fun t => by
    have := chfreeze_ct (W := W) (F := F) (t := t) (m := 9) (r := r4) (id := id) hE.all (by omega) (fun s hs => by rw [← hki, l4, if_pos rfl] at hs; cases hs; rw [rowA_len (goodA_in g1).1]; omega) (by omega) (by omega) on
    rw [fe, ← hr5] at this
    exact this
  have cG2 := fun t => getI (r := r5) (m := 10) t l5i
  have hv2 : acV a2 = .agg #[strV id, strV usdB, .int .i64 1, .bool on, .int .i64 ((x1 : Nat) : Int), .int .i64 ((x2 : Nat) : Int)] := by rw [ha2]; rfl
  have hself := ac_self a2 Tryz.underlying51
  have hvC : acC a2 = [strV id, strV usdB, .int .i64 1, .bool on, .int .i64 ((x1 : Nat) : Int), .int .i64 ((x2 : Nat) : Int)] := by rw [ha2]; rfl
  rw [hvC] at hself
  have hselfN := ac_self (newA numB eurB) Tryz.underlying51
  have cN20 := numA_ct hE hg 20 (by omega)
  have cN21 := numA_ct hE hg 21 (by omega)
  have cN37 := numA_ct hE hg 37 (by omega)
  have hk2 : a2.kind = 1 := by rw [ha2]
  have hb2 : a2.bal = ((x1 : Nat) : Int) := by rw [ha2]
  have hh2 : a2.held = ((x2 : Nat) : Int) := by rw [ha2]
  have hi2 : a2.id = id := by rw [ha2]
  have cC2 : ∀ t, Ct Tryz.prog W 45 [.pointer (some ⟨t, 0, none⟩), strV id] [TxQ t r5 false 10] (fun _ : Unit => errV F 37) (fun _ => [TxQ t r5 false 11]) := fun t => by
    have := chclose_ct (W := W) (F := F) (t := t) (m := 10) (r := r5) (id := id) hE.all (by omega) (fun s hs => by rw [← hki, l5i] at hs; cases hs; rw [rowA_len (goodA_in g2).1]; omega) (by omega) (by omega)
    obtain ⟨q1, q2⟩ := closeQ_use (r := r5) (id := id) (a := a2) (custO_row (by rw [← hki]; exact l5i) hi2 g2 hk2) (by rw [hb2, hh2]; omega)
    rw [q1, q2] at this
    exact this
  obtain ⟨r6, hr6⟩ : ∃ r, r = putR r5 ki (rowA (newA id usdB)) := ⟨_, rfl⟩
  have ris6 : RisR r6 := by rw [hr6]; exact putR_ris ris5 _ _
  have l6 : ∀ y, lk r6 y = if y = ki then some (rowA (newA id usdB)) else lk r5 y := fun y => by rw [hr6, lk_putR ris5]
  have len6 : r6.length ≤ 9 := by rw [hr6]; have := putR_len r5 ki (rowA (newA id usdB)); omega
  have l6i : lk r6 ki = some (rowA (newA id usdB)) := by rw [l6, if_pos rfl]
  have l6k : lk r6 k = some v := by rw [l6, if_neg nkid, l5k]
  have cS2 : ∀ t, Ct Tryz.prog W 46 [.pointer (some ⟨t, 0, none⟩), .agg #[strV id, strV usdB, .int .i64 1, .bool false, .int .i64 0, .int .i64 0]] [TxQ t r5 false 11] (fun _ : Unit => .nilIface) (fun _ => [TxQ t r6 false 12]) := fun t => by
    have := chset_ct (W := W) (F := F) (t := t) (m := 11) (r := r5) (a := newA id usdB) hE.all (by show id.length ≤ _; omega) (by show 3 ≤ 2000000; decide) ⟨show (-9223372036854775808 : Int) ≤ 0 by decide, show (0 : Int) ≤ 9223372036854775807 by decide⟩ (by omega) (by omega)
    obtain ⟨q1, q2⟩ := setQ_yes (r := r5) (v := rowA a2) gn (by show lk r5 (aKey id) = _; rw [← hki]; exact l5i)
    rw [q1, q2] at this
    have e : putR r5 (aKey id) (rowA (newA id usdB)) = r6 := by rw [hr6, hki]
    rw [e] at this
    exact this
  -- the end: the account goes
  have ris7 : RisR (mdel r6 ki) := mdel_ris ris6 ki
  have l7 : ∀ y, lk (mdel r6 ki) y = if y = ki then none else lk r6 y := fun y => lk_del _ _ _
  have len7 : (mdel r6 ki).length ≤ 9 := Nat.le_trans (List.length_filter_le _ _) len6
  obtain ⟨r7, hr7⟩ : ∃ r, r = mdel r6 ki := ⟨_, rfl⟩
  rw [← hr7] at ris7 l7 len7
  have l7k : lk r7 k = some v := by rw [l7, if_neg nkid]; exact l6k
  have l7i : lk r7 ki = none := by rw [l7, if_pos rfl]
  have cC3 : ∀ t, Ct Tryz.prog W 45 [.pointer (some ⟨t, 0, none⟩), strV id] [TxQ t r6 false 12] (fun _ : Unit => .nilIface) (fun _ => [TxQ t r7 false 13]) := fun t => by
    have := chclose_ct (W := W) (F := F) (t := t) (m := 12) (r := r6) (id := id) hE.all (by omega) (fun s hs => by rw [← hki, l6i] at hs; cases hs; rw [rowA_len (goodA_in gn).1]; omega) (by omega) (by omega)
    obtain ⟨q1, q2⟩ := closeQ_yes (r := r6) (id := id) (a := (newA id usdB)) (custO_row (by rw [← hki]; exact l6i) rfl gn rfl) rfl rfl
    rw [q1, q2, ← hki, ← hr7] at this
    exact this
  have cG4 : ∀ t, Ct Tryz.prog W 44 [.pointer (some ⟨t, 0, none⟩), strV id] [TxQ t r7 false 13] (fun _ : Unit => .tuple #[acV ac0, errV F 20]) (fun _ => [TxQ t r7 false 13]) := fun t => by
    have := chget_ct (W := W) (F := F) (id := id) (o := lk r7 (aKey id)) (by omega) (fun s hs => by rw [← hki, l7i] at hs; cases hs) hE.all (txgetC (W := W) (t := t) (r := r7) (m := 13) (aKey id))
    rw [← hki, l7i] at this
    exact this
  have cG5 := fun t => getN (r := r7) (m := 13) t l7k
  have cO4 : ∀ t, Ct Tryz.prog W 42 [.pointer (some ⟨t, 0, none⟩), strV id, strV eurB] [TxQ t r7 false 13] (fun _ : Unit => .nilIface) (fun _ => [TxQ t (putR r7 ki (rowA (newA id eurB))) false 14]) := fun t => by
    have := chopen_ct (W := W) (F := F) (t := t) (m := 13) (r := r7) (id := id) (cur := eurB) hE.all (by omega) (by decide) (by omega) (by omega)
    obtain ⟨q1, q2⟩ := openQ_yes (r := r7) hid eurB_ok (by rw [← hki]; exact l7i)
    rw [q1, q2, ← hki] at this
    exact this
  rw [hv2] at cG2
  have q1 : decide (((x1 : Nat) : Int) ≠ 0) = true := decide_eq_true (by omega)
  clear l1 l3 l4 l5 l6 l7 getN getI
  refine Ct.enter Tryz.func7 rfl Tryz.ntmps7 (by simp) (fun R => ?_)
  repeat' (first 
    | (refine is_box ?_; refine KJ_box rfl xF rfl (fun g1 => ?_))
    | (refine is_call ?_; first | (refine KJ_call xE cN37 xP rfl (fun _ => ?_)) | (refine KJ_call xE cN21 xP rfl (fun _ => ?_)) | (refine KJ_call xE cN20 xP rfl (fun _ => ?_)) | (refine KJ_call xE (cO1 _) xP rfl (fun _ => ?_)) | (refine KJ_call xE (cF _) xP rfl (fun _ => ?_)) | (refine KJ_call xE (cG1 _) xP rfl (fun _ => ?_)) | (refine KJ_call xE (cC1 _) xP rfl (fun _ => ?_)) | (refine KJ_call xE (cO2 _) xP rfl (fun _ => ?_)) | (refine KJ_call xE (cO3 _) xP rfl (fun _ => ?_)) | (refine KJ_call xE (cS1 _) xP rfl (fun _ => ?_)) | (refine KJ_call xE (cZ _) xP rfl (fun _ => ?_)) | (refine KJ_call xE (cG2 _) xP rfl (fun _ => ?_)) | (refine KJ_call xE (cC2 _) xP rfl (fun _ => ?_)) | (refine KJ_call xE (cS2 _) xP rfl (fun _ => ?_)) | (refine KJ_call xE (cC3 _) xP rfl (fun _ => ?_)) | (refine KJ_call xE (cG4 _) xP rfl (fun _ => ?_)) | (refine KJ_call xE (cG5 _) xP rfl (fun _ => ?_)) | (refine KJ_call xE (cO4 _) xP rfl (fun _ => ?_)) | (refine KJ_call xE (cb) xP rfl (fun t => ?_)) | (refine KJ_call xE cM xP rfl (fun _ => ?_)) | (refine KJ_call xE cL xP rfl (fun _ => ?_)))
    | (refine ek_conv ?_; first | refine EK_ev (Ev_convI_v rfl w2) ?_ | refine EK_ev (Ev_convI_v rfl w1) ?_ | refine EK_ev (Ev_convI_v rfl v2) ?_ | refine EK_ev (Ev_convI_v rfl v1) ?_)
    | (refine ek_build ?_; refine EK_ev (Ev_build xV xW) ?_)
    | (refine ek_rem ?_; first | refine EK_ev (Ev_rem_w rfl rfl (by omega) m2) ?_ | refine EK_ev (Ev_rem_w rfl rfl (by omega) m1) ?_)
    | (refine ek_eql ?_; first | refine EK_ev (Ev_eqlSt rfl rfl hselfN rfl) ?_ | refine EK_ev (Ev_eqlI_q (q := true) rfl rfl rfl) ?_)
    | (refine ek_neq ?_; first | refine EK_ev (Ev_neqI_q rfl rfl q1) ?_ | refine EK_ev (Ev_neqSt rfl rfl hself rfl) ?_ | refine EK_ev (Ev_neqI_q (q := false) rfl rfl rfl) ?_)
    | refine xst ?_
    | (refine xsa ?_; intro _)
    | (refine xsb ?_ ?_ <;> intro _ <;> first | (exfalso; omega) | skip)
    | refine xsc ?_
    | (refine KJ_draws (id := 3) (.op 0 (.op 1 (.op 2 (.op 3 (.op 4 (.op 5 (.op 6 (.op 7 (.op 8 .nil))))))))) (by kernel_rfl) (by kernel_rfl) ?_)
    | refine FW_alt ?_ ?_
    | refine FW_efn rfl rfl rfl rfl rfl ?_ ?_
    | refine KJ_flow ?_ ?_
    | exact Rech.nil
    | fail)
  all_goals (exact xdn ())
set_option maxHeartbeats 16000000 in
set_option maxRecDepth 100000 in
theorem lives_held (hE : ErrsAt W F) (hN : NibAt W) (hg : gB ≤ W.heap.size) (b : List UInt8) (bal held : Int) (on : Bool) (hb : bodyOk b = true) (hz1 : uT bal % 900000000000000 = 0) (hz : uT held % 100000000000001 ≠ 0) :
    Ct Tryz.prog W 7 [.agg (lifC b bal held on).toArray] [] (fun _ : Unit => .bool true) (fun _ => []) := by
  have cL := lives15_ct hE hN hg
  obtain ⟨id, hid, hidl, hid0, cM⟩ := dmake_ct (W := W) b hb
  have cb := begin15_nil (W := W) hE hN hg
  have nkid : aKey numB ≠ aKey id := fun h => by
    have h := congrArg (fun l => l.getD 0 0) (aKey_inj h)
    have h : (71 : UInt8) = id.getD 0 0 := h
    rw [hid0] at h
    revert h; decide
  have nsid := id_sys hid0 usdB
  have nsk := numB_sys usdB
  obtain ⟨k, hk⟩ : ∃ k, k = aKey numB := ⟨_, rfl⟩
  obtain ⟨v, hv⟩ : ∃ v, v = rowA (newA numB eurB) := ⟨_, rfl⟩
  obtain ⟨ki, hki⟩ : ∃ k, k = aKey id := ⟨_, rfl⟩
  rw [← hk] at nkid nsk
  rw [← hki] at nkid nsid
  -- the balance and what is held
  obtain ⟨x1, hx1⟩ : ∃ x, x = uT bal % 900000000000000 := ⟨_, rfl⟩
  obtain ⟨x2, hx2⟩ : ∃ x, x = uT held % 100000000000001 := ⟨_, rfl⟩
  have lt1 : x1 < 900000000000000 := by rw [hx1]; exact Nat.mod_lt _ (by omega)
  have lt2 : x2 < 100000000000001 := by rw [hx2]; exact Nat.mod_lt _ (by omega)
  have w1 := u64_uT bal
  have w2 := u64_uT held
  have m1 : ((uT bal : Nat) : Int) % 900000000000000 = ((x1 : Nat) : Int) := by rw [hx1]; omega
  have m2 : ((uT held : Nat) : Int) % 100000000000001 = ((x2 : Nat) : Int) := by rw [hx2]; omega
  have v1 : IntKind.i64.wrap ((x1 : Nat) : Int) = ((x1 : Nat) : Int) := i64_in _ (by omega)
  have v2 : IntKind.i64.wrap ((x2 : Nat) : Int) = ((x2 : Nat) : Int) := i64_in _ (by omega)
  have z1 : x1 = 0 := by rw [hx1]; exact hz1
  have nz : x2 ≠ 0 := by rw [hx2]; exact hz
  have nz' : x1 ≠ 0 ∨ x2 ≠ 0 := .inr nz
  clear hx1 hx2
  -- the account
  have g1 : goodA ⟨id, usdB, 1, false, (x1 : Nat), (x2 : Nat)⟩ = true := goodA_yesC rfl usdB_ok ⟨hid, by show (0 : Int) ≤ ((x1 : Nat) : Int); omega, by show (0 : Int) ≤ ((x2 : Nat) : Int); omega, by show ((x1 : Nat) : Int) ≤ 1000000000000000; omega, by show ((x2 : Nat) : Int) ≤ 1000000000000000 - ((x1 : Nat) : Int); omega⟩
  have g2 := frozen_good (a := ⟨id, usdB, 1, false, (x1 : Nat), (x2 : Nat)⟩) rfl g1 on
  have gn := newA_good hid usdB_ok
  have gN := newA_good numB_ok eurB_ok
  -- the rows
  obtain ⟨r1, hr1⟩ : ∃ r, r = putR [] k v := ⟨_, rfl⟩
  have ris1 : RisR r1 := by rw [hr1]; exact putR_ris List.Pairwise.nil _ _
  have l1 : ∀ y, lk r1 y = if y = k then some v else none := fun y => by rw [hr1, lk_putR List.Pairwise.nil]; rfl
  have len1 : r1.length ≤ 1 := by rw [hr1]; exact putR_len [] k v
  have f0 : foundE r1 usdB = 0 := found_no usdB_ok fun j hj => by rw [l1, if_neg (fun h => nsk j hj h.symm)]; rfl
  obtain ⟨r2, hr2⟩ : ∃ r, r = foundTo r1 usdB 4 := ⟨_, rfl⟩
  have f0r : foundR r1 usdB = r2 := by rw [hr2]; exact if_pos f0
  have ris2 : RisR r2 := by rw [hr2]; exact foundTo_ris ris1 _ 4
  have l2k : lk r2 k = some v := by rw [hr2, lk_foundTo ris1 _ _ 4 nsk, l1, if_pos rfl]
  have l2i : lk r2 ki = none := by rw [hr2, lk_foundTo ris1 _ _ 4 nsid, l1, if_neg (fun h => nkid h.symm)]
  have len2 : r2.length ≤ 5 := by rw [hr2]; have := foundTo_len r1 usdB 4; omega
  obtain ⟨r3, hr3⟩ : ∃ r, r = putR r2 ki (rowA (newA id usdB)) := ⟨_, rfl⟩
  have ris3 : RisR r3 := by rw [hr3]; exact putR_ris ris2 _ _
  have l3 : ∀ y, lk r3 y = if y = ki then some (rowA (newA id usdB)) else lk r2 y := fun y => by rw [hr3, lk_putR ris2]
  have len3 : r3.length ≤ 6 := by rw [hr3]; have := putR_len r2 ki (rowA (newA id usdB)); omega
  obtain ⟨r4, hr4⟩ : ∃ r, r = putR r3 ki (rowA ⟨id, usdB, 1, false, (x1 : Nat), (x2 : Nat)⟩) := ⟨_, rfl⟩
  have ris4 : RisR r4 := by rw [hr4]; exact putR_ris ris3 _ _
  have l4 : ∀ y, lk r4 y = if y = ki then some (rowA ⟨id, usdB, 1, false, (x1 : Nat), (x2 : Nat)⟩) else lk r3 y := fun y => by rw [hr4, lk_putR ris3]
  have len4 : r4.length ≤ 7 := by rw [hr4]; have := putR_len r3 ki (rowA ⟨id, usdB, 1, false, (x1 : Nat), (x2 : Nat)⟩); omega
  obtain ⟨fe, ris5, l5⟩ := freezeQ (id := id) (a := ⟨id, usdB, 1, false, (x1 : Nat), (x2 : Nat)⟩) ris4 (by rw [← hki, l4, if_pos rfl]) rfl g1 rfl on
  rw [← hki] at l5
  have len5 : (freezeR r4 id on).length ≤ 8 := by
    unfold freezeR
    split
    · omega
    · split
      · omega
      · rename_i a _ _; have := putR_len r4 (aKey id) (rowA { a with frozen := on }); omega
  obtain ⟨r5, hr5⟩ : ∃ r, r = freezeR r4 id on := ⟨_, rfl⟩
  rw [← hr5] at ris5 l5 len5
  have l5k : lk r5 k = some v := by rw [l5, if_neg nkid, l4, if_neg nkid, l3, if_neg nkid, l2k]
  obtain ⟨a2, ha2⟩ : ∃ a : Acct, a = ⟨id, usdB, 1, on, (x1 : Nat), (x2 : Nat)⟩ := ⟨_, rfl⟩
  have g2 : goodA a2 = true := by rw [ha2]; exact g2
  have l5i : lk r5 ki = some (rowA a2) := by rw [l5, if_pos rfl, ha2]
  -- the calls
  have cO1 : ∀ t, Ct Tryz.prog W 42 [.pointer (some ⟨t, 0, none⟩), strV numB, strV eurB] [TxQ t [] false 0] (fun _ : Unit => .nilIface) (fun _ => [TxQ t r1 false 1]) := fun t => by
    have := chopen_ct (W := W) (F := F) (t := t) (m := 0) (r := []) (id := numB) (cur := eurB) hE.all (by decide) (by decide) (by simp) (by omega)
    obtain ⟨q1, q2⟩ := openQ_yes (r := []) numB_ok eurB_ok rfl
    rw [q1, q2, ← hk, ← hv, ← hr1] at this
    exact this
  have cF : ∀ t, Ct Tryz.prog W 43 [.pointer (some ⟨t, 0, none⟩), strV usdB] [TxQ t r1 false 1] (fun _ : Unit => .nilIface) (fun _ => [TxQ t r2 false 5]) := fun t => by
    have := chfound_ct (W := W) (F := F) (t := t) (m := 1) (r := r1) (cur := usdB) hE.all (by decide) (by omega) (by omega)
    rw [f0, f0r] at this
    exact this
  have getN : ∀ {r : Rows} {m : Nat} (t : Nat), lk r k = some v → Ct Tryz.prog W 44 [.pointer (some ⟨t, 0, none⟩), strV numB] [TxQ t r false m] (fun _ : Unit => .tuple #[acV (newA numB eurB), .nilIface]) (fun _ => [TxQ t r false m]) := fun {r m} t hl => by
    have := chget_ct (W := W) (F := F) (id := numB) (o := lk r (aKey numB)) (by decide) (fun s hs => by rw [← hk, hl] at hs; cases hs; rw [hv, rowA_len (goodA_in gN).1]; omega) hE.all (txgetC (W := W) (t := t) (r := r) (m := m) (aKey numB))
    have hdec : getO numB (some v) = some (newA numB eurB) := by rw [hv]; exact dec_of_row gN
    have e : getV F numB (some v) = .tuple #[acV (newA numB eurB), .nilIface] := by unfold getV; rw [hdec, getE_some hdec]; rfl
    rw [← hk, hl, e] at this
    exact this
  have getI : ∀ {r : Rows} {m : Nat} (t : Nat), lk r ki = some (rowA a2) → Ct Tryz.prog W 44 [.pointer (some ⟨t, 0, none⟩), strV id] [TxQ t r false m] (fun _ : Unit => .tuple #[acV a2, .nilIface]) (fun _ => [TxQ t r false m]) := fun {r m} t hl => by
    have := chget_ct (W := W) (F := F) (id := id) (o := lk r (aKey id)) (by omega) (fun s hs => by rw [← hki, hl] at hs; cases hs; rw [rowA_len (goodA_in g2).1]; omega) hE.all (txgetC (W := W) (t := t) (r := r) (m := m) (aKey id))
    have hdec : getO id (some (rowA a2)) = some a2 := by have := dec_of_row g2; rw [show a2.id = id by rw [ha2]] at this; exact this
    have e : getV F id (some (rowA a2)) = .tuple #[acV a2, .nilIface] := by unfold getV; rw [hdec, getE_some hdec]; rfl
    rw [← hki, hl, e] at this
    exact this
  have cG1 := fun t => getN (r := r2) (m := 5) t l2k
  have cC1 : ∀ t, Ct Tryz.prog W 45 [.pointer (some ⟨t, 0, none⟩), strV id] [TxQ t r2 false 5] (fun _ : Unit => errV F 20) (fun _ => [TxQ t r2 false 6]) := fun t => by
    have := chclose_ct (W := W) (F := F) (t := t) (m := 5) (r := r2) (id := id) hE.all (by omega) (fun s hs => by rw [← hki, l2i] at hs; cases hs) (by omega) (by omega)
    obtain ⟨q1, q2⟩ := closeQ_none (r := r2) (id := id) (by rw [← hki]; exact l2i)
    rw [q1, q2] at this
    exact this
  have cO2 : ∀ t, Ct Tryz.prog W 42 [.pointer (some ⟨t, 0, none⟩), strV id, strV usdB] [TxQ t r2 false 6] (fun _ : Unit => .nilIface) (fun _ => [TxQ t r3 false 7]) := fun t => by
    have := chopen_ct (W := W) (F := F) (t := t) (m := 6) (r := r2) (id := id) (cur := usdB) hE.all (by omega) (by decide) (by omega) (by omega)
    obtain ⟨q1, q2⟩ := openQ_yes (r := r2) hid usdB_ok (by rw [← hki]; exact l2i)
    rw [q1, q2, ← hki, ← hr3] at this
    exact this
  have cO3 : ∀ t, Ct Tryz.prog W 42 [.pointer (some ⟨t, 0, none⟩), strV id, strV eurB] [TxQ t r3 false 7] (fun _ : Unit => errV F 21) (fun _ => [TxQ t r3 false 8]) := fun t => by
    have := chopen_ct (W := W) (F := F) (t := t) (m := 7) (r := r3) (id := id) (cur := eurB) hE.all (by omega) (by decide) (by omega) (by omega)
    obtain ⟨q1, q2⟩ := openQ_there (r := r3) (v := rowA (newA id usdB)) hid eurB_ok (by rw [← hki, l3, if_pos rfl])
    rw [q1, q2] at this
    exact this
  have cS1 : ∀ t, Ct Tryz.prog W 46 [.pointer (some ⟨t, 0, none⟩), .agg #[strV id, strV usdB, .int .i64 1, .bool false, .int .i64 ((x1 : Nat) : Int), .int .i64 ((x2 : Nat) : Int)]] [TxQ t r3 false 8] (fun _ : Unit => .nilIface) (fun _ => [TxQ t r4 false 9]) := fun t => by
    have := chset_ct (W := W) (F := F) (t := t) (m := 8) (r := r3) (a := ⟨id, usdB, 1, false, (x1 : Nat), (x2 : Nat)⟩) hE.all (by show id.length ≤ _; omega) (by show 3 ≤ 2000000; decide) ⟨by show (-9223372036854775808 : Int) ≤ ((x1 : Nat) : Int); omega, by show ((x1 : Nat) : Int) ≤ 9223372036854775807; omega⟩ (by omega) (by omega)
    obtain ⟨q1, q2⟩ := setQ_yes (r := r3) (v := rowA (newA id usdB)) g1 (by show lk r3 (aKey id) = _; rw [← hki, l3, if_pos rfl])
    rw [q1, q2] at this
    have e : putR r3 (aKey id) (rowA ⟨id, usdB, 1, false, (x1 : Nat), (x2 : Nat)⟩) = r4 := by rw [hr4, hki]
    rw [e] at this
    exact this
  have cZ : ∀ t, Ct Tryz.prog W 47 [.pointer (some ⟨t, 0, none⟩), strV id, .bool on] [TxQ t r4 false 9] (fun _ : Unit => .nilIface) (fun _ => [TxQ t r5 false 10]) := fun t => by
    have := chfreeze_ct (W := W) (F := F) (t := t) (m := 9) (r := r4) (id := id) hE.all (by omega) (fun s hs => by rw [← hki, l4, if_pos rfl] at hs; cases hs; rw [rowA_len (goodA_in g1).1]; omega) (by omega) (by omega) on
    rw [fe, ← hr5] at this
    exact this
  have cG2 := fun t => getI (r := r5) (m := 10) t l5i
  have hv2 : acV a2 = .agg #[strV id, strV usdB, .int .i64 1, .bool on, .int .i64 ((x1 : Nat) : Int), .int .i64 ((x2 : Nat) : Int)] := by rw [ha2]; rfl
  have hself := ac_self a2 Tryz.underlying51
  have hvC : acC a2 = [strV id, strV usdB, .int .i64 1, .bool on, .int .i64 ((x1 : Nat) : Int), .int .i64 ((x2 : Nat) : Int)] := by rw [ha2]; rfl
  rw [hvC] at hself
  have hselfN := ac_self (newA numB eurB) Tryz.underlying51
  have cN20 := numA_ct hE hg 20 (by omega)
  have cN21 := numA_ct hE hg 21 (by omega)
  have cN37 := numA_ct hE hg 37 (by omega)
  have hk2 : a2.kind = 1 := by rw [ha2]
  have hb2 : a2.bal = ((x1 : Nat) : Int) := by rw [ha2]
  have hh2 : a2.held = ((x2 : Nat) : Int) := by rw [ha2]
  have hi2 : a2.id = id := by rw [ha2]
  have cC2 : ∀ t, Ct Tryz.prog W 45 [.pointer (some ⟨t, 0, none⟩), strV id] [TxQ t r5 false 10] (fun _ : Unit => errV F 37) (fun _ => [TxQ t r5 false 11]) := fun t => by
    have := chclose_ct (W := W) (F := F) (t := t) (m := 10) (r := r5) (id := id) hE.all (by omega) (fun s hs => by rw [← hki, l5i] at hs; cases hs; rw [rowA_len (goodA_in g2).1]; omega) (by omega) (by omega)
    obtain ⟨q1, q2⟩ := closeQ_use (r := r5) (id := id) (a := a2) (custO_row (by rw [← hki]; exact l5i) hi2 g2 hk2) (by rw [hb2, hh2]; omega)
    rw [q1, q2] at this
    exact this
  obtain ⟨r6, hr6⟩ : ∃ r, r = putR r5 ki (rowA (newA id usdB)) := ⟨_, rfl⟩
  have ris6 : RisR r6 := by rw [hr6]; exact putR_ris ris5 _ _
  have l6 : ∀ y, lk r6 y = if y = ki then some (rowA (newA id usdB)) else lk r5 y := fun y => by rw [hr6, lk_putR ris5]
  have len6 : r6.length ≤ 9 := by rw [hr6]; have := putR_len r5 ki (rowA (newA id usdB)); omega
  have l6i : lk r6 ki = some (rowA (newA id usdB)) := by rw [l6, if_pos rfl]
  have l6k : lk r6 k = some v := by rw [l6, if_neg nkid, l5k]
  have cS2 : ∀ t, Ct Tryz.prog W 46 [.pointer (some ⟨t, 0, none⟩), .agg #[strV id, strV usdB, .int .i64 1, .bool false, .int .i64 0, .int .i64 0]] [TxQ t r5 false 11] (fun _ : Unit => .nilIface) (fun _ => [TxQ t r6 false 12]) := fun t => by
    have := chset_ct (W := W) (F := F) (t := t) (m := 11) (r := r5) (a := newA id usdB) hE.all (by show id.length ≤ _; omega) (by show 3 ≤ 2000000; decide) ⟨show (-9223372036854775808 : Int) ≤ 0 by decide, show (0 : Int) ≤ 9223372036854775807 by decide⟩ (by omega) (by omega)
    obtain ⟨q1, q2⟩ := setQ_yes (r := r5) (v := rowA a2) gn (by show lk r5 (aKey id) = _; rw [← hki]; exact l5i)
    rw [q1, q2] at this
    have e : putR r5 (aKey id) (rowA (newA id usdB)) = r6 := by rw [hr6, hki]
    rw [e] at this
    exact this
  -- the end: the account goes
  have ris7 : RisR (mdel r6 ki) := mdel_ris ris6 ki
  have l7 : ∀ y, lk (mdel r6 ki) y = if y = ki then none else lk r6 y := fun y => lk_del _ _ _
  have len7 : (mdel r6 ki).length ≤ 9 := Nat.le_trans (List.length_filter_le _ _) len6
  obtain ⟨r7, hr7⟩ : ∃ r, r = mdel r6 ki := ⟨_, rfl⟩
  rw [← hr7] at ris7 l7 len7
  have l7k : lk r7 k = some v := by rw [l7, if_neg nkid]; exact l6k
  have l7i : lk r7 ki = none := by rw [l7, if_pos rfl]
  have cC3 : ∀ t, Ct Tryz.prog W 45 [.pointer (some ⟨t, 0, none⟩), strV id] [TxQ t r6 false 12] (fun _ : Unit => .nilIface) (fun _ => [TxQ t r7 false 13]) := fun t => by
    have := chclose_ct (W := W) (F := F) (t := t) (m := 12) (r := r6) (id := id) hE.all (by omega) (fun s hs => by rw [← hki, l6i] at hs; cases hs; rw [rowA_len (goodA_in gn).1]; omega) (by omega) (by omega)
    obtain ⟨q1, q2⟩ := closeQ_yes (r := r6) (id := id) (a := (newA id usdB)) (custO_row (by rw [← hki]; exact l6i) rfl gn rfl) rfl rfl
    rw [q1, q2, ← hki, ← hr7] at this
    exact this
  have cG4 : ∀ t, Ct Tryz.prog W 44 [.pointer (some ⟨t, 0, none⟩), strV id] [TxQ t r7 false 13] (fun _ : Unit => .tuple #[acV ac0, errV F 20]) (fun _ => [TxQ t r7 false 13]) := fun t => by
    have := chget_ct (W := W) (F := F) (id := id) (o := lk r7 (aKey id)) (by omega) (fun s hs => by rw [← hki, l7i] at hs; cases hs) hE.all (txgetC (W := W) (t := t) (r := r7) (m := 13) (aKey id))
    rw [← hki, l7i] at this
    exact this
  have cG5 := fun t => getN (r := r7) (m := 13) t l7k
  have cO4 : ∀ t, Ct Tryz.prog W 42 [.pointer (some ⟨t, 0, none⟩), strV id, strV eurB] [TxQ t r7 false 13] (fun _ : Unit => .nilIface) (fun _ => [TxQ t (putR r7 ki (rowA (newA id eurB))) false 14]) := fun t => by
    have := chopen_ct (W := W) (F := F) (t := t) (m := 13) (r := r7) (id := id) (cur := eurB) hE.all (by omega) (by decide) (by omega) (by omega)
    obtain ⟨q1, q2⟩ := openQ_yes (r := r7) hid eurB_ok (by rw [← hki]; exact l7i)
    rw [q1, q2, ← hki] at this
    exact this
  rw [hv2] at cG2
  have q1 : decide (((x1 : Nat) : Int) ≠ 0) = false := decide_eq_false (by omega)
  have q2 : decide (((x2 : Nat) : Int) ≠ 0) = true := decide_eq_true (by omega)
  clear l1 l3 l4 l5 l6 l7 getN getI
  refine Ct.enter Tryz.func7 rfl Tryz.ntmps7 (by simp) (fun R => ?_)
  repeat' (first 
    | (refine is_box ?_; refine KJ_box rfl xF rfl (fun g1 => ?_))
    | (refine is_call ?_; first | (refine KJ_call xE cN37 xP rfl (fun _ => ?_)) | (refine KJ_call xE cN21 xP rfl (fun _ => ?_)) | (refine KJ_call xE cN20 xP rfl (fun _ => ?_)) | (refine KJ_call xE (cO1 _) xP rfl (fun _ => ?_)) | (refine KJ_call xE (cF _) xP rfl (fun _ => ?_)) | (refine KJ_call xE (cG1 _) xP rfl (fun _ => ?_)) | (refine KJ_call xE (cC1 _) xP rfl (fun _ => ?_)) | (refine KJ_call xE (cO2 _) xP rfl (fun _ => ?_)) | (refine KJ_call xE (cO3 _) xP rfl (fun _ => ?_)) | (refine KJ_call xE (cS1 _) xP rfl (fun _ => ?_)) | (refine KJ_call xE (cZ _) xP rfl (fun _ => ?_)) | (refine KJ_call xE (cG2 _) xP rfl (fun _ => ?_)) | (refine KJ_call xE (cC2 _) xP rfl (fun _ => ?_)) | (refine KJ_call xE (cS2 _) xP rfl (fun _ => ?_)) | (refine KJ_call xE (cC3 _) xP rfl (fun _ => ?_)) | (refine KJ_call xE (cG4 _) xP rfl (fun _ => ?_)) | (refine KJ_call xE (cG5 _) xP rfl (fun _ => ?_)) | (refine KJ_call xE (cO4 _) xP rfl (fun _ => ?_)) | (refine KJ_call xE (cb) xP rfl (fun t => ?_)) | (refine KJ_call xE cM xP rfl (fun _ => ?_)) | (refine KJ_call xE cL xP rfl (fun _ => ?_)))
    | (refine ek_conv ?_; first | refine EK_ev (Ev_convI_v rfl w2) ?_ | refine EK_ev (Ev_convI_v rfl w1) ?_ | refine EK_ev (Ev_convI_v rfl v2) ?_ | refine EK_ev (Ev_convI_v rfl v1) ?_)
    | (refine ek_build ?_; refine EK_ev (Ev_build xV xW) ?_)
    | (refine ek_rem ?_; first | refine EK_ev (Ev_rem_w rfl rfl (by omega) m2) ?_ | refine EK_ev (Ev_rem_w rfl rfl (by omega) m1) ?_)
    | (refine ek_eql ?_; first | refine EK_ev (Ev_eqlSt rfl rfl hselfN rfl) ?_ | refine EK_ev (Ev_eqlI_q (q := true) rfl rfl rfl) ?_)
    | (refine ek_neq ?_; first | refine EK_ev (Ev_neqI_q rfl rfl q2) ?_ | refine EK_ev (Ev_neqI_q rfl rfl q1) ?_ | refine EK_ev (Ev_neqSt rfl rfl hself rfl) ?_ | refine EK_ev (Ev_neqI_q (q := false) rfl rfl rfl) ?_)
    | refine xst ?_
    | (refine xsa ?_; intro _)
    | (refine xsb ?_ ?_ <;> intro _ <;> first | (exfalso; omega) | skip)
    | refine xsc ?_
    | (refine KJ_draws (id := 3) (.op 0 (.op 1 (.op 2 (.op 3 (.op 4 (.op 5 (.op 6 (.op 7 (.op 8 .nil))))))))) (by kernel_rfl) (by kernel_rfl) ?_)
    | refine FW_alt ?_ ?_
    | refine FW_efn rfl rfl rfl rfl rfl ?_ ?_
    | refine KJ_flow ?_ ?_
    | exact Rech.nil
    | fail)
  all_goals (exact xdn ())
set_option maxHeartbeats 2000000 in
theorem lives_bad (hE : ErrsAt W F) (hN : NibAt W) (hg : gB ≤ W.heap.size) (b : List UInt8) (bal held : Int) (on : Bool) (hl : b.length ≤ 1100000) (hb : bodyOk b = false) :
    Ct Tryz.prog W 7 [.agg (lifC b bal held on).toArray] [] (fun _ : Unit => .bool true) (fun _ => []) := by
  have cL := lives15_ct hE hN hg
  have cM := dmake_no (W := W) b hl hb
  refine Ct.enter Tryz.func7 rfl Tryz.ntmps7 (by simp) (fun R => ?_)
  repeat' (first 
    | (refine is_box ?_; refine KJ_box rfl xF rfl (fun g1 => ?_))
    | (refine is_call ?_; first | (refine KJ_call xE cM xP rfl (fun _ => ?_)) | (refine KJ_call xE cL xP rfl (fun _ => ?_)))
    | (refine ek_neq ?_; refine EK_ev (Ev_neqI_q (q := true) rfl rfl rfl) ?_)
    | refine xst ?_
    | (refine xsa ?_; intro _)
    | (refine xsb ?_ ?_ <;> intro _ <;> first | (exfalso; omega) | skip)
    | refine xsc ?_
    | (refine KJ_draws (id := 3) (.op 0 (.op 1 (.op 2 (.op 3 (.op 4 (.op 5 (.op 6 (.op 7 (.op 8 .nil))))))))) (by kernel_rfl) (by kernel_rfl) ?_)
    | refine FW_alt ?_ ?_
    | refine FW_efn rfl rfl rfl rfl rfl ?_ ?_
    | refine KJ_flow ?_ ?_
    | exact Rech.nil
    | fail)
  all_goals (exact xdn ())
theorem lives_law (hE : ErrsAt W F) (hN : NibAt W) (hg : gB ≤ W.heap.size) (b : List UInt8) (bal held : Int) (on : Bool) (hl : b.length ≤ 1100000) :
    Ct Tryz.prog W 7 [.agg (lifC b bal held on).toArray] [] (fun _ : Unit => .bool true) (fun _ => []) := by
  cases hb : bodyOk b with
  | false => exact lives_bad hE hN hg b bal held on hl hb
  | true =>
    by_cases h1 : uT bal % 900000000000000 = 0
    · by_cases h2 : uT held % 100000000000001 = 0
      · exact lives_nil hE hN hg b bal held on hb h1 h2
      · exact lives_held hE hN hg b bal held on hb h1 h2
    · exact lives_bal hE hN hg b bal held on hb h1
end
end Go.Proofs.YtnbgcimalpdfoaaGreatDoor
