/-
  ChL2.
-/
import Derived.Test.YtnbgcimalpdfoaaGreatDoorQEX
import Derived.Test.YtnbgcimalpdfoaaGreatDoorQFE
/-
  ChartRows (chapter 15). (Printed by genchl2.py.)
-/
namespace Go.Proofs.YtnbgcimalpdfoaaGreatDoor
open Go Go.RowKit
section
variable {W : World} {F : Nat → Addr} {a : Acct} {id row : List UInt8}
set_option maxHeartbeats 8000000 in
theorem rows15_fn (hE : ErrsAt W F) (hN : NibAt W) (hg : gB ≤ W.heap.size) (ha : a.id.length ≤ 2000000) (hu : a.cur.length ≤ 2000000) (hr : -9223372036854775808 ≤ a.bal ∧ a.bal ≤ 9223372036854775807) (hid : id.length ≤ 2000000) (hrow : row.length ≤ 2000000) (hgd : goodA a = false) (hd : decA id row = none) :
    Ct Tryz.prog W 5 [acV a, strV id, strV row] [] (fun _ : Unit => .bool true) (fun _ => []) := by
  have cL := lives15_ct hE hN hg
  have e7 : W.cell? ⟨3, 0, none⟩ = some (errV F 7) := hE.all.at_ 7 (by decide)
  have e8 : W.cell? ⟨19, 0, none⟩ = some (errV F 8) := hE.all.at_ 8 (by decide)
  have cE1 := chenc_ct (W := W) (F := F) (a := a) ha hu hr e7 e8
  have cR1 := d15enc_ct (W := W) (a := a) ha hr
  have cK := chkey_ct (W := W) id (by omega)
  have cK2 := d15key_ct (W := W) id (by omega)
  have cN0 : Ct Tryz.prog W 15 [.nilIface] [] (fun _ : Unit => .int .i64 0) (fun _ => []) := numA_ct hE hg 0 (by omega)
  have cN7 := numA_ct hE hg 7 (by omega)
  have cN15 := numA_ct hE hg 15 (by omega)
  have n7 := errNe (F := F) (e := 7) (by omega)
  have n15 := errNe (F := F) (e := 15) (by omega)
  have cD2 := chdec_ct (W := W) (F := F) (id := id) (s := row) hid (by omega) hE.all
  have cD3 := d15dec_ct (W := W) (id := id) (s := row) hid
  obtain ⟨k, hk⟩ : ∃ k, k = aKey id := ⟨_, rfl⟩
  rw [← hk] at cK cK2
  rw [hgd] at cE1 cR1
  dsimp only [cond] at cE1 cR1
  rw [hd] at cD2 cD3
  have cE1 : Ct Tryz.prog W 26 [acV a] [] (fun _ : Unit => .tuple #[strV [], errV F 7]) (fun _ => []) := cE1
  have cD2 : Ct Tryz.prog W 30 [strV id, strV row] [] (fun _ : Unit => .tuple #[acV ac0, errV F 15]) (fun _ => []) := cD2
  have cD3 : Ct Tryz.prog W 31 [strV id, strV row] [] (fun _ : Unit => .tuple #[acV ac0, .int .i64 15]) (fun _ => []) := cD3
  have h00 := ac_self ac0 Tryz.underlying51
  clear hk
  refine Ct.enter Tryz.func5 rfl Tryz.ntmps5 (by simp) (fun R => ?_)
  repeat' (first 
    | (refine is_box ?_; refine KJ_box rfl xF rfl (fun g3 => ?_))
    | (refine is_call ?_; first | (refine KJ_call xE cN15 xP rfl (fun _ => ?_)) | (refine KJ_call xE cD3 xP rfl (fun _ => ?_)) | (refine KJ_call xE cD2 xP rfl (fun _ => ?_)) | (refine KJ_call xE cN7 xP rfl (fun _ => ?_)) | (refine KJ_call xE cR1 xP rfl (fun _ => ?_)) | (refine KJ_call xE cE1 xP rfl (fun _ => ?_)) | (refine KJ_call xE cK2 xP rfl (fun _ => ?_)) | (refine KJ_call xE cK xP rfl (fun _ => ?_)) | (refine KJ_call xE cL xP rfl (fun _ => ?_)))
    | (refine ek_eql ?_; refine EK_ev (Ev_eqlNil rfl n7) ?_)
    | (refine ek_neq ?_; first | refine EK_ev (Ev_neqNil rfl n15) ?_ | refine EK_ev (Ev_neqSt rfl rfl h00 rfl) ?_ | refine EK_ev (Ev_neqI_q (q := false) rfl rfl rfl) ?_ | refine EK_ev (Ev_neqS_f rfl rfl rfl) ?_)
    | refine xst ?_
    | (refine xsa ?_; intro _)
    | (refine xsb ?_ ?_ <;> intro _ <;> first | (exfalso; omega) | skip)
    | refine xsc ?_
    | fail)
  all_goals (exact xdn ())
set_option maxHeartbeats 8000000 in
theorem rows15_fs (hE : ErrsAt W F) (hN : NibAt W) (hg : gB ≤ W.heap.size) (ha : a.id.length ≤ 2000000) (hu : a.cur.length ≤ 2000000) (hr : -9223372036854775808 ≤ a.bal ∧ a.bal ≤ 9223372036854775807) (hid : id.length ≤ 2000000) (hrow : row.length ≤ 2000000) (hgd : goodA a = false) {c : Acct} (hd : decA id row = some c) :
    Ct Tryz.prog W 5 [acV a, strV id, strV row] [] (fun _ : Unit => .bool true) (fun _ => []) := by
  have cL := lives15_ct hE hN hg
  have e7 : W.cell? ⟨3, 0, none⟩ = some (errV F 7) := hE.all.at_ 7 (by decide)
  have e8 : W.cell? ⟨19, 0, none⟩ = some (errV F 8) := hE.all.at_ 8 (by decide)
  have cE1 := chenc_ct (W := W) (F := F) (a := a) ha hu hr e7 e8
  have cR1 := d15enc_ct (W := W) (a := a) ha hr
  have cK := chkey_ct (W := W) id (by omega)
  have cK2 := d15key_ct (W := W) id (by omega)
  have cN0 : Ct Tryz.prog W 15 [.nilIface] [] (fun _ : Unit => .int .i64 0) (fun _ => []) := numA_ct hE hg 0 (by omega)
  have cN7 := numA_ct hE hg 7 (by omega)
  have cN15 := numA_ct hE hg 15 (by omega)
  have n7 := errNe (F := F) (e := 7) (by omega)
  have n15 := errNe (F := F) (e := 15) (by omega)
  have cD2 := chdec_ct (W := W) (F := F) (id := id) (s := row) hid (by omega) hE.all
  have cD3 := d15dec_ct (W := W) (id := id) (s := row) hid
  obtain ⟨k, hk⟩ : ∃ k, k = aKey id := ⟨_, rfl⟩
  rw [← hk] at cK cK2
  rw [hgd] at cE1 cR1
  dsimp only [cond] at cE1 cR1
  rw [hd] at cD2 cD3
  have cE1 : Ct Tryz.prog W 26 [acV a] [] (fun _ : Unit => .tuple #[strV [], errV F 7]) (fun _ => []) := cE1
  have cD2 : Ct Tryz.prog W 30 [strV id, strV row] [] (fun _ : Unit => .tuple #[acV c, .nilIface]) (fun _ => []) := cD2
  have cD3 : Ct Tryz.prog W 31 [strV id, strV row] [] (fun _ : Unit => .tuple #[acV c, .int .i64 0]) (fun _ => []) := cD3
  obtain ⟨h1, h2, h3⟩ := dec_some hd
  obtain ⟨k1, k2, k3, k4, k5, -⟩ := goodA_in h2
  have cE2 := chenc_ct (W := W) (F := F) (a := c) (by rw [h1]; exact hid) (by omega) ⟨k4, k5⟩ e7 e8
  rw [h2, h3] at cE2
  have cE2 : Ct Tryz.prog W 26 [acV c] [] (fun _ : Unit => .tuple #[strV row, .nilIface]) (fun _ => []) := cE2
  have hcc := ac_self c Tryz.underlying51
  clear hk
  refine Ct.enter Tryz.func5 rfl Tryz.ntmps5 (by simp) (fun R => ?_)
  repeat' (first 
    | (refine is_box ?_; refine KJ_box rfl xF rfl (fun g3 => ?_))
    | (refine is_call ?_; first | (refine KJ_call xE cE2 xP rfl (fun _ => ?_)) | (refine KJ_call xE cN0 xP rfl (fun _ => ?_)) | (refine KJ_call xE cD3 xP rfl (fun _ => ?_)) | (refine KJ_call xE cD2 xP rfl (fun _ => ?_)) | (refine KJ_call xE cN7 xP rfl (fun _ => ?_)) | (refine KJ_call xE cR1 xP rfl (fun _ => ?_)) | (refine KJ_call xE cE1 xP rfl (fun _ => ?_)) | (refine KJ_call xE cK2 xP rfl (fun _ => ?_)) | (refine KJ_call xE cK xP rfl (fun _ => ?_)) | (refine KJ_call xE cL xP rfl (fun _ => ?_)))
    | (refine ek_eql ?_; first | refine EK_ev (Ev_eqlS_t rfl rfl rfl) ?_ | refine EK_ev (Ev_eqlS_t rfl rfl h1) ?_ | refine EK_ev (Ev_eqlNil rfl n7) ?_)
    | (refine ek_neq ?_; first | refine EK_ev (Ev_neqSt rfl rfl hcc rfl) ?_ | refine EK_ev (Ev_neqI_q (q := false) rfl rfl rfl) ?_ | refine EK_ev (Ev_neqS_f rfl rfl rfl) ?_)
    | refine xst ?_
    | (refine xsa ?_; intro _)
    | (refine xsb ?_ ?_ <;> intro _ <;> first | (exfalso; omega) | skip)
    | refine xsc ?_
    | fail)
  all_goals (exact xdn ())
set_option maxHeartbeats 8000000 in
theorem rows15_tn (hE : ErrsAt W F) (hN : NibAt W) (hg : gB ≤ W.heap.size) (ha : a.id.length ≤ 2000000) (hu : a.cur.length ≤ 2000000) (hr : -9223372036854775808 ≤ a.bal ∧ a.bal ≤ 9223372036854775807) (hid : id.length ≤ 2000000) (hrow : row.length ≤ 2000000) (hgd : goodA a = true) (hd : decA id row = none) :
    Ct Tryz.prog W 5 [acV a, strV id, strV row] [] (fun _ : Unit => .bool true) (fun _ => []) := by
  have cL := lives15_ct hE hN hg
  have e7 : W.cell? ⟨3, 0, none⟩ = some (errV F 7) := hE.all.at_ 7 (by decide)
  have e8 : W.cell? ⟨19, 0, none⟩ = some (errV F 8) := hE.all.at_ 8 (by decide)
  have cE1 := chenc_ct (W := W) (F := F) (a := a) ha hu hr e7 e8
  have cR1 := d15enc_ct (W := W) (a := a) ha hr
  have cK := chkey_ct (W := W) id (by omega)
  have cK2 := d15key_ct (W := W) id (by omega)
  have cN0 : Ct Tryz.prog W 15 [.nilIface] [] (fun _ : Unit => .int .i64 0) (fun _ => []) := numA_ct hE hg 0 (by omega)
  have cN7 := numA_ct hE hg 7 (by omega)
  have cN15 := numA_ct hE hg 15 (by omega)
  have n7 := errNe (F := F) (e := 7) (by omega)
  have n15 := errNe (F := F) (e := 15) (by omega)
  have cD2 := chdec_ct (W := W) (F := F) (id := id) (s := row) hid (by omega) hE.all
  have cD3 := d15dec_ct (W := W) (id := id) (s := row) hid
  obtain ⟨k, hk⟩ : ∃ k, k = aKey id := ⟨_, rfl⟩
  rw [← hk] at cK cK2
  rw [hgd] at cE1 cR1
  dsimp only [cond] at cE1 cR1
  rw [hd] at cD2 cD3
  have cE1 : Ct Tryz.prog W 26 [acV a] [] (fun _ : Unit => .tuple #[strV (rowA a), .nilIface]) (fun _ => []) := cE1
  obtain ⟨g1, -⟩ := goodA_in hgd
  have hl22 := rowA_len g1
  have ql : decide ((((rowA a).length : Nat) : Int) ≠ 22) = false := decide_eq_false (by omega)
  have cD1 := chdec_ct (W := W) (F := F) (id := a.id) (s := rowA a) ha (by omega) hE.all
  rw [dec_of_row hgd] at cD1
  have cD1 : Ct Tryz.prog W 30 [strV a.id, strV (rowA a)] [] (fun _ : Unit => .tuple #[acV a, .nilIface]) (fun _ => []) := cD1
  have haa := ac_self a Tryz.underlying51
  obtain ⟨ra, hra⟩ : ∃ r, r = rowA a := ⟨_, rfl⟩
  rw [← hra] at cE1 cR1 cD1 hl22 ql
  clear hra
  have cD2 : Ct Tryz.prog W 30 [strV id, strV row] [] (fun _ : Unit => .tuple #[acV ac0, errV F 15]) (fun _ => []) := cD2
  have cD3 : Ct Tryz.prog W 31 [strV id, strV row] [] (fun _ : Unit => .tuple #[acV ac0, .int .i64 15]) (fun _ => []) := cD3
  have h00 := ac_self ac0 Tryz.underlying51
  clear hk
  refine Ct.enter Tryz.func5 rfl Tryz.ntmps5 (by simp) (fun R => ?_)
  repeat' (first 
    | (refine is_box ?_; refine KJ_box rfl xF rfl (fun g3 => ?_))
    | (refine is_call ?_; first | (refine KJ_call xE cN15 xP rfl (fun _ => ?_)) | (refine KJ_call xE cD3 xP rfl (fun _ => ?_)) | (refine KJ_call xE cD2 xP rfl (fun _ => ?_)) | (refine KJ_call xE cD1 xP rfl (fun _ => ?_)) | (refine KJ_call xE cN0 xP rfl (fun _ => ?_)) | (refine KJ_call xE cR1 xP rfl (fun _ => ?_)) | (refine KJ_call xE cE1 xP rfl (fun _ => ?_)) | (refine KJ_call xE cK2 xP rfl (fun _ => ?_)) | (refine KJ_call xE cK xP rfl (fun _ => ?_)) | (refine KJ_call xE cL xP rfl (fun _ => ?_)))
    | (refine ek_neq ?_; first | refine EK_ev (Ev_neqNil rfl n15) ?_ | refine EK_ev (Ev_neqSt rfl rfl h00 rfl) ?_ | refine EK_ev (Ev_neqI_q rfl rfl ql) ?_ | refine EK_ev (Ev_neqSt rfl rfl haa rfl) ?_ | refine EK_ev (Ev_neqI_q (q := false) rfl rfl rfl) ?_ | refine EK_ev (Ev_neqS_f rfl rfl rfl) ?_)
    | refine xst ?_
    | (refine xsa ?_; intro _)
    | (refine xsb ?_ ?_ <;> intro _ <;> first | (exfalso; omega) | skip)
    | refine xsc ?_
    | fail)
  all_goals (exact xdn ())
set_option maxHeartbeats 8000000 in
theorem rows15_ts (hE : ErrsAt W F) (hN : NibAt W) (hg : gB ≤ W.heap.size) (ha : a.id.length ≤ 2000000) (hu : a.cur.length ≤ 2000000) (hr : -9223372036854775808 ≤ a.bal ∧ a.bal ≤ 9223372036854775807) (hid : id.length ≤ 2000000) (hrow : row.length ≤ 2000000) (hgd : goodA a = true) {c : Acct} (hd : decA id row = some c) :
    Ct Tryz.prog W 5 [acV a, strV id, strV row] [] (fun _ : Unit => .bool true) (fun _ => []) := by
  have cL := lives15_ct hE hN hg
  have e7 : W.cell? ⟨3, 0, none⟩ = some (errV F 7) := hE.all.at_ 7 (by decide)
  have e8 : W.cell? ⟨19, 0, none⟩ = some (errV F 8) := hE.all.at_ 8 (by decide)
  have cE1 := chenc_ct (W := W) (F := F) (a := a) ha hu hr e7 e8
  have cR1 := d15enc_ct (W := W) (a := a) ha hr
  have cK := chkey_ct (W := W) id (by omega)
  have cK2 := d15key_ct (W := W) id (by omega)
  have cN0 : Ct Tryz.prog W 15 [.nilIface] [] (fun _ : Unit => .int .i64 0) (fun _ => []) := numA_ct hE hg 0 (by omega)
  have cN7 := numA_ct hE hg 7 (by omega)
  have cN15 := numA_ct hE hg 15 (by omega)
  have n7 := errNe (F := F) (e := 7) (by omega)
  have n15 := errNe (F := F) (e := 15) (by omega)
  have cD2 := chdec_ct (W := W) (F := F) (id := id) (s := row) hid (by omega) hE.all
  have cD3 := d15dec_ct (W := W) (id := id) (s := row) hid
  obtain ⟨k, hk⟩ : ∃ k, k = aKey id := ⟨_, rfl⟩
  rw [← hk] at cK cK2
  rw [hgd] at cE1 cR1
  dsimp only [cond] at cE1 cR1
  rw [hd] at cD2 cD3
  have cE1 : Ct Tryz.prog W 26 [acV a] [] (fun _ : Unit => .tuple #[strV (rowA a), .nilIface]) (fun _ => []) := cE1
  obtain ⟨g1, -⟩ := goodA_in hgd
  have hl22 := rowA_len g1
  have ql : decide ((((rowA a).length : Nat) : Int) ≠ 22) = false := decide_eq_false (by omega)
  have cD1 := chdec_ct (W := W) (F := F) (id := a.id) (s := rowA a) ha (by omega) hE.all
  rw [dec_of_row hgd] at cD1
  have cD1 : Ct Tryz.prog W 30 [strV a.id, strV (rowA a)] [] (fun _ : Unit => .tuple #[acV a, .nilIface]) (fun _ => []) := cD1
  have haa := ac_self a Tryz.underlying51
  obtain ⟨ra, hra⟩ : ∃ r, r = rowA a := ⟨_, rfl⟩
  rw [← hra] at cE1 cR1 cD1 hl22 ql
  clear hra
  have cD2 : Ct Tryz.prog W 30 [strV id, strV row] [] (fun _ : Unit => .tuple #[acV c, .nilIface]) (fun _ => []) := cD2
  have cD3 : Ct Tryz.prog W 31 [strV id, strV row] [] (fun _ : Unit => .tuple #[acV c, .int .i64 0]) (fun _ => []) := cD3
  obtain ⟨h1, h2, h3⟩ := dec_some hd
  obtain ⟨k1, k2, k3, k4, k5, -⟩ := goodA_in h2
  have cE2 := chenc_ct (W := W) (F := F) (a := c) (by rw [h1]; exact hid) (by omega) ⟨k4, k5⟩ e7 e8
  rw [h2, h3] at cE2
  have cE2 : Ct Tryz.prog W 26 [acV c] [] (fun _ : Unit => .tuple #[strV row, .nilIface]) (fun _ => []) := cE2
  have hcc := ac_self c Tryz.underlying51
  clear hk
  refine Ct.enter Tryz.func5 rfl Tryz.ntmps5 (by simp) (fun R => ?_)
  repeat' (first 
    | (refine is_box ?_; refine KJ_box rfl xF rfl (fun g3 => ?_))
    | (refine is_call ?_; first | (refine KJ_call xE cE2 xP rfl (fun _ => ?_)) | (refine KJ_call xE cN0 xP rfl (fun _ => ?_)) | (refine KJ_call xE cD3 xP rfl (fun _ => ?_)) | (refine KJ_call xE cD2 xP rfl (fun _ => ?_)) | (refine KJ_call xE cD1 xP rfl (fun _ => ?_)) | (refine KJ_call xE cR1 xP rfl (fun _ => ?_)) | (refine KJ_call xE cE1 xP rfl (fun _ => ?_)) | (refine KJ_call xE cK2 xP rfl (fun _ => ?_)) | (refine KJ_call xE cK xP rfl (fun _ => ?_)) | (refine KJ_call xE cL xP rfl (fun _ => ?_)))
    | (refine ek_eql ?_; first | refine EK_ev (Ev_eqlS_t rfl rfl rfl) ?_ | refine EK_ev (Ev_eqlS_t rfl rfl h1) ?_)
    | (refine ek_neq ?_; first | refine EK_ev (Ev_neqSt rfl rfl hcc rfl) ?_ | refine EK_ev (Ev_neqI_q rfl rfl ql) ?_ | refine EK_ev (Ev_neqSt rfl rfl haa rfl) ?_ | refine EK_ev (Ev_neqI_q (q := false) rfl rfl rfl) ?_ | refine EK_ev (Ev_neqS_f rfl rfl rfl) ?_)
    | refine xst ?_
    | (refine xsa ?_; intro _)
    | (refine xsb ?_ ?_ <;> intro _ <;> first | (exfalso; omega) | skip)
    | refine xsc ?_
    | fail)
  all_goals (exact xdn ())
theorem rows15_law (hE : ErrsAt W F) (hN : NibAt W) (hg : gB ≤ W.heap.size) (ha : a.id.length ≤ 2000000) (hu : a.cur.length ≤ 2000000) (hr : -9223372036854775808 ≤ a.bal ∧ a.bal ≤ 9223372036854775807) (hid : id.length ≤ 2000000) (hrow : row.length ≤ 2000000) :
    Ct Tryz.prog W 5 [acV a, strV id, strV row] [] (fun _ : Unit => .bool true) (fun _ => []) := by
  cases hgd : goodA a <;> cases hd : decA id row
  · exact rows15_fn hE hN hg ha hu hr hid hrow hgd hd
  · exact rows15_fs hE hN hg ha hu hr hid hrow hgd hd
  · exact rows15_tn hE hN hg ha hu hr hid hrow hgd hd
  · exact rows15_ts hE hN hg ha hu hr hid hrow hgd hd
end
end Go.Proofs.YtnbgcimalpdfoaaGreatDoor
