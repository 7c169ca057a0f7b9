/-
  WiS2.
-/
import Derived.Test.YtnbgcimalpdfoaaGreatDoorPEM
import Derived.Test.YtnbgcimalpdfoaaGreatDoorPEN
/-
  WindowsSum (chapter 19).
-/
namespace Go.Proofs.YtnbgcimalpdfoaaGreatDoor
open Go Go.RowKit
theorem Lv.front {α : Type} {enc : α → List Value} {sz : Nat} (K : EncOk enc sz) {W : World} {A : SP} {a : Option Addr} {L : List α} (h : Lv W enc sz A a L) (i : Nat) : Lv W enc sz A a (L.take i) :=
  ⟨fun w H R hs q hne => by
    obtain ⟨b, o, ha, hr⟩ := h.go w H R hs q (by intro e; subst e; simp at hne)
    exact ⟨b, o, ha, fun j v hj => hr j v (K.take_at hj)⟩⟩
theorem WinI.later {span most : Nat} {l : List PayN} {r : Rows} (h : WinI span most l r) (hs : 1 ≤ span) (hm : most < 9223372036854775808) (hT : latS l < 18446744073709551616) (a : List UInt8) (t : Nat) (ht : latS l / span < t / span) : usedW (lk r (wKey a)) t span = 0 := by
  cases hk : lk r (wKey a) with
  | none => exact usedW_none _ _
  | some s =>
    obtain ⟨w, u, e, hw, hu⟩ := h.row a s hk
    have : latS l / span ≤ latS l := Nat.div_le_self _ _
    rw [e, usedW_row (by omega) (by omega) hs, if_neg (by omega)]
section
variable {W : World} {F : Nat → Addr}
set_option maxHeartbeats 8000000 in
theorem sum19_ct (hE : ErrsAt W F) (hN : NibAt W) (hg : gB ≤ W.heap.size) (A : SP) (a : Option Addr) (c : Nat) (L : List PayR) (hL : Lv W payC 3 A a L) (hl : L.length ≤ 1048576) (hc : L.length ≤ c) (hacc : ∀ p ∈ L, p.acc.length ≤ 1099511627776) (span0 most0 : Int) (hm0 : most0 ≤ 9223372036854775807) :
    Ct Tryz.prog W 3 [.int .i64 span0, .int .i64 most0, .slice a L.length c] [A] (fun _ : Unit => .bool true) (fun _ => [A]) := by
  have cF := fixed19_ct hE hN hg
  have cb := begun_ct (W := W) hE hN hg
  have cN := fun k (h : k ≤ 37) => numA_ct hE hg k h
  obtain ⟨span, hspan⟩ : ∃ s : Nat, ((s : Nat) : Int) = 1 + span0 % 18446744073709551616 % 1000 := ⟨(1 + span0 % 18446744073709551616 % 1000).toNat, by omega⟩
  have hs1 : 1 ≤ span ∧ span ≤ 1000 := by omega
  obtain ⟨most, hmost⟩ : ∃ m : Nat, ((m : Nat) : Int) = (if most0 < 1 then 1 + (((most0 % 65536).toNat : Nat) : Int) else most0) := by
    by_cases h : most0 < 1
    · rw [if_pos h]; exact ⟨1 + (most0 % 65536).toNat, by omega⟩
    · rw [if_neg h]; exact ⟨most0.toNat, by omega⟩
  have hm1 : 1 ≤ most ∧ most < 9223372036854775808 := by split at hmost <;> omega
  have c1 : IntKind.u64.wrap span0 = span0 % 18446744073709551616 := u64_mod _
  have c2 : IntKind.i64.wrap (span0 % 18446744073709551616 % 1000) = span0 % 18446744073709551616 % 1000 := i64_wrap _ (by omega)
  refine Ct.enter Tryz.func3 rfl Tryz.ntmps3 (by simp) (fun R => ?_)
  apply KJ_rest (fun Kc => ∀ (t : Nat), KJ W 107 Kc [(0, .int .i64 (span : Nat)), (1, .int .i64 (most : Nat)), (2, .slice a L.length c), (7, .pointer (some ⟨t, 0, none⟩))] ([A, TxQ t [] false 0] ++ R))
  · intro rest
    by_cases hm : most0 < 1
    · rw [if_pos hm] at hmost
      have q1 : decide (most0 < 1) = true := decide_eq_true hm
      repeat' (first 
    | (refine at_seq_region (id := 9) ?_; exact KJ.weak (rest _) xB (xN))
    | (refine is_call ?_; first | (refine KJ_call xE cb xP rfl (fun t => ?_)) | (refine KJ_call xE cF xP rfl (fun _ => ?_)))
    | (refine ek_conv ?_; first | refine EK_ev (Ev_convI_v rfl c2) ?_ | refine EK_ev (Ev_convI_v rfl c1) ?_)
    | (refine ek_add ?_; first | refine EK_ev (Ev_addI_v rfl rfl hmost.symm (by omega)) ?_ | refine EK_ev (Ev_addI_v rfl rfl hspan.symm (by omega)) ?_)
    | (refine ek_rem ?_; refine EK_ev (Ev_remI rfl rfl (by omega)) ?_)
    | (refine ek_and ?_; refine EK_ev (Ev_and_s rfl rfl (and16 most0)) ?_)
    | (refine ek_lss ?_; refine EK_ev (Ev_lssI_q rfl rfl q1) ?_)
    | refine xst ?_
    | (refine xsa ?_; intro _)
    | (refine xsb ?_ ?_ <;> intro _ <;> first | (exfalso; omega) | skip)
    | refine xsc ?_
    | (refine KJ_draws (id := 17) (.op 0 (.op 1 (.op 2 (.op 3 (.op 4 (.op 5 (.op 6 (.op 7 (.ef 8 [] (.op 9 .nil)))))))))) (by kernel_rfl) (by kernel_rfl) ?_)
    | refine FW_alt ?_ ?_
    | refine FW_efn rfl rfl rfl rfl rfl ?_ ?_
    | refine KJ_flow ?_ ?_
    | exact Rech.nil
    | fail)
    · rw [if_neg hm] at hmost
      have q1 : decide (most0 < 1) = false := decide_eq_false hm
      subst hmost
      repeat' (first 
    | (refine at_seq_region (id := 9) ?_; exact KJ.weak (rest _) xB (xN))
    | (refine is_call ?_; first | (refine KJ_call xE cb xP rfl (fun t => ?_)) | (refine KJ_call xE cF xP rfl (fun _ => ?_)))
    | (refine ek_conv ?_; first | refine EK_ev (Ev_convI_v rfl c2) ?_ | refine EK_ev (Ev_convI_v rfl c1) ?_)
    | (refine ek_add ?_; refine EK_ev (Ev_addI_v rfl rfl hspan.symm (by omega)) ?_)
    | (refine ek_rem ?_; refine EK_ev (Ev_remI rfl rfl (by omega)) ?_)
    | (refine ek_lss ?_; refine EK_ev (Ev_lssI_q rfl rfl q1) ?_)
    | refine xst ?_
    | (refine xsa ?_; intro _)
    | (refine xsb ?_ ?_ <;> intro _ <;> first | (exfalso; omega) | skip)
    | refine xsc ?_
    | (refine KJ_draws (id := 17) (.op 0 (.op 1 (.op 2 (.op 3 (.op 4 (.op 5 (.op 6 (.op 7 (.ef 8 [] (.op 9 .nil)))))))))) (by kernel_rfl) (by kernel_rfl) ?_)
    | refine FW_alt ?_ ?_
    | refine FW_efn rfl rfl rfl rfl rfl ?_ ?_
    | refine KJ_flow ?_ ?_
    | exact Rech.nil
    | fail)
  intro t
  clear hspan hmost c1 c2 cF cb hm0
  repeat' (first 
    | refine xst ?_
    | (refine xsa ?_; intro _)
    | (refine xsb ?_ ?_ <;> intro _ <;> first | (exfalso; omega) | skip)
    | refine xsc ?_
    | (refine KJ_draws (id := 17) (.op 0 (.op 1 (.op 2 (.op 3 (.op 4 (.op 5 (.op 6 (.op 7 (.ef 8 [] (.op 9 .nil)))))))))) (by kernel_rfl) (by kernel_rfl) ?_)
    | refine FW_alt ?_ ?_
    | refine FW_efn rfl rfl rfl rfl rfl ?_ ?_
    | refine KJ_flow ?_ ?_
    | exact Rech.nil
    | fail)
  refine KJ_loop (fun x : {x : Nat × Nat × Rows // x.1 ≤ L.length ∧ x.2.1 = latS ((L.take x.1).map nrmP) ∧ WinI span most ((L.take x.1).map nrmP) x.2.2 ∧ x.2.2.length ≤ x.1} => [(0, .int .i64 (span : Nat)), (1, .int .i64 (most : Nat)), (2, .slice a L.length c), (7, .pointer (some ⟨t, 0, none⟩)), (8, .int .i64 (x.1.2.1 : Nat)), (30, .slice a L.length c), (31, .int .i64 (L.length : Nat)), (32, .int .i64 (x.1.1 : Nat))])
    (fun x => [A, TxQ t x.1.2.2 false x.1.1] ++ R) (fun x => L.length - x.1.1) ⟨(0, 0, []), Nat.zero_le _, rfl, WinI.nil span most, Nat.le_refl _⟩ xB (xN) (fun ⟨(i, now, r), hi, ht, hI, hrl⟩ => ?_)
  dsimp only at hi ht hI hrl ⊢
  by_cases hlt : i < L.length
  rotate_left
  · have ql : decide ((i : Int) < (L.length : Nat)) = false := decide_eq_false (by omega)
    repeat' (first 
    | (refine ek_lss ?_; refine EK_ev (Ev_lssI_q rfl rfl ql) ?_)
    | refine xst ?_
    | (refine xsa ?_; intro _)
    | (refine xsb ?_ ?_ <;> intro _ <;> first | (exfalso; omega) | skip)
    | refine xsc ?_
    | (refine KJ_draws (id := 17) (.op 0 (.op 1 (.op 2 (.op 3 (.op 4 (.op 5 (.op 6 (.op 7 (.ef 8 [] (.op 9 .nil)))))))))) (by kernel_rfl) (by kernel_rfl) ?_)
    | refine FW_alt ?_ ?_
    | refine FW_efn rfl rfl rfl rfl rfl ?_ ?_
    | refine KJ_flow ?_ ?_
    | exact Rech.nil
    | fail)
    all_goals (exact xdn ())
  have ql : decide ((i : Int) < (L.length : Nat)) = true := decide_eq_true (by omega)
  obtain ⟨p, hp⟩ : ∃ s, L[i]? = some s := ⟨_, List.getElem?_eq_getElem hlt⟩
  have hpa := hacc p (List.mem_of_getElem? hp)
  have hLf := hL.front pay_ok i
  have hli : (L.take i).length = i := by rw [List.length_take]; omega
  have hlatl := lat_le (L.take i)
  rw [hli] at hlatl
  refine KJ.lvSome hL xS (by omega) (fun b of hab => ?_)
  subst hab
  have hoff : of + Int.toNat (i : Int) * 3 = of + i * 3 := by simp
  have hnx := takeP_next hp
  have hlat := nrmP_lat p
  have hamt := nrmP_amt p
  have hI2 := hI.next hs1.1 hm1.2 (nrmP p) (by omega)
  have hT : latS ((L.take (i + 1)).map nrmP) = now + (nrmP p).lat := by rw [hnx, latS_snoc, ← ht]
  rw [← hnx, ← ht] at hI2
  have hsn := tkGo_snoc span most (now + (nrmP p).lat) p.acc (nrmP p) ((L.take i).map nrmP) 0 0
  rw [← hnx, Nat.zero_add, ← ht] at hsn
  have hacc2 : (nrmP p).acc = p.acc := rfl
  rw [hacc2] at hI2 hsn
  obtain ⟨lat, hlat0⟩ : ∃ x, x = (nrmP p).lat := ⟨_, rfl⟩
  obtain ⟨amt, hamt0⟩ : ∃ x, x = (nrmP p).amt := ⟨_, rfl⟩
  have c1 : IntKind.u64.wrap p.later = p.later % 18446744073709551616 := u64_mod _
  have c2 : p.later % 18446744073709551616 % 2000 = ((lat : Nat) : Int) := by rw [hlat0]; unfold nrmP; dsimp only; omega
  have c3 : IntKind.i64.wrap ((lat : Nat) : Int) = ((lat : Nat) : Int) := i64_small (by omega)
  have c4 : AndF .i64 p.amt 9223372036854775807 ((amt : Nat) : Int) := by rw [hamt0]; exact and63 p.amt
  rw [← hlat0] at hT hI2 hsn hlat
  rw [← hamt0] at hI2 hsn hamt
  clear hlat0 hamt0
  obtain ⟨tm, htm⟩ : ∃ tm, tm = now + lat := ⟨_, rfl⟩
  rw [← htm] at hT hI2 hsn
  by_cases k0 : 549755813888 < tm
  · have q0 : decide ((549755813888 : Int) < ((tm : Nat) : Int)) = true := decide_eq_true (by omega)
    repeat' (first 
    | (refine is_alloc ?_; refine KJ_alloc rfl (fun g => ?_))
    | (refine ek_load ?_; refine EK_ev (Ev_loadLv pay_ok hL rfl rfl xS hoff hp) ?_)
    | (refine ek_conv ?_; first | refine EK_ev (Ev_convI_v rfl c3) ?_ | refine EK_ev (Ev_convI_v rfl c1) ?_)
    | (refine ek_add ?_; refine EK_ev (Ev_addI_v (r := ((tm : Nat) : Int)) rfl rfl (by omega) (by omega)) ?_)
    | (refine ek_rem ?_; refine EK_ev (Ev_rem_w rfl rfl (by omega) c2) ?_)
    | (refine ek_lss ?_; refine EK_ev (Ev_lssI_q rfl rfl ql) ?_)
    | (refine ek_gtr ?_; refine EK_ev (Ev_gtrI_q rfl rfl q0) ?_)
    | refine xst ?_
    | (refine xsa ?_; intro _)
    | (refine xsb ?_ ?_ <;> intro _ <;> first | (exfalso; omega) | skip)
    | refine xsc ?_
    | (refine KJ_draws (id := 17) (.op 0 (.op 1 (.op 2 (.op 3 (.op 4 (.op 5 (.op 6 (.op 7 (.ef 8 [] (.op 9 .nil)))))))))) (by kernel_rfl) (by kernel_rfl) ?_)
    | refine FW_alt ?_ ?_
    | refine FW_efn rfl rfl rfl rfl rfl ?_ ?_
    | refine KJ_flow ?_ ?_
    | exact Rech.nil
    | fail)
    all_goals (exact xdn ())
  have q0 : decide ((549755813888 : Int) < ((tm : Nat) : Int)) = false := decide_eq_false (by omega)
  have hused := hI.used p.acc tm (by omega)
  have hSm := tkGo_le (span := span) (most := most) (t := tm) p.acc ((L.take i).map nrmP) 0 0 (Nat.zero_le _)
  have cTk := taken_ct (W := W) A (some ⟨b, of, none⟩) c (L.take i) hLf (by omega) span most tm hs1.1 (by omega) hm1.2 (by omega) p.acc
  rw [hli] at cTk
  obtain ⟨S, hS⟩ : ∃ S, S = tkGo span most tm p.acc ((L.take i).map nrmP) 0 0 := ⟨_, rfl⟩
  rw [← hS] at hused hSm cTk hsn
  have hI2 : WinI span most ((L.take (i + 1)).map nrmP) (if amt ≤ most - S then putR r (wKey p.acc) (rowW (tm / span) (S + amt)) else r) := by rw [hS]; exact hI2
  have hrows : takeRows r p.acc ((tm : Nat) : Int) ((span : Nat) : Int) ((most : Nat) : Int) ((amt : Nat) : Int) = if amt ≤ most - S then putR r (wKey p.acc) (rowW (tm / span) (S + amt)) else r := by
    unfold takeRows
    by_cases k : amt ≤ most - S
    · rw [takeR_u hused hm1.1 hs1.1 (by omega) (by omega), if_pos k]
    · rw [takeR_e (by rw [takeE_u hused hm1.1 hs1.1 (by omega)]; decide), if_neg k]
  have herr : takeE (lk r (wKey p.acc)) ((tm : Nat) : Int) ((span : Nat) : Int) ((most : Nat) : Int) ((amt : Nat) : Int) = if amt ≤ most - S then 0 else 30 := by
    by_cases k : amt ≤ most - S
    · rw [takeE_some (takeR_u hused hm1.1 hs1.1 (by omega) (by omega)), if_pos k]
    · rw [takeE_u hused hm1.1 hs1.1 (by omega), if_neg k]
  have cU1 : Ct Tryz.prog W 13 [.pointer (some ⟨t, 0, none⟩), strV p.acc, .int .i64 (tm : Nat), .int .i64 (span : Nat)] [TxQ t r false i] (fun _ : Unit => .int .i64 (S : Nat)) (fun _ => [TxQ t r false i]) := by
    have := qused_ct (W := W) (t := t) (m := i) (r := r) (ended := false) (acc := p.acc) (now := (tm : Nat)) (span := (span : Nat)) hpa (by omega)
    rw [show usedW (lk (seenR r false) (wKey p.acc)) ((tm : Nat) : Int) ((span : Nat) : Int) = (S : Nat) from hused] at this
    exact this
  have cT := qtake_ct (W := W) (F := F) (t := t) (m := i) (r := r) (acc := p.acc) (now := (tm : Nat)) (span := (span : Nat)) (most := (most : Nat)) (amount := (amt : Nat)) hE.all hpa (by omega) (by omega) (by omega) (by omega)
  rw [hrows, herr] at cT
  obtain ⟨r2, hr2⟩ : ∃ r2, r2 = if amt ≤ most - S then putR r (wKey p.acc) (rowW (tm / span) (S + amt)) else r := ⟨_, rfl⟩
  rw [← hr2] at cT hI2
  have hr2l : r2.length ≤ i + 1 := by
    rw [hr2]
    split
    · have := putR_len r (wKey p.acc) (rowW (tm / span) (S + amt))
      omega
    · omega
  have hu2 := hI2.used p.acc tm (by omega)
  rw [hsn] at hu2
  have hu3 := hI2.later hs1.1 hm1.2 (by omega) p.acc (tm + span) (by
    rw [hT, Nat.add_div_right _ (by omega)]
    exact Nat.lt_succ_self _)
  have cU2 : Ct Tryz.prog W 13 [.pointer (some ⟨t, 0, none⟩), strV p.acc, .int .i64 (tm : Nat), .int .i64 (span : Nat)] [TxQ t r2 false (i + 1)] (fun _ : Unit => .int .i64 (if amt ≤ most - S then S + amt else S : Nat)) (fun _ => [TxQ t r2 false (i + 1)]) := by
    have := qused_ct (W := W) (t := t) (m := i + 1) (r := r2) (ended := false) (acc := p.acc) (now := (tm : Nat)) (span := (span : Nat)) hpa (by omega)
    rw [show usedW (lk (seenR r2 false) (wKey p.acc)) ((tm : Nat) : Int) ((span : Nat) : Int) = _ from hu2] at this
    by_cases k : amt ≤ most - S
    · rw [if_pos ⟨rfl, rfl, k⟩] at this
      rw [if_pos k]
      exact this
    · rw [if_neg (by rintro ⟨-, -, h⟩; exact k h)] at this
      rw [if_neg k]
      exact this
  have cU3 : Ct Tryz.prog W 13 [.pointer (some ⟨t, 0, none⟩), strV p.acc, .int .i64 (tm + span : Nat), .int .i64 (span : Nat)] [TxQ t r2 false (i + 1)] (fun _ : Unit => .int .i64 0) (fun _ => [TxQ t r2 false (i + 1)]) := by
    have := qused_ct (W := W) (t := t) (m := i + 1) (r := r2) (ended := false) (acc := p.acc) (now := (tm + span : Nat)) (span := (span : Nat)) hpa (by omega)
    rw [show usedW (lk (seenR r2 false) (wKey p.acc)) ((tm + span : Nat) : Int) ((span : Nat) : Int) = 0 from hu3] at this
    exact this
  have q3 : decide (((S : Nat) : Int) ≠ ((S : Nat) : Int)) = false := decide_eq_false (by simp)
  by_cases k : amt ≤ most - S
  · rw [if_pos k] at cU2
    simp only [if_pos k] at cT
    have cN0 := cN 0 (by omega)
    have q4 : decide (((most : Nat) : Int) - ((S : Nat) : Int) < ((amt : Nat) : Int)) = false := decide_eq_false (by omega)
    have q5 : decide (((S + amt : Nat) : Int) ≠ ((S + amt : Nat) : Int)) = false := decide_eq_false (by simp)
    clear hr2 hu2 hu3 hrows herr hused hS cN hsn
    repeat' (first 
    | (refine is_alloc ?_; refine KJ_alloc rfl (fun g => ?_))
    | (refine is_call ?_; first | (refine KJ_call xE cTk xP rfl (fun _ => ?_)) | (refine KJ_call xE cT xP rfl (fun _ => ?_)) | (refine KJ_call xE cU1 xP rfl (fun _ => ?_)) | (refine KJ_call xE cU2 xP rfl (fun _ => ?_)) | (refine KJ_call xE cU3 xP rfl (fun _ => ?_)) | (refine KJ_call xE cN0 xP rfl (fun _ => ?_)))
    | (refine ek_load ?_; refine EK_ev (Ev_loadLv pay_ok hL rfl rfl xS hoff hp) ?_)
    | (refine ek_conv ?_; first | refine EK_ev (Ev_convI_v rfl c3) ?_ | refine EK_ev (Ev_convI_v rfl c1) ?_)
    | (refine ek_slice ?_; refine EK_ev (Ev_sliceToG rfl rfl (by omega)) ?_)
    | (refine ek_add ?_; first | refine EK_ev (Ev_addI_v (r := ((tm : Nat) : Int)) rfl rfl (by omega) (by omega)) ?_ | refine EK_ev (Ev_addI_v (r := ((S + amt : Nat) : Int)) rfl rfl (by omega) (by omega)) ?_ | refine EK_ev (Ev_addI_v (r := ((tm + span : Nat) : Int)) rfl rfl (by omega) (by omega)) ?_ | refine EK_ev (Ev_addI_v (r := ((i + 1 : Nat) : Int)) rfl rfl (by omega) (by omega)) ?_)
    | (refine ek_rem ?_; refine EK_ev (Ev_rem_w rfl rfl (by omega) c2) ?_)
    | (refine ek_and ?_; refine EK_ev (Ev_and_s rfl rfl c4) ?_)
    | (refine ek_neq ?_; first | refine EK_ev (Ev_neqI_q rfl rfl q5) ?_ | refine EK_ev (Ev_neqI_q rfl rfl q3) ?_ | refine EK_ev (Ev_neqI_q (q := false) rfl rfl rfl) ?_)
    | (refine ek_lss ?_; refine EK_ev (Ev_lssI_q rfl rfl ql) ?_)
    | (refine ek_gtr ?_; first | refine EK_ev (Ev_gtrI_q rfl rfl q0) ?_ | refine EK_ev (Ev_gtrI_q rfl rfl q4) ?_)
    | refine xst ?_
    | (refine xsa ?_; intro _)
    | (refine xsb ?_ ?_ <;> intro _ <;> first | (exfalso; omega) | skip)
    | refine xsc ?_
    | (refine KJ_draws (id := 17) (.op 0 (.op 1 (.op 2 (.op 3 (.op 4 (.op 5 (.op 6 (.op 7 (.ef 8 [] (.op 9 .nil)))))))))) (by kernel_rfl) (by kernel_rfl) ?_)
    | refine FW_alt ?_ ?_
    | refine FW_efn rfl rfl rfl rfl rfl ?_ ?_
    | refine KJ_flow ?_ ?_
    | exact Rech.nil
    | fail)
    all_goals refine KJ_again ⟨(i + 1, tm, r2), hlt, hT.symm, hI2, hr2l⟩ (by show L.length - (i + 1) < L.length - i; omega) xB (xN)
  · rw [if_neg k] at cU2
    simp only [if_neg k] at cT
    have cN0 := cN 30 (by omega)
    have q4 : decide (((most : Nat) : Int) - ((S : Nat) : Int) < ((amt : Nat) : Int)) = true := decide_eq_true (by omega)
    clear hr2 hu2 hu3 hrows herr hused hS cN hsn
    repeat' (first 
    | (refine is_alloc ?_; refine KJ_alloc rfl (fun g => ?_))
    | (refine is_call ?_; first | (refine KJ_call xE cTk xP rfl (fun _ => ?_)) | (refine KJ_call xE cT xP rfl (fun _ => ?_)) | (refine KJ_call xE cU1 xP rfl (fun _ => ?_)) | (refine KJ_call xE cU2 xP rfl (fun _ => ?_)) | (refine KJ_call xE cU3 xP rfl (fun _ => ?_)) | (refine KJ_call xE cN0 xP rfl (fun _ => ?_)))
    | (refine ek_load ?_; refine EK_ev (Ev_loadLv pay_ok hL rfl rfl xS hoff hp) ?_)
    | (refine ek_conv ?_; first | refine EK_ev (Ev_convI_v rfl c3) ?_ | refine EK_ev (Ev_convI_v rfl c1) ?_)
    | (refine ek_slice ?_; refine EK_ev (Ev_sliceToG rfl rfl (by omega)) ?_)
    | (refine ek_add ?_; first | refine EK_ev (Ev_addI_v (r := ((tm : Nat) : Int)) rfl rfl (by omega) (by omega)) ?_ | refine EK_ev (Ev_addI_v (r := ((S : Nat) : Int)) rfl rfl (by omega) (by omega)) ?_ | refine EK_ev (Ev_addI_v (r := ((tm + span : Nat) : Int)) rfl rfl (by omega) (by omega)) ?_ | refine EK_ev (Ev_addI_v (r := ((i + 1 : Nat) : Int)) rfl rfl (by omega) (by omega)) ?_)
    | (refine ek_rem ?_; refine EK_ev (Ev_rem_w rfl rfl (by omega) c2) ?_)
    | (refine ek_and ?_; refine EK_ev (Ev_and_s rfl rfl c4) ?_)
    | (refine ek_neq ?_; first | refine EK_ev (Ev_neqI_q rfl rfl q3) ?_ | refine EK_ev (Ev_neqI_q (q := false) rfl rfl rfl) ?_)
    | (refine ek_lss ?_; refine EK_ev (Ev_lssI_q rfl rfl ql) ?_)
    | (refine ek_gtr ?_; first | refine EK_ev (Ev_gtrI_q rfl rfl q0) ?_ | refine EK_ev (Ev_gtrI_q rfl rfl q4) ?_)
    | refine xst ?_
    | (refine xsa ?_; intro _)
    | (refine xsb ?_ ?_ <;> intro _ <;> first | (exfalso; omega) | skip)
    | refine xsc ?_
    | (refine KJ_draws (id := 17) (.op 0 (.op 1 (.op 2 (.op 3 (.op 4 (.op 5 (.op 6 (.op 7 (.ef 8 [] (.op 9 .nil)))))))))) (by kernel_rfl) (by kernel_rfl) ?_)
    | refine FW_alt ?_ ?_
    | refine FW_efn rfl rfl rfl rfl rfl ?_ ?_
    | refine KJ_flow ?_ ?_
    | exact Rech.nil
    | fail)
    all_goals refine KJ_again ⟨(i + 1, tm, r2), hlt, hT.symm, hI2, hr2l⟩ (by show L.length - (i + 1) < L.length - i; omega) xB (xN)
theorem Ct.noP' {P : Program} {W : World} {f : FuncId} {args : List Value} {X : Type} {r : X → Value} (h : Ct P W f args [noP] r (fun _ => [noP])) : Ct P W f args [] r (fun _ => []) :=
  ⟨fun R w s => (h.go R w (s.mono noP_star)).mono fun _ _ ⟨x, he, hs⟩ => ⟨x, he, hs.right (A := [noP])⟩⟩
theorem sum19_law (hE : ErrsAt W F) (hN : NibAt W) (hg : gB ≤ W.heap.size) (a : Option Addr) (c : Nat) (L : List PayR) (hL : Lv W payC 3 noP a L) (hl : L.length ≤ 1048576) (hc : L.length ≤ c) (hacc : ∀ p ∈ L, p.acc.length ≤ 1099511627776) (span0 most0 : Int) (hm0 : most0 ≤ 9223372036854775807) :
    Ct Tryz.prog W 3 [.int .i64 span0, .int .i64 most0, .slice a L.length c] [] (fun _ : Unit => .bool true) (fun _ => []) := (sum19_ct hE hN hg noP a c L hL hl hc hacc span0 most0 hm0).noP'
end
end Go.Proofs.YtnbgcimalpdfoaaGreatDoor
