/-
  WpS1.
-/
import Derived.Test.YtnbgcimalpdfoaaGreatDoorPET
import Derived.Test.YtnbgcimalpdfoaaGreatDoorPEV
import Derived.Test.YtnbgcimalpdfoaaGreatDoorPEW
import Derived.Test.YtnbgcimalpdfoaaGreatDoorPEN
/-
  WindowsPlays (chapter 19).
-/
namespace Go.Proofs.YtnbgcimalpdfoaaGreatDoor
open Go Go.RowKit
/-- a call of the script -/
structure WOp where
  kind : Int
  acc : List UInt8
  now : Int
  span : Int
  most : Int
  amt : Int
  row : List UInt8
def wopC (p : WOp) : List Value := [.int .i64 p.kind, strV p.acc, .int .i64 p.now, .int .i64 p.span, .int .i64 p.most, .int .i64 p.amt, strV p.row]
theorem wop_ok : EncOk wopC 7 := ⟨fun _ => rfl, fun x => by unfold wopC; exact xO, by omega⟩
/-- the program's rows and the law's agree -/
structure WpI (r L : Rows) (n : Nat) : Prop where
  ris : RisR r
  agree : ∀ a, lk r (wKey a) = lk L a
  lr : r.length ≤ n
  ll : L.length ≤ n
theorem WpI.up {r L : Rows} {n : Nat} (h : WpI r L n) : WpI r L (n + 1) := ⟨h.ris, h.agree, Nat.le_succ_of_le h.lr, Nat.le_succ_of_le h.ll⟩
theorem WpI.put {r L : Rows} {n : Nat} (h : WpI r L n) (a v : List UInt8) : WpI (putR r (wKey a) v) (putL L a v) (n + 1) := by
  refine ⟨putR_ris h.ris _ _, fun b => ?_, ?_, ?_⟩
  · rw [lk_putR h.ris, lk_putL, h.agree]
    by_cases e : b = a
    · rw [if_pos e, if_pos (by rw [e])]
    · rw [if_neg e, if_neg (fun q => e (wKey_inj q))]
  · have := putR_len r (wKey a) v
    have := h.lr
    omega
  · have := putL_len L a v
    have := h.ll
    omega
section
variable {W : World} {F : Nat → Addr} {t m : Nat} {r : Rows} {ended : Bool} {acc : List UInt8} {now span most amount : Int}
/-- Take where it is refused by the row -/
theorem qtake_no (hE : ErrsOn L37 W F) (ha : acc.length ≤ 1099511627776) (hn : now ≤ 9223372036854775807) (hm : most ≤ 9223372036854775807) (h : takeR (lk (seenR r ended) (wKey acc)) now span most amount = none) :
    Ct Tryz.prog W 14 [.pointer (some ⟨t, 0, none⟩), strV acc, .int .i64 now, .int .i64 span, .int .i64 most, .int .i64 amount] [TxQ t r ended m] (fun _ : Unit => errV F (takeE (lk (seenR r ended) (wKey acc)) now span most amount)) (fun _ => [TxQ t r ended m]) :=
  witake_no (W := W) hE ha hn hm (txgetQ (W := W) (t := t) (m := m) (r := r) (ended := ended) (wKey acc)) h
/-- Take that books -/
theorem qtake_yes (ha : acc.length ≤ 1099511627776) (hn : now ≤ 9223372036854775807) (hm : most ≤ 9223372036854775807) (hl : r.length ≤ 288230376151711744) (hu : (m + 1) * 8 ≤ 140737488355328) {v : List UInt8} (h : takeR (lk r (wKey acc)) now span most amount = some v) :
    Ct Tryz.prog W 14 [.pointer (some ⟨t, 0, none⟩), strV acc, .int .i64 now, .int .i64 span, .int .i64 most, .int .i64 amount] [TxQ t r false m] (fun _ : Unit => .nilIface) (fun _ => [TxQ t (putR r (wKey acc) v) false (m + 1)]) :=
  witake_yes (W := W) ha hn hm (txgetQ (W := W) (t := t) (m := m) (r := r) (ended := false) (wKey acc)) h (txputQ (W := W) (wKey acc) v hl hu)
/-- Take that would book, of a transaction that has ended -/
theorem qtake_end (hE : ErrsOn L37 W F) (ha : acc.length ≤ 1099511627776) (hn : now ≤ 9223372036854775807) (hm : most ≤ 9223372036854775807) {v : List UInt8} (h : takeR (lk (seenR r true) (wKey acc)) now span most amount = some v) :
    Ct Tryz.prog W 14 [.pointer (some ⟨t, 0, none⟩), strV acc, .int .i64 now, .int .i64 span, .int .i64 most, .int .i64 amount] [TxQ t r true m] (fun _ : Unit => errV F 19) (fun _ => [TxQ t r true m]) :=
  witake_yes (W := W) ha hn hm (txgetQ (W := W) (t := t) (m := m) (r := r) (ended := true) (wKey acc)) h (txputQ_end (W := W) hE (wKey acc) v)
set_option maxHeartbeats 16000000 in
theorem plays19_ct (hE : ErrsAt W F) (hN : NibAt W) (hg : gB ≤ W.heap.size) (A : SP) (a : Option Addr) (c : Nat) (S : List WOp) (hS : Lv W wopC 7 A a S) (hl : S.length ≤ 1048576) (hb : ∀ p ∈ S, p.acc.length ≤ 1099511627776 ∧ p.now ≤ 9223372036854775807 ∧ p.most ≤ 9223372036854775807) :
    Ct Tryz.prog W 4 [.slice a S.length c] [A] (fun _ : Unit => .bool true) (fun _ => [A]) := by
  have cF := fixed19_ct hE hN hg
  have cb := begun_ct (W := W) hE hN hg
  have cN := fun k (h : k ≤ 37) => numA_ct hE hg k h
  refine Ct.enter Tryz.func4 rfl Tryz.ntmps4 (by simp) (fun R => ?_)
  repeat' (first 
    | (refine is_call ?_; first | (refine KJ_call xE cb xP rfl (fun t => ?_)) | (refine KJ_call xE cF xP rfl (fun _ => ?_)))
    | refine xst ?_
    | (refine xsa ?_; intro _)
    | (refine xsb ?_ ?_ <;> intro _ <;> first | (exfalso; omega) | skip)
    | refine xsc ?_
    | (refine KJ_draws (id := 28) (.op 0 (.op 1 (.op 2 (.op 3 (.op 4 (.op 5 (.op 6 (.op 8 (.op 9 (.op 10 (.op 11 (.op 12 (.op 13 (.ef 7 [13, 12, 11, 10, 9, 8] (.ef 14 [] (.op 15 .nil)))))))))))))))) (by kernel_rfl) (by kernel_rfl) ?_)
    | refine FW_alt ?_ ?_
    | refine FW_efn rfl rfl rfl rfl rfl ?_ ?_
    | refine KJ_flow ?_ ?_
    | exact Rech.nil
    | fail)
  refine KJ.nilrow 89 2 ?_
  refine KJ_loop (fun x : {x : Nat × Rows × Rows × Bool × Option Addr × Nat × Nat // x.1 ≤ S.length ∧ WpI x.2.1 x.2.2.1 x.1 ∧ x.2.2.2.2.2.2 ≤ x.1} => [(3, .pointer (some ⟨t, 0, none⟩)), (4, .slice x.1.2.2.2.2.1 x.1.2.2.1.length x.1.2.2.2.2.2.1), (5, .bool x.1.2.2.2.1), (24, .slice a S.length c), (25, .int .i64 (S.length : Nat)), (26, .int .i64 (x.1.1 : Nat))])
    (fun x => [A, TxQ t x.1.2.1 x.1.2.2.2.1 x.1.2.2.2.2.2.2, lsP rC 89 2 (.slice x.1.2.2.2.2.1 x.1.2.2.1.length x.1.2.2.2.2.2.1) x.1.2.2.1] ++ R) (fun x => S.length - x.1.1) ⟨(0, [], [], false, none, 0, 0), Nat.zero_le _, ⟨List.Pairwise.nil, fun _ => rfl, Nat.le_refl _, Nat.le_refl _⟩, Nat.le_refl _⟩ xB (xN) (fun ⟨(i, r, L, ended, oa, oc, m), hi, hI, hm⟩ => ?_)
  dsimp only at hi hI hm ⊢
  by_cases hlt : i < S.length
  rotate_left
  · have ql : decide ((i : Int) < (S.length : Nat)) = false := decide_eq_false (by omega)
    repeat' (first 
    | (refine ek_lss ?_; refine EK_ev (Ev_lssI_q rfl rfl ql) ?_)
    | refine xst ?_
    | (refine xsa ?_; intro _)
    | (refine xsb ?_ ?_ <;> intro _ <;> first | (exfalso; omega) | skip)
    | refine xsc ?_
    | (refine KJ_draws (id := 28) (.op 0 (.op 1 (.op 2 (.op 3 (.op 4 (.op 5 (.op 6 (.op 8 (.op 9 (.op 10 (.op 11 (.op 12 (.op 13 (.ef 7 [13, 12, 11, 10, 9, 8] (.ef 14 [] (.op 15 .nil)))))))))))))))) (by kernel_rfl) (by kernel_rfl) ?_)
    | refine FW_alt ?_ ?_
    | refine FW_efn rfl rfl rfl rfl rfl ?_ ?_
    | refine KJ_flow ?_ ?_
    | exact Rech.nil
    | fail)
    all_goals (exact xdn ())
  have ql : decide ((i : Int) < (S.length : Nat)) = true := decide_eq_true (by omega)
  obtain ⟨p, hp⟩ : ∃ s, S[i]? = some s := ⟨_, List.getElem?_eq_getElem hlt⟩
  obtain ⟨ha, hn, hmo⟩ := hb p (List.mem_of_getElem? hp)
  have hlr := hI.lr
  have hll := hI.ll
  refine KJ.lvSome hS xS (by omega) (fun b of hab => ?_)
  subst hab
  have hoff : of + Int.toNat (i : Int) * 7 = of + i * 7 := by simp
  have cFi := find19_ct (W := W) (lsP rC 89 2 (.slice oa L.length oc) L) oa oc L (Lv.own rC_ok rfl) (by omega) p.acc
  have cK1 := dkey19_ct (W := W) p.acc ha
  have cK2 := wikey_ct (W := W) p.acc ha
  obtain ⟨key, hkey⟩ : ∃ k, k = wKey p.acc := ⟨_, rfl⟩
  rw [← hkey] at cK1 cK2
  obtain ⟨o, ho⟩ : ∃ o, o = lk (seenR r ended) (wKey p.acc) := ⟨_, rfl⟩
  have hsee : o = bif ended then none else lk L p.acc := by
    rw [ho]
    cases ended with
    | true => rfl
    | false => exact hI.agree p.acc
  apply KJ_rest (fun Kc => ∀ g, KJ W 163 Kc [(3, .pointer (some ⟨t, 0, none⟩)), (4, .slice oa L.length oc), (5, .bool ended), (7, .pointer (some ⟨g, 0, none⟩)), (8, strV (o.getD [])), (9, .bool o.isSome), (10, strV key), (24, .slice (some ⟨b, of, none⟩) S.length c), (25, .int .i64 (S.length : Nat)), (26, .int .i64 (i : Nat))]
    ([A, TxQ t r ended m, lsP rC 89 2 (.slice oa L.length oc) L, cellsP g (wopC p) 39] ++ R))
  · intro rest
    cases ended with
    | true =>
      have ho2 : o = none := hsee
      subst ho2
      repeat' (first 
    | (refine at_seq_region (id := 17) ?_; exact KJ.weak (rest _) xB (xN))
    | (refine is_alloc ?_; refine KJ_alloc rfl (fun g => ?_))
    | (refine is_call ?_; first | (refine KJ_call xE cK2 xP rfl (fun _ => ?_)) | (refine KJ_call xE cK1 xP rfl (fun _ => ?_)) | (refine KJ_call xE cFi xP rfl (fun _ => ?_)))
    | (refine ek_load ?_; refine EK_ev (Ev_loadLv wop_ok hS rfl rfl xS hoff hp) ?_)
    | (refine ek_neq ?_; refine EK_ev (Ev_neqS_f rfl rfl rfl) ?_)
    | (refine ek_lss ?_; refine EK_ev (Ev_lssI_q rfl rfl ql) ?_)
    | refine xst ?_
    | (refine xsa ?_; intro _)
    | (refine xsb ?_ ?_ <;> intro _ <;> first | (exfalso; omega) | skip)
    | refine xsc ?_
    | (refine KJ_draws (id := 28) (.op 0 (.op 1 (.op 2 (.op 3 (.op 4 (.op 5 (.op 6 (.op 8 (.op 9 (.op 10 (.op 11 (.op 12 (.op 13 (.ef 7 [13, 12, 11, 10, 9, 8] (.ef 14 [] (.op 15 .nil)))))))))))))))) (by kernel_rfl) (by kernel_rfl) ?_)
    | refine FW_alt ?_ ?_
    | refine FW_efn rfl rfl rfl rfl rfl ?_ ?_
    | refine KJ_flow ?_ ?_
    | exact Rech.nil
    | fail)
    | false =>
      have ho2 : o = lk L p.acc := hsee
      rw [← ho2] at cFi
      repeat' (first 
    | (refine at_seq_region (id := 17) ?_; exact KJ.weak (rest _) xB (xN))
    | (refine is_alloc ?_; refine KJ_alloc rfl (fun g => ?_))
    | (refine is_call ?_; first | (refine KJ_call xE cK2 xP rfl (fun _ => ?_)) | (refine KJ_call xE cK1 xP rfl (fun _ => ?_)) | (refine KJ_call xE cFi xP rfl (fun _ => ?_)))
    | (refine ek_load ?_; refine EK_ev (Ev_loadLv wop_ok hS rfl rfl xS hoff hp) ?_)
    | (refine ek_neq ?_; refine EK_ev (Ev_neqS_f rfl rfl rfl) ?_)
    | (refine ek_lss ?_; refine EK_ev (Ev_lssI_q rfl rfl ql) ?_)
    | refine xst ?_
    | (refine xsa ?_; intro _)
    | (refine xsb ?_ ?_ <;> intro _ <;> first | (exfalso; omega) | skip)
    | refine xsc ?_
    | (refine KJ_draws (id := 28) (.op 0 (.op 1 (.op 2 (.op 3 (.op 4 (.op 5 (.op 6 (.op 8 (.op 9 (.op 10 (.op 11 (.op 12 (.op 13 (.ef 7 [13, 12, 11, 10, 9, 8] (.ef 14 [] (.op 15 .nil)))))))))))))))) (by kernel_rfl) (by kernel_rfl) ?_)
    | refine FW_alt ?_ ?_
    | refine FW_efn rfl rfl rfl rfl rfl ?_ ?_
    | refine KJ_flow ?_ ?_
    | exact Rech.nil
    | fail)
  intro g
  clear cFi cK1 cK2 cF cb hoff
  apply KJ_rest (fun Kc => ∀ (r' L' : Rows) (e' : Bool) (oa' : Option Addr) (oc' m' : Nat), WpI r' L' (i + 1) → m' ≤ i + 1 → KJ W 163 Kc [(3, .pointer (some ⟨t, 0, none⟩)), (4, .slice oa' L'.length oc'), (5, .bool e'), (7, .pointer (some ⟨g, 0, none⟩)), (10, strV key), (24, .slice (some ⟨b, of, none⟩) S.length c), (25, .int .i64 (S.length : Nat)), (26, .int .i64 (i : Nat))]
    ([A, TxQ t r' e' m', lsP rC 89 2 (.slice oa' L'.length oc') L', cellsP g (wopC p) 39] ++ R))
  · intro rest
    have same := rest r L ended oa oc m hI.up (by omega)
    by_cases k1 : p.kind = 1
    · have e1 : decide (p.kind = 1) = true := decide_eq_true k1
      have cD := dtake19_ct (W := W) (o := o) (span := p.span) (amount := p.amt) hn hmo
      have hle := takeE_le o p.now p.span p.most p.amt
      cases h : takeR o p.now p.span p.most p.amt with
      | none =>
        rw [takeV_none h] at cD
        have cT := qtake_no (W := W) (F := F) (t := t) (m := m) (r := r) (ended := ended) hE.all ha hn hmo (by rw [← ho]; exact h)
        rw [← ho] at cT
        obtain ⟨e, he⟩ : ∃ e, e = takeE o p.now p.span p.most p.amt := ⟨_, rfl⟩
        rw [← he] at cT cD hle
        have cNe := cN e hle
        have qn : decide (((e : Nat) : Int) ≠ ((e : Nat) : Int)) = false := decide_eq_false (by simp)
        clear h he
        by_cases h0 : e = 0
        · have q0 : decide (((e : Nat) : Int) = 0) = true := decide_eq_true (by omega)
          repeat' (first 
    | (refine at_seq_region (id := 38) ?_; exact KJ.weak same xB (xN))
    | (refine is_call ?_; first | (refine KJ_call xE cT xP rfl (fun _ => ?_)) | (refine KJ_call xE cD xP rfl (fun _ => ?_)) | (refine KJ_call xE cNe xP rfl (fun _ => ?_)))
    | (refine ek_eql ?_; first | refine EK_ev (Ev_eqlI_q rfl rfl e1) ?_ | refine EK_ev (Ev_eqlI_q rfl rfl q0) ?_)
    | (refine ek_neq ?_; refine EK_ev (Ev_neqI_q rfl rfl qn) ?_)
    | refine xst ?_
    | (refine xsa ?_; intro _)
    | (refine xsb ?_ ?_ <;> intro _ <;> first | (exfalso; omega) | skip)
    | refine xsc ?_
    | (refine KJ_draws (id := 28) (.op 0 (.op 1 (.op 2 (.op 3 (.op 4 (.op 5 (.op 6 (.op 8 (.op 9 (.op 10 (.op 11 (.op 12 (.op 13 (.ef 7 [13, 12, 11, 10, 9, 8] (.ef 14 [] (.op 15 .nil)))))))))))))))) (by kernel_rfl) (by kernel_rfl) ?_)
    | refine FW_alt ?_ ?_
    | refine FW_efn rfl rfl rfl rfl rfl ?_ ?_
    | refine KJ_flow ?_ ?_
    | exact Rech.nil
    | fail)
        · have q0 : decide (((e : Nat) : Int) = 0) = false := decide_eq_false (by omega)
          repeat' (first 
    | (refine at_seq_region (id := 38) ?_; exact KJ.weak same xB (xN))
    | (refine is_call ?_; first | (refine KJ_call xE cT xP rfl (fun _ => ?_)) | (refine KJ_call xE cD xP rfl (fun _ => ?_)) | (refine KJ_call xE cNe xP rfl (fun _ => ?_)))
    | (refine ek_eql ?_; first | refine EK_ev (Ev_eqlI_q rfl rfl e1) ?_ | refine EK_ev (Ev_eqlI_q rfl rfl q0) ?_)
    | (refine ek_neq ?_; refine EK_ev (Ev_neqI_q rfl rfl qn) ?_)
    | refine xst ?_
    | (refine xsa ?_; intro _)
    | (refine xsb ?_ ?_ <;> intro _ <;> first | (exfalso; omega) | skip)
    | refine xsc ?_
    | (refine KJ_draws (id := 28) (.op 0 (.op 1 (.op 2 (.op 3 (.op 4 (.op 5 (.op 6 (.op 8 (.op 9 (.op 10 (.op 11 (.op 12 (.op 13 (.ef 7 [13, 12, 11, 10, 9, 8] (.ef 14 [] (.op 15 .nil)))))))))))))))) (by kernel_rfl) (by kernel_rfl) ?_)
    | refine FW_alt ?_ ?_
    | refine FW_efn rfl rfl rfl rfl rfl ?_ ?_
    | refine KJ_flow ?_ ?_
    | exact Rech.nil
    | fail)
      | some v =>
        rw [takeV_some h] at cD
        cases ended with
        | true =>
          have cT := qtake_end (W := W) (F := F) (t := t) (m := m) (r := r) hE.all ha hn hmo (by rw [← ho]; exact h)
          have cNe := cN 19 (by omega)
          clear h
          repeat' (first 
    | (refine at_seq_region (id := 38) ?_; exact KJ.weak same xB (xN))
    | (refine is_call ?_; first | (refine KJ_call xE cT xP rfl (fun _ => ?_)) | (refine KJ_call xE cD xP rfl (fun _ => ?_)) | (refine KJ_call xE cNe xP rfl (fun _ => ?_)))
    | (refine ek_eql ?_; first | refine EK_ev (Ev_eqlI_q rfl rfl e1) ?_ | refine EK_ev (Ev_eqlI_q (q := true) rfl rfl rfl) ?_ | refine EK_ev (Ev_eqlI_q (q := false) rfl rfl rfl) ?_)
    | (refine ek_neq ?_; refine EK_ev (Ev_neqI_q (q := false) rfl rfl rfl) ?_)
    | refine xst ?_
    | (refine xsa ?_; intro _)
    | (refine xsb ?_ ?_ <;> intro _ <;> first | (exfalso; omega) | skip)
    | refine xsc ?_
    | (refine KJ_draws (id := 28) (.op 0 (.op 1 (.op 2 (.op 3 (.op 4 (.op 5 (.op 6 (.op 8 (.op 9 (.op 10 (.op 11 (.op 12 (.op 13 (.ef 7 [13, 12, 11, 10, 9, 8] (.ef 14 [] (.op 15 .nil)))))))))))))))) (by kernel_rfl) (by kernel_rfl) ?_)
    | refine FW_alt ?_ ?_
    | refine FW_efn rfl rfl rfl rfl rfl ?_ ?_
    | refine KJ_flow ?_ ?_
    | exact Rech.nil
    | fail)
        | false =>
          have cT := qtake_yes (W := W) (t := t) (m := m) (r := r) (acc := p.acc) (span := p.span) (amount := p.amt) ha hn hmo (by omega) (by omega) (v := v) (by rw [show lk r (wKey p.acc) = o from ho.symm]; exact h)
          have cNe := cN 0 (by omega)
          have cP := put19_ct (W := W) (lsP rC 89 2 (.slice oa L.length oc) L) oa oc L (Lv.own rC_ok rfl) (by omega) p.acc v
          have rest2 := fun oa' oc' => rest (putR r (wKey p.acc) v) (putL L p.acc v) false oa' oc' (m + 1) (hI.put p.acc v) (by omega)
          obtain ⟨L2, hL2⟩ : ∃ x, x = putL L p.acc v := ⟨_, rfl⟩
          obtain ⟨r2, hr2⟩ : ∃ x, x = putR r (wKey p.acc) v := ⟨_, rfl⟩
          rw [← hL2] at cP
          rw [← hr2] at cT
          rw [← hL2, ← hr2] at rest2
          clear h same
          repeat' (first 
    | (refine at_seq_region (id := 38) ?_; exact KJ.weak (rest2 _ _) xB (xN))
    | (refine is_call ?_; first | (refine KJ_call xE cT xP rfl (fun _ => ?_)) | (refine KJ_call xE cD xP rfl (fun _ => ?_)) | (refine KJ_call xE cP xP rfl (fun x => ?_); obtain ⟨oa2, oc2⟩ := x) | (refine KJ_call xE cNe xP rfl (fun _ => ?_)))
    | (refine ek_eql ?_; first | refine EK_ev (Ev_eqlI_q rfl rfl e1) ?_ | refine EK_ev (Ev_eqlI_q (q := true) rfl rfl rfl) ?_)
    | (refine ek_neq ?_; refine EK_ev (Ev_neqI_q (q := false) rfl rfl rfl) ?_)
    | refine xst ?_
    | (refine xsa ?_; intro _)
    | (refine xsb ?_ ?_ <;> intro _ <;> first | (exfalso; omega) | skip)
    | refine xsc ?_
    | (refine KJ_draws (id := 28) (.op 0 (.op 1 (.op 2 (.op 3 (.op 4 (.op 5 (.op 6 (.op 8 (.op 9 (.op 10 (.op 11 (.op 12 (.op 13 (.ef 7 [13, 12, 11, 10, 9, 8] (.ef 14 [] (.op 15 .nil)))))))))))))))) (by kernel_rfl) (by kernel_rfl) ?_)
    | refine FW_alt ?_ ?_
    | refine FW_efn rfl rfl rfl rfl rfl ?_ ?_
    | refine KJ_flow ?_ ?_
    | exact Rech.nil
    | fail)
    have e1 : decide (p.kind = 1) = false := decide_eq_false k1
    by_cases k2 : p.kind = 2
    · have e2 : decide (p.kind = 2) = true := decide_eq_true k2
      have cD := dused19_ct (W := W) (o := o) (span := p.span) hn
      have cU := qused_ct (W := W) (t := t) (m := m) (r := r) (ended := ended) (span := p.span) ha hn
      rw [← ho] at cU
      obtain ⟨u, hu⟩ : ∃ u, u = usedW o p.now p.span := ⟨_, rfl⟩
      rw [← hu] at cD cU
      clear hu
      have qn : decide (u ≠ u) = false := decide_eq_false (by simp)
      repeat' (first 
    | (refine at_seq_region (id := 38) ?_; exact KJ.weak same xB (xN))
    | (refine is_call ?_; first | (refine KJ_call xE cU xP rfl (fun _ => ?_)) | (refine KJ_call xE cD xP rfl (fun _ => ?_)))
    | (refine ek_eql ?_; first | refine EK_ev (Ev_eqlI_q rfl rfl e2) ?_ | refine EK_ev (Ev_eqlI_q rfl rfl e1) ?_)
    | (refine ek_neq ?_; refine EK_ev (Ev_neqI_q rfl rfl qn) ?_)
    | refine xst ?_
    | (refine xsa ?_; intro _)
    | (refine xsb ?_ ?_ <;> intro _ <;> first | (exfalso; omega) | skip)
    | refine xsc ?_
    | (refine KJ_draws (id := 28) (.op 0 (.op 1 (.op 2 (.op 3 (.op 4 (.op 5 (.op 6 (.op 8 (.op 9 (.op 10 (.op 11 (.op 12 (.op 13 (.ef 7 [13, 12, 11, 10, 9, 8] (.ef 14 [] (.op 15 .nil)))))))))))))))) (by kernel_rfl) (by kernel_rfl) ?_)
    | refine FW_alt ?_ ?_
    | refine FW_efn rfl rfl rfl rfl rfl ?_ ?_
    | refine KJ_flow ?_ ?_
    | exact Rech.nil
    | fail)
    have e2 : decide (p.kind = 2) = false := decide_eq_false k2
    by_cases k3 : p.kind = 3
    · have e3 : decide (p.kind = 3) = true := decide_eq_true k3
      cases ended with
      | true =>
        repeat' (first 
    | (refine at_seq_region (id := 38) ?_; exact KJ.weak same xB (xN))
    | (refine ek_eql ?_; first | refine EK_ev (Ev_eqlI_q rfl rfl e3) ?_ | refine EK_ev (Ev_eqlI_q rfl rfl e2) ?_ | refine EK_ev (Ev_eqlI_q rfl rfl e1) ?_)
    | refine xst ?_
    | (refine xsa ?_; intro _)
    | (refine xsb ?_ ?_ <;> intro _ <;> first | (exfalso; omega) | skip)
    | refine xsc ?_
    | (refine KJ_draws (id := 28) (.op 0 (.op 1 (.op 2 (.op 3 (.op 4 (.op 5 (.op 6 (.op 8 (.op 9 (.op 10 (.op 11 (.op 12 (.op 13 (.ef 7 [13, 12, 11, 10, 9, 8] (.ef 14 [] (.op 15 .nil)))))))))))))))) (by kernel_rfl) (by kernel_rfl) ?_)
    | refine FW_alt ?_ ?_
    | refine FW_efn rfl rfl rfl rfl rfl ?_ ?_
    | refine KJ_flow ?_ ?_
    | exact Rech.nil
    | fail)
      | false =>
        have cT := txputQ (W := W) (t := t) (m := m) (r := r) key p.row (by omega) (by omega)
        have cP := put19_ct (W := W) (lsP rC 89 2 (.slice oa L.length oc) L) oa oc L (Lv.own rC_ok rfl) (by omega) p.acc p.row
        have rest2 := fun oa' oc' => rest (putR r (wKey p.acc) p.row) (putL L p.acc p.row) false oa' oc' (m + 1) (hI.put p.acc p.row) (by omega)
        rw [← hkey] at rest2
        obtain ⟨L2, hL2⟩ : ∃ x, x = putL L p.acc p.row := ⟨_, rfl⟩
        obtain ⟨r2, hr2⟩ : ∃ x, x = putR r key p.row := ⟨_, rfl⟩
        rw [← hL2] at cP
        rw [← hr2] at cT
        rw [← hL2, ← hr2] at rest2
        clear same
        repeat' (first 
    | (refine at_seq_region (id := 38) ?_; exact KJ.weak (rest2 _ _) xB (xN))
    | (refine is_call ?_; first | (refine KJ_call xE cT xP rfl (fun _ => ?_)) | (refine KJ_call xE cP xP rfl (fun x => ?_); obtain ⟨oa2, oc2⟩ := x))
    | (refine ek_eql ?_; first | refine EK_ev (Ev_eqlI_q rfl rfl e3) ?_ | refine EK_ev (Ev_eqlI_q rfl rfl e2) ?_ | refine EK_ev (Ev_eqlI_q rfl rfl e1) ?_)
    | refine xst ?_
    | (refine xsa ?_; intro _)
    | (refine xsb ?_ ?_ <;> intro _ <;> first | (exfalso; omega) | skip)
    | refine xsc ?_
    | (refine KJ_draws (id := 28) (.op 0 (.op 1 (.op 2 (.op 3 (.op 4 (.op 5 (.op 6 (.op 8 (.op 9 (.op 10 (.op 11 (.op 12 (.op 13 (.ef 7 [13, 12, 11, 10, 9, 8] (.ef 14 [] (.op 15 .nil)))))))))))))))) (by kernel_rfl) (by kernel_rfl) ?_)
    | refine FW_alt ?_ ?_
    | refine FW_efn rfl rfl rfl rfl rfl ?_ ?_
    | refine KJ_flow ?_ ?_
    | exact Rech.nil
    | fail)
    have e3 : decide (p.kind = 3) = false := decide_eq_false k3
    by_cases k4 : p.kind = 4
    · have e4 : decide (p.kind = 4) = true := decide_eq_true k4
      have cT := txdropQ (W := W) (t := t) (m := m) (r := r) (ended := ended)
      have rest2 := rest r L true oa oc m hI.up (by omega)
      clear same
      repeat' (first 
    | (refine at_seq_region (id := 38) ?_; exact KJ.weak rest2 xB (xN))
    | (refine is_call ?_; refine KJ_call xE cT xP rfl (fun _ => ?_))
    | (refine ek_eql ?_; first | refine EK_ev (Ev_eqlI_q rfl rfl e4) ?_ | refine EK_ev (Ev_eqlI_q rfl rfl e3) ?_ | refine EK_ev (Ev_eqlI_q rfl rfl e2) ?_ | refine EK_ev (Ev_eqlI_q rfl rfl e1) ?_)
    | refine xst ?_
    | (refine xsa ?_; intro _)
    | (refine xsb ?_ ?_ <;> intro _ <;> first | (exfalso; omega) | skip)
    | refine xsc ?_
    | (refine KJ_draws (id := 28) (.op 0 (.op 1 (.op 2 (.op 3 (.op 4 (.op 5 (.op 6 (.op 8 (.op 9 (.op 10 (.op 11 (.op 12 (.op 13 (.ef 7 [13, 12, 11, 10, 9, 8] (.ef 14 [] (.op 15 .nil)))))))))))))))) (by kernel_rfl) (by kernel_rfl) ?_)
    | refine FW_alt ?_ ?_
    | refine FW_efn rfl rfl rfl rfl rfl ?_ ?_
    | refine KJ_flow ?_ ?_
    | exact Rech.nil
    | fail)
    have e4 : decide (p.kind = 4) = false := decide_eq_false k4
    repeat' (first 
    | (refine at_seq_region (id := 38) ?_; exact KJ.weak same xB (xN))
    | (refine ek_eql ?_; first | refine EK_ev (Ev_eqlI_q rfl rfl e4) ?_ | refine EK_ev (Ev_eqlI_q rfl rfl e3) ?_ | refine EK_ev (Ev_eqlI_q rfl rfl e2) ?_ | refine EK_ev (Ev_eqlI_q rfl rfl e1) ?_)
    | refine xst ?_
    | (refine xsa ?_; intro _)
    | (refine xsb ?_ ?_ <;> intro _ <;> first | (exfalso; omega) | skip)
    | refine xsc ?_
    | (refine KJ_draws (id := 28) (.op 0 (.op 1 (.op 2 (.op 3 (.op 4 (.op 5 (.op 6 (.op 8 (.op 9 (.op 10 (.op 11 (.op 12 (.op 13 (.ef 7 [13, 12, 11, 10, 9, 8] (.ef 14 [] (.op 15 .nil)))))))))))))))) (by kernel_rfl) (by kernel_rfl) ?_)
    | refine FW_alt ?_ ?_
    | refine FW_efn rfl rfl rfl rfl rfl ?_ ?_
    | refine KJ_flow ?_ ?_
    | exact Rech.nil
    | fail)
  intro r' L' e' oa' oc' m' hI' hm'
  clear hsee ho hlr hll
  have hll := hI'.ll
  have cFi := find19_ct (W := W) (lsP rC 89 2 (.slice oa' L'.length oc') L') oa' oc' L' (Lv.own rC_ok rfl) (by omega) p.acc
  have cG := txgetQ (W := W) (t := t) (m := m') (r := r') (ended := e') key
  cases e' with
  | true =>
    repeat' (first 
    | (refine is_call ?_; first | (refine KJ_call xE cG xP rfl (fun _ => ?_)) | (refine KJ_call xE cFi xP rfl (fun _ => ?_)))
    | (refine ek_add ?_; refine EK_ev (Ev_addI_v (r := ((i + 1 : Nat) : Int)) rfl rfl (by omega) (by omega)) ?_)
    | refine xst ?_
    | (refine xsa ?_; intro _)
    | (refine xsb ?_ ?_ <;> intro _ <;> first | (exfalso; omega) | skip)
    | refine xsc ?_
    | (refine KJ_draws (id := 28) (.op 0 (.op 1 (.op 2 (.op 3 (.op 4 (.op 5 (.op 6 (.op 8 (.op 9 (.op 10 (.op 11 (.op 12 (.op 13 (.ef 7 [13, 12, 11, 10, 9, 8] (.ef 14 [] (.op 15 .nil)))))))))))))))) (by kernel_rfl) (by kernel_rfl) ?_)
    | refine FW_alt ?_ ?_
    | refine FW_efn rfl rfl rfl rfl rfl ?_ ?_
    | refine KJ_flow ?_ ?_
    | exact Rech.nil
    | fail)
    all_goals refine KJ_again ⟨(i + 1, r', L', true, oa', oc', m'), hlt, hI', hm'⟩ (by show S.length - (i + 1) < S.length - i; omega) xB (xN)
  | false =>
    rw [show lk (seenR r' false) key = lk L' p.acc by rw [hkey]; exact hI'.agree p.acc] at cG
    obtain ⟨w, hw⟩ : ∃ w, w = (lk L' p.acc).getD [] := ⟨_, rfl⟩
    obtain ⟨th, hth⟩ : ∃ w, w = (lk L' p.acc).isSome := ⟨_, rfl⟩
    rw [← hw, ← hth] at cG cFi
    have qb : (th != th) = false := by cases th <;> rfl
    repeat' (first 
    | (refine is_call ?_; first | (refine KJ_call xE cG xP rfl (fun _ => ?_)) | (refine KJ_call xE cFi xP rfl (fun _ => ?_)))
    | (refine ek_add ?_; refine EK_ev (Ev_addI_v (r := ((i + 1 : Nat) : Int)) rfl rfl (by omega) (by omega)) ?_)
    | (refine ek_neq ?_; first | refine EK_ev (Ev_neqS_f rfl rfl rfl) ?_ | refine EK_ev (Ev_neqBw rfl rfl qb) ?_)
    | refine xst ?_
    | (refine xsa ?_; intro _)
    | (refine xsb ?_ ?_ <;> intro _ <;> first | (exfalso; omega) | skip)
    | refine xsc ?_
    | (refine KJ_draws (id := 28) (.op 0 (.op 1 (.op 2 (.op 3 (.op 4 (.op 5 (.op 6 (.op 8 (.op 9 (.op 10 (.op 11 (.op 12 (.op 13 (.ef 7 [13, 12, 11, 10, 9, 8] (.ef 14 [] (.op 15 .nil)))))))))))))))) (by kernel_rfl) (by kernel_rfl) ?_)
    | refine FW_alt ?_ ?_
    | refine FW_efn rfl rfl rfl rfl rfl ?_ ?_
    | refine KJ_flow ?_ ?_
    | exact Rech.nil
    | fail)
    all_goals refine KJ_again ⟨(i + 1, r', L', false, oa', oc', m'), hlt, hI', hm'⟩ (by show S.length - (i + 1) < S.length - i; omega) xB (xN)
end
end Go.Proofs.YtnbgcimalpdfoaaGreatDoor
