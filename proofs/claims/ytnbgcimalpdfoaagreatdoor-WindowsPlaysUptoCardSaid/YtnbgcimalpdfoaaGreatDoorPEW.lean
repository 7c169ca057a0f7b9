/-
  WpW4.
-/
import Derived.Test.YtnbgcimalpdfoaaGreatDoorPEL
import Derived.Test.YtnbgcimalpdfoaaGreatDoorPDT
import Derived.Test.YtnbgcimalpdfoaaGreatDoorPBZ
/-
  The law of windows (chapter 19): find and put over its rows; a transaction that has ended refuses.
-/
namespace Go.Proofs.YtnbgcimalpdfoaaGreatDoor
open Go Go.RowKit
/-- the law's rows with an account's row put -/
def putL (m : Rows) (a v : List UInt8) : Rows := mdel m a ++ [(a, v)]
theorem lk_snocL {m : Rows} {a v b : List UInt8} : lk (m ++ [(a, v)]) b = match lk m b with
  | some x => some x
  | none => if a = b then some v else none := by
  induction m with
  | nil => rfl
  | cons p m ih =>
    show (if p.1 = b then some p.2 else lk (m ++ [(a, v)]) b) = _
    rw [ih]
    show _ = match (if p.1 = b then some p.2 else lk m b) with
      | some x => some x
      | none => if a = b then some v else none
    by_cases h : p.1 = b
    · rw [if_pos h, if_pos h]
    · rw [if_neg h, if_neg h]
theorem lk_mdelL {m : Rows} {a b : List UInt8} : lk (mdel m a) b = if b = a then none else lk m b := by
  induction m with
  | nil => unfold mdel; simp [lk]
  | cons p m ih =>
    unfold mdel at ih ⊢
    by_cases h : p.1 = a
    · rw [List.filter_cons_of_neg (by simp [h]), ih]
      by_cases hb : b = a
      · rw [if_pos hb, if_pos hb]
      · rw [if_neg hb, if_neg hb]
        show _ = if p.1 = b then some p.2 else lk m b
        rw [if_neg (by rw [h]; exact fun e => hb e.symm)]
    · rw [List.filter_cons_of_pos (by simp [h])]
      show (if p.1 = b then some p.2 else lk (m.filter _) b) = _
      rw [ih]
      by_cases hb : b = a
      · rw [if_pos hb, if_neg (by rw [hb]; exact h), if_pos hb]
      · rw [if_neg hb, if_neg hb]
        rfl
theorem lk_putL {m : Rows} {a v b : List UInt8} : lk (putL m a v) b = if b = a then some v else lk m b := by
  unfold putL
  rw [lk_snocL, lk_mdelL]
  by_cases hb : b = a
  · rw [if_pos hb, if_pos hb, if_pos hb.symm]
  · rw [if_neg hb, if_neg hb]
    cases lk m b with
    | none => rw [if_neg (fun e => hb e.symm)]
    | some x => rfl
theorem putL_len (m : Rows) (a v : List UInt8) : (putL m a v).length ≤ m.length + 1 := by
  unfold putL mdel
  rw [List.length_append]
  have := List.length_filter_le (fun p : List UInt8 × List UInt8 => decide (p.1 ≠ a)) m
  simp only [List.length_cons, List.length_nil]
  omega
theorem drop_lk {L : Rows} {i : Nat} {p : List UInt8 × List UInt8} {a : List UInt8} (h : L[i]? = some p) : lk (L.drop i) a = if p.1 = a then some p.2 else lk (L.drop (i + 1)) a := by
  obtain ⟨hk, hb⟩ := List.getElem?_eq_some_iff.1 h
  rw [List.drop_eq_getElem_cons hk, hb]
  rfl
theorem take_mdel {L : Rows} {i : Nat} {p : List UInt8 × List UInt8} {a : List UInt8} (h : L[i]? = some p) : mdel (L.take (i + 1)) a = if p.1 = a then mdel (L.take i) a else mdel (L.take i) a ++ [p] := by
  unfold mdel
  rw [List.take_add_one, h, List.filter_append]
  by_cases hp : p.1 = a
  · rw [if_pos hp]; simp [hp]
  · rw [if_neg hp]; simp [hp]
section
variable {W : World} {F : Nat → Addr} {t s m : Nat} {r : Rows} {K : List (List UInt8 × Bool)} {U : List UE}
theorem step_end (hE : ErrsOn L37 W F) (f : FuncId) [FnIs Tryz.prog f] (cs : List Value) (key : List UInt8) :
    Ct Tryz.prog W 68 [.pointer (some ⟨t, 0, none⟩), strV key, .func (.func f) #[] cs.toArray] [TxP t s r K U true] (fun _ : Unit => errV F 19) (fun _ => [TxP t s r K U true]) := by
  have e19 : W.cell? ⟨9, 0, none⟩ = some (errV F 19) := hE.at_ 19 (by decide)
  refine Ct.enter Tryz.func68 rfl Tryz.ntmps68 (by simp) (fun R => ?_)
  refine KJ.txOpen xS (fun x hT => ?_)
  repeat' (first 
    | (refine is_box ?_; first | (refine KJ_box (d := 4) rfl xF rfl (fun gk => ?_)) | (refine KJ_box (d := 3) rfl xF rfl (fun gt => ?_)))
    | (refine ek_load ?_; refine EK_ev (Ev_loadOld rfl e19) ?_)
    | refine xst ?_
    | (refine xsa ?_; intro _)
    | (refine xsb ?_ ?_ <;> intro _ <;> first | (exfalso; omega) | skip)
    | refine xsc ?_
    | (refine KJ_draws (id := 3) (.op 0 (.op 1 (.op 2 (.op 3 (.op 4 (.alt (.ef 5 [] (.op 6 (.op 7 (.op 8 (.alt (.ef 9 [8, 7, 6] (.ef 10 [8, 7, 6] (.ef 11 [8] (.ef 12 [] .nil)))) (.ef 10 [8, 7, 6] (.ef 9 [8, 7, 6] (.ef 11 [8] (.ef 12 [] .nil))))))))) (.alt (.ef 9 [4, 3, 2, 1, 0] (.alt (.ef 5 [] (.op 6 (.op 7 (.op 8 (.ef 10 [8, 7, 6] (.ef 11 [8] (.ef 12 [] .nil))))))) (.ef 10 [4, 3, 2, 1, 0] (.ef 5 [] (.op 6 (.op 7 (.op 8 (.ef 11 [8] (.ef 12 [] .nil))))))))) (.ef 10 [4, 3, 2, 1, 0] (.alt (.ef 5 [] (.op 6 (.op 7 (.op 8 (.ef 9 [8, 7, 6] (.ef 11 [8] (.ef 12 [] .nil))))))) (.ef 9 [4, 3, 2, 1, 0] (.ef 5 [] (.op 6 (.op 7 (.op 8 (.ef 11 [8] (.ef 12 [] .nil)))))))))))))))) (by kernel_rfl) (by kernel_rfl) ?_)
    | (refine KJ_draws (id := 4) (.op 0 (.op 1 (.op 2 (.op 3 (.op 4 (.ef 5 [] .nil)))))) (by kernel_rfl) (by kernel_rfl) ?_)
    | (refine KJ_draws (id := 5) (.op 0 (.op 1 (.op 2 (.op 3 (.op 4 (.op 5 (.ef 6 [4, 3, 2, 1, 0] (.ef 7 [0] (.op 8 (.op 9 (.ef 10 [] .nil))))))))))) (by kernel_rfl) (by kernel_rfl) ?_)
    | refine FW_alt ?_ ?_
    | refine FW_efn rfl rfl rfl rfl rfl ?_ ?_
    | refine KJ_flow ?_ ?_
    | exact Rech.nil
    | fail)
  all_goals refine KJ.txShut (s := s) (K := K) (U := U) (ended := true) x hT xP ?_
  all_goals (exact xdn ())
theorem txput_end (hE : ErrsOn L37 W F) (key val : List UInt8) :
    Ct Tryz.prog W 22 [.pointer (some ⟨t, 0, none⟩), strV key, strV val] [TxP t s r K U true] (fun _ : Unit => errV F 19) (fun _ => [TxP t s r K U true]) := by
  have cs := fun cs => step_end (W := W) (t := t) (s := s) (r := r) (K := K) (U := U) hE 69 cs key
  refine Ct.enter Tryz.func22 rfl Tryz.ntmps22 (by simp) (fun R => ?_)
  repeat' (first 
    | (refine is_box ?_; first | (refine KJ_box (d := 5) rfl xF rfl (fun g5 => ?_)) | (refine KJ_box (d := 4) rfl xF rfl (fun g4 => ?_)) | (refine KJ_box (d := 3) rfl xF rfl (fun g3 => ?_)))
    | (refine is_call ?_; refine KJ_call xE (cs [.pointer (some ⟨g3, 0, none⟩), .pointer (some ⟨g4, 0, none⟩), .pointer (some ⟨g5, 0, none⟩)]) xP rfl (fun z => ?_))
    | (refine ek_mkFunc ?_; refine EK_ev (Ev_mkFunc3 rfl rfl rfl) ?_)
    | refine xst ?_
    | (refine xsa ?_; intro _)
    | (refine xsb ?_ ?_ <;> intro _ <;> first | (exfalso; omega) | skip)
    | refine xsc ?_
    | fail)
  all_goals (exact xdn ())
theorem txputQ_end (hE : ErrsOn L37 W F) (key val : List UInt8) : Ct Tryz.prog W 22 [.pointer (some ⟨t, 0, none⟩), strV key, strV val] [TxQ t r true m] (fun _ : Unit => errV F 19) (fun _ => [TxQ t r true m]) := by
  refine Ct_unpack (Hs := []) fun ⟨(s, K, U), hU⟩ => ?_
  dsimp only at hU ⊢
  exact (txput_end (W := W) hE key val).to id (fun _ => rfl) (fun _ R g q => TxQ.star hU g q)
instance fn_find19 : FnIs Tryz.prog 16 := ⟨by kernel_rfl⟩
instance fn_put19 : FnIs Tryz.prog 20 := ⟨by kernel_rfl⟩
set_option maxHeartbeats 4000000 in
theorem find19_ct (A : SP) (a : Option Addr) (c : Nat) (L : Rows) (hL : Lv W rC 2 A a L) (hl : L.length ≤ 4611686018427387904) (acc : List UInt8) :
    Ct Tryz.prog W 16 [.slice a L.length c, strV acc] [A] (fun _ : Unit => .tuple #[strV ((lk L acc).getD []), .bool (lk L acc).isSome]) (fun _ => [A]) := by
  obtain ⟨o, ho⟩ : ∃ o, o = lk L acc := ⟨_, rfl⟩
  rw [← ho]
  refine Ct.enter Tryz.func16 rfl Tryz.ntmps16 (by simp) (fun R => ?_)
  repeat' (first 
    | refine xst ?_
    | (refine xsa ?_; intro _)
    | (refine xsb ?_ ?_ <;> intro _ <;> first | (exfalso; omega) | skip)
    | refine xsc ?_
    | fail)
  refine KJ_loop (fun x : {x : Nat // x ≤ L.length ∧ lk (L.drop x) acc = o} => [(1, strV acc), (8, .slice a L.length c), (9, .int .i64 (L.length : Nat)), (10, .int .i64 (x.1 : Nat))])
    (fun _ => [A] ++ R) (fun x => L.length - x.1) ⟨0, Nat.zero_le _, ho.symm⟩ xB (xN) (fun ⟨i, hi, hd⟩ => ?_)
  dsimp only at hi hd ⊢
  by_cases hlt : i < L.length
  rotate_left
  · have ql : decide ((i : Int) < (L.length : Nat)) = false := decide_eq_false (by omega)
    obtain rfl : i = L.length := by omega
    rw [List.drop_length] at hd
    repeat' (first 
    | (refine ek_lss ?_; refine EK_ev (Ev_lssI_q rfl rfl ql) ?_)
    | refine xst ?_
    | (refine xsa ?_; intro _)
    | (refine xsb ?_ ?_ <;> intro _ <;> first | (exfalso; omega) | skip)
    | refine xsc ?_
    | fail)
    all_goals exact xdn () (hc := by rw [← hd]; rfl)
  have ql : decide ((i : Int) < (L.length : Nat)) = true := decide_eq_true (by omega)
  obtain ⟨p, hp⟩ : ∃ s, L[i]? = some s := ⟨_, List.getElem?_eq_getElem hlt⟩
  rw [drop_lk hp] at hd
  refine KJ.lvSome hL xS (by omega) (fun b of hab => ?_)
  subst hab
  have hoff : of + Int.toNat (i : Int) * 2 = of + i * 2 := by simp
  by_cases hk : p.1 = acc
  · rw [if_pos hk] at hd
    repeat' (first 
    | (refine is_alloc ?_; refine KJ_alloc rfl (fun g => ?_))
    | (refine ek_load ?_; refine EK_ev (Ev_loadLv rC_ok hL rfl rfl xS hoff hp) ?_)
    | (refine ek_eql ?_; refine EK_ev (Ev_eqlS_t rfl rfl hk) ?_)
    | (refine ek_lss ?_; refine EK_ev (Ev_lssI_q rfl rfl ql) ?_)
    | refine xst ?_
    | (refine xsa ?_; intro _)
    | (refine xsb ?_ ?_ <;> intro _ <;> first | (exfalso; omega) | skip)
    | refine xsc ?_
    | fail)
    all_goals exact xdn () (hc := by rw [← hd]; rfl)
  · rw [if_neg hk] at hd
    repeat' (first 
    | (refine is_alloc ?_; refine KJ_alloc rfl (fun g => ?_))
    | (refine ek_load ?_; refine EK_ev (Ev_loadLv rC_ok hL rfl rfl xS hoff hp) ?_)
    | (refine ek_add ?_; refine EK_ev (Ev_addI_v (r := ((i + 1 : Nat) : Int)) rfl rfl (by omega) (by omega)) ?_)
    | (refine ek_eql ?_; refine EK_ev (Ev_eqlS_f rfl rfl hk) ?_)
    | (refine ek_lss ?_; refine EK_ev (Ev_lssI_q rfl rfl ql) ?_)
    | refine xst ?_
    | (refine xsa ?_; intro _)
    | (refine xsb ?_ ?_ <;> intro _ <;> first | (exfalso; omega) | skip)
    | refine xsc ?_
    | fail)
    all_goals refine KJ_again ⟨i + 1, hlt, hd⟩ (by show L.length - (i + 1) < L.length - i; omega) xB (xN)
set_option maxHeartbeats 4000000 in
theorem put19_ct (A : SP) (a : Option Addr) (c : Nat) (L : Rows) (hL : Lv W rC 2 A a L) (hl : L.length ≤ 1048576) (acc val : List UInt8) :
    Ct Tryz.prog W 20 [.slice a L.length c, strV acc, strV val] [A] (fun x : Option Addr × Nat => .slice x.1 (putL L acc val).length x.2) (fun x => [A, lsP rC 89 2 (.slice x.1 (putL L acc val).length x.2) (putL L acc val)]) := by
  refine Ct.enter Tryz.func20 rfl Tryz.ntmps20 (by simp) (fun R => ?_)
  repeat' (first 
    | refine xst ?_
    | (refine xsa ?_; intro _)
    | (refine xsb ?_ ?_ <;> intro _ <;> first | (exfalso; omega) | skip)
    | refine xsc ?_
    | fail)
  refine KJ.nilrow 89 2 ?_
  refine KJ_loop (fun x : {x : Nat × Rows × Option Addr × Nat // x.1 ≤ L.length ∧ x.2.1 = mdel (L.take x.1) acc} => [(1, strV acc), (2, strV val), (7, .slice x.1.2.2.1 x.1.2.1.length x.1.2.2.2), (10, .slice a L.length c), (11, .int .i64 (L.length : Nat)), (12, .int .i64 (x.1.1 : Nat))])
    (fun x => [A, lsP rC 89 2 (.slice x.1.2.2.1 x.1.2.1.length x.1.2.2.2) x.1.2.1] ++ R) (fun x => L.length - x.1.1) ⟨(0, [], none, 0), Nat.zero_le _, rfl⟩ xB (xN) (fun ⟨(i, O, oa, oc), hi, hO⟩ => ?_)
  dsimp only at hi hO ⊢
  have hOl : O.length ≤ i := by
    rw [hO]
    have := List.length_filter_le (fun p : List UInt8 × List UInt8 => decide (p.1 ≠ acc)) (L.take i)
    rw [List.length_take] at this
    unfold mdel
    omega
  have b1 : (O.length + 1) * 32 ≤ 140737488355328 := by omega
  have b2 : O.length + 1 ≤ 9223372036854775807 := by omega
  by_cases hlt : i < L.length
  rotate_left
  · have ql : decide ((i : Int) < (L.length : Nat)) = false := decide_eq_false (by omega)
    obtain rfl : i = L.length := by omega
    rw [List.take_length] at hO
    have hnx : O ++ [(acc, val)] = putL L acc val := by rw [hO]; rfl
    repeat' (first 
    | (refine is_append ?_; refine KJ_appOne (a := ((acc, val) : List UInt8 × List UInt8)) rC_ok rfl rfl rfl xS xS b1 b2 rfl (fun g' c' => ?_))
    | (refine is_bslice ?_; refine KJ_bslice1 rfl xF (by rfl) (by omega) rfl (fun gb => ?_))
    | (refine ek_build ?_; refine EK_ev (Ev_build xV xW) ?_)
    | (refine ek_lss ?_; refine EK_ev (Ev_lssI_q rfl rfl ql) ?_)
    | refine xst ?_
    | (refine xsa ?_; intro _)
    | (refine xsb ?_ ?_ <;> intro _ <;> first | (exfalso; omega) | skip)
    | refine xsc ?_
    | fail)
    all_goals exact xdn (some ⟨g', 0, none⟩, c') (hc := by rw [← hnx]; rfl) (hE := by rw [← hnx]; exact (xN))
  have ql : decide ((i : Int) < (L.length : Nat)) = true := decide_eq_true (by omega)
  obtain ⟨p, hp⟩ : ∃ s, L[i]? = some s := ⟨_, List.getElem?_eq_getElem hlt⟩
  have hnx := take_mdel (a := acc) hp
  rw [← hO] at hnx
  refine KJ.lvSome hL xS (by omega) (fun b of hab => ?_)
  subst hab
  have hoff : of + Int.toNat (i : Int) * 2 = of + i * 2 := by simp
  by_cases hk : p.1 = acc
  · rw [if_pos hk] at hnx
    repeat' (first 
    | (refine is_alloc ?_; refine KJ_alloc rfl (fun g => ?_))
    | (refine ek_load ?_; refine EK_ev (Ev_loadLv rC_ok hL rfl rfl xS hoff hp) ?_)
    | (refine ek_add ?_; refine EK_ev (Ev_addI_v (r := ((i + 1 : Nat) : Int)) rfl rfl (by omega) (by omega)) ?_)
    | (refine ek_neq ?_; refine EK_ev (Ev_neqS_f rfl rfl hk) ?_)
    | (refine ek_lss ?_; refine EK_ev (Ev_lssI_q rfl rfl ql) ?_)
    | refine xst ?_
    | (refine xsa ?_; intro _)
    | (refine xsb ?_ ?_ <;> intro _ <;> first | (exfalso; omega) | skip)
    | refine xsc ?_
    | fail)
    all_goals refine KJ_again ⟨(i + 1, O, oa, oc), hlt, hnx.symm⟩ (by show L.length - (i + 1) < L.length - i; omega) xB (xN)
  · rw [if_neg hk] at hnx
    repeat' (first 
    | (refine is_alloc ?_; refine KJ_alloc rfl (fun g => ?_))
    | (refine is_append ?_; refine KJ_appOne (a := p) rC_ok rfl rfl rfl xS xS b1 b2 rfl (fun g' c' => ?_))
    | (refine is_bslice ?_; refine KJ_bslice1 rfl xF (by rfl) (by omega) rfl (fun gb => ?_))
    | (refine ek_load ?_; refine EK_ev (Ev_loadLv rC_ok hL rfl rfl xS hoff hp) ?_)
    | (refine ek_add ?_; refine EK_ev (Ev_addI_v (r := ((i + 1 : Nat) : Int)) rfl rfl (by omega) (by omega)) ?_)
    | (refine ek_neq ?_; refine EK_ev (Ev_neqS_t rfl rfl hk) ?_)
    | (refine ek_lss ?_; refine EK_ev (Ev_lssI_q rfl rfl ql) ?_)
    | refine xst ?_
    | (refine xsa ?_; intro _)
    | (refine xsb ?_ ?_ <;> intro _ <;> first | (exfalso; omega) | skip)
    | refine xsc ?_
    | fail)
    all_goals refine KJ_again ⟨(i + 1, O ++ [p], some ⟨g', 0, none⟩, c'), hlt, hnx.symm⟩ (by show L.length - (i + 1) < L.length - i; omega) xB (xN)
end
end Go.Proofs.YtnbgcimalpdfoaaGreatDoor
