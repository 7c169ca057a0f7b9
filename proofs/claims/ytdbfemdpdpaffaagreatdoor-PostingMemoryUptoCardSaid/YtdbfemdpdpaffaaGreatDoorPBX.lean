/-
  PoW4, PoW3, PoW5, PoW6.
-/
import Derived.Test.YtdbfemdpdpaffaaGreatDoorPBS
import Derived.Test.YtdbfemdpdpaffaaGreatDoorPCC
import Derived.Lib.Bytealg
/-
  Chapters 3, 4 and 5: the two check digits, account numbers, ids, the system's accounts.
-/
namespace Go.Proofs.YtdbfemdpdpaffaaGreatDoor
open Go Go.RowKit
def partsB (c b : List UInt8) : Bool := decide (c.length = 2) && c.all capB && decide (1 ≤ b.length) && decide (b.length ≤ 30) && b.all fun x => capB x || digB x
def kindT (k : Nat) : List UInt8 := kinds4.getD k []
def sysT (k : Nat) (c : List UInt8) : List UInt8 := if codeB c = true then kindT k ++ c else []
theorem u8_of (m : Nat) : IntKind.u8.wrap ((m : Nat) : Int) = ((UInt8.ofNat m).toNat : Int) := by
  simp only [IntKind.wrap, IntKind.signed, IntKind.bits, UInt8.toNat_ofNat']
  simp
section
variable {W : World} {F : Nat → Addr}
set_option maxHeartbeats 2000000 in
theorem digits_ct (s : List UInt8) (hs : s.length ≤ 2000000) (hne : s ≠ []) (e7 : W.cell? ⟨10, 0, none⟩ = some (errV F 7)) (q : Option Nat) (hq : restG (s ++ [48, 48]) 0 = q) :
    Ct Tryz.prog W 121 [strV s] [] (fun _ : Unit => .tuple #[strV ((q.map dig2).getD []), errV F (rstE q)]) (fun _ => []) := by
  have cr := rest_ct (W := W) (F := F) (s ++ [48, 48]) (by rw [List.length_append]; simp; omega) (by simp) e7 q hq
  cases q with
  | none =>
    have hne2 := errNe (F := F) (show (7 : Nat) ≠ 0 by decide)
    have cr : Ct Tryz.prog W 141 [strV (s ++ [48, 48])] [] (fun _ : Unit => .tuple #[.int .i64 0, errV F 7]) (fun _ => []) := cr
    refine Ct.enter Tryz.func121 rfl Tryz.ntmps121 (by simp) (fun R => ?_)
    repeat' (first 
    | (refine is_call ?_; refine KJ_call xE cr xP rfl (fun _ => ?_))
    | (refine ek_add ?_; refine EK_ev (Ev_addS (a := s) (b := [48, 48]) rfl rfl (by simp; omega)) ?_)
    | (refine ek_eql ?_; refine EK_ev (Ev_eqlS_f rfl rfl hne) ?_)
    | (refine ek_neq ?_; refine EK_ev (Ev_neqNil rfl hne2) ?_)
    | refine xst ?_
    | (refine xsa ?_; intro _)
    | (refine xsb ?_ ?_ <;> intro _ <;> first | (exfalso; omega) | skip)
    | refine xsc ?_
    | (refine KJ_draws (id := 2) (.op 0 (.op 1 (.op 2 .nil))) (by kernel_rfl) (by kernel_rfl) ?_)
    | refine FW_alt ?_ ?_
    | refine FW_efn rfl rfl rfl rfl rfl ?_ ?_
    | refine KJ_flow ?_ ?_
    | exact Rech.nil
    | fail)
    all_goals (exact xdn ())
  | some r =>
    have hr := restG_lt _ (by omega) hq
    have cr : Ct Tryz.prog W 141 [strV (s ++ [48, 48])] [] (fun _ : Unit => .tuple #[.int .i64 ((r : Nat) : Int), errV F 0]) (fun _ => []) := cr
    have w1 : IntKind.u8.wrap (48 + (98 - ((r : Nat) : Int)) / 10) = ((UInt8.ofNat (48 + (98 - r) / 10)).toNat : Int) := by
      rw [← u8_of]; congr 1; omega
    have w2 : IntKind.u8.wrap (48 + (98 - ((r : Nat) : Int)) % 10) = ((UInt8.ofNat (48 + (98 - r) % 10)).toNat : Int) := by
      rw [← u8_of]; congr 1; omega
    refine Ct.enter Tryz.func121 rfl Tryz.ntmps121 (by simp) (fun R => ?_)
    repeat' (first 
    | (refine is_call ?_; refine KJ_call xE cr xP rfl (fun _ => ?_))
    | (refine is_bslice ?_; refine KJ_bsliceN (len := 2) (places := [(0, 1), (1, 1)]) (base := [.int .u8 0, .int .u8 0]) xV (by rfl) (by rfl) xW (by omega) rfl (fun gb => ?_))
    | (refine ek_conv ?_; first | refine EK_ev (Ev_convI_v rfl w2) ?_ | refine EK_ev (Ev_convI_v rfl w1) ?_ | refine EK_ev (Ev_bytesStr0 (l := dig2 r) rfl xS rfl) ?_)
    | (refine ek_add ?_; refine EK_ev (Ev_addS (a := s) (b := [48, 48]) rfl rfl (by simp; omega)) ?_)
    | (refine ek_eql ?_; refine EK_ev (Ev_eqlS_f rfl rfl hne) ?_)
    | refine xst ?_
    | (refine xsa ?_; intro _)
    | (refine xsb ?_ ?_ <;> intro _ <;> first | (exfalso; omega) | skip)
    | refine xsc ?_
    | (refine KJ_draws (id := 2) (.op 0 (.op 1 (.op 2 .nil))) (by kernel_rfl) (by kernel_rfl) ?_)
    | refine FW_alt ?_ ?_
    | refine FW_efn rfl rfl rfl rfl rfl ?_ ?_
    | refine KJ_flow ?_ ?_
    | exact Rech.nil
    | fail)
    all_goals (exact xdn ())
theorem plain_ct (s : List UInt8) (hs : s.length ≤ 2000000) : Ct Tryz.prog W 140 [strV s] [] (fun _ : Unit => .bool (s.all fun x => capB x || digB x)) (fun _ => []) := by
  have ca := iall_ct (W := W) (f := 149) (p := fun x => capB x || digB x) s (by omega) (fun b => iplain_ct b)
  refine Ct.enter Tryz.func140 rfl Tryz.ntmps140 (by simp) (fun R => ?_)
  repeat' (first 
    | (refine is_call ?_; refine KJ_call xE ca xP rfl (fun _ => ?_))
    | refine xst ?_
    | (refine xsa ?_; intro _)
    | (refine xsb ?_ ?_ <;> intro _ <;> first | (exfalso; omega) | skip)
    | refine xsc ?_
    | fail)
  all_goals (exact xdn ())
set_option maxHeartbeats 4000000 in
theorem parts_ct (c b : List UInt8) (hc : c.length ≤ 2000000) (hb : b.length ≤ 2000000) : Ct Tryz.prog W 120 [strV c, strV b] [] (fun _ : Unit => .bool (partsB c b)) (fun _ => []) := by
  have c1 := iall_ct (W := W) (f := 100) (p := capB) c (by omega) (fun b => icap_ct b)
  have c2 := plain_ct (W := W) b hb
  obtain ⟨r, hr⟩ : ∃ r, r = partsB c b := ⟨_, rfl⟩
  rw [← hr]
  unfold partsB at hr
  cases h1 : decide (c.length = 2)
  · rw [h1] at hr
    have hr : r = false := by simpa using hr
    subst hr
    have q1 : decide (((c.length : Nat) : Int) = 2) = false := dec_r h1 (by omega)
    refine Ct.enter Tryz.func120 rfl Tryz.ntmps120 (by simp) (fun R => ?_)
    repeat' (first 
    | (refine ek_eql ?_; refine EK_ev (Ev_eqlI_q rfl rfl q1) ?_)
    | refine xst ?_
    | (refine xsa ?_; intro _)
    | (refine xsb ?_ ?_ <;> intro _ <;> first | (exfalso; omega) | skip)
    | refine xsc ?_
    | fail)
    all_goals (exact xdn ())
  have q1 : decide (((c.length : Nat) : Int) = 2) = true := dec_r h1 (by omega)
  cases h2 : c.all capB
  · rw [h1, h2] at hr
    have hr : r = false := by simpa using hr
    subst hr
    rw [h2] at c1
    refine Ct.enter Tryz.func120 rfl Tryz.ntmps120 (by simp) (fun R => ?_)
    repeat' (first 
    | (refine is_call ?_; refine KJ_call xE c1 xP rfl (fun _ => ?_))
    | (refine ek_eql ?_; refine EK_ev (Ev_eqlI_q rfl rfl q1) ?_)
    | refine xst ?_
    | (refine xsa ?_; intro _)
    | (refine xsb ?_ ?_ <;> intro _ <;> first | (exfalso; omega) | skip)
    | refine xsc ?_
    | fail)
    all_goals (exact xdn ())
  rw [h2] at c1
  cases h3 : decide (1 ≤ b.length)
  · rw [h1, h2, h3] at hr
    have hr : r = false := by simpa using hr
    subst hr
    have q3 : decide ((1 : Int) ≤ ((b.length : Nat) : Int)) = false := dec_r h3 (by omega)
    refine Ct.enter Tryz.func120 rfl Tryz.ntmps120 (by simp) (fun R => ?_)
    repeat' (first 
    | (refine is_call ?_; refine KJ_call xE c1 xP rfl (fun _ => ?_))
    | (refine ek_eql ?_; refine EK_ev (Ev_eqlI_q rfl rfl q1) ?_)
    | (refine ek_geq ?_; refine EK_ev (Ev_geqI_q rfl rfl q3) ?_)
    | refine xst ?_
    | (refine xsa ?_; intro _)
    | (refine xsb ?_ ?_ <;> intro _ <;> first | (exfalso; omega) | skip)
    | refine xsc ?_
    | fail)
    all_goals (exact xdn ())
  have q3 : decide ((1 : Int) ≤ ((b.length : Nat) : Int)) = true := dec_r h3 (by omega)
  cases h4 : decide (b.length ≤ 30)
  · rw [h1, h2, h3, h4] at hr
    have hr : r = false := by simpa using hr
    subst hr
    have q4 : decide (((b.length : Nat) : Int) ≤ 30) = false := dec_r h4 (by omega)
    refine Ct.enter Tryz.func120 rfl Tryz.ntmps120 (by simp) (fun R => ?_)
    repeat' (first 
    | (refine is_call ?_; refine KJ_call xE c1 xP rfl (fun _ => ?_))
    | (refine ek_eql ?_; refine EK_ev (Ev_eqlI_q rfl rfl q1) ?_)
    | (refine ek_leq ?_; refine EK_ev (Ev_leqI_q rfl rfl q4) ?_)
    | (refine ek_geq ?_; refine EK_ev (Ev_geqI_q rfl rfl q3) ?_)
    | refine xst ?_
    | (refine xsa ?_; intro _)
    | (refine xsb ?_ ?_ <;> intro _ <;> first | (exfalso; omega) | skip)
    | refine xsc ?_
    | fail)
    all_goals (exact xdn ())
  have q4 : decide (((b.length : Nat) : Int) ≤ 30) = true := dec_r h4 (by omega)
  rw [h1, h2, h3, h4] at hr
  have hr : r = b.all fun x => capB x || digB x := by simpa using hr
  rw [← hr] at c2
  refine Ct.enter Tryz.func120 rfl Tryz.ntmps120 (by simp) (fun R => ?_)
  repeat' (first 
    | (refine is_call ?_; first | (refine KJ_call xE c2 xP rfl (fun _ => ?_)) | (refine KJ_call xE c1 xP rfl (fun _ => ?_)))
    | (refine ek_eql ?_; refine EK_ev (Ev_eqlI_q rfl rfl q1) ?_)
    | (refine ek_leq ?_; refine EK_ev (Ev_leqI_q rfl rfl q4) ?_)
    | (refine ek_geq ?_; refine EK_ev (Ev_geqI_q rfl rfl q3) ?_)
    | refine xst ?_
    | (refine xsa ?_; intro _)
    | (refine xsb ?_ ?_ <;> intro _ <;> first | (exfalso; omega) | skip)
    | refine xsc ?_
    | fail)
  all_goals (exact xdn ())
set_option maxHeartbeats 2000000 in
theorem iId_ct (s : List UInt8) (hs : s.length ≤ 2000000) (e26 : W.cell? ⟨0, 0, none⟩ = some (errV F 26)) : Ct Tryz.prog W 67 [strV s] [] (fun _ : Unit => errV F (if idOk s = true then 0 else 26)) (fun _ => []) := by
  have c1 := iall_ct (W := W) (f := 99) (p := idB) s (by omega) (fun b => iid_ct b)
  obtain ⟨r, hr⟩ : ∃ r, r = idOk s := ⟨_, rfl⟩
  rw [← hr]
  unfold idOk at hr
  cases h2 : s.all idB
  · rw [h2, Bool.and_false] at hr
    subst hr
    rw [h2] at c1
    refine Ct.enter Tryz.func67 rfl Tryz.ntmps67 (by simp) (fun R => ?_)
    repeat' (first 
    | (refine is_call ?_; refine KJ_call xE c1 xP rfl (fun _ => ?_))
    | (refine ek_load ?_; refine EK_ev (Ev_loadOld rfl e26) ?_)
    | refine xst ?_
    | (refine xsa ?_; intro _)
    | (refine xsb ?_ ?_ <;> intro _ <;> first | (exfalso; omega) | skip)
    | refine xsc ?_
    | fail)
    all_goals (exact xdn ())
  rw [h2] at c1
  cases h1 : decide (1 ≤ s.length)
  · rw [h1, h2, Bool.false_and, Bool.false_and] at hr
    subst hr
    have q1 : decide (((s.length : Nat) : Int) < 1) = true := decide_eq_true (by have := of_decide_eq_false h1; omega)
    refine Ct.enter Tryz.func67 rfl Tryz.ntmps67 (by simp) (fun R => ?_)
    repeat' (first 
    | (refine is_call ?_; refine KJ_call xE c1 xP rfl (fun _ => ?_))
    | (refine ek_load ?_; refine EK_ev (Ev_loadOld rfl e26) ?_)
    | (refine ek_lss ?_; refine EK_ev (Ev_lssI_q rfl rfl q1) ?_)
    | refine xst ?_
    | (refine xsa ?_; intro _)
    | (refine xsb ?_ ?_ <;> intro _ <;> first | (exfalso; omega) | skip)
    | refine xsc ?_
    | fail)
    all_goals (exact xdn ())
  have q1 : decide (((s.length : Nat) : Int) < 1) = false := decide_eq_false (by have := of_decide_eq_true h1; omega)
  cases h3 : decide (s.length ≤ 32)
  · rw [h1, h2, h3] at hr
    have hr : r = false := hr
    subst hr
    have q3 : decide ((32 : Int) < ((s.length : Nat) : Int)) = true := decide_eq_true (by have := of_decide_eq_false h3; omega)
    refine Ct.enter Tryz.func67 rfl Tryz.ntmps67 (by simp) (fun R => ?_)
    repeat' (first 
    | (refine is_call ?_; refine KJ_call xE c1 xP rfl (fun _ => ?_))
    | (refine ek_load ?_; refine EK_ev (Ev_loadOld rfl e26) ?_)
    | (refine ek_lss ?_; refine EK_ev (Ev_lssI_q rfl rfl q1) ?_)
    | (refine ek_gtr ?_; refine EK_ev (Ev_gtrI_q rfl rfl q3) ?_)
    | refine xst ?_
    | (refine xsa ?_; intro _)
    | (refine xsb ?_ ?_ <;> intro _ <;> first | (exfalso; omega) | skip)
    | refine xsc ?_
    | fail)
    all_goals (exact xdn ())
  · rw [h1, h2, h3] at hr
    have hr : r = true := hr
    subst hr
    have q3 : decide ((32 : Int) < ((s.length : Nat) : Int)) = false := decide_eq_false (by have := of_decide_eq_true h3; omega)
    refine Ct.enter Tryz.func67 rfl Tryz.ntmps67 (by simp) (fun R => ?_)
    repeat' (first 
    | (refine is_call ?_; refine KJ_call xE c1 xP rfl (fun _ => ?_))
    | (refine ek_lss ?_; refine EK_ev (Ev_lssI_q rfl rfl q1) ?_)
    | (refine ek_gtr ?_; refine EK_ev (Ev_gtrI_q rfl rfl q3) ?_)
    | refine xst ?_
    | (refine xsa ?_; intro _)
    | (refine xsb ?_ ?_ <;> intro _ <;> first | (exfalso; omega) | skip)
    | refine xsc ?_
    | fail)
    all_goals (exact xdn ())
set_option maxHeartbeats 2000000 in
theorem code_ct (s : List UInt8) (hs : s.length ≤ 2000000) : Ct Tryz.prog W 123 [strV s] [] (fun _ : Unit => .bool (codeB s)) (fun _ => []) := by
  obtain ⟨r, hr⟩ : ∃ r, r = codeB s := ⟨_, rfl⟩
  rw [← hr]
  unfold codeB at hr
  refine Ct.enter Tryz.func123 rfl Tryz.ntmps123 (by simp) (fun R => ?_)
  repeat' (first 
    | refine xst ?_
    | (refine xsa ?_; intro _)
    | (refine xsb ?_ ?_ <;> intro _ <;> first | (exfalso; omega) | skip)
    | refine xsc ?_
    | fail)
  refine KJ_loop (fun i : {k : Nat // k ≤ s.length ∧ (s.take k).all capB = true} => [(0, strV s), (5, .int .i64 (s.length : Nat)), (6, .int .i64 (i.1 : Nat))])
    (fun _ => [] ++ R) (fun i => s.length - i.1) ⟨0, by omega, rfl⟩ xB (xN) (fun ⟨k, hk, ha⟩ => ?_)
  dsimp only
  by_cases hlt : k < s.length
  · have ql : decide (((k : Nat) : Int) < ((s.length : Nat) : Int)) = true := decide_eq_true (by omega)
    obtain ⟨b, hb⟩ : ∃ b, s[k]? = some b := ⟨_, List.getElem?_eq_getElem hlt⟩
    cases q1 : decide ((b.toNat : Int) < 65) with
    | true =>
      have hp : capB b = false := by have := of_decide_eq_true q1; unfold capB; rw [decide_eq_false (by omega)]; rfl
      rw [all_bad hb hp, Bool.and_false] at hr
      subst hr
      repeat' (first 
    | (refine ek_index ?_; refine EK_ev (Ev_indexStr rfl rfl (by omega) hb) ?_)
    | (refine ek_lss ?_; first | refine EK_ev (Ev_lssI_q rfl rfl q1) ?_ | refine EK_ev (Ev_lssI_q rfl rfl ql) ?_)
    | refine xst ?_
    | (refine xsa ?_; intro _)
    | (refine xsb ?_ ?_ <;> intro _ <;> first | (exfalso; omega) | skip)
    | refine xsc ?_
    | fail)
      all_goals (exact xdn ())
    | false =>
      cases q2 : decide ((90 : Int) < (b.toNat : Int)) with
      | true =>
        have hp : capB b = false := by have := of_decide_eq_true q2; unfold capB; rw [decide_eq_false (show ¬ b.toNat ≤ 90 by omega), Bool.and_false]
        rw [all_bad hb hp, Bool.and_false] at hr
        subst hr
        repeat' (first 
    | (refine ek_index ?_; refine EK_ev (Ev_indexStr rfl rfl (by omega) hb) ?_)
    | (refine ek_lss ?_; first | refine EK_ev (Ev_lssI_q rfl rfl q1) ?_ | refine EK_ev (Ev_lssI_q rfl rfl ql) ?_)
    | (refine ek_gtr ?_; refine EK_ev (Ev_gtrI_q rfl rfl q2) ?_)
    | refine xst ?_
    | (refine xsa ?_; intro _)
    | (refine xsb ?_ ?_ <;> intro _ <;> first | (exfalso; omega) | skip)
    | refine xsc ?_
    | fail)
        all_goals (exact xdn ())
      | false =>
        have hp : capB b = true := by have := of_decide_eq_false q1; have := of_decide_eq_false q2; unfold capB; rw [decide_eq_true (show 65 ≤ b.toNat by omega), decide_eq_true (show b.toNat ≤ 90 by omega)]; rfl
        repeat' (first 
    | (refine ek_index ?_; refine EK_ev (Ev_indexStr rfl rfl (by omega) hb) ?_)
    | (refine ek_lss ?_; first | refine EK_ev (Ev_lssI_q rfl rfl q1) ?_ | refine EK_ev (Ev_lssI_q rfl rfl ql) ?_)
    | (refine ek_gtr ?_; refine EK_ev (Ev_gtrI_q rfl rfl q2) ?_)
    | refine xst ?_
    | (refine xsa ?_; intro _)
    | (refine xsb ?_ ?_ <;> intro _ <;> first | (exfalso; omega) | skip)
    | refine xsc ?_
    | fail)
        all_goals exact KJ_again ⟨k + 1, by omega, all_next hb ha hp⟩ (by show s.length - (k + 1) < s.length - k; omega) xB (xN)
  · have ql : decide (((k : Nat) : Int) < ((s.length : Nat) : Int)) = false := decide_eq_false (by omega)
    have e : k = s.length := by omega
    subst e
    rw [List.take_length] at ha
    rw [ha, Bool.and_true] at hr
    have q3 : decide (((s.length : Nat) : Int) = 3) = r := by rw [hr]; exact decide_eq_decide.2 (by omega)
    repeat' (first 
    | (refine ek_eql ?_; refine EK_ev (Ev_eqlI_q rfl rfl q3) ?_)
    | (refine ek_lss ?_; refine EK_ev (Ev_lssI_q rfl rfl ql) ?_)
    | refine xst ?_
    | (refine xsa ?_; intro _)
    | (refine xsb ?_ ?_ <;> intro _ <;> first | (exfalso; omega) | skip)
    | refine xsc ?_
    | fail)
    all_goals (exact xdn ())
theorem system_ct (k : Nat) (hk : k < 4) (c : List UInt8) (hs : c.length ≤ 2000000) : Ct Tryz.prog W 105 [.int .i64 ((k + 2 : Nat) : Int), strV c] [] (fun _ : Unit => strV (sysT k c)) (fun _ => []) := by
  have cc := code_ct (W := W) c hs
  unfold sysT
  cases h : codeB c with
  | false =>
    rw [h] at cc
    rw [if_neg (by decide)]
    refine Ct.enter Tryz.func105 rfl Tryz.ntmps105 (by simp) (fun R => ?_)
    repeat' (first 
    | (refine is_call ?_; refine KJ_call xE cc xP rfl (fun _ => ?_))
    | refine xst ?_
    | (refine xsa ?_; intro _)
    | (refine xsb ?_ ?_ <;> intro _ <;> first | (exfalso; omega) | skip)
    | refine xsc ?_
    | fail)
    all_goals (exact xdn ())
  | true =>
    rw [h] at cc
    rw [if_pos rfl]
    match k, hk with
    | 0, _ =>
      refine Ct.enter Tryz.func105 rfl Tryz.ntmps105 (by simp) (fun R => ?_)
      repeat' (first 
    | (refine is_call ?_; refine KJ_call xE cc xP rfl (fun _ => ?_))
    | (refine ek_add ?_; refine EK_ev (Ev_addS (a := kindT 0) (b := c) rfl rfl (by show 8 + c.length ≤ _; omega)) ?_)
    | refine xst ?_
    | (refine xsa ?_; intro _)
    | (refine xsb ?_ ?_ <;> intro _ <;> first | (exfalso; omega) | skip)
    | refine xsc ?_
    | fail)
      all_goals (exact xdn ())
    | 1, _ =>
      refine Ct.enter Tryz.func105 rfl Tryz.ntmps105 (by simp) (fun R => ?_)
      repeat' (first 
    | (refine is_call ?_; refine KJ_call xE cc xP rfl (fun _ => ?_))
    | (refine ek_add ?_; refine EK_ev (Ev_addS (a := kindT 1) (b := c) rfl rfl (by show 9 + c.length ≤ _; omega)) ?_)
    | refine xst ?_
    | (refine xsa ?_; intro _)
    | (refine xsb ?_ ?_ <;> intro _ <;> first | (exfalso; omega) | skip)
    | refine xsc ?_
    | fail)
      all_goals (exact xdn ())
    | 2, _ =>
      refine Ct.enter Tryz.func105 rfl Tryz.ntmps105 (by simp) (fun R => ?_)
      repeat' (first 
    | (refine is_call ?_; refine KJ_call xE cc xP rfl (fun _ => ?_))
    | (refine ek_add ?_; refine EK_ev (Ev_addS (a := kindT 2) (b := c) rfl rfl (by show 9 + c.length ≤ _; omega)) ?_)
    | refine xst ?_
    | (refine xsa ?_; intro _)
    | (refine xsb ?_ ?_ <;> intro _ <;> first | (exfalso; omega) | skip)
    | refine xsc ?_
    | fail)
      all_goals (exact xdn ())
    | 3, _ =>
      refine Ct.enter Tryz.func105 rfl Tryz.ntmps105 (by simp) (fun R => ?_)
      repeat' (first 
    | (refine is_call ?_; refine KJ_call xE cc xP rfl (fun _ => ?_))
    | (refine ek_add ?_; refine EK_ev (Ev_addS (a := kindT 3) (b := c) rfl rfl (by show 5 + c.length ≤ _; omega)) ?_)
    | refine xst ?_
    | (refine xsa ?_; intro _)
    | (refine xsb ?_ ?_ <;> intro _ <;> first | (exfalso; omega) | skip)
    | refine xsc ?_
    | fail)
      all_goals (exact xdn ())
end
end Go.Proofs.YtdbfemdpdpaffaaGreatDoor
/-
  Chapter 16: texts cut; what may be a posting's id, a leg's account.
-/
namespace Go.Proofs.YtdbfemdpdpaffaaGreatDoor
open Go Go.RowKit
instance fiStr1 : FnIs Tryz.prog 119 := ⟨by kernel_rfl⟩
instance fiStr2 : FnIs Tryz.prog 97 := ⟨by kernel_rfl⟩
instance fiStr3 : FnIs Tryz.prog 151 := ⟨by kernel_rfl⟩
instance fiStr4 : FnIs Tryz.prog 142 := ⟨by kernel_rfl⟩
instance fiStr5 : FnIs Tryz.prog 122 := ⟨by kernel_rfl⟩
theorem idx_no {c : UInt8} : ∀ {s : List UInt8}, c ∉ s → Lib.indexByte s c = -1
  | [], _ => rfl
  | b :: l, h => by
    have hb : (b == c) = false := by rw [beq_eq_false_iff_ne]; intro e; exact h (by simp [e])
    have hl := idx_no (s := l) (fun q => h (List.mem_cons_of_mem _ q))
    unfold Lib.indexByte
    rw [hb, hl]; rfl
theorem idx_yes {c : UInt8} : ∀ {p : List UInt8} (q : List UInt8), c ∉ p → Lib.indexByte (p ++ c :: q) c = ((p.length : Nat) : Int)
  | [], q, _ => by unfold Lib.indexByte; simp
  | b :: l, q, h => by
    have hb : (b == c) = false := by rw [beq_eq_false_iff_ne]; intro e; exact h (by simp [e])
    have hl := idx_yes (p := l) q (fun q => h (List.mem_cons_of_mem _ q))
    rw [List.cons_append]
    unfold Lib.indexByte
    rw [hb, hl]
    have hne : (((l.length : Nat) : Int) == -1) = false := by rw [beq_eq_false_iff_ne]; omega
    rw [hne]
    simp
theorem cut_uniq {c : UInt8} : ∀ {a a' b b' : List UInt8}, a ++ c :: b = a' ++ c :: b' → c ∉ a → c ∉ a' → a = a' ∧ b = b'
  | [], [], _, _, h, _, _ => by simpa using h
  | [], y :: a', _, _, h, _, h2 => by simp at h; exact absurd (by simp [h.1]) h2
  | x :: a, [], _, _, h, h1, _ => by simp at h; exact absurd (by simp [h.1]) h1
  | x :: a, y :: a', _, _, h, h1, h2 => by
    simp only [List.cons_append, List.cons.injEq] at h
    obtain ⟨e1, e2⟩ := cut_uniq h.2 (fun q => h1 (by simp [q])) (fun q => h2 (by simp [q]))
    exact ⟨by rw [h.1, e1], e2⟩
theorem cut_find {c : UInt8} : ∀ {s : List UInt8}, c ∈ s → ∃ p q, s = p ++ c :: q ∧ c ∉ p
  | b :: l, h => by
    by_cases e : b = c
    · exact ⟨[], l, by simp [e], by simp⟩
    · obtain ⟨p, q, h1, h2⟩ := cut_find (s := l) (by simpa [Ne.symm e] using h)
      exact ⟨b :: p, q, by rw [h1]; rfl, by simp [h2, Ne.symm e]⟩
theorem kind_word : ∀ k, k < 4 → ∃ w, kindT k = w ++ [46] ∧ (46 : UInt8) ∉ w ∧ kindT k ∈ kinds4
  | 0, _ => ⟨[111, 117, 116, 115, 105, 100, 101], rfl, by decide, by decide⟩
  | 1, _ => ⟨[115, 117, 115, 112, 101, 110, 115, 101], rfl, by decide, by decide⟩
  | 2, _ => ⟨[99, 108, 101, 97, 114, 105, 110, 103], rfl, by decide, by decide⟩
  | 3, _ => ⟨[102, 101, 101, 115], rfl, by decide, by decide⟩
theorem kinds_of {q : List UInt8} (h : q ∈ kinds4) : ∃ k, k < 4 ∧ q = kindT k := by
  unfold kinds4 at h
  simp only [List.mem_cons, List.not_mem_nil, or_false] at h
  rcases h with rfl | rfl | rfl | rfl
  · exact ⟨0, by omega, rfl⟩
  · exact ⟨1, by omega, rfl⟩
  · exact ⟨2, by omega, rfl⟩
  · exact ⟨3, by omega, rfl⟩
theorem sysB_no {s : List UInt8} (h : (46 : UInt8) ∉ s) : sysB s = false := by
  unfold sysB
  rw [List.any_eq_false]
  intro q hq
  obtain ⟨k, hk, rfl⟩ := kinds_of hq
  obtain ⟨w, hw, _, _⟩ := kind_word k hk
  intro hh
  simp only [Bool.and_eq_true, decide_eq_true_eq] at hh
  apply h
  apply List.mem_of_mem_take
  rw [hh.1, hw]
  simp
theorem sysB_yes {p q : List UInt8} (h : (46 : UInt8) ∉ p) : sysB (p ++ 46 :: q) = true ↔ ∃ k, k < 4 ∧ sysT k q = p ++ 46 :: q := by
  unfold sysB
  rw [List.any_eq_true]
  constructor
  · rintro ⟨x, hx, hh⟩
    obtain ⟨k, hk, rfl⟩ := kinds_of hx
    obtain ⟨w, hw, hn, _⟩ := kind_word k hk
    simp only [Bool.and_eq_true, decide_eq_true_eq] at hh
    refine ⟨k, hk, ?_⟩
    have e : p ++ 46 :: q = w ++ 46 :: (p ++ 46 :: q).drop (kindT k).length := by
      have := (List.take_append_drop (kindT k).length (p ++ 46 :: q)).symm
      rw [hh.1, hw, List.append_assoc] at this
      exact this.trans (by rw [hw]; rfl)
    obtain ⟨e1, e2⟩ := cut_uniq e h hn
    unfold sysT
    rw [← e2] at hh
    rw [if_pos hh.2, hw, e1, List.append_assoc]; rfl
  · rintro ⟨k, hk, e⟩
    obtain ⟨w, hw, hn, hm⟩ := kind_word k hk
    unfold sysT at e
    split at e
    · rename_i hc
      refine ⟨kindT k, hm, ?_⟩
      rw [← e, List.take_left, List.drop_left, hc]
      simp
    · simp at e
theorem Ev_sliceTo_p {P : Program} {W : World} {n : Nat} {E : Env} {H : List SP} {t : TypeId} {x z : Operand} {l r : List UInt8} {j : Int} {kj : IntKind} (hx : Env.ev E x = some (strV l)) (hz : Env.ev E z = some (.int kj j)) [hu : UIs P t .string] (hb : 0 ≤ j ∧ j ≤ l.length) (h : l.take j.toNat = r) : Ev P W n E H (.slice t x none (some z) none) (strV r) := by subst h; exact Ev_sliceStrTo hx hz hb
theorem Ev_sliceFrom_p {P : Program} {W : World} {n : Nat} {E : Env} {H : List SP} {t : TypeId} {x y : Operand} {l r : List UInt8} {i : Int} {ki : IntKind} (hx : Env.ev E x = some (strV l)) (hy : Env.ev E y = some (.int ki i)) [hu : UIs P t .string] (hb : 0 ≤ i ∧ i ≤ l.length) (h : l.drop i.toNat = r) : Ev P W n E H (.slice t x (some y) none none) (strV r) := by subst h; exact Ev_sliceStrFrom hx hy hb
theorem Ev_len_one {P : Program} {W : World} {n : Nat} {E : Env} {H : List SP} {t : TypeId} {x : Operand} {c : UInt8} (hx : Env.ev E x = some (strV [c])) [hu : UIs P t .string] : Ev P W n E H (.call { callee := .builtin .len, args := #[x], argTypes := #[t] }) (.int .i64 1) := Ev_len_str hx
section
variable {W : World} {F : Nat → Addr}
theorem ixB_run {P : Program} (s : List UInt8) (c : UInt8) (w : World) : (Extern.BytealgIndexByte.indexByte [strV s, bv c].toArray).run P w = .ok (.int .i64 (Lib.indexByte s c)) w := by
  have := Lib.run_indexByteString (P := P) ⟨s.toArray⟩ (c.toNat : Int) w
  have e : ((c.toNat : Int).toNat.toUInt8) = c := by simp
  rw [e] at this
  exact this
theorem indexB_ct (s : List UInt8) (c : UInt8) : Ct Tryz.prog W 151 [strV s, bv c] [] (fun _ : Unit => .int .i64 (Lib.indexByte s c)) (fun _ => []) := by
  refine Ct.enter Tryz.func151 rfl Tryz.ntmps151 (by simp) (fun R => ?_)
  repeat' (first 
    | (refine is_call ?_; refine KJ_ext Tryz.func156 (by kernel_rfl) (by kernel_rfl) (by kernel_rfl) (en := Extern.BytealgIndexByte.indexByte) (by kernel_rfl) xE (fun w => ixB_run s c w) rfl ?_)
    | refine xst ?_
    | (refine xsa ?_; intro _)
    | (refine xsb ?_ ?_ <;> intro _ <;> first | (exfalso; omega) | skip)
    | refine xsc ?_
    | fail)
  all_goals (exact xdn ())
theorem index_ct (s : List UInt8) (c : UInt8) : Ct Tryz.prog W 142 [strV s, strV [c]] [] (fun _ : Unit => .int .i64 (Lib.indexByte s c)) (fun _ => []) := by
  have ci := indexB_ct (W := W) s c
  have k0 : decide ((([c].length : Nat) : Int) = 0) = false := rfl
  have k1 : decide ((([c].length : Nat) : Int) = 1) = true := rfl
  by_cases h : [c] = s
  · have e : Lib.indexByte s c = 0 := by rw [← h]; unfold Lib.indexByte; simp
    rw [e]
    refine Ct.enter Tryz.func142 rfl Tryz.ntmps142 (by simp) (fun R => ?_)
    repeat' (first 
    | (refine ek_eql ?_; first | refine EK_ev (Ev_eqlS_t rfl rfl h) ?_ | refine EK_ev (Ev_eqlI_q rfl rfl k1) ?_ | refine EK_ev (Ev_eqlI_q rfl rfl k0) ?_)
    | refine xst ?_
    | (refine xsa ?_; intro _)
    | (refine xsb ?_ ?_ <;> intro _ <;> first | (exfalso; omega) | skip)
    | refine xsc ?_
    | fail)
    all_goals (exact xdn ())
  · refine Ct.enter Tryz.func142 rfl Tryz.ntmps142 (by simp) (fun R => ?_)
    repeat' (first 
    | (refine is_call ?_; refine KJ_call xE ci xP rfl (fun _ => ?_))
    | (refine ek_index ?_; refine EK_ev (Ev_indexStr (l := [c]) (c := c) rfl rfl (by omega) rfl) ?_)
    | (refine ek_eql ?_; first | refine EK_ev (Ev_eqlS_f rfl rfl h) ?_ | refine EK_ev (Ev_eqlI_q rfl rfl k1) ?_ | refine EK_ev (Ev_eqlI_q rfl rfl k0) ?_)
    | refine xst ?_
    | (refine xsa ?_; intro _)
    | (refine xsb ?_ ?_ <;> intro _ <;> first | (exfalso; omega) | skip)
    | refine xsc ?_
    | fail)
    all_goals (exact xdn ())
theorem scut_no (s : List UInt8) (c : UInt8) (h : c ∉ s) : Ct Tryz.prog W 103 [strV s, strV [c]] [] (fun _ : Unit => .tuple #[strV s, strV [], .bool false]) (fun _ => []) := by
  have ci := index_ct (W := W) s c
  rw [idx_no h] at ci
  have cc : Ct Tryz.prog W 122 [strV s, strV [c]] [] (fun _ : Unit => .tuple #[strV s, strV [], .bool false]) (fun _ => []) := by
    refine Ct.enter Tryz.func122 rfl Tryz.ntmps122 (by simp) (fun R => ?_)
    repeat' (first 
    | (refine is_call ?_; refine KJ_call xE ci xP rfl (fun _ => ?_))
    | refine xst ?_
    | (refine xsa ?_; intro _)
    | (refine xsb ?_ ?_ <;> intro _ <;> first | (exfalso; omega) | skip)
    | refine xsc ?_
    | (refine KJ_draws (id := 3) (.op 0 (.op 1 (.op 2 (.op 3 (.op 4 (.op 5 (.op 6 (.op 7 (.op 8 (.op 9 (.op 10 (.op 11 .nil)))))))))))) (by kernel_rfl) (by kernel_rfl) ?_)
    | refine FW_alt ?_ ?_
    | refine FW_efn rfl rfl rfl rfl rfl ?_ ?_
    | refine KJ_flow ?_ ?_
    | exact Rech.nil
    | fail)
    all_goals (exact xdn ())
  refine Ct.enter Tryz.func103 rfl Tryz.ntmps103 (by simp) (fun R => ?_)
  repeat' (first 
    | (refine is_call ?_; refine KJ_call xE cc xP rfl (fun _ => ?_))
    | refine xst ?_
    | (refine xsa ?_; intro _)
    | (refine xsb ?_ ?_ <;> intro _ <;> first | (exfalso; omega) | skip)
    | refine xsc ?_
    | fail)
  all_goals (exact xdn ())
theorem scut_yes (p q : List UInt8) (c : UInt8) (h : c ∉ p) (hl : p.length + q.length ≤ 2000000) : Ct Tryz.prog W 103 [strV (p ++ c :: q), strV [c]] [] (fun _ : Unit => .tuple #[strV p, strV q, .bool true]) (fun _ => []) := by
  have ci := index_ct (W := W) (p ++ c :: q) c
  rw [idx_yes q h] at ci
  have hlen : (p ++ c :: q).length = p.length + q.length + 1 := by simp; omega
  have e1 : (p ++ c :: q).take ((p.length : Nat) : Int).toNat = p := by rw [Int.toNat_natCast, List.take_left]
  have e2 : (p ++ c :: q).drop (((p.length : Nat) : Int) + 1).toNat = q := by
    rw [show (((p.length : Nat) : Int) + 1).toNat = p.length + 1 by omega, List.drop_append, List.drop_eq_nil_of_le (by omega)]
    simp
  have q0 : decide ((0 : Int) ≤ ((p.length : Nat) : Int)) = true := decide_eq_true (by omega)
  have cc : Ct Tryz.prog W 122 [strV (p ++ c :: q), strV [c]] [] (fun _ : Unit => .tuple #[strV p, strV q, .bool true]) (fun _ => []) := by
    refine Ct.enter Tryz.func122 rfl Tryz.ntmps122 (by simp) (fun R => ?_)
    repeat' (first 
    | (refine is_call ?_; refine KJ_call xE ci xP rfl (fun _ => ?_))
    | (refine ek_slice ?_; first | refine EK_ev (Ev_sliceFrom_p rfl rfl (by omega) e2) ?_ | refine EK_ev (Ev_sliceTo_p rfl rfl (by omega) e1) ?_)
    | (refine ek_len ?_; refine EK_ev (Ev_len_one rfl) ?_)
    | (refine ek_geq ?_; refine EK_ev (Ev_geqI_q rfl rfl q0) ?_)
    | refine xst ?_
    | (refine xsa ?_; intro _)
    | (refine xsb ?_ ?_ <;> intro _ <;> first | (exfalso; omega) | skip)
    | refine xsc ?_
    | (refine KJ_draws (id := 3) (.op 0 (.op 1 (.op 2 (.op 3 (.op 4 (.op 5 (.op 6 (.op 7 (.op 8 (.op 9 (.op 10 (.op 11 .nil)))))))))))) (by kernel_rfl) (by kernel_rfl) ?_)
    | refine FW_alt ?_ ?_
    | refine FW_efn rfl rfl rfl rfl rfl ?_ ?_
    | refine KJ_flow ?_ ?_
    | exact Rech.nil
    | fail)
    all_goals (exact xdn ())
  refine Ct.enter Tryz.func103 rfl Tryz.ntmps103 (by simp) (fun R => ?_)
  repeat' (first 
    | (refine is_call ?_; refine KJ_call xE cc xP rfl (fun _ => ?_))
    | refine xst ?_
    | (refine xsa ?_; intro _)
    | (refine xsb ?_ ?_ <;> intro _ <;> first | (exfalso; omega) | skip)
    | refine xsc ?_
    | fail)
  all_goals (exact xdn ())
/-- strings.CutPrefix(s, "#") -/
theorem cutp_no (s : List UInt8) (h : s.head? ≠ some 35) : Ct Tryz.prog W 66 [strV s, strV [35]] [] (fun _ : Unit => .tuple #[strV s, .bool false]) (fun _ => []) := by
  have ch : Ct Tryz.prog W 119 [strV s, strV [35]] [] (fun _ : Unit => .bool false) (fun _ => []) := by
    cases s with
    | nil =>
      refine Ct.enter Tryz.func119 rfl Tryz.ntmps119 (by simp) (fun R => ?_)
      have q : decide ((1 : Int) ≤ ((([] : List UInt8).length : Nat) : Int)) = false := rfl
      repeat' (first 
    | (refine ek_len ?_; refine EK_ev (Ev_len_one rfl) ?_)
    | (refine ek_geq ?_; refine EK_ev (Ev_geqI_q rfl rfl q) ?_)
    | refine xst ?_
    | (refine xsa ?_; intro _)
    | (refine xsb ?_ ?_ <;> intro _ <;> first | (exfalso; omega) | skip)
    | refine xsc ?_
    | fail)
      all_goals (exact xdn ())
    | cons b l =>
      have hb : [b] ≠ [35] := fun e => h (by simpa using e)
      have q : decide ((1 : Int) ≤ (((b :: l).length : Nat) : Int)) = true := decide_eq_true (by simp only [List.length_cons]; omega)
      refine Ct.enter Tryz.func119 rfl Tryz.ntmps119 (by simp) (fun R => ?_)
      repeat' (first 
    | (refine ek_slice ?_; refine EK_ev (Ev_sliceTo_p (r := [b]) rfl rfl (by simp only [List.length_cons]; omega) rfl) ?_)
    | (refine ek_len ?_; refine EK_ev (Ev_len_one rfl) ?_)
    | (refine ek_eql ?_; refine EK_ev (Ev_eqlS_f rfl rfl hb) ?_)
    | (refine ek_geq ?_; refine EK_ev (Ev_geqI_q rfl rfl q) ?_)
    | refine xst ?_
    | (refine xsa ?_; intro _)
    | (refine xsb ?_ ?_ <;> intro _ <;> first | (exfalso; omega) | skip)
    | refine xsc ?_
    | fail)
      all_goals (exact xdn ())
  have cc : Ct Tryz.prog W 97 [strV s, strV [35]] [] (fun _ : Unit => .tuple #[strV s, .bool false]) (fun _ => []) := by
    refine Ct.enter Tryz.func97 rfl Tryz.ntmps97 (by simp) (fun R => ?_)
    repeat' (first 
    | (refine is_call ?_; refine KJ_call xE ch xP rfl (fun _ => ?_))
    | (refine ek_len ?_; refine EK_ev (Ev_len_one rfl) ?_)
    | refine xst ?_
    | (refine xsa ?_; intro _)
    | (refine xsb ?_ ?_ <;> intro _ <;> first | (exfalso; omega) | skip)
    | refine xsc ?_
    | fail)
    all_goals (exact xdn ())
  refine Ct.enter Tryz.func66 rfl Tryz.ntmps66 (by simp) (fun R => ?_)
  repeat' (first 
    | (refine is_call ?_; refine KJ_call xE cc xP rfl (fun _ => ?_))
    | refine xst ?_
    | (refine xsa ?_; intro _)
    | (refine xsb ?_ ?_ <;> intro _ <;> first | (exfalso; omega) | skip)
    | refine xsc ?_
    | fail)
  all_goals (exact xdn ())
theorem cutp_yes (l : List UInt8) (hl : l.length ≤ 2000000) : Ct Tryz.prog W 66 [strV (35 :: l), strV [35]] [] (fun _ : Unit => .tuple #[strV l, .bool true]) (fun _ => []) := by
  have q : decide ((1 : Int) ≤ (((35 :: l : List UInt8).length : Nat) : Int)) = true := decide_eq_true (by simp only [List.length_cons]; omega)
  have ch : Ct Tryz.prog W 119 [strV (35 :: l), strV [35]] [] (fun _ : Unit => .bool true) (fun _ => []) := by
    refine Ct.enter Tryz.func119 rfl Tryz.ntmps119 (by simp) (fun R => ?_)
    repeat' (first 
    | (refine ek_slice ?_; refine EK_ev (Ev_sliceTo_p (r := [35]) rfl rfl (by simp only [List.length_cons]; omega) rfl) ?_)
    | (refine ek_len ?_; refine EK_ev (Ev_len_one rfl) ?_)
    | (refine ek_eql ?_; refine EK_ev (Ev_eqlS_t rfl rfl rfl) ?_)
    | (refine ek_geq ?_; refine EK_ev (Ev_geqI_q rfl rfl q) ?_)
    | refine xst ?_
    | (refine xsa ?_; intro _)
    | (refine xsb ?_ ?_ <;> intro _ <;> first | (exfalso; omega) | skip)
    | refine xsc ?_
    | fail)
    all_goals (exact xdn ())
  have cc : Ct Tryz.prog W 97 [strV (35 :: l), strV [35]] [] (fun _ : Unit => .tuple #[strV l, .bool true]) (fun _ => []) := by
    refine Ct.enter Tryz.func97 rfl Tryz.ntmps97 (by simp) (fun R => ?_)
    repeat' (first 
    | (refine is_call ?_; refine KJ_call xE ch xP rfl (fun _ => ?_))
    | (refine ek_slice ?_; refine EK_ev (Ev_sliceFrom_p (r := l) rfl rfl (by simp only [List.length_cons]; omega) rfl) ?_)
    | (refine ek_len ?_; refine EK_ev (Ev_len_one rfl) ?_)
    | refine xst ?_
    | (refine xsa ?_; intro _)
    | (refine xsb ?_ ?_ <;> intro _ <;> first | (exfalso; omega) | skip)
    | refine xsc ?_
    | fail)
    all_goals (exact xdn ())
  refine Ct.enter Tryz.func66 rfl Tryz.ntmps66 (by simp) (fun R => ?_)
  repeat' (first 
    | (refine is_call ?_; refine KJ_call xE cc xP rfl (fun _ => ?_))
    | refine xst ?_
    | (refine xsa ?_; intro _)
    | (refine xsb ?_ ?_ <;> intro _ <;> first | (exfalso; omega) | skip)
    | refine xsc ?_
    | fail)
  all_goals (exact xdn ())
end
end Go.Proofs.YtdbfemdpdpaffaaGreatDoor
/-
  Chapters 5 and 16: account numbers; what may be a posting's id, a leg's account.
-/
namespace Go.Proofs.YtdbfemdpdpaffaaGreatDoor
open Go Go.RowKit
theorem formA_eq (s : List UInt8) : formA s = (decide (4 ≤ s.length) && partsB (s.take 2) (s.drop 4) && ((s.drop 2).take 2).all digB) := by
  unfold formA partsB
  rw [List.length_take, List.length_drop]
  by_cases h : 4 ≤ s.length
  · have e1 : decide (min 2 s.length = 2) = true := decide_eq_true (by omega)
    have e2 : decide (1 ≤ s.length - 4) = decide (5 ≤ s.length) := decide_eq_decide.2 (by omega)
    have e3 : decide (s.length - 4 ≤ 30) = decide (s.length ≤ 34) := decide_eq_decide.2 (by omega)
    rw [e1, e2, e3, decide_eq_true h]
    cases decide (5 ≤ s.length) <;> cases decide (s.length ≤ 34) <;> cases (s.take 2).all capB <;> cases ((s.drop 2).take 2).all digB <;> cases (s.drop 4).all (fun x => capB x || digB x) <;> rfl
  · rw [decide_eq_false h, decide_eq_false (show ¬ 5 ≤ s.length by omega)]; rfl
theorem body_some {s : List UInt8} (h : formA s = true) : ∃ r, restG (s.drop 4 ++ s.take 2 ++ [48, 48]) 0 = some r := by
  have hh := restG_all (s.drop 4 ++ s.take 2 ++ [48, 48]) 0
  unfold formA at h
  simp only [Bool.and_eq_true, decide_eq_true_eq] at h
  have e : ((s.drop 4 ++ s.take 2 ++ [48, 48]).all fun b => digB b || capB b) = true := by
    rw [List.all_append, List.all_append]
    have a1 : ((s.drop 4).all fun b => digB b || capB b) = true := by
      rw [List.all_eq_true]
      exact fun x hx => by rw [Bool.or_comm]; exact List.all_eq_true.1 h.2 x hx
    have a2 : ((s.take 2).all fun b => digB b || capB b) = true := by
      rw [List.all_eq_true]
      exact fun x hx => by rw [List.all_eq_true.1 h.1.1.2 x hx, Bool.or_true]
    rw [a1, a2]; rfl
  rw [e] at hh
  exact Option.isSome_iff_exists.1 hh
section
variable {W : World} {F : Nat → Addr}
set_option maxHeartbeats 4000000 in
theorem check_ct (s : List UInt8) (hs : s.length ≤ 2000000) (e7 : W.cell? ⟨10, 0, none⟩ = some (errV F 7)) (e8 : W.cell? ⟨11, 0, none⟩ = some (errV F 8)) :
    Ct Tryz.prog W 102 [strV s] [] (fun _ : Unit => errV F (accE s)) (fun _ => []) := by
  by_cases h4 : 4 ≤ s.length
  case neg =>
    have e : accE s = 7 := by unfold accE; rw [if_pos]; rw [formA_eq, decide_eq_false h4]; rfl
    rw [e]
    have q : decide (((s.length : Nat) : Int) < 4) = true := decide_eq_true (by omega)
    refine Ct.enter Tryz.func102 rfl Tryz.ntmps102 (by simp) (fun R => ?_)
    repeat' (first 
    | (refine ek_load ?_; refine EK_ev (Ev_loadOld rfl e7) ?_)
    | (refine ek_lss ?_; refine EK_ev (Ev_lssI_q rfl rfl q) ?_)
    | refine xst ?_
    | (refine xsa ?_; intro _)
    | (refine xsb ?_ ?_ <;> intro _ <;> first | (exfalso; omega) | skip)
    | refine xsc ?_
    | (refine KJ_draws (id := 1) (.op 0 (.op 1 (.op 2 (.op 3 (.op 4 (.op 5 (.op 6 (.op 7 (.ef 8 [] (.op 9 (.op 10 (.op 11 (.op 12 (.op 13 (.ef 14 [] (.op 15 (.op 16 .nil))))))))))))))))) (by kernel_rfl) (by kernel_rfl) ?_)
    | (refine KJ_draws (id := 3) (.op 0 (.op 1 (.op 2 (.op 3 (.op 4 (.ef 5 [] (.op 6 (.op 7 (.op 8 (.op 9 (.op 10 .nil))))))))))) (by kernel_rfl) (by kernel_rfl) ?_)
    | refine FW_alt ?_ ?_
    | refine FW_efn rfl rfl rfl rfl rfl ?_ ?_
    | refine KJ_flow ?_ ?_
    | exact Rech.nil
    | fail)
    all_goals (exact xdn ())
  have q4 : decide (((s.length : Nat) : Int) < 4) = false := decide_eq_false (by omega)
  have s1 : s.take (2 : Int).toNat = s.take 2 := rfl
  have s2 : s.drop (4 : Int).toNat = s.drop 4 := rfl
  have s3 : (s.take (4 : Int).toNat).drop (2 : Int).toNat = (s.drop 2).take 2 := by
    show (s.take 4).drop 2 = _
    rw [List.drop_take]
  have cp := parts_ct (W := W) (s.take 2) (s.drop 4) (by rw [List.length_take]; omega) (by rw [List.length_drop]; omega)
  have ca := iall_ct (W := W) (f := 101) (p := digB) ((s.drop 2).take 2) (by rw [List.length_take]; omega) (fun b => idig_ct b)
  have hform := formA_eq s
  rw [decide_eq_true h4, Bool.true_and] at hform
  cases hp : partsB (s.take 2) (s.drop 4) with
  | false =>
    rw [hp] at cp hform
    rw [Bool.false_and] at hform
    have e : accE s = 7 := by unfold accE; rw [if_pos hform]
    rw [e]
    refine Ct.enter Tryz.func102 rfl Tryz.ntmps102 (by simp) (fun R => ?_)
    repeat' (first 
    | (refine is_call ?_; refine KJ_call xE cp xP rfl (fun _ => ?_))
    | (refine ek_load ?_; refine EK_ev (Ev_loadOld rfl e7) ?_)
    | (refine ek_slice ?_; first | refine EK_ev (Ev_sliceFrom_p rfl rfl (by omega) s2) ?_ | refine EK_ev (Ev_sliceTo_p rfl rfl (by omega) s1) ?_)
    | (refine ek_lss ?_; refine EK_ev (Ev_lssI_q rfl rfl q4) ?_)
    | refine xst ?_
    | (refine xsa ?_; intro _)
    | (refine xsb ?_ ?_ <;> intro _ <;> first | (exfalso; omega) | skip)
    | refine xsc ?_
    | (refine KJ_draws (id := 1) (.op 0 (.op 1 (.op 2 (.op 3 (.op 4 (.op 5 (.op 6 (.op 7 (.ef 8 [] (.op 9 (.op 10 (.op 11 (.op 12 (.op 13 (.ef 14 [] (.op 15 (.op 16 .nil))))))))))))))))) (by kernel_rfl) (by kernel_rfl) ?_)
    | (refine KJ_draws (id := 3) (.op 0 (.op 1 (.op 2 (.op 3 (.op 4 (.ef 5 [] (.op 6 (.op 7 (.op 8 (.op 9 (.op 10 .nil))))))))))) (by kernel_rfl) (by kernel_rfl) ?_)
    | refine FW_alt ?_ ?_
    | refine FW_efn rfl rfl rfl rfl rfl ?_ ?_
    | refine KJ_flow ?_ ?_
    | exact Rech.nil
    | fail)
    all_goals (exact xdn ())
  | true =>
    rw [hp] at cp hform
    rw [Bool.true_and] at hform
    cases hd : ((s.drop 2).take 2).all digB with
    | false =>
      rw [hd] at ca hform
      have e : accE s = 7 := by unfold accE; rw [if_pos hform]
      rw [e]
      refine Ct.enter Tryz.func102 rfl Tryz.ntmps102 (by simp) (fun R => ?_)
      repeat' (first 
    | (refine is_call ?_; first | (refine KJ_call xE ca xP rfl (fun _ => ?_)) | (refine KJ_call xE cp xP rfl (fun _ => ?_)))
    | (refine ek_load ?_; refine EK_ev (Ev_loadOld rfl e7) ?_)
    | (refine ek_slice ?_; first | refine EK_ev (Ev_sliceStr_t rfl rfl rfl (by omega) s3) ?_ | refine EK_ev (Ev_sliceFrom_p rfl rfl (by omega) s2) ?_ | refine EK_ev (Ev_sliceTo_p rfl rfl (by omega) s1) ?_)
    | (refine ek_lss ?_; refine EK_ev (Ev_lssI_q rfl rfl q4) ?_)
    | refine xst ?_
    | (refine xsa ?_; intro _)
    | (refine xsb ?_ ?_ <;> intro _ <;> first | (exfalso; omega) | skip)
    | refine xsc ?_
    | (refine KJ_draws (id := 1) (.op 0 (.op 1 (.op 2 (.op 3 (.op 4 (.op 5 (.op 6 (.op 7 (.ef 8 [] (.op 9 (.op 10 (.op 11 (.op 12 (.op 13 (.ef 14 [] (.op 15 (.op 16 .nil))))))))))))))))) (by kernel_rfl) (by kernel_rfl) ?_)
    | (refine KJ_draws (id := 3) (.op 0 (.op 1 (.op 2 (.op 3 (.op 4 (.ef 5 [] (.op 6 (.op 7 (.op 8 (.op 9 (.op 10 .nil))))))))))) (by kernel_rfl) (by kernel_rfl) ?_)
    | refine FW_alt ?_ ?_
    | refine FW_efn rfl rfl rfl rfl rfl ?_ ?_
    | refine KJ_flow ?_ ?_
    | exact Rech.nil
    | fail)
      all_goals (exact xdn ())
    | true =>
      rw [hd] at ca hform
      have h5 : 5 ≤ s.length := by
        have := hform
        unfold formA at this
        simp only [Bool.and_eq_true, decide_eq_true_eq] at this
        omega
      obtain ⟨r, hr⟩ := body_some hform
      have hne : s.drop 4 ++ s.take 2 ≠ [] := by
        intro q
        have := congrArg List.length q
        rw [List.length_append, List.length_drop] at this
        simp at this; omega
      have cd : Ct Tryz.prog W 121 [strV (s.drop 4 ++ s.take 2)] [] (fun _ : Unit => .tuple #[strV (dig2 r), errV F 0]) (fun _ => []) := digits_ct (W := W) (F := F) (s.drop 4 ++ s.take 2) (by rw [List.length_append, List.length_drop, List.length_take]; omega) hne e7 (some r) hr
      have hdig : digits2 (s.drop 4 ++ s.take 2) = some (dig2 r) := by unfold digits2; rw [if_neg hne, hr]; rfl
      by_cases hx : dig2 r = (s.drop 2).take 2
      · have e : accE s = 0 := by unfold accE; rw [if_neg (by rw [hform]; decide), if_pos (by rw [hdig, hx])]
        rw [e]
        refine Ct.enter Tryz.func102 rfl Tryz.ntmps102 (by simp) (fun R => ?_)
        repeat' (first 
    | (refine is_call ?_; first | (refine KJ_call xE cd xP rfl (fun _ => ?_)) | (refine KJ_call xE ca xP rfl (fun _ => ?_)) | (refine KJ_call xE cp xP rfl (fun _ => ?_)))
    | (refine ek_slice ?_; first | refine EK_ev (Ev_sliceStr_t rfl rfl rfl (by omega) s3) ?_ | refine EK_ev (Ev_sliceFrom_p rfl rfl (by omega) s2) ?_ | refine EK_ev (Ev_sliceTo_p rfl rfl (by omega) s1) ?_)
    | (refine ek_add ?_; refine EK_ev (Ev_addS rfl rfl (by rw [List.length_drop, List.length_take]; omega)) ?_)
    | (refine ek_neq ?_; refine EK_ev (Ev_neqS_f rfl rfl hx) ?_)
    | (refine ek_lss ?_; refine EK_ev (Ev_lssI_q rfl rfl q4) ?_)
    | refine xst ?_
    | (refine xsa ?_; intro _)
    | (refine xsb ?_ ?_ <;> intro _ <;> first | (exfalso; omega) | skip)
    | refine xsc ?_
    | (refine KJ_draws (id := 1) (.op 0 (.op 1 (.op 2 (.op 3 (.op 4 (.op 5 (.op 6 (.op 7 (.ef 8 [] (.op 9 (.op 10 (.op 11 (.op 12 (.op 13 (.ef 14 [] (.op 15 (.op 16 .nil))))))))))))))))) (by kernel_rfl) (by kernel_rfl) ?_)
    | (refine KJ_draws (id := 3) (.op 0 (.op 1 (.op 2 (.op 3 (.op 4 (.ef 5 [] (.op 6 (.op 7 (.op 8 (.op 9 (.op 10 .nil))))))))))) (by kernel_rfl) (by kernel_rfl) ?_)
    | refine FW_alt ?_ ?_
    | refine FW_efn rfl rfl rfl rfl rfl ?_ ?_
    | refine KJ_flow ?_ ?_
    | exact Rech.nil
    | fail)
        all_goals (exact xdn ())
      · have e : accE s = 8 := by unfold accE; rw [if_neg (by rw [hform]; decide), if_neg (by rw [hdig]; exact fun q => hx (Option.some.inj q))]
        rw [e]
        refine Ct.enter Tryz.func102 rfl Tryz.ntmps102 (by simp) (fun R => ?_)
        repeat' (first 
    | (refine is_call ?_; first | (refine KJ_call xE cd xP rfl (fun _ => ?_)) | (refine KJ_call xE ca xP rfl (fun _ => ?_)) | (refine KJ_call xE cp xP rfl (fun _ => ?_)))
    | (refine ek_load ?_; refine EK_ev (Ev_loadOld rfl e8) ?_)
    | (refine ek_slice ?_; first | refine EK_ev (Ev_sliceStr_t rfl rfl rfl (by omega) s3) ?_ | refine EK_ev (Ev_sliceFrom_p rfl rfl (by omega) s2) ?_ | refine EK_ev (Ev_sliceTo_p rfl rfl (by omega) s1) ?_)
    | (refine ek_add ?_; refine EK_ev (Ev_addS rfl rfl (by rw [List.length_drop, List.length_take]; omega)) ?_)
    | (refine ek_neq ?_; refine EK_ev (Ev_neqS_t rfl rfl hx) ?_)
    | (refine ek_lss ?_; refine EK_ev (Ev_lssI_q rfl rfl q4) ?_)
    | refine xst ?_
    | (refine xsa ?_; intro _)
    | (refine xsb ?_ ?_ <;> intro _ <;> first | (exfalso; omega) | skip)
    | refine xsc ?_
    | (refine KJ_draws (id := 1) (.op 0 (.op 1 (.op 2 (.op 3 (.op 4 (.op 5 (.op 6 (.op 7 (.ef 8 [] (.op 9 (.op 10 (.op 11 (.op 12 (.op 13 (.ef 14 [] (.op 15 (.op 16 .nil))))))))))))))))) (by kernel_rfl) (by kernel_rfl) ?_)
    | (refine KJ_draws (id := 3) (.op 0 (.op 1 (.op 2 (.op 3 (.op 4 (.ef 5 [] (.op 6 (.op 7 (.op 8 (.op 9 (.op 10 .nil))))))))))) (by kernel_rfl) (by kernel_rfl) ?_)
    | refine FW_alt ?_ ?_
    | refine FW_efn rfl rfl rfl rfl rfl ?_ ?_
    | refine KJ_flow ?_ ?_
    | exact Rech.nil
    | fail)
        all_goals (exact xdn ())
end
end Go.Proofs.YtdbfemdpdpaffaaGreatDoor
/-
  Chapter 16: what may be a posting's id, a leg's account.
-/
namespace Go.Proofs.YtdbfemdpdpaffaaGreatDoor
open Go Go.RowKit
section
variable {W : World} {F : Nat → Addr}
set_option maxHeartbeats 2000000 in
theorem idfits_ct (s : List UInt8) (hs : s.length ≤ 2000000) (e26 : W.cell? ⟨0, 0, none⟩ = some (errV F 26)) : Ct Tryz.prog W 36 [strV s] [] (fun _ : Unit => .bool (pidOk s)) (fun _ => []) := by
  by_cases hh : ∃ l, s = 35 :: l
  · obtain ⟨l, rfl⟩ := hh
    have hl : l.length ≤ 2000000 := by simp only [List.length_cons] at hs; omega
    have c1 := cutp_yes (W := W) l hl
    have c2 := iId_ct (W := W) (F := F) l hl e26
    have e : pidOk (35 :: l) = (idOk l && decide (l.length ≤ 31)) := rfl
    rw [e]
    cases hi : idOk l with
    | false =>
      rw [hi, if_neg (by decide)] at c2
      have hne := errNe (F := F) (show (26 : Nat) ≠ 0 by decide)
      refine Ct.enter Tryz.func36 rfl Tryz.ntmps36 (by simp) (fun R => ?_)
      repeat' (first 
    | (refine is_call ?_; first | (refine KJ_call xE c2 xP rfl (fun _ => ?_)) | (refine KJ_call xE c1 xP rfl (fun _ => ?_)))
    | (refine ek_eql ?_; refine EK_ev (Ev_eqlNil rfl hne) ?_)
    | refine xst ?_
    | (refine xsa ?_; intro _)
    | (refine xsb ?_ ?_ <;> intro _ <;> first | (exfalso; omega) | skip)
    | refine xsc ?_
    | fail)
      all_goals (exact xdn ())
    | true =>
      rw [hi, if_pos rfl] at c2
      cases h31 : decide (l.length ≤ 31) with
      | false =>
        have q : decide ((((35 :: l : List UInt8).length : Nat) : Int) ≤ 32) = false := decide_eq_false (by have := of_decide_eq_false h31; simp only [List.length_cons]; omega)
        refine Ct.enter Tryz.func36 rfl Tryz.ntmps36 (by simp) (fun R => ?_)
        repeat' (first 
    | (refine is_call ?_; first | (refine KJ_call xE c2 xP rfl (fun _ => ?_)) | (refine KJ_call xE c1 xP rfl (fun _ => ?_)))
    | (refine ek_leq ?_; refine EK_ev (Ev_leqI_q rfl rfl q) ?_)
    | refine xst ?_
    | (refine xsa ?_; intro _)
    | (refine xsb ?_ ?_ <;> intro _ <;> first | (exfalso; omega) | skip)
    | refine xsc ?_
    | fail)
        all_goals (exact xdn ())
      | true =>
        have q : decide ((((35 :: l : List UInt8).length : Nat) : Int) ≤ 32) = true := decide_eq_true (by have := of_decide_eq_true h31; simp only [List.length_cons]; omega)
        refine Ct.enter Tryz.func36 rfl Tryz.ntmps36 (by simp) (fun R => ?_)
        repeat' (first 
    | (refine is_call ?_; first | (refine KJ_call xE c2 xP rfl (fun _ => ?_)) | (refine KJ_call xE c1 xP rfl (fun _ => ?_)))
    | (refine ek_leq ?_; refine EK_ev (Ev_leqI_q rfl rfl q) ?_)
    | refine xst ?_
    | (refine xsa ?_; intro _)
    | (refine xsb ?_ ?_ <;> intro _ <;> first | (exfalso; omega) | skip)
    | refine xsc ?_
    | fail)
        all_goals (exact xdn ())
  · have hd : s.head? ≠ some 35 := fun q => by
      cases s with
      | nil => simp at q
      | cons b l => simp at q; exact hh ⟨l, by rw [q]⟩
    have c1 := cutp_no (W := W) s hd
    have c2 := iId_ct (W := W) (F := F) s hs e26
    have e : pidOk s = idOk s := by
      cases s with
      | nil => rfl
      | cons b l =>
        show (if b.toNat = 35 then _ else _) = _
        rw [if_neg]
        intro q
        exact hh ⟨l, by rw [show b = 35 from UInt8.toNat_inj.1 q]⟩
    rw [e]
    cases hi : idOk s with
    | false =>
      rw [hi, if_neg (by decide)] at c2
      have hne := errNe (F := F) (show (26 : Nat) ≠ 0 by decide)
      refine Ct.enter Tryz.func36 rfl Tryz.ntmps36 (by simp) (fun R => ?_)
      repeat' (first 
    | (refine is_call ?_; first | (refine KJ_call xE c2 xP rfl (fun _ => ?_)) | (refine KJ_call xE c1 xP rfl (fun _ => ?_)))
    | (refine ek_eql ?_; refine EK_ev (Ev_eqlNil rfl hne) ?_)
    | refine xst ?_
    | (refine xsa ?_; intro _)
    | (refine xsb ?_ ?_ <;> intro _ <;> first | (exfalso; omega) | skip)
    | refine xsc ?_
    | fail)
      all_goals (exact xdn ())
    | true =>
      rw [hi, if_pos rfl] at c2
      refine Ct.enter Tryz.func36 rfl Tryz.ntmps36 (by simp) (fun R => ?_)
      repeat' (first 
    | (refine is_call ?_; first | (refine KJ_call xE c2 xP rfl (fun _ => ?_)) | (refine KJ_call xE c1 xP rfl (fun _ => ?_)))
    | refine xst ?_
    | (refine xsa ?_; intro _)
    | (refine xsb ?_ ?_ <;> intro _ <;> first | (exfalso; omega) | skip)
    | refine xsc ?_
    | fail)
      all_goals (exact xdn ())
def sysV : List Value := [.int .i64 2, .int .i64 3, .int .i64 4, .int .i64 5]
theorem systems_ct : Ct Tryz.prog W 104 [] [] (fun g : Nat => .slice (some ⟨g, 0, none⟩) 4 4) (fun g => [cellsP g sysV 3]) := by
  refine Ct.enter Tryz.func104 rfl Tryz.ntmps104 (by simp) (fun R => ?_)
  repeat' (first 
    | (refine is_bslice ?_; refine KJ_bsliceN (len := 4) (places := [(0, 1), (1, 1), (2, 1), (3, 1)]) (base := [.int .i64 0, .int .i64 0, .int .i64 0, .int .i64 0]) xV (by rfl) (by rfl) xW (by omega) rfl (fun gb => ?_))
    | refine xst ?_
    | (refine xsa ?_; intro _)
    | (refine xsb ?_ ?_ <;> intro _ <;> first | (exfalso; omega) | skip)
    | refine xsc ?_
    | fail)
  all_goals (exact xdn gb)
theorem sysV_get : ∀ k, k < 4 → sysV[k]? = some (.int .i64 ((k + 2 : Nat) : Int))
  | 0, _ => rfl
  | 1, _ => rfl
  | 2, _ => rfl
  | 3, _ => rfl
set_option maxHeartbeats 4000000 in
theorem accfits_ct (s : List UInt8) (hs : s.length ≤ 2000000) (e7 : W.cell? ⟨10, 0, none⟩ = some (errV F 7)) (e8 : W.cell? ⟨11, 0, none⟩ = some (errV F 8)) : Ct Tryz.prog W 68 [strV s] [] (fun _ : Unit => .bool (accB s)) (fun _ => []) := by
  have cc := check_ct (W := W) (F := F) s hs e7 e8
  have csy := systems_ct (W := W)
  by_cases h0 : accE s = 0
  · have e : accB s = true := by unfold accB; rw [decide_eq_true h0]; rfl
    rw [e]
    rw [h0] at cc
    refine Ct.enter Tryz.func68 rfl Tryz.ntmps68 (by simp) (fun R => ?_)
    repeat' (first 
    | (refine is_call ?_; refine KJ_call xE cc xP rfl (fun _ => ?_))
    | refine xst ?_
    | (refine xsa ?_; intro _)
    | (refine xsb ?_ ?_ <;> intro _ <;> first | (exfalso; omega) | skip)
    | refine xsc ?_
    | fail)
    all_goals (exact xdn ())
  have hne := errNe (F := F) h0
  have e : accB s = sysB s := by unfold accB; rw [decide_eq_false h0]; rfl
  rw [e]
  by_cases hm : (46 : UInt8) ∈ s
  case neg =>
    have ct := scut_no (W := W) s 46 hm
    rw [sysB_no hm]
    refine Ct.enter Tryz.func68 rfl Tryz.ntmps68 (by simp) (fun R => ?_)
    repeat' (first 
    | (refine is_call ?_; first | (refine KJ_call xE ct xP rfl (fun _ => ?_)) | (refine KJ_call xE cc xP rfl (fun _ => ?_)) | (refine KJ_call xE csy xP rfl (fun gs => ?_)))
    | (refine ek_eql ?_; refine EK_ev (Ev_eqlNil rfl hne) ?_)
    | refine xst ?_
    | (refine xsa ?_; intro _)
    | (refine xsb ?_ ?_ <;> intro _ <;> first | (exfalso; omega) | skip)
    | refine xsc ?_
    | fail)
    refine KJ_loop (fun i : {k : Nat // k ≤ 4} => [(0, strV s), (4, strV []), (5, .bool false), (17, .slice (some ⟨gs, 0, none⟩) 4 4), (18, .int .i64 4), (19, .int .i64 (i.1 : Nat))])
      (fun _ => [cellsP gs sysV 3] ++ R) (fun i => 4 - i.1) ⟨0, by omega⟩ xB (xN) (fun ⟨k, hk⟩ => ?_)
    dsimp only
    by_cases hlt : k < 4
    · have ql : decide (((k : Nat) : Int) < 4) = true := decide_eq_true (by omega)
      have hv := sysV_get k hlt
      repeat' (first 
    | (refine ek_load ?_; refine EK_ev (Ev_load rfl xS (by simpa using hv)) ?_)
    | (refine ek_lss ?_; refine EK_ev (Ev_lssI_q rfl rfl ql) ?_)
    | refine xst ?_
    | (refine xsa ?_; intro _)
    | (refine xsb ?_ ?_ <;> intro _ <;> first | (exfalso; omega) | skip)
    | refine xsc ?_
    | fail)
      all_goals exact KJ_again ⟨k + 1, by omega⟩ (by show 4 - (k + 1) < 4 - k; omega) xB (xN)
    · have ql : decide (((k : Nat) : Int) < 4) = false := decide_eq_false (by omega)
      repeat' (first 
    | (refine ek_lss ?_; refine EK_ev (Ev_lssI_q rfl rfl ql) ?_)
    | refine xst ?_
    | (refine xsa ?_; intro _)
    | (refine xsb ?_ ?_ <;> intro _ <;> first | (exfalso; omega) | skip)
    | refine xsc ?_
    | fail)
      all_goals (exact xdn ())
  obtain ⟨p, q, hpq, hp⟩ := cut_find hm
  have hlen : p.length + q.length ≤ 2000000 := by rw [hpq] at hs; simp only [List.length_append, List.length_cons] at hs; omega
  have ct := scut_yes (W := W) p q 46 hp hlen
  rw [← hpq] at ct
  have cs := fun k (hk : k < 4) => system_ct (W := W) k hk q (by omega)
  obtain ⟨r, hr⟩ : ∃ r, r = sysB s := ⟨_, rfl⟩
  have hiff : r = true ↔ ∃ k, k < 4 ∧ sysT k q = s := by rw [hr, hpq]; exact sysB_yes hp
  rw [← hr]
  refine Ct.enter Tryz.func68 rfl Tryz.ntmps68 (by simp) (fun R => ?_)
  repeat' (first 
    | (refine is_call ?_; first | (refine KJ_call xE ct xP rfl (fun _ => ?_)) | (refine KJ_call xE cc xP rfl (fun _ => ?_)) | (refine KJ_call xE csy xP rfl (fun gs => ?_)))
    | (refine ek_eql ?_; refine EK_ev (Ev_eqlNil rfl hne) ?_)
    | refine xst ?_
    | (refine xsa ?_; intro _)
    | (refine xsb ?_ ?_ <;> intro _ <;> first | (exfalso; omega) | skip)
    | refine xsc ?_
    | fail)
  refine KJ_loop (fun i : {k : Nat // k ≤ 4 ∧ ∀ j, j < k → sysT j q ≠ s} => [(0, strV s), (4, strV q), (5, .bool true), (17, .slice (some ⟨gs, 0, none⟩) 4 4), (18, .int .i64 4), (19, .int .i64 (i.1 : Nat))])
    (fun _ => [cellsP gs sysV 3] ++ R) (fun i => 4 - i.1) ⟨0, by omega, fun j h => absurd h (by omega)⟩ xB (xN) (fun ⟨k, hk, hj⟩ => ?_)
  dsimp only
  by_cases hlt : k < 4
  · have ql : decide (((k : Nat) : Int) < 4) = true := decide_eq_true (by omega)
    have hv := sysV_get k hlt
    have ck := cs k hlt
    by_cases hx : sysT k q = s
    · have hr2 : r = true := hiff.2 ⟨k, hlt, hx⟩
      subst hr2
      repeat' (first 
    | (refine is_call ?_; refine KJ_call xE ck xP rfl (fun _ => ?_))
    | (refine ek_load ?_; refine EK_ev (Ev_load rfl xS (by simpa using hv)) ?_)
    | (refine ek_eql ?_; refine EK_ev (Ev_eqlS_t rfl rfl hx) ?_)
    | (refine ek_lss ?_; refine EK_ev (Ev_lssI_q rfl rfl ql) ?_)
    | refine xst ?_
    | (refine xsa ?_; intro _)
    | (refine xsb ?_ ?_ <;> intro _ <;> first | (exfalso; omega) | skip)
    | refine xsc ?_
    | fail)
      all_goals (exact xdn ())
    · repeat' (first 
    | (refine is_call ?_; refine KJ_call xE ck xP rfl (fun _ => ?_))
    | (refine ek_load ?_; refine EK_ev (Ev_load rfl xS (by simpa using hv)) ?_)
    | (refine ek_eql ?_; refine EK_ev (Ev_eqlS_f rfl rfl hx) ?_)
    | (refine ek_lss ?_; refine EK_ev (Ev_lssI_q rfl rfl ql) ?_)
    | refine xst ?_
    | (refine xsa ?_; intro _)
    | (refine xsb ?_ ?_ <;> intro _ <;> first | (exfalso; omega) | skip)
    | refine xsc ?_
    | fail)
      all_goals exact KJ_again ⟨k + 1, by omega, fun j h => by by_cases e : j = k; subst e; exact hx; exact hj j (by omega)⟩ (by show 4 - (k + 1) < 4 - k; omega) xB (xN)
  · have ql : decide (((k : Nat) : Int) < 4) = false := decide_eq_false (by omega)
    have hr2 : r = false := by
      cases r with
      | false => rfl
      | true => obtain ⟨j, h1, h2⟩ := hiff.1 rfl; exact absurd h2 (hj j (by omega))
    subst hr2
    repeat' (first 
    | (refine ek_lss ?_; refine EK_ev (Ev_lssI_q rfl rfl ql) ?_)
    | refine xst ?_
    | (refine xsa ?_; intro _)
    | (refine xsb ?_ ?_ <;> intro _ <;> first | (exfalso; omega) | skip)
    | refine xsc ?_
    | fail)
    all_goals (exact xdn ())
end
end Go.Proofs.YtdbfemdpdpaffaaGreatDoor
