/-
  WiS1.
-/
import Derived.Test.YtnbgcimalpdfoaaGreatDoorPEL
import Derived.Test.YtnbgcimalpdfoaaGreatDoorPBZ
/-
  WindowsSum (chapter 19): what an account took, reckoned from the payments.
-/
namespace Go.Proofs.YtnbgcimalpdfoaaGreatDoor
open Go Go.RowKit
/-- a payment as it lies in memory -/
structure PayR where
  acc : List UInt8
  later : Int
  amt : Int
def payC (p : PayR) : List Value := [strV p.acc, .int .i64 p.later, .int .i64 p.amt]
theorem pay_ok : EncOk payC 3 := ⟨fun _ => rfl, fun x => by unfold payC; exact xO, by omega⟩
def nrmP (p : PayR) : PayN := ⟨p.acc, (p.later % 18446744073709551616 % 2000).toNat, (p.amt % 9223372036854775808).toNat⟩
theorem nrmP_lat (p : PayR) : (nrmP p).lat < 2000 := by unfold nrmP; dsimp only; omega
theorem nrmP_amt (p : PayR) : (nrmP p).amt < 9223372036854775808 := by unfold nrmP; dsimp only; omega
theorem u64_mod (x : Int) : IntKind.u64.wrap x = x % 18446744073709551616 := by
  simp [IntKind.wrap, IntKind.signed, IntKind.bits]
theorem and_mask (x : Int) (k : Nat) (hk : k ≤ 63) : AndF .i64 x ((2 ^ k - 1 : Nat) : Int) (((x % 18446744073709551616).toNat % 2 ^ k : Nat) : Int) := by
  refine ⟨?_⟩
  have hp : (2 : Nat) ^ k ≤ 2 ^ 63 := Nat.pow_le_pow_right (by omega) hk
  have hp0 : 0 < (2 : Nat) ^ k := Nat.pow_pos (by omega)
  have h63 : (2 : Nat) ^ 63 = 9223372036854775808 := by decide
  obtain ⟨m, hm⟩ : ∃ m, m = (2 : Nat) ^ k := ⟨_, rfl⟩
  have e : bits .and .i64 x ((2 ^ k - 1 : Nat) : Int) = IntKind.i64.wrap ((BitVec.ofInt 64 x &&& BitVec.ofInt 64 ((2 ^ k - 1 : Nat) : Int)).toNat : Int) := rfl
  have b1 : (BitVec.ofInt 64 x).toNat = (x % 18446744073709551616).toNat := by rw [BitVec.toNat_ofInt]; rfl
  have b2 : (BitVec.ofInt 64 ((2 ^ k - 1 : Nat) : Int)).toNat = 2 ^ k - 1 := by
    rw [BitVec.toNat_ofInt, ← hm]
    rw [← hm] at hp hp0
    omega
  rw [e, BitVec.toNat_and, b1, b2, Nat.and_two_pow_sub_one_eq_mod]
  have hl := Nat.mod_lt (x % 18446744073709551616).toNat hp0
  exact i64_small (by omega)
theorem and63 (x : Int) : AndF .i64 x 9223372036854775807 (((x % 9223372036854775808).toNat : Nat) : Int) := by
  have h := and_mask x 63 (by omega)
  have e : (x % 18446744073709551616).toNat % 2 ^ 63 = (x % 9223372036854775808).toNat := by
    rw [show (2 : Nat) ^ 63 = 9223372036854775808 by decide]
    omega
  rw [e] at h
  exact h
theorem and16 (x : Int) : AndF .i64 x 65535 (((x % 65536).toNat : Nat) : Int) := by
  have h := and_mask x 16 (by omega)
  have e : (x % 18446744073709551616).toNat % 2 ^ 16 = (x % 65536).toNat := by
    rw [show (2 : Nat) ^ 16 = 65536 by decide]
    omega
  rw [e] at h
  exact h
theorem lat_le (L : List PayR) : latS (L.map nrmP) ≤ 2000 * L.length := by
  induction L with
  | nil => simp [latS]
  | cons p l ih =>
    have := nrmP_lat p
    simp only [latS, List.map_cons, List.sum_cons, List.length_cons] at ih ⊢
    omega
theorem takeP_next {L : List PayR} {i : Nat} {p : PayR} (h : L[i]? = some p) : (L.take (i + 1)).map nrmP = (L.take i).map nrmP ++ [nrmP p] := by
  rw [List.take_add_one, h, List.map_append]
  rfl
section
variable {W : World}
instance fn_taken : FnIs Tryz.prog 12 := ⟨by kernel_rfl⟩
set_option maxHeartbeats 8000000 in
theorem taken_ct (A : SP) (a : Option Addr) (c : Nat) (L : List PayR) (hL : Lv W payC 3 A a L) (hl : L.length ≤ 1048576) (span most t : Nat) (h1 : 1 ≤ span) (h1b : span ≤ 1048576) (h2 : most < 9223372036854775808) (h3 : t ≤ 4611686018427387904) (acc : List UInt8) :
    Ct Tryz.prog W 12 [.slice a L.length c, .int .i64 (span : Nat), .int .i64 (most : Nat), .int .i64 (t : Nat), strV acc] [A] (fun _ : Unit => .int .i64 (tkGo span most t acc (L.map nrmP) 0 0 : Nat)) (fun _ => [A]) := by
  refine Ct.enter Tryz.func12 rfl Tryz.ntmps12 (by simp) (fun R => ?_)
  repeat' (first 
    | refine xst ?_
    | (refine xsa ?_; intro _)
    | (refine xsb ?_ ?_ <;> intro _ <;> first | (exfalso; omega) | skip)
    | refine xsc ?_
    | (refine KJ_draws (id := 7) (.op 0 (.op 1 (.op 2 (.op 3 (.op 4 (.op 5 (.op 6 (.op 7 (.op 8 (.op 9 (.op 10 (.op 11 (.op 12 (.op 13 (.op 14 (.op 15 (.op 16 (.op 17 (.op 18 (.op 19 .nil)))))))))))))))))))) (by kernel_rfl) (by kernel_rfl) ?_)
    | refine FW_alt ?_ ?_
    | refine FW_efn rfl rfl rfl rfl rfl ?_ ?_
    | refine KJ_flow ?_ ?_
    | exact Rech.nil
    | fail)
  refine KJ_loop (fun x : {x : Nat × Nat × Nat // x.1 ≤ L.length ∧ x.2.1 = latS ((L.take x.1).map nrmP) ∧ x.2.2 = tkGo span most t acc ((L.take x.1).map nrmP) 0 0} => [(1, .int .i64 (span : Nat)), (2, .int .i64 (most : Nat)), (3, .int .i64 (t : Nat)), (4, strV acc), (11, .int .i64 (x.1.2.1 : Nat)), (12, .int .i64 (x.1.2.2 : Nat)), (16, .slice a L.length c), (17, .int .i64 (L.length : Nat)), (18, .int .i64 (x.1.1 : Nat))])
    (fun _ => [A] ++ R) (fun x => L.length - x.1.1) ⟨(0, 0, 0), Nat.zero_le _, rfl, rfl⟩ xB (xN) (fun ⟨(i, tick, sum), hi, ht, hs⟩ => ?_)
  dsimp only at hi ht hs ⊢
  have hsl : sum ≤ most := by rw [hs]; exact tkGo_le acc _ 0 0 (Nat.zero_le _)
  by_cases hlt : i < L.length
  rotate_left
  · have ql : decide ((i : Int) < (L.length : Nat)) = false := decide_eq_false (by omega)
    obtain rfl : i = L.length := by omega
    rw [List.take_length] at hs
    repeat' (first 
    | (refine ek_lss ?_; refine EK_ev (Ev_lssI_q rfl rfl ql) ?_)
    | refine xst ?_
    | (refine xsa ?_; intro _)
    | (refine xsb ?_ ?_ <;> intro _ <;> first | (exfalso; omega) | skip)
    | refine xsc ?_
    | (refine KJ_draws (id := 7) (.op 0 (.op 1 (.op 2 (.op 3 (.op 4 (.op 5 (.op 6 (.op 7 (.op 8 (.op 9 (.op 10 (.op 11 (.op 12 (.op 13 (.op 14 (.op 15 (.op 16 (.op 17 (.op 18 (.op 19 .nil)))))))))))))))))))) (by kernel_rfl) (by kernel_rfl) ?_)
    | refine FW_alt ?_ ?_
    | refine FW_efn rfl rfl rfl rfl rfl ?_ ?_
    | refine KJ_flow ?_ ?_
    | exact Rech.nil
    | fail)
    all_goals exact xdn () (hc := by rw [← hs]; rfl)
  have ql : decide ((i : Int) < (L.length : Nat)) = true := decide_eq_true (by omega)
  obtain ⟨p, hp⟩ : ∃ s, L[i]? = some s := ⟨_, List.getElem?_eq_getElem hlt⟩
  refine KJ.lvSome hL xS (by omega) (fun b of hab => ?_)
  subst hab
  have hoff : of + Int.toNat (i : Int) * 3 = of + i * 3 := by simp
  have hnx := takeP_next hp
  have hll := lat_le (L.take i)
  rw [List.length_take] at hll
  have hlat := nrmP_lat p
  have hamt := nrmP_amt p
  obtain ⟨lat, hlat0⟩ : ∃ x, x = (nrmP p).lat := ⟨_, rfl⟩
  obtain ⟨amt, hamt0⟩ : ∃ x, x = (nrmP p).amt := ⟨_, rfl⟩
  have hacc : (nrmP p).acc = p.acc := rfl
  have c1 : IntKind.u64.wrap p.later = p.later % 18446744073709551616 := u64_mod _
  have c2 : p.later % 18446744073709551616 % 2000 = ((lat : Nat) : Int) := by rw [hlat0]; unfold nrmP; dsimp only; omega
  have c3 : IntKind.i64.wrap ((lat : Nat) : Int) = ((lat : Nat) : Int) := i64_small (by omega)
  have c4 : AndF .i64 p.amt 9223372036854775807 ((amt : Nat) : Int) := by rw [hamt0]; exact and63 p.amt
  have hT : latS ((L.take (i + 1)).map nrmP) = tick + lat := by rw [hnx, latS_snoc, ← ht, ← hlat0]
  have hS := tkGo_snoc span most t acc (nrmP p) ((L.take i).map nrmP) 0 0
  rw [← hnx, Nat.zero_add, ← ht, ← hs, ← hlat0, ← hamt0, hacc] at hS
  rw [← hlat0] at hlat
  rw [← hamt0] at hamt
  have d1 : ((tick + lat : Nat) : Int) / ((span : Nat) : Int) = (((tick + lat) / span : Nat) : Int) := by simp
  have d2 : ((t : Nat) : Int) / ((span : Nat) : Int) = ((t / span : Nat) : Int) := by simp
  clear hlat0 hamt0
  by_cases k1 : p.acc = acc
  rotate_left
  · rw [if_neg (by rintro ⟨h, -⟩; exact k1 h)] at hS
    repeat' (first 
    | (refine is_alloc ?_; refine KJ_alloc rfl (fun g => ?_))
    | (refine ek_load ?_; refine EK_ev (Ev_loadLv pay_ok hL rfl rfl xS hoff hp) ?_)
    | (refine ek_conv ?_; first | refine EK_ev (Ev_convI_v rfl c3) ?_ | refine EK_ev (Ev_convI_v rfl c1) ?_)
    | (refine ek_add ?_; first | refine EK_ev (Ev_addI_v (r := ((tick + lat : Nat) : Int)) rfl rfl (by omega) (by omega)) ?_ | refine EK_ev (Ev_addI_v (r := ((i + 1 : Nat) : Int)) rfl rfl (by omega) (by omega)) ?_)
    | (refine ek_rem ?_; refine EK_ev (Ev_rem_w rfl rfl (by omega) c2) ?_)
    | (refine ek_and ?_; refine EK_ev (Ev_and_s rfl rfl c4) ?_)
    | (refine ek_eql ?_; refine EK_ev (Ev_eqlS_f rfl rfl k1) ?_)
    | (refine ek_lss ?_; refine EK_ev (Ev_lssI_q rfl rfl ql) ?_)
    | refine xst ?_
    | (refine xsa ?_; intro _)
    | (refine xsb ?_ ?_ <;> intro _ <;> first | (exfalso; omega) | skip)
    | refine xsc ?_
    | (refine KJ_draws (id := 7) (.op 0 (.op 1 (.op 2 (.op 3 (.op 4 (.op 5 (.op 6 (.op 7 (.op 8 (.op 9 (.op 10 (.op 11 (.op 12 (.op 13 (.op 14 (.op 15 (.op 16 (.op 17 (.op 18 (.op 19 .nil)))))))))))))))))))) (by kernel_rfl) (by kernel_rfl) ?_)
    | refine FW_alt ?_ ?_
    | refine FW_efn rfl rfl rfl rfl rfl ?_ ?_
    | refine KJ_flow ?_ ?_
    | exact Rech.nil
    | fail)
    all_goals refine KJ_again ⟨(i + 1, tick + lat, sum), hlt, hT.symm, hS.symm⟩ (by show L.length - (i + 1) < L.length - i; omega) xB (xN)
  by_cases k2 : (tick + lat) / span = t / span
  rotate_left
  · rw [if_neg (by rintro ⟨-, h, -⟩; exact k2 h)] at hS
    have q2 : decide ((((tick + lat) / span : Nat) : Int) = ((t / span : Nat) : Int)) = false := decide_eq_false (by omega)
    repeat' (first 
    | (refine is_alloc ?_; refine KJ_alloc rfl (fun g => ?_))
    | (refine ek_load ?_; refine EK_ev (Ev_loadLv pay_ok hL rfl rfl xS hoff hp) ?_)
    | (refine ek_conv ?_; first | refine EK_ev (Ev_convI_v rfl c3) ?_ | refine EK_ev (Ev_convI_v rfl c1) ?_)
    | (refine ek_add ?_; first | refine EK_ev (Ev_addI_v (r := ((tick + lat : Nat) : Int)) rfl rfl (by omega) (by omega)) ?_ | refine EK_ev (Ev_addI_v (r := ((i + 1 : Nat) : Int)) rfl rfl (by omega) (by omega)) ?_)
    | (refine ek_quo ?_; first | refine EK_ev (Ev_quo_w rfl rfl (by omega) d2) ?_ | refine EK_ev (Ev_quo_w rfl rfl (by omega) d1) ?_)
    | (refine ek_rem ?_; refine EK_ev (Ev_rem_w rfl rfl (by omega) c2) ?_)
    | (refine ek_and ?_; refine EK_ev (Ev_and_s rfl rfl c4) ?_)
    | (refine ek_eql ?_; first | refine EK_ev (Ev_eqlS_t rfl rfl k1) ?_ | refine EK_ev (Ev_eqlI_q rfl rfl q2) ?_)
    | (refine ek_lss ?_; refine EK_ev (Ev_lssI_q rfl rfl ql) ?_)
    | refine xst ?_
    | (refine xsa ?_; intro _)
    | (refine xsb ?_ ?_ <;> intro _ <;> first | (exfalso; omega) | skip)
    | refine xsc ?_
    | (refine KJ_draws (id := 7) (.op 0 (.op 1 (.op 2 (.op 3 (.op 4 (.op 5 (.op 6 (.op 7 (.op 8 (.op 9 (.op 10 (.op 11 (.op 12 (.op 13 (.op 14 (.op 15 (.op 16 (.op 17 (.op 18 (.op 19 .nil)))))))))))))))))))) (by kernel_rfl) (by kernel_rfl) ?_)
    | refine FW_alt ?_ ?_
    | refine FW_efn rfl rfl rfl rfl rfl ?_ ?_
    | refine KJ_flow ?_ ?_
    | exact Rech.nil
    | fail)
    all_goals refine KJ_again ⟨(i + 1, tick + lat, sum), hlt, hT.symm, hS.symm⟩ (by show L.length - (i + 1) < L.length - i; omega) xB (xN)
  have q2 : decide ((((tick + lat) / span : Nat) : Int) = ((t / span : Nat) : Int)) = true := decide_eq_true (by omega)
  by_cases k3 : amt ≤ most - sum
  rotate_left
  · rw [if_neg (by rintro ⟨-, -, h⟩; exact k3 h)] at hS
    have q3 : decide (((amt : Nat) : Int) ≤ ((most : Nat) : Int) - ((sum : Nat) : Int)) = false := decide_eq_false (by omega)
    repeat' (first 
    | (refine is_alloc ?_; refine KJ_alloc rfl (fun g => ?_))
    | (refine ek_load ?_; refine EK_ev (Ev_loadLv pay_ok hL rfl rfl xS hoff hp) ?_)
    | (refine ek_conv ?_; first | refine EK_ev (Ev_convI_v rfl c3) ?_ | refine EK_ev (Ev_convI_v rfl c1) ?_)
    | (refine ek_add ?_; first | refine EK_ev (Ev_addI_v (r := ((tick + lat : Nat) : Int)) rfl rfl (by omega) (by omega)) ?_ | refine EK_ev (Ev_addI_v (r := ((i + 1 : Nat) : Int)) rfl rfl (by omega) (by omega)) ?_)
    | (refine ek_quo ?_; first | refine EK_ev (Ev_quo_w rfl rfl (by omega) d2) ?_ | refine EK_ev (Ev_quo_w rfl rfl (by omega) d1) ?_)
    | (refine ek_rem ?_; refine EK_ev (Ev_rem_w rfl rfl (by omega) c2) ?_)
    | (refine ek_and ?_; refine EK_ev (Ev_and_s rfl rfl c4) ?_)
    | (refine ek_eql ?_; first | refine EK_ev (Ev_eqlS_t rfl rfl k1) ?_ | refine EK_ev (Ev_eqlI_q rfl rfl q2) ?_)
    | (refine ek_lss ?_; refine EK_ev (Ev_lssI_q rfl rfl ql) ?_)
    | (refine ek_leq ?_; refine EK_ev (Ev_leqI_q rfl rfl q3) ?_)
    | refine xst ?_
    | (refine xsa ?_; intro _)
    | (refine xsb ?_ ?_ <;> intro _ <;> first | (exfalso; omega) | skip)
    | refine xsc ?_
    | (refine KJ_draws (id := 7) (.op 0 (.op 1 (.op 2 (.op 3 (.op 4 (.op 5 (.op 6 (.op 7 (.op 8 (.op 9 (.op 10 (.op 11 (.op 12 (.op 13 (.op 14 (.op 15 (.op 16 (.op 17 (.op 18 (.op 19 .nil)))))))))))))))))))) (by kernel_rfl) (by kernel_rfl) ?_)
    | refine FW_alt ?_ ?_
    | refine FW_efn rfl rfl rfl rfl rfl ?_ ?_
    | refine KJ_flow ?_ ?_
    | exact Rech.nil
    | fail)
    all_goals refine KJ_again ⟨(i + 1, tick + lat, sum), hlt, hT.symm, hS.symm⟩ (by show L.length - (i + 1) < L.length - i; omega) xB (xN)
  · rw [if_pos ⟨k1, k2, k3⟩] at hS
    have q3 : decide (((amt : Nat) : Int) ≤ ((most : Nat) : Int) - ((sum : Nat) : Int)) = true := decide_eq_true (by omega)
    repeat' (first 
    | (refine is_alloc ?_; refine KJ_alloc rfl (fun g => ?_))
    | (refine ek_load ?_; refine EK_ev (Ev_loadLv pay_ok hL rfl rfl xS hoff hp) ?_)
    | (refine ek_conv ?_; first | refine EK_ev (Ev_convI_v rfl c3) ?_ | refine EK_ev (Ev_convI_v rfl c1) ?_)
    | (refine ek_add ?_; first | refine EK_ev (Ev_addI_v (r := ((sum + amt : Nat) : Int)) rfl rfl (by omega) (by omega)) ?_ | refine EK_ev (Ev_addI_v (r := ((tick + lat : Nat) : Int)) rfl rfl (by omega) (by omega)) ?_ | refine EK_ev (Ev_addI_v (r := ((i + 1 : Nat) : Int)) rfl rfl (by omega) (by omega)) ?_)
    | (refine ek_quo ?_; first | refine EK_ev (Ev_quo_w rfl rfl (by omega) d2) ?_ | refine EK_ev (Ev_quo_w rfl rfl (by omega) d1) ?_)
    | (refine ek_rem ?_; refine EK_ev (Ev_rem_w rfl rfl (by omega) c2) ?_)
    | (refine ek_and ?_; refine EK_ev (Ev_and_s rfl rfl c4) ?_)
    | (refine ek_eql ?_; first | refine EK_ev (Ev_eqlS_t rfl rfl k1) ?_ | refine EK_ev (Ev_eqlI_q rfl rfl q2) ?_)
    | (refine ek_lss ?_; refine EK_ev (Ev_lssI_q rfl rfl ql) ?_)
    | (refine ek_leq ?_; refine EK_ev (Ev_leqI_q rfl rfl q3) ?_)
    | refine xst ?_
    | (refine xsa ?_; intro _)
    | (refine xsb ?_ ?_ <;> intro _ <;> first | (exfalso; omega) | skip)
    | refine xsc ?_
    | (refine KJ_draws (id := 7) (.op 0 (.op 1 (.op 2 (.op 3 (.op 4 (.op 5 (.op 6 (.op 7 (.op 8 (.op 9 (.op 10 (.op 11 (.op 12 (.op 13 (.op 14 (.op 15 (.op 16 (.op 17 (.op 18 (.op 19 .nil)))))))))))))))))))) (by kernel_rfl) (by kernel_rfl) ?_)
    | refine FW_alt ?_ ?_
    | refine FW_efn rfl rfl rfl rfl rfl ?_ ?_
    | refine KJ_flow ?_ ?_
    | exact Rech.nil
    | fail)
    all_goals refine KJ_again ⟨(i + 1, tick + lat, sum + amt), hlt, hT.symm, hS.symm⟩ (by show L.length - (i + 1) < L.length - i; omega) xB (xN)
end
end Go.Proofs.YtnbgcimalpdfoaaGreatDoor
