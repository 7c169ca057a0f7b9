/-
  PoD2, PoD10.
-/
import Derived.Test.YtdbfemdpdpaffaaGreatDoorPBP
import Derived.Test.YtdbfemdpdpaffaaGreatDoorPCO
import Derived.Test.YtdbfemdpdpaffaaGreatDoorPCW
import Derived.Test.YtdbfemdpdpaffaaGreatDoorPDB
/-
  The document's reading (chapter 1): a varint, a number, a text. (Printed by gend1.py.)
-/
namespace Go.Proofs.YtdbfemdpdpaffaaGreatDoor
open Go Go.RowKit
section
variable {W : World} {s : List UInt8} {a : Nat}
set_option maxHeartbeats 8000000 in
theorem dguint_ct (ha : a ≤ s.length) (hs : s.length ≤ 9223372036854775807) (q : Rd Nat) (hq : ru (s.drop a) = q) :
    Ct Tryz.prog W 92 [strV s, .int .i64 (a : Nat)] [] (fun _ : Unit => .tuple #[.int .u64 (rdN q : Nat), .int .i64 ((a + rdL q : Nat) : Int), .int .i64 (rdE q : Nat)]) (fun _ => []) := by
  have hdl : (s.drop a).length = s.length - a := List.length_drop
  refine Ct.enter Tryz.func92 rfl Tryz.ntmps92 (by simp) (fun R => ?_)
  repeat' (first 
    | refine xst ?_
    | (refine xsa ?_; intro _)
    | (refine xsb ?_ ?_ <;> intro _ <;> first | (exfalso; omega) | skip)
    | refine xsc ?_
    | fail)
  refine KJ_loop (fun i : {i : Nat × Nat // RuI (s.drop a) i.1 i.2} => [(0, strV s), (1, .int .i64 (a : Nat)), (7, .int .u64 (i.1.2 : Nat)), (8, .int .i64 (i.1.1 : Nat))])
    (fun _ => [] ++ R) (fun i => 10 - i.1.1) ⟨(0, 0), RuI.start _⟩ xB (xN) (fun ⟨(i, x), hi⟩ => ?_)
  dsimp only at hi ⊢
  have i9 := hi.i9
  have hil := hi.il
  by_cases hend : i = s.length - a
  · have hbad := hi.short (by omega)
    rw [hq] at hbad
    have qe : decide (((s.length : Nat) : Int) ≤ ((a + i : Nat) : Int)) = true := decide_eq_true (by omega)
    subst hbad
    repeat' (first 
    | (refine ek_add ?_; refine EK_ev (Ev_addI_v (r := ((a + i : Nat) : Int)) rfl rfl (by omega) (by omega)) ?_)
    | (refine ek_geq ?_; refine EK_ev (Ev_geqI_q rfl rfl qe) ?_)
    | refine xst ?_
    | (refine xsa ?_; intro _)
    | (refine xsb ?_ ?_ <;> intro _ <;> first | (exfalso; omega) | skip)
    | refine xsc ?_
    | fail)
    all_goals (exact xdn ())
  have qe : decide (((s.length : Nat) : Int) ≤ ((a + i : Nat) : Int)) = false := decide_eq_false (by omega)
  obtain ⟨b, hb⟩ : ∃ b, (s.drop a)[i]? = some b := ⟨_, List.getElem?_eq_getElem (by omega)⟩
  have hbs : s[a + i]? = some b := by rw [← hb, List.getElem?_drop]
  have hbt := UInt8.toNat_lt b
  have hcase : (i = 9 ∧ 1 < b.toNat) ∨ (i = 9 ∧ b.toNat = 0) ∨ (i = 9 ∧ b.toNat = 1) ∨ (i ≠ 9 ∧ b.toNat = 0 ∧ 0 < i) ∨ (i ≠ 9 ∧ b.toNat = 0 ∧ i = 0) ∨ (i ≠ 9 ∧ 0 < b.toNat ∧ b.toNat < 128 ∧ i = 0) ∨ (i ≠ 9 ∧ 0 < b.toNat ∧ b.toNat < 128 ∧ 0 < i) ∨ (i ≠ 9 ∧ ¬ b.toNat < 128 ∧ i = 0) ∨ (i ≠ 9 ∧ ¬ b.toNat < 128 ∧ 0 < i) := by omega
  rcases hcase with h9 | h9 | h9 | h9 | h9 | h9 | h9 | h9 | h9
  ·
    have hbad := hi.bad hb h9
    rw [hq] at hbad
    subst hbad
    have q9 : decide ((i : Int) = 9) = true := decide_eq_true (by omega)
    have qb : decide ((1 : Int) < (b.toNat : Int)) = true := decide_eq_true (by omega)
    repeat' (first 
    | (refine ek_index ?_; refine EK_ev (Ev_indexStr rfl rfl (by omega) hbs) ?_)
    | (refine ek_add ?_; refine EK_ev (Ev_addI_v (r := ((a + i : Nat) : Int)) rfl rfl (by omega) (by omega)) ?_)
    | (refine ek_eql ?_; refine EK_ev (Ev_eqlI_q rfl rfl q9) ?_)
    | (refine ek_gtr ?_; refine EK_ev (Ev_gtrI_q rfl rfl qb) ?_)
    | (refine ek_geq ?_; refine EK_ev (Ev_geqI_q rfl rfl qe) ?_)
    | refine xst ?_
    | (refine xsa ?_; intro _)
    | (refine xsb ?_ ?_ <;> intro _ <;> first | (exfalso; omega) | skip)
    | refine xsc ?_
    | fail)
    all_goals (exact xdn ())
  ·
    have hbad := hi.nought hb (by omega) (by omega)
    rw [hq] at hbad
    subst hbad
    have c1 : IntKind.u64.wrap ((b.toNat % 128 : Nat) : Int) = ((b.toNat % 128 : Nat) : Int) := u64_wrap _ (by omega)
    have hfit := hi.fit (b := b) (by omega)
    have sh := shl7 (b.toNat % 128) i i9 (by omega)
    have orr := or7 x (b.toNat % 128) i hi.x7 hfit
    have ql : decide ((b.toNat : Int) < 128) = true := decide_eq_true (by omega)
    have q9 : decide ((i : Int) = 9) = true := decide_eq_true (by omega)
    have qb : decide ((1 : Int) < (b.toNat : Int)) = false := decide_eq_false (by omega)
    have q0 : decide ((b.toNat : Int) = 0) = true := decide_eq_true (by omega)
    have q1 : decide ((0 : Int) < (i : Int)) = true := decide_eq_true (by omega)
    repeat' (first 
    | (refine ek_conv ?_; refine EK_ev (Ev_convI_v rfl c1) ?_)
    | (refine ek_index ?_; refine EK_ev (Ev_indexStr rfl rfl (by omega) hbs) ?_)
    | (refine ek_add ?_; first | refine EK_ev (Ev_addI_v (r := ((a + i : Nat) : Int)) rfl rfl (by omega) (by omega)) ?_ | refine EK_ev (Ev_addI_v (r := ((a + i + 1 : Nat) : Int)) rfl rfl (by omega) (by omega)) ?_ | refine EK_ev (Ev_addI_v (r := ((i + 1 : Nat) : Int)) rfl rfl (by omega) (by omega)) ?_)
    | (refine ek_mul ?_; refine EK_ev (Ev_mulI_v (r := ((7 * i : Nat) : Int)) rfl rfl (by omega) (by omega)) ?_)
    | (refine ek_rem ?_; refine EK_ev (Ev_rem_w (r := ((b.toNat % 128 : Nat) : Int)) rfl rfl (by omega) (by omega)) ?_)
    | (refine ek_or ?_; refine EK_ev (Ev_or_s rfl rfl orr) ?_)
    | (refine ek_shl ?_; refine EK_ev (Ev_shl_t rfl rfl sh) ?_)
    | (refine ek_eql ?_; first | refine EK_ev (Ev_eqlI_q rfl rfl q0) ?_ | refine EK_ev (Ev_eqlI_q rfl rfl q9) ?_)
    | (refine ek_lss ?_; refine EK_ev (Ev_lssI_q rfl rfl ql) ?_)
    | (refine ek_gtr ?_; first | refine EK_ev (Ev_gtrI_q rfl rfl q1) ?_ | refine EK_ev (Ev_gtrI_q rfl rfl qb) ?_)
    | (refine ek_geq ?_; refine EK_ev (Ev_geqI_q rfl rfl qe) ?_)
    | refine xst ?_
    | (refine xsa ?_; intro _)
    | (refine xsb ?_ ?_ <;> intro _ <;> first | (exfalso; omega) | skip)
    | refine xsc ?_
    | fail)
    all_goals (exact xdn ())
  ·
    have c1 : IntKind.u64.wrap ((b.toNat % 128 : Nat) : Int) = ((b.toNat % 128 : Nat) : Int) := u64_wrap _ (by omega)
    have hfit := hi.fit (b := b) (by omega)
    have sh := shl7 (b.toNat % 128) i i9 (by omega)
    have orr := or7 x (b.toNat % 128) i hi.x7 hfit
    have ql : decide ((b.toNat : Int) < 128) = true := decide_eq_true (by omega)
    have hok := hi.done hb (by omega) (by omega) (by omega)
    have hlen := RuI.len hok (by omega)
    rw [hq] at hok
    have hA : a + i + 1 = a + rdL q := by rw [hok]; show _ = a + (vu _).length; rw [hlen]; omega
    have hV : ((x + b.toNat % 128 * 2 ^ (7 * i) : Nat) : Int) = ((rdN q : Nat) : Int) := by rw [hok]; rfl
    have hZ : (0 : Int) = ((rdE q : Nat) : Int) := by rw [hok]; rfl
    have q9 : decide ((i : Int) = 9) = true := decide_eq_true (by omega)
    have qb : decide ((1 : Int) < (b.toNat : Int)) = false := decide_eq_false (by omega)
    have q0 : decide ((b.toNat : Int) = 0) = false := decide_eq_false (by omega)
    have q1 : decide ((0 : Int) < (i : Int)) = true := decide_eq_true (by omega)
    repeat' (first 
    | (refine ek_conv ?_; refine EK_ev (Ev_convI_v rfl c1) ?_)
    | (refine ek_index ?_; refine EK_ev (Ev_indexStr rfl rfl (by omega) hbs) ?_)
    | (refine ek_add ?_; first | refine EK_ev (Ev_addI_v (r := ((a + i : Nat) : Int)) rfl rfl (by omega) (by omega)) ?_ | refine EK_ev (Ev_addI_v (r := ((a + i + 1 : Nat) : Int)) rfl rfl (by omega) (by omega)) ?_ | refine EK_ev (Ev_addI_v (r := ((i + 1 : Nat) : Int)) rfl rfl (by omega) (by omega)) ?_)
    | (refine ek_mul ?_; refine EK_ev (Ev_mulI_v (r := ((7 * i : Nat) : Int)) rfl rfl (by omega) (by omega)) ?_)
    | (refine ek_rem ?_; refine EK_ev (Ev_rem_w (r := ((b.toNat % 128 : Nat) : Int)) rfl rfl (by omega) (by omega)) ?_)
    | (refine ek_or ?_; refine EK_ev (Ev_or_s rfl rfl orr) ?_)
    | (refine ek_shl ?_; refine EK_ev (Ev_shl_t rfl rfl sh) ?_)
    | (refine ek_eql ?_; first | refine EK_ev (Ev_eqlI_q rfl rfl q0) ?_ | refine EK_ev (Ev_eqlI_q rfl rfl q9) ?_)
    | (refine ek_lss ?_; refine EK_ev (Ev_lssI_q rfl rfl ql) ?_)
    | (refine ek_gtr ?_; first | refine EK_ev (Ev_gtrI_q rfl rfl q1) ?_ | refine EK_ev (Ev_gtrI_q rfl rfl qb) ?_)
    | (refine ek_geq ?_; refine EK_ev (Ev_geqI_q rfl rfl qe) ?_)
    | refine xst ?_
    | (refine xsa ?_; intro _)
    | (refine xsb ?_ ?_ <;> intro _ <;> first | (exfalso; omega) | skip)
    | refine xsc ?_
    | fail)
    all_goals rw [hA, hV]
    all_goals exact xdn () (hc := by rw [← hZ]; rfl)
  ·
    have hbad := hi.nought hb (by omega) (by omega)
    rw [hq] at hbad
    subst hbad
    have c1 : IntKind.u64.wrap ((b.toNat % 128 : Nat) : Int) = ((b.toNat % 128 : Nat) : Int) := u64_wrap _ (by omega)
    have hfit := hi.fit (b := b) (by omega)
    have sh := shl7 (b.toNat % 128) i i9 (by omega)
    have orr := or7 x (b.toNat % 128) i hi.x7 hfit
    have ql : decide ((b.toNat : Int) < 128) = true := decide_eq_true (by omega)
    have q9 : decide ((i : Int) = 9) = false := decide_eq_false (by omega)
    have q0 : decide ((b.toNat : Int) = 0) = true := decide_eq_true (by omega)
    have q1 : decide ((0 : Int) < (i : Int)) = true := decide_eq_true (by omega)
    repeat' (first 
    | (refine ek_conv ?_; refine EK_ev (Ev_convI_v rfl c1) ?_)
    | (refine ek_index ?_; refine EK_ev (Ev_indexStr rfl rfl (by omega) hbs) ?_)
    | (refine ek_add ?_; first | refine EK_ev (Ev_addI_v (r := ((a + i : Nat) : Int)) rfl rfl (by omega) (by omega)) ?_ | refine EK_ev (Ev_addI_v (r := ((a + i + 1 : Nat) : Int)) rfl rfl (by omega) (by omega)) ?_ | refine EK_ev (Ev_addI_v (r := ((i + 1 : Nat) : Int)) rfl rfl (by omega) (by omega)) ?_)
    | (refine ek_mul ?_; refine EK_ev (Ev_mulI_v (r := ((7 * i : Nat) : Int)) rfl rfl (by omega) (by omega)) ?_)
    | (refine ek_rem ?_; refine EK_ev (Ev_rem_w (r := ((b.toNat % 128 : Nat) : Int)) rfl rfl (by omega) (by omega)) ?_)
    | (refine ek_or ?_; refine EK_ev (Ev_or_s rfl rfl orr) ?_)
    | (refine ek_shl ?_; refine EK_ev (Ev_shl_t rfl rfl sh) ?_)
    | (refine ek_eql ?_; first | refine EK_ev (Ev_eqlI_q rfl rfl q0) ?_ | refine EK_ev (Ev_eqlI_q rfl rfl q9) ?_)
    | (refine ek_lss ?_; refine EK_ev (Ev_lssI_q rfl rfl ql) ?_)
    | (refine ek_gtr ?_; refine EK_ev (Ev_gtrI_q rfl rfl q1) ?_)
    | (refine ek_geq ?_; refine EK_ev (Ev_geqI_q rfl rfl qe) ?_)
    | refine xst ?_
    | (refine xsa ?_; intro _)
    | (refine xsb ?_ ?_ <;> intro _ <;> first | (exfalso; omega) | skip)
    | refine xsc ?_
    | fail)
    all_goals (exact xdn ())
  ·
    have c1 : IntKind.u64.wrap ((b.toNat % 128 : Nat) : Int) = ((b.toNat % 128 : Nat) : Int) := u64_wrap _ (by omega)
    have hfit := hi.fit (b := b) (by omega)
    have sh := shl7 (b.toNat % 128) i i9 (by omega)
    have orr := or7 x (b.toNat % 128) i hi.x7 hfit
    have ql : decide ((b.toNat : Int) < 128) = true := decide_eq_true (by omega)
    have hok := hi.done hb (by omega) (by omega) (by omega)
    have hlen := RuI.len hok (by omega)
    rw [hq] at hok
    have hA : a + i + 1 = a + rdL q := by rw [hok]; show _ = a + (vu _).length; rw [hlen]; omega
    have hV : ((x + b.toNat % 128 * 2 ^ (7 * i) : Nat) : Int) = ((rdN q : Nat) : Int) := by rw [hok]; rfl
    have hZ : (0 : Int) = ((rdE q : Nat) : Int) := by rw [hok]; rfl
    have q9 : decide ((i : Int) = 9) = false := decide_eq_false (by omega)
    have q0 : decide ((b.toNat : Int) = 0) = true := decide_eq_true (by omega)
    have q1 : decide ((0 : Int) < (i : Int)) = false := decide_eq_false (by omega)
    repeat' (first 
    | (refine ek_conv ?_; refine EK_ev (Ev_convI_v rfl c1) ?_)
    | (refine ek_index ?_; refine EK_ev (Ev_indexStr rfl rfl (by omega) hbs) ?_)
    | (refine ek_add ?_; first | refine EK_ev (Ev_addI_v (r := ((a + i : Nat) : Int)) rfl rfl (by omega) (by omega)) ?_ | refine EK_ev (Ev_addI_v (r := ((a + i + 1 : Nat) : Int)) rfl rfl (by omega) (by omega)) ?_ | refine EK_ev (Ev_addI_v (r := ((i + 1 : Nat) : Int)) rfl rfl (by omega) (by omega)) ?_)
    | (refine ek_mul ?_; refine EK_ev (Ev_mulI_v (r := ((7 * i : Nat) : Int)) rfl rfl (by omega) (by omega)) ?_)
    | (refine ek_rem ?_; refine EK_ev (Ev_rem_w (r := ((b.toNat % 128 : Nat) : Int)) rfl rfl (by omega) (by omega)) ?_)
    | (refine ek_or ?_; refine EK_ev (Ev_or_s rfl rfl orr) ?_)
    | (refine ek_shl ?_; refine EK_ev (Ev_shl_t rfl rfl sh) ?_)
    | (refine ek_eql ?_; first | refine EK_ev (Ev_eqlI_q rfl rfl q0) ?_ | refine EK_ev (Ev_eqlI_q rfl rfl q9) ?_)
    | (refine ek_lss ?_; refine EK_ev (Ev_lssI_q rfl rfl ql) ?_)
    | (refine ek_gtr ?_; refine EK_ev (Ev_gtrI_q rfl rfl q1) ?_)
    | (refine ek_geq ?_; refine EK_ev (Ev_geqI_q rfl rfl qe) ?_)
    | refine xst ?_
    | (refine xsa ?_; intro _)
    | (refine xsb ?_ ?_ <;> intro _ <;> first | (exfalso; omega) | skip)
    | refine xsc ?_
    | fail)
    all_goals rw [hA, hV]
    all_goals exact xdn () (hc := by rw [← hZ]; rfl)
  ·
    have c1 : IntKind.u64.wrap ((b.toNat % 128 : Nat) : Int) = ((b.toNat % 128 : Nat) : Int) := u64_wrap _ (by omega)
    have hfit := hi.fit (b := b) (by omega)
    have sh := shl7 (b.toNat % 128) i i9 (by omega)
    have orr := or7 x (b.toNat % 128) i hi.x7 hfit
    have ql : decide ((b.toNat : Int) < 128) = true := decide_eq_true (by omega)
    have hok := hi.done hb (by omega) (by omega) (by omega)
    have hlen := RuI.len hok (by omega)
    rw [hq] at hok
    have hA : a + i + 1 = a + rdL q := by rw [hok]; show _ = a + (vu _).length; rw [hlen]; omega
    have hV : ((x + b.toNat % 128 * 2 ^ (7 * i) : Nat) : Int) = ((rdN q : Nat) : Int) := by rw [hok]; rfl
    have hZ : (0 : Int) = ((rdE q : Nat) : Int) := by rw [hok]; rfl
    have q9 : decide ((i : Int) = 9) = false := decide_eq_false (by omega)
    have q0 : decide ((b.toNat : Int) = 0) = false := decide_eq_false (by omega)
    repeat' (first 
    | (refine ek_conv ?_; refine EK_ev (Ev_convI_v rfl c1) ?_)
    | (refine ek_index ?_; refine EK_ev (Ev_indexStr rfl rfl (by omega) hbs) ?_)
    | (refine ek_add ?_; first | refine EK_ev (Ev_addI_v (r := ((a + i : Nat) : Int)) rfl rfl (by omega) (by omega)) ?_ | refine EK_ev (Ev_addI_v (r := ((a + i + 1 : Nat) : Int)) rfl rfl (by omega) (by omega)) ?_ | refine EK_ev (Ev_addI_v (r := ((i + 1 : Nat) : Int)) rfl rfl (by omega) (by omega)) ?_)
    | (refine ek_mul ?_; refine EK_ev (Ev_mulI_v (r := ((7 * i : Nat) : Int)) rfl rfl (by omega) (by omega)) ?_)
    | (refine ek_rem ?_; refine EK_ev (Ev_rem_w (r := ((b.toNat % 128 : Nat) : Int)) rfl rfl (by omega) (by omega)) ?_)
    | (refine ek_or ?_; refine EK_ev (Ev_or_s rfl rfl orr) ?_)
    | (refine ek_shl ?_; refine EK_ev (Ev_shl_t rfl rfl sh) ?_)
    | (refine ek_eql ?_; first | refine EK_ev (Ev_eqlI_q rfl rfl q0) ?_ | refine EK_ev (Ev_eqlI_q rfl rfl q9) ?_)
    | (refine ek_lss ?_; refine EK_ev (Ev_lssI_q rfl rfl ql) ?_)
    | (refine ek_geq ?_; refine EK_ev (Ev_geqI_q rfl rfl qe) ?_)
    | refine xst ?_
    | (refine xsa ?_; intro _)
    | (refine xsb ?_ ?_ <;> intro _ <;> first | (exfalso; omega) | skip)
    | refine xsc ?_
    | fail)
    all_goals rw [hA, hV]
    all_goals exact xdn () (hc := by rw [← hZ]; rfl)
  ·
    have c1 : IntKind.u64.wrap ((b.toNat % 128 : Nat) : Int) = ((b.toNat % 128 : Nat) : Int) := u64_wrap _ (by omega)
    have hfit := hi.fit (b := b) (by omega)
    have sh := shl7 (b.toNat % 128) i i9 (by omega)
    have orr := or7 x (b.toNat % 128) i hi.x7 hfit
    have ql : decide ((b.toNat : Int) < 128) = true := decide_eq_true (by omega)
    have hok := hi.done hb (by omega) (by omega) (by omega)
    have hlen := RuI.len hok (by omega)
    rw [hq] at hok
    have hA : a + i + 1 = a + rdL q := by rw [hok]; show _ = a + (vu _).length; rw [hlen]; omega
    have hV : ((x + b.toNat % 128 * 2 ^ (7 * i) : Nat) : Int) = ((rdN q : Nat) : Int) := by rw [hok]; rfl
    have hZ : (0 : Int) = ((rdE q : Nat) : Int) := by rw [hok]; rfl
    have q9 : decide ((i : Int) = 9) = false := decide_eq_false (by omega)
    have q0 : decide ((b.toNat : Int) = 0) = false := decide_eq_false (by omega)
    repeat' (first 
    | (refine ek_conv ?_; refine EK_ev (Ev_convI_v rfl c1) ?_)
    | (refine ek_index ?_; refine EK_ev (Ev_indexStr rfl rfl (by omega) hbs) ?_)
    | (refine ek_add ?_; first | refine EK_ev (Ev_addI_v (r := ((a + i : Nat) : Int)) rfl rfl (by omega) (by omega)) ?_ | refine EK_ev (Ev_addI_v (r := ((a + i + 1 : Nat) : Int)) rfl rfl (by omega) (by omega)) ?_ | refine EK_ev (Ev_addI_v (r := ((i + 1 : Nat) : Int)) rfl rfl (by omega) (by omega)) ?_)
    | (refine ek_mul ?_; refine EK_ev (Ev_mulI_v (r := ((7 * i : Nat) : Int)) rfl rfl (by omega) (by omega)) ?_)
    | (refine ek_rem ?_; refine EK_ev (Ev_rem_w (r := ((b.toNat % 128 : Nat) : Int)) rfl rfl (by omega) (by omega)) ?_)
    | (refine ek_or ?_; refine EK_ev (Ev_or_s rfl rfl orr) ?_)
    | (refine ek_shl ?_; refine EK_ev (Ev_shl_t rfl rfl sh) ?_)
    | (refine ek_eql ?_; first | refine EK_ev (Ev_eqlI_q rfl rfl q0) ?_ | refine EK_ev (Ev_eqlI_q rfl rfl q9) ?_)
    | (refine ek_lss ?_; refine EK_ev (Ev_lssI_q rfl rfl ql) ?_)
    | (refine ek_geq ?_; refine EK_ev (Ev_geqI_q rfl rfl qe) ?_)
    | refine xst ?_
    | (refine xsa ?_; intro _)
    | (refine xsb ?_ ?_ <;> intro _ <;> first | (exfalso; omega) | skip)
    | refine xsc ?_
    | fail)
    all_goals rw [hA, hV]
    all_goals exact xdn () (hc := by rw [← hZ]; rfl)
  ·
    have c1 : IntKind.u64.wrap ((b.toNat % 128 : Nat) : Int) = ((b.toNat % 128 : Nat) : Int) := u64_wrap _ (by omega)
    have hfit := hi.fit (b := b) (by omega)
    have sh := shl7 (b.toNat % 128) i i9 (by omega)
    have orr := or7 x (b.toNat % 128) i hi.x7 hfit
    have ql : decide ((b.toNat : Int) < 128) = false := decide_eq_false (by omega)
    have hnx := hi.next hb (by omega) (by omega)
    have q9 : decide ((i : Int) = 9) = false := decide_eq_false (by omega)
    repeat' (first 
    | (refine ek_conv ?_; refine EK_ev (Ev_convI_v rfl c1) ?_)
    | (refine ek_index ?_; refine EK_ev (Ev_indexStr rfl rfl (by omega) hbs) ?_)
    | (refine ek_add ?_; first | refine EK_ev (Ev_addI_v (r := ((a + i : Nat) : Int)) rfl rfl (by omega) (by omega)) ?_ | refine EK_ev (Ev_addI_v (r := ((a + i + 1 : Nat) : Int)) rfl rfl (by omega) (by omega)) ?_ | refine EK_ev (Ev_addI_v (r := ((i + 1 : Nat) : Int)) rfl rfl (by omega) (by omega)) ?_)
    | (refine ek_mul ?_; refine EK_ev (Ev_mulI_v (r := ((7 * i : Nat) : Int)) rfl rfl (by omega) (by omega)) ?_)
    | (refine ek_rem ?_; refine EK_ev (Ev_rem_w (r := ((b.toNat % 128 : Nat) : Int)) rfl rfl (by omega) (by omega)) ?_)
    | (refine ek_or ?_; refine EK_ev (Ev_or_s rfl rfl orr) ?_)
    | (refine ek_shl ?_; refine EK_ev (Ev_shl_t rfl rfl sh) ?_)
    | (refine ek_eql ?_; refine EK_ev (Ev_eqlI_q rfl rfl q9) ?_)
    | (refine ek_lss ?_; refine EK_ev (Ev_lssI_q rfl rfl ql) ?_)
    | (refine ek_geq ?_; refine EK_ev (Ev_geqI_q rfl rfl qe) ?_)
    | refine xst ?_
    | (refine xsa ?_; intro _)
    | (refine xsb ?_ ?_ <;> intro _ <;> first | (exfalso; omega) | skip)
    | refine xsc ?_
    | fail)
    all_goals refine KJ_again ⟨(i + 1, x + b.toNat % 128 * 2 ^ (7 * i)), hnx⟩ (by show 10 - (i + 1) < 10 - i; omega) xB (xN)
  ·
    have c1 : IntKind.u64.wrap ((b.toNat % 128 : Nat) : Int) = ((b.toNat % 128 : Nat) : Int) := u64_wrap _ (by omega)
    have hfit := hi.fit (b := b) (by omega)
    have sh := shl7 (b.toNat % 128) i i9 (by omega)
    have orr := or7 x (b.toNat % 128) i hi.x7 hfit
    have ql : decide ((b.toNat : Int) < 128) = false := decide_eq_false (by omega)
    have hnx := hi.next hb (by omega) (by omega)
    have q9 : decide ((i : Int) = 9) = false := decide_eq_false (by omega)
    repeat' (first 
    | (refine ek_conv ?_; refine EK_ev (Ev_convI_v rfl c1) ?_)
    | (refine ek_index ?_; refine EK_ev (Ev_indexStr rfl rfl (by omega) hbs) ?_)
    | (refine ek_add ?_; first | refine EK_ev (Ev_addI_v (r := ((a + i : Nat) : Int)) rfl rfl (by omega) (by omega)) ?_ | refine EK_ev (Ev_addI_v (r := ((a + i + 1 : Nat) : Int)) rfl rfl (by omega) (by omega)) ?_ | refine EK_ev (Ev_addI_v (r := ((i + 1 : Nat) : Int)) rfl rfl (by omega) (by omega)) ?_)
    | (refine ek_mul ?_; refine EK_ev (Ev_mulI_v (r := ((7 * i : Nat) : Int)) rfl rfl (by omega) (by omega)) ?_)
    | (refine ek_rem ?_; refine EK_ev (Ev_rem_w (r := ((b.toNat % 128 : Nat) : Int)) rfl rfl (by omega) (by omega)) ?_)
    | (refine ek_or ?_; refine EK_ev (Ev_or_s rfl rfl orr) ?_)
    | (refine ek_shl ?_; refine EK_ev (Ev_shl_t rfl rfl sh) ?_)
    | (refine ek_eql ?_; refine EK_ev (Ev_eqlI_q rfl rfl q9) ?_)
    | (refine ek_lss ?_; refine EK_ev (Ev_lssI_q rfl rfl ql) ?_)
    | (refine ek_geq ?_; refine EK_ev (Ev_geqI_q rfl rfl qe) ?_)
    | refine xst ?_
    | (refine xsa ?_; intro _)
    | (refine xsb ?_ ?_ <;> intro _ <;> first | (exfalso; omega) | skip)
    | refine xsc ?_
    | fail)
    all_goals refine KJ_again ⟨(i + 1, x + b.toNat % 128 * 2 ^ (7 * i)), hnx⟩ (by show 10 - (i + 1) < 10 - i; omega) xB (xN)
set_option maxHeartbeats 2000000 in
theorem dgupto_ct (most : Nat) (hm : most ≤ 4611686018427387904) (ha : a ≤ s.length) (hs : s.length ≤ 9223372036854775807) (q : Rd Nat) (hq : rup most (s.drop a) = q) :
    Ct Tryz.prog W 57 [strV s, .int .i64 (a : Nat), .int .i64 (most : Nat)] [] (fun _ : Unit => .tuple #[.int .i64 (rdN q : Nat), .int .i64 ((a + rdL q : Nat) : Int), .int .i64 (rdE q : Nat)]) (fun _ => []) := by
  have cn0 := fun w hw => dguint_ct (W := W) (s := s) (a := a) ha hs w hw
  have q0 : decide (((most : Nat) : Int) < 0) = false := decide_eq_false (by omega)
  have w1 : IntKind.u64.wrap ((most : Nat) : Int) = ((most : Nat) : Int) := u64_wrap _ (by omega)
  unfold rup at hq
  cases h : ru (s.drop a) with
  | bad e =>
    rw [h] at hq
    subst hq
    have cn := cn0 _ h
    have hne : decide (((e : Nat) : Int) ≠ 0) = true := decide_eq_true (by have := ru_err h; omega)
    rw [show rdN (.bad e) = 0 from rfl, show rdL (.bad e) = 0 from rfl, show rdE (α := Nat) (.bad e) = e from rfl, Nat.add_zero] at cn ⊢
    refine Ct.enter Tryz.func57 rfl Tryz.ntmps57 (by simp) (fun R => ?_)
    repeat' (first 
    | (refine is_call ?_; refine KJ_call xE cn xP rfl (fun _ => ?_))
    | (refine ek_neq ?_; refine EK_ev (Ev_neqI_q rfl rfl hne) ?_)
    | refine xst ?_
    | (refine xsa ?_; intro _)
    | (refine xsb ?_ ?_ <;> intro _ <;> first | (exfalso; omega) | skip)
    | refine xsc ?_
    | fail)
    all_goals (exact xdn ())
  | ok n t =>
    rw [h] at hq
    dsimp only at hq
    have cn := cn0 _ h
    have hne : decide (((0 : Nat) : Int) ≠ 0) = false := rfl
    rw [show rdN (.ok n t) = n from rfl, show rdL (.ok n t) = (vu n).length from rfl, show rdE (.ok n t) = 0 from rfl] at cn
    obtain ⟨a1, ha1⟩ : ∃ a1, a1 = a + (vu n).length := ⟨_, rfl⟩
    rw [← ha1] at cn
    by_cases hx : most < n
    · rw [if_pos hx] at hq
      subst hq
      have qg : decide (((most : Nat) : Int) < ((n : Nat) : Int)) = true := decide_eq_true (by omega)
      rw [show rdN (.bad 3) = 0 from rfl, show rdL (.bad 3) = 0 from rfl, show rdE (α := Nat) (.bad 3) = 3 from rfl, Nat.add_zero]
      refine Ct.enter Tryz.func57 rfl Tryz.ntmps57 (by simp) (fun R => ?_)
      repeat' (first 
    | (refine is_call ?_; refine KJ_call xE cn xP rfl (fun _ => ?_))
    | (refine ek_conv ?_; refine EK_ev (Ev_convI_v rfl w1) ?_)
    | (refine ek_neq ?_; refine EK_ev (Ev_neqI_q rfl rfl hne) ?_)
    | (refine ek_lss ?_; refine EK_ev (Ev_lssI_q rfl rfl q0) ?_)
    | (refine ek_gtr ?_; refine EK_ev (Ev_gtrI_q rfl rfl qg) ?_)
    | refine xst ?_
    | (refine xsa ?_; intro _)
    | (refine xsb ?_ ?_ <;> intro _ <;> first | (exfalso; omega) | skip)
    | refine xsc ?_
    | fail)
      all_goals (exact xdn ())
    · rw [if_neg hx] at hq
      subst hq
      have qg : decide (((most : Nat) : Int) < ((n : Nat) : Int)) = false := decide_eq_false (by omega)
      have w2 : IntKind.i64.wrap ((n : Nat) : Int) = ((n : Nat) : Int) := i64_wrap _ (by omega)
      rw [show rdN (.ok n t) = n from rfl, show rdL (.ok n t) = (vu n).length from rfl, show rdE (.ok n t) = 0 from rfl, ← ha1]
      refine Ct.enter Tryz.func57 rfl Tryz.ntmps57 (by simp) (fun R => ?_)
      repeat' (first 
    | (refine is_call ?_; refine KJ_call xE cn xP rfl (fun _ => ?_))
    | (refine ek_conv ?_; first | refine EK_ev (Ev_convI_v rfl w2) ?_ | refine EK_ev (Ev_convI_v rfl w1) ?_)
    | (refine ek_neq ?_; refine EK_ev (Ev_neqI_q rfl rfl hne) ?_)
    | (refine ek_lss ?_; refine EK_ev (Ev_lssI_q rfl rfl q0) ?_)
    | (refine ek_gtr ?_; refine EK_ev (Ev_gtrI_q rfl rfl qg) ?_)
    | refine xst ?_
    | (refine xsa ?_; intro _)
    | (refine xsb ?_ ?_ <;> intro _ <;> first | (exfalso; omega) | skip)
    | refine xsc ?_
    | fail)
      all_goals (exact xdn ())
set_option maxHeartbeats 2000000 in
theorem dgint_ct (ha : a ≤ s.length) (hs : s.length ≤ 9223372036854775807) (q : Rd Nat) (hq : ru (s.drop a) = q) :
    Ct Tryz.prog W 58 [strV s, .int .i64 (a : Nat)] [] (fun _ : Unit => .tuple #[.int .i64 (zag (rdN q)), .int .i64 ((a + rdL q : Nat) : Int), .int .i64 (rdE q : Nat)]) (fun _ => []) := by
  have cn := dguint_ct (W := W) (s := s) (a := a) ha hs q hq
  cases q with
  | bad e =>
    have hne : decide (((e : Nat) : Int) ≠ 0) = true := decide_eq_true (by have := ru_err hq; omega)
    rw [show rdN (.bad e) = 0 from rfl, show rdL (.bad e) = 0 from rfl, show rdE (α := Nat) (.bad e) = e from rfl, Nat.add_zero] at cn ⊢
    rw [show zag 0 = 0 from rfl]
    refine Ct.enter Tryz.func58 rfl Tryz.ntmps58 (by simp) (fun R => ?_)
    repeat' (first 
    | (refine is_call ?_; refine KJ_call xE cn xP rfl (fun _ => ?_))
    | (refine ek_neq ?_; refine EK_ev (Ev_neqI_q rfl rfl hne) ?_)
    | refine xst ?_
    | (refine xsa ?_; intro _)
    | (refine xsb ?_ ?_ <;> intro _ <;> first | (exfalso; omega) | skip)
    | refine xsc ?_
    | fail)
    all_goals (exact xdn ())
  | ok n t =>
    have hne : decide (((0 : Nat) : Int) ≠ 0) = false := rfl
    have hn : n < 18446744073709551616 := (vu_ru hq).2
    rw [show rdN (.ok n t) = n from rfl, show rdL (.ok n t) = (vu n).length from rfl, show rdE (.ok n t) = 0 from rfl] at cn ⊢
    obtain ⟨a1, ha1⟩ : ∃ a1, a1 = a + (vu n).length := ⟨_, rfl⟩
    rw [← ha1] at cn ⊢
    have w0 : IntKind.u64.wrap ((n / 2 : Nat) : Int) = ((n / 2 : Nat) : Int) := u64_wrap _ (by omega)
    have w1 : IntKind.i64.wrap ((n / 2 : Nat) : Int) = ((n / 2 : Nat) : Int) := i64_wrap _ (by omega)
    by_cases hx : n % 2 = 1
    · have q1 : decide (((n % 2 : Nat) : Int) = 1) = true := decide_eq_true (by omega)
      have hz : zag n = -((n / 2 : Nat) : Int) - 1 := by unfold zag; rw [if_pos hx]
      have w2 : IntKind.i64.wrap (0 - ((n / 2 : Nat) : Int)) = -((n / 2 : Nat) : Int) := by rw [i64_wrap _ (by omega)]; omega
      rw [hz]
      refine Ct.enter Tryz.func58 rfl Tryz.ntmps58 (by simp) (fun R => ?_)
      repeat' (first 
    | (refine is_call ?_; refine KJ_call xE cn xP rfl (fun _ => ?_))
    | (refine ek_un ?_; refine EK_ev (Ev_neg_v rfl w2) ?_)
    | (refine ek_conv ?_; refine EK_ev (Ev_convI_v rfl w1) ?_)
    | (refine ek_sub ?_; refine EK_ev (Ev_subI_v (r := -((n / 2 : Nat) : Int) - 1) rfl rfl rfl (by omega)) ?_)
    | (refine ek_quo ?_; refine EK_ev (Ev_quo_u (r := n / 2) rfl rfl (by omega) (by omega) w0) ?_)
    | (refine ek_rem ?_; refine EK_ev (Ev_rem_w (r := ((n % 2 : Nat) : Int)) rfl rfl (by omega) (by omega)) ?_)
    | (refine ek_eql ?_; refine EK_ev (Ev_eqlI_q rfl rfl q1) ?_)
    | (refine ek_neq ?_; refine EK_ev (Ev_neqI_q rfl rfl hne) ?_)
    | refine xst ?_
    | (refine xsa ?_; intro _)
    | (refine xsb ?_ ?_ <;> intro _ <;> first | (exfalso; omega) | skip)
    | refine xsc ?_
    | fail)
      all_goals (exact xdn ())
    · have q1 : decide (((n % 2 : Nat) : Int) = 1) = false := decide_eq_false (by omega)
      have hz : zag n = ((n / 2 : Nat) : Int) := by unfold zag; rw [if_neg hx]
      rw [hz]
      refine Ct.enter Tryz.func58 rfl Tryz.ntmps58 (by simp) (fun R => ?_)
      repeat' (first 
    | (refine is_call ?_; refine KJ_call xE cn xP rfl (fun _ => ?_))
    | (refine ek_conv ?_; refine EK_ev (Ev_convI_v rfl w1) ?_)
    | (refine ek_quo ?_; refine EK_ev (Ev_quo_u (r := n / 2) rfl rfl (by omega) (by omega) w0) ?_)
    | (refine ek_rem ?_; refine EK_ev (Ev_rem_w (r := ((n % 2 : Nat) : Int)) rfl rfl (by omega) (by omega)) ?_)
    | (refine ek_eql ?_; refine EK_ev (Ev_eqlI_q rfl rfl q1) ?_)
    | (refine ek_neq ?_; refine EK_ev (Ev_neqI_q rfl rfl hne) ?_)
    | refine xst ?_
    | (refine xsa ?_; intro _)
    | (refine xsb ?_ ?_ <;> intro _ <;> first | (exfalso; omega) | skip)
    | refine xsc ?_
    | fail)
      all_goals (exact xdn ())
set_option maxHeartbeats 2000000 in
theorem dgtext_ct (most : Nat) (hm : most ≤ 4611686018427387904) (ha : a ≤ s.length) (hs : s.length ≤ 9223372036854775807) (q : Rd (List UInt8)) (hq : rtx most (s.drop a) = q) :
    Ct Tryz.prog W 56 [strV s, .int .i64 (a : Nat), .int .i64 (most : Nat)] [] (fun _ : Unit => .tuple #[strV (rdS q), .int .i64 ((a + rdT q : Nat) : Int), .int .i64 (rdE q : Nat)]) (fun _ => []) := by
  rcases rtx_cases most (s.drop a) with ⟨e, h1, h2, h3⟩ | ⟨n, t, h1, h4, h2, h3⟩ | ⟨n, t, h1, h4, h5, h2, h3⟩ | ⟨n, t, h1, h4, h5, h2, h3⟩
  · rw [hq] at h2
    subst h2
    have cn := dgupto_ct (W := W) (s := s) (a := a) most hm ha (by omega) (.bad e) (by unfold rup; rw [h1])
    have hne : decide (((e : Nat) : Int) ≠ 0) = true := decide_eq_true (by have := ru_err h1; omega)
    rw [show rdN (.bad e) = 0 from rfl, show rdL (.bad e) = 0 from rfl, show rdE (α := Nat) (.bad e) = e from rfl, Nat.add_zero] at cn
    rw [show rdS (.bad e) = [] from rfl, show rdT (.bad e) = 0 from rfl, show rdE (α := List UInt8) (.bad e) = e from rfl, Nat.add_zero]
    refine Ct.enter Tryz.func56 rfl Tryz.ntmps56 (by simp) (fun R => ?_)
    repeat' (first 
    | (refine is_call ?_; refine KJ_call xE cn xP rfl (fun _ => ?_))
    | (refine ek_neq ?_; refine EK_ev (Ev_neqI_q rfl rfl hne) ?_)
    | refine xst ?_
    | (refine xsa ?_; intro _)
    | (refine xsb ?_ ?_ <;> intro _ <;> first | (exfalso; omega) | skip)
    | refine xsc ?_
    | fail)
    all_goals (exact xdn ())
  · rw [hq] at h2
    subst h2
    have cn := dgupto_ct (W := W) (s := s) (a := a) most hm ha (by omega) (.bad 3) (by unfold rup; rw [h1]; dsimp only; rw [if_pos h4])
    have hne : decide (((3 : Nat) : Int) ≠ 0) = true := rfl
    rw [show rdN (.bad 3) = 0 from rfl, show rdL (.bad 3) = 0 from rfl, show rdE (α := Nat) (.bad 3) = 3 from rfl, Nat.add_zero] at cn
    rw [show rdS (.bad 3) = [] from rfl, show rdT (.bad 3) = 0 from rfl, show rdE (α := List UInt8) (.bad 3) = 3 from rfl, Nat.add_zero]
    refine Ct.enter Tryz.func56 rfl Tryz.ntmps56 (by simp) (fun R => ?_)
    repeat' (first 
    | (refine is_call ?_; refine KJ_call xE cn xP rfl (fun _ => ?_))
    | (refine ek_neq ?_; refine EK_ev (Ev_neqI_q rfl rfl hne) ?_)
    | refine xst ?_
    | (refine xsa ?_; intro _)
    | (refine xsb ?_ ?_ <;> intro _ <;> first | (exfalso; omega) | skip)
    | refine xsc ?_
    | fail)
    all_goals (exact xdn ())
  · have cn := dgupto_ct (W := W) (s := s) (a := a) most hm ha (by omega) (.ok n t) (by unfold rup; rw [h1]; dsimp only; rw [if_neg h4])
    have hne : decide (((0 : Nat) : Int) ≠ 0) = false := rfl
    rw [show rdN (.ok n t) = n from rfl, show rdL (.ok n t) = (vu n).length from rfl, show rdE (.ok n t) = 0 from rfl] at cn
    have hf := ru_fit h1
    have htd := ru_drop h1
    have ht := congrArg List.length htd
    rw [List.length_drop] at ht
    obtain ⟨a1, ha1⟩ : ∃ a1, a1 = a + (vu n).length := ⟨_, rfl⟩
    rw [← ha1] at cn hf ht htd
    rw [hq] at h2
    subst h2
    have qg : decide ((((s.length : Nat) : Int) - ((a1 : Nat) : Int)) < ((n : Nat) : Int)) = true := decide_eq_true (by omega)
    have qs : ((s.length : Nat) : Int) - ((a1 : Nat) : Int) = ((s.length - a1 : Nat) : Int) := by omega
    rw [show rdS (.bad 1) = [] from rfl, show rdT (.bad 1) = 0 from rfl, show rdE (α := List UInt8) (.bad 1) = 1 from rfl, Nat.add_zero]
    refine Ct.enter Tryz.func56 rfl Tryz.ntmps56 (by simp) (fun R => ?_)
    repeat' (first 
    | (refine is_call ?_; refine KJ_call xE cn xP rfl (fun _ => ?_))
    | (refine ek_sub ?_; refine EK_ev (Ev_subI_v rfl rfl rfl (by omega)) ?_)
    | (refine ek_neq ?_; refine EK_ev (Ev_neqI_q rfl rfl hne) ?_)
    | (refine ek_lss ?_; refine EK_ev (Ev_lssI_q rfl rfl qg) ?_)
    | refine xst ?_
    | (refine xsa ?_; intro _)
    | (refine xsb ?_ ?_ <;> intro _ <;> first | (exfalso; omega) | skip)
    | refine xsc ?_
    | fail)
    all_goals (exact xdn ())
  · have hxA := (txA_ok h2).symm.trans h3
    have cn := dgupto_ct (W := W) (s := s) (a := a) most hm ha (by omega) (.ok n t) (by unfold rup; rw [h1]; dsimp only; rw [if_neg h4])
    have hne : decide (((0 : Nat) : Int) ≠ 0) = false := rfl
    rw [show rdN (.ok n t) = n from rfl, show rdL (.ok n t) = (vu n).length from rfl, show rdE (.ok n t) = 0 from rfl] at cn
    have hf := ru_fit h1
    have htd := ru_drop h1
    have ht := congrArg List.length htd
    rw [List.length_drop] at ht
    obtain ⟨a1, ha1⟩ : ∃ a1, a1 = a + (vu n).length := ⟨_, rfl⟩
    rw [← ha1] at cn hf ht htd
    rw [hq] at h2
    subst h2
    have qg : decide ((((s.length : Nat) : Int) - ((a1 : Nat) : Int)) < ((n : Nat) : Int)) = false := decide_eq_false (by omega)
    have hsl : (s.take (Int.toNat ((a1 + n : Nat) : Int))).drop (Int.toNat ((a1 : Nat) : Int)) = t.take n := by
      rw [Int.toNat_natCast, Int.toNat_natCast, htd, List.drop_take]
      congr 1; omega
    have hA : a + rdT (.ok (t.take n) (t.drop n)) = a1 + n := by show a + (tx (t.take n)).length = _; rw [hxA, ha1]; omega
    rw [hA, show rdS (.ok (t.take n) (t.drop n)) = t.take n from rfl, show rdE (.ok (t.take n) (t.drop n)) = 0 from rfl]
    refine Ct.enter Tryz.func56 rfl Tryz.ntmps56 (by simp) (fun R => ?_)
    repeat' (first 
    | (refine is_call ?_; refine KJ_call xE cn xP rfl (fun _ => ?_))
    | (refine ek_slice ?_; refine EK_ev (Ev_sliceStr_t rfl rfl rfl (by omega) hsl) ?_)
    | (refine ek_add ?_; refine EK_ev (Ev_addI_v (r := ((a1 + n : Nat) : Int)) rfl rfl (by omega) (by omega)) ?_)
    | (refine ek_sub ?_; refine EK_ev (Ev_subI_v rfl rfl rfl (by omega)) ?_)
    | (refine ek_neq ?_; refine EK_ev (Ev_neqI_q rfl rfl hne) ?_)
    | (refine ek_lss ?_; refine EK_ev (Ev_lssI_q rfl rfl qg) ?_)
    | refine xst ?_
    | (refine xsa ?_; intro _)
    | (refine xsb ?_ ?_ <;> intro _ <;> first | (exfalso; omega) | skip)
    | refine xsc ?_
    | fail)
    all_goals (exact xdn ())
end
end Go.Proofs.YtdbfemdpdpaffaaGreatDoor
/-
  The document's read and Decode of a posting (chapter 16). (Printed by genpod10.py.)
-/
namespace Go.Proofs.YtdbfemdpdpaffaaGreatDoor
open Go Go.RowKit Go.MapKept
/-- what is read, or nothing -/
def rdD : Rd Pst → Pst
  | .bad _ => pst0
  | .ok p _ => p
theorem rup_ne {m : Nat} {l : List UInt8} {e : Nat} (h : rup m l = .bad e) : e ≠ 0 := by
  unfold rup at h
  split at h
  · rename_i e' h1
    cases h
    have := ru_err h1
    omega
  · split at h
    · cases h; omega
    · cases h
theorem rup_fit {m a x : Nat} {s t : List UInt8} (h : rup m (s.drop a) = .ok x t) : a + (vu x).length ≤ s.length ∧ t = s.drop (a + (vu x).length) ∧ x ≤ m := by
  unfold rup at h
  split at h
  · cases h
  · rename_i n t' h1
    split at h
    · cases h
    · cases h
      exact ⟨ru_fit h1, ru_drop h1, by omega⟩
section
variable {W : World}
set_option maxHeartbeats 16000000 in
set_option maxRecDepth 20000 in
theorem dread_ct (s : List UInt8) (hs : s.length ≤ 9223372036854775807) (q : Rd Pst) (hq : rdPst s = q) :
    Ct Tryz.prog W 31 [strV s] [] (fun x : Option Addr × Nat => .tuple #[.agg (pstC (rdD q) x.1 x.2).toArray, .int .i64 (rdE q : Nat)]) (fun x => [lsP legC 55 2 (.slice x.1 (rdD q).legs.length x.2) (rdD q).legs]) := by
  have z0 : decide (((0 : Nat) : Int) ≠ 0) = false := rfl
  cases h1 : rtx 32 (s.drop 0) with
  | bad e =>
    have c1 : Ct Tryz.prog W 56 [strV s, .int .i64 0, .int .i64 32] [] (fun _ : Unit => .tuple #[strV [], .int .i64 ((0 : Nat) : Int), .int .i64 (e : Nat)]) (fun _ => []) := dgtext_ct (W := W) (s := s) (a := 0) 32 (by omega) (by omega) (by omega) _ h1
    have hne : decide (((e : Nat) : Int) ≠ 0) = true := decide_eq_true (by have := rtx_err h1; omega)
    have hb := hq.symm.trans (rdPst_1 h1)
    subst hb
    refine Ct.enter Tryz.func31 rfl Tryz.ntmps31 (by simp) (fun R => ?_)
    repeat' (first 
    | (refine is_alloc ?_; refine KJ_alloc rfl (fun g => ?_))
    | (refine is_call ?_; refine KJ_call xE c1 xP rfl (fun _ => ?_))
    | (refine ek_build ?_; refine EK_ev (Ev_build xV xW) ?_)
    | (refine ek_neq ?_; refine EK_ev (Ev_neqI_q rfl rfl hne) ?_)
    | refine xst ?_
    | (refine xsa ?_; intro _)
    | (refine xsb ?_ ?_ <;> intro _ <;> first | (exfalso; omega) | skip)
    | refine xsc ?_
    | fail)
    all_goals refine KJ.nilrow 55 2 ?_
    all_goals (refine is_ex ?_; exact KJ_done (by first | exact Or.inl rfl | exact Or.inr rfl) rfl (Rvs.agg (T := 25) rfl inferInstance inferInstance xS xC (Rvs.tmp rfl Rvs.nil)) (none, 0) (by rfl) (xN))
  | ok id t1 =>
  have c1 : Ct Tryz.prog W 56 [strV s, .int .i64 0, .int .i64 32] [] (fun _ : Unit => .tuple #[strV id, .int .i64 ((0 + (tx id).length : Nat) : Int), .int .i64 ((0 : Nat) : Int)]) (fun _ => []) := dgtext_ct (W := W) (s := s) (a := 0) 32 (by omega) (by omega) (by omega) _ h1
  have f1 := rtx_fit h1
  have d1 := rtx_drop h1
  obtain ⟨a1, ha1⟩ : ∃ a1, a1 = 0 + (tx id).length := ⟨_, rfl⟩
  rw [← ha1] at f1 d1 c1
  rw [d1] at h1
  clear ha1 d1
  cases h2 : rup 1099511627776 (s.drop a1) with
  | bad e =>
    have c2 : Ct Tryz.prog W 57 [strV s, .int .i64 (a1 : Nat), .int .i64 1099511627776] [] (fun _ : Unit => .tuple #[.int .i64 0, .int .i64 ((a1 : Nat) : Int), .int .i64 (e : Nat)]) (fun _ => []) := dgupto_ct (W := W) (s := s) (a := a1) 1099511627776 (by omega) f1 (by omega) _ h2
    have hne : decide (((e : Nat) : Int) ≠ 0) = true := decide_eq_true (by have := rup_ne h2; omega)
    have hb := hq.symm.trans (rdPst_2 h1 h2)
    subst hb
    refine Ct.enter Tryz.func31 rfl Tryz.ntmps31 (by simp) (fun R => ?_)
    repeat' (first 
    | (refine is_alloc ?_; refine KJ_alloc rfl (fun g => ?_))
    | (refine is_call ?_; first | (refine KJ_call xE c2 xP rfl (fun _ => ?_)) | (refine KJ_call xE c1 xP rfl (fun _ => ?_)))
    | (refine ek_build ?_; refine EK_ev (Ev_build xV xW) ?_)
    | (refine ek_neq ?_; first | refine EK_ev (Ev_neqI_q rfl rfl hne) ?_ | refine EK_ev (Ev_neqI_q rfl rfl z0) ?_)
    | refine xst ?_
    | (refine xsa ?_; intro _)
    | (refine xsb ?_ ?_ <;> intro _ <;> first | (exfalso; omega) | skip)
    | refine xsc ?_
    | fail)
    all_goals refine KJ.nilrow 55 2 ?_
    all_goals (refine is_ex ?_; exact KJ_done (by first | exact Or.inl rfl | exact Or.inr rfl) rfl (Rvs.agg (T := 25) rfl inferInstance inferInstance xS xC (Rvs.tmp rfl Rvs.nil)) (none, 0) (by rfl) (xN))
  | ok k t2 =>
  have c2 : Ct Tryz.prog W 57 [strV s, .int .i64 (a1 : Nat), .int .i64 1099511627776] [] (fun _ : Unit => .tuple #[.int .i64 (k : Nat), .int .i64 ((a1 + (vu k).length : Nat) : Int), .int .i64 ((0 : Nat) : Int)]) (fun _ => []) := dgupto_ct (W := W) (s := s) (a := a1) 1099511627776 (by omega) f1 (by omega) _ h2
  obtain ⟨f2, d2, m2⟩ := rup_fit h2
  obtain ⟨a2, ha2⟩ : ∃ a2, a2 = a1 + (vu k).length := ⟨_, rfl⟩
  rw [← ha2] at f2 d2 c2
  rw [d2] at h2
  clear ha2 d2
  cases h3 : rtx 255 (s.drop a2) with
  | bad e =>
    have c3 : Ct Tryz.prog W 56 [strV s, .int .i64 (a2 : Nat), .int .i64 255] [] (fun _ : Unit => .tuple #[strV [], .int .i64 ((a2 : Nat) : Int), .int .i64 (e : Nat)]) (fun _ => []) := dgtext_ct (W := W) (s := s) (a := a2) 255 (by omega) f2 (by omega) _ h3
    have hne : decide (((e : Nat) : Int) ≠ 0) = true := decide_eq_true (by have := rtx_err h3; omega)
    have hb := hq.symm.trans (rdPst_3 h1 h2 h3)
    subst hb
    refine Ct.enter Tryz.func31 rfl Tryz.ntmps31 (by simp) (fun R => ?_)
    repeat' (first 
    | (refine is_alloc ?_; refine KJ_alloc rfl (fun g => ?_))
    | (refine is_call ?_; first | (refine KJ_call xE c3 xP rfl (fun _ => ?_)) | (refine KJ_call xE c2 xP rfl (fun _ => ?_)) | (refine KJ_call xE c1 xP rfl (fun _ => ?_)))
    | (refine ek_build ?_; refine EK_ev (Ev_build xV xW) ?_)
    | (refine ek_neq ?_; first | refine EK_ev (Ev_neqI_q rfl rfl hne) ?_ | refine EK_ev (Ev_neqI_q rfl rfl z0) ?_)
    | refine xst ?_
    | (refine xsa ?_; intro _)
    | (refine xsb ?_ ?_ <;> intro _ <;> first | (exfalso; omega) | skip)
    | refine xsc ?_
    | fail)
    all_goals refine KJ.nilrow 55 2 ?_
    all_goals (refine is_ex ?_; exact KJ_done (by first | exact Or.inl rfl | exact Or.inr rfl) rfl (Rvs.agg (T := 25) rfl inferInstance inferInstance xS xC (Rvs.tmp rfl Rvs.nil)) (none, 0) (by rfl) (xN))
  | ok note t3 =>
  have c3 : Ct Tryz.prog W 56 [strV s, .int .i64 (a2 : Nat), .int .i64 255] [] (fun _ : Unit => .tuple #[strV note, .int .i64 ((a2 + (tx note).length : Nat) : Int), .int .i64 ((0 : Nat) : Int)]) (fun _ => []) := dgtext_ct (W := W) (s := s) (a := a2) 255 (by omega) f2 (by omega) _ h3
  have f3 := rtx_fit h3
  have d3 := rtx_drop h3
  obtain ⟨a3, ha3⟩ : ∃ a3, a3 = a2 + (tx note).length := ⟨_, rfl⟩
  rw [← ha3] at f3 d3 c3
  rw [d3] at h3
  clear ha3 d3
  cases h4 : rup 8 (s.drop a3) with
  | bad e =>
    have c4 : Ct Tryz.prog W 57 [strV s, .int .i64 (a3 : Nat), .int .i64 8] [] (fun _ : Unit => .tuple #[.int .i64 0, .int .i64 ((a3 : Nat) : Int), .int .i64 (e : Nat)]) (fun _ => []) := dgupto_ct (W := W) (s := s) (a := a3) 8 (by omega) f3 (by omega) _ h4
    have hne : decide (((e : Nat) : Int) ≠ 0) = true := decide_eq_true (by have := rup_ne h4; omega)
    have hb := hq.symm.trans (rdPst_4 h1 h2 h3 h4)
    subst hb
    refine Ct.enter Tryz.func31 rfl Tryz.ntmps31 (by simp) (fun R => ?_)
    repeat' (first 
    | (refine is_alloc ?_; refine KJ_alloc rfl (fun g => ?_))
    | (refine is_call ?_; first | (refine KJ_call xE c4 xP rfl (fun _ => ?_)) | (refine KJ_call xE c3 xP rfl (fun _ => ?_)) | (refine KJ_call xE c2 xP rfl (fun _ => ?_)) | (refine KJ_call xE c1 xP rfl (fun _ => ?_)))
    | (refine ek_build ?_; refine EK_ev (Ev_build xV xW) ?_)
    | (refine ek_neq ?_; first | refine EK_ev (Ev_neqI_q rfl rfl hne) ?_ | refine EK_ev (Ev_neqI_q rfl rfl z0) ?_)
    | refine xst ?_
    | (refine xsa ?_; intro _)
    | (refine xsb ?_ ?_ <;> intro _ <;> first | (exfalso; omega) | skip)
    | refine xsc ?_
    | fail)
    all_goals refine KJ.nilrow 55 2 ?_
    all_goals (refine is_ex ?_; exact KJ_done (by first | exact Or.inl rfl | exact Or.inr rfl) rfl (Rvs.agg (T := 25) rfl inferInstance inferInstance xS xC (Rvs.tmp rfl Rvs.nil)) (none, 0) (by rfl) (xN))
  | ok n t4 =>
  have c4 : Ct Tryz.prog W 57 [strV s, .int .i64 (a3 : Nat), .int .i64 8] [] (fun _ : Unit => .tuple #[.int .i64 (n : Nat), .int .i64 ((a3 + (vu n).length : Nat) : Int), .int .i64 ((0 : Nat) : Int)]) (fun _ => []) := dgupto_ct (W := W) (s := s) (a := a3) 8 (by omega) f3 (by omega) _ h4
  obtain ⟨f4, d4, m4⟩ := rup_fit h4
  obtain ⟨a4, ha4⟩ : ∃ a4, a4 = a3 + (vu n).length := ⟨_, rfl⟩
  rw [← ha4] at f4 d4 c4
  rw [d4] at h4
  clear ha4 d4
  obtain ⟨RL, h5⟩ : ∃ RL, rdLegs n (s.drop a4) = RL := ⟨_, rfl⟩
  refine Ct.enter Tryz.func31 rfl Tryz.ntmps31 (by simp) (fun R => ?_)
  repeat' (first 
    | (refine is_alloc ?_; refine KJ_alloc rfl (fun g2 => ?_); refine hold ?_)
    | (refine is_call ?_; first | (refine KJ_call xE c4 xP rfl (fun _ => ?_)) | (refine KJ_call xE c3 xP rfl (fun _ => ?_)) | (refine KJ_call xE c2 xP rfl (fun _ => ?_)) | (refine KJ_call xE c1 xP rfl (fun _ => ?_)))
    | (refine ek_build ?_; refine EK_ev (Ev_build xV xW) ?_)
    | (refine ek_neq ?_; refine EK_ev (Ev_neqI_q rfl rfl z0) ?_)
    | refine xst ?_
    | (refine xsa ?_; intro _)
    | (refine xsb ?_ ?_ <;> intro _ <;> first | (exfalso; omega) | skip)
    | refine xsc ?_
    | fail)
  refine Hold.mk ?_
  repeat' (first 
    | (refine is_alloc ?_; refine KJ_alloc rfl (fun g4 => ?_); refine hold ?_)
    | (refine is_call ?_; first | (refine KJ_call xE c4 xP rfl (fun _ => ?_)) | (refine KJ_call xE c3 xP rfl (fun _ => ?_)) | (refine KJ_call xE c2 xP rfl (fun _ => ?_)) | (refine KJ_call xE c1 xP rfl (fun _ => ?_)))
    | (refine ek_build ?_; refine EK_ev (Ev_build xV xW) ?_)
    | (refine ek_neq ?_; refine EK_ev (Ev_neqI_q rfl rfl z0) ?_)
    | refine xst ?_
    | (refine xsa ?_; intro _)
    | (refine xsb ?_ ?_ <;> intro _ <;> first | (exfalso; omega) | skip)
    | refine xsc ?_
    | fail)
  refine Hold.mk ?_
  repeat' (first 
    | (refine is_alloc ?_; refine KJ_alloc rfl (fun g11 => ?_); refine hold ?_)
    | (refine is_call ?_; first | (refine KJ_call xE c4 xP rfl (fun _ => ?_)) | (refine KJ_call xE c3 xP rfl (fun _ => ?_)) | (refine KJ_call xE c2 xP rfl (fun _ => ?_)) | (refine KJ_call xE c1 xP rfl (fun _ => ?_)))
    | (refine ek_build ?_; refine EK_ev (Ev_build xV xW) ?_)
    | (refine ek_neq ?_; refine EK_ev (Ev_neqI_q rfl rfl z0) ?_)
    | refine xst ?_
    | (refine xsa ?_; intro _)
    | (refine xsb ?_ ?_ <;> intro _ <;> first | (exfalso; omega) | skip)
    | refine xsc ?_
    | fail)
  refine Hold.mk ?_
  repeat' (first 
    | (refine is_call ?_; first | (refine KJ_call xE c4 xP rfl (fun _ => ?_)) | (refine KJ_call xE c3 xP rfl (fun _ => ?_)) | (refine KJ_call xE c2 xP rfl (fun _ => ?_)) | (refine KJ_call xE c1 xP rfl (fun _ => ?_)))
    | (refine ek_build ?_; refine EK_ev (Ev_build xV xW) ?_)
    | (refine ek_neq ?_; refine EK_ev (Ev_neqI_q rfl rfl z0) ?_)
    | refine xst ?_
    | (refine xsa ?_; intro _)
    | (refine xsb ?_ ?_ <;> intro _ <;> first | (exfalso; omega) | skip)
    | refine xsc ?_
    | fail)
  refine KJ.nilrow 55 2 ?_
  refine KJ_loop (fun x : {x : Nat × List Leg × Nat × Option Addr × Nat // RlgI s n RL x.1 x.2.1 x.2.2.1} => [(0, strV s), (2, .pointer (some ⟨g2, 0, none⟩)), (4, .pointer (some ⟨g4, 0, none⟩)), (6, .int .i64 (x.1.2.2.1 : Nat)), (10, .int .i64 (n : Nat)), (11, .pointer (some ⟨g11, 0, none⟩)), (12, .int .i64 (x.1.1 : Nat))])
    (fun x => [cellsP g11 [strV id, .int .i64 (k : Nat), strV note, .slice x.1.2.2.2.1 x.1.2.1.length x.1.2.2.2.2] 25, lsP legC 55 2 (.slice x.1.2.2.2.1 x.1.2.1.length x.1.2.2.2.2) x.1.2.1, cellsP g2 [strV [], .int .i64 0, strV [], .slice none 0 0] 25, cellsP g4 [strV [], .int .i64 0, strV [], .slice none 0 0] 25] ++ R) (fun x => n - x.1.1) ⟨(0, [], a4, none, 0), RlgI.start f4 h5⟩ xB (xN) (fun ⟨(i, acc, a, sa, sc), hi⟩ => ?_)
  dsimp only at hi ⊢
  have hlen := hi.len
  have hfit := hi.fit
  have hle := hi.le
  by_cases hlt : i < n
  · have ql : decide (((i : Nat) : Int) < ((n : Nat) : Int)) = true := decide_eq_true (by omega)
    have b1 : (acc.length + 1) * 24 ≤ 140737488355328 := by omega
    have b2 : acc.length + 1 ≤ 9223372036854775807 := by omega
    cases h6 : rtx 34 (s.drop a) with
    | bad e =>
      have c6 : Ct Tryz.prog W 56 [strV s, .int .i64 (a : Nat), .int .i64 34] [] (fun _ : Unit => .tuple #[strV [], .int .i64 ((a : Nat) : Int), .int .i64 (e : Nat)]) (fun _ => []) := dgtext_ct (W := W) (s := s) (a := a) 34 (by omega) hfit (by omega) _ h6
      have hne : decide (((e : Nat) : Int) ≠ 0) = true := decide_eq_true (by have := rtx_err h6; omega)
      have hb := hq.symm.trans (rdPst_5 h1 h2 h3 h4 (h5.trans (hi.bad hlt (rdLeg_text h6))))
      subst hb
      repeat' (first 
    | (refine is_call ?_; refine KJ_call xE c6 xP rfl (fun _ => ?_))
    | (refine ek_build ?_; refine EK_ev (Ev_build xV xW) ?_)
    | (refine ek_neq ?_; first | refine EK_ev (Ev_neqI_q rfl rfl hne) ?_ | refine EK_ev (Ev_neqI_q rfl rfl z0) ?_)
    | (refine ek_lss ?_; refine EK_ev (Ev_lssI_q rfl rfl ql) ?_)
    | refine xst ?_
    | (refine xsa ?_; intro _)
    | (refine xsb ?_ ?_ <;> intro _ <;> first | (exfalso; omega) | skip)
    | refine xsc ?_
    | fail)
      all_goals refine KJ.nilrow 55 2 ?_
      all_goals (refine is_ex ?_; exact KJ_done (by first | exact Or.inl rfl | exact Or.inr rfl) rfl (Rvs.agg (T := 25) rfl inferInstance inferInstance xS xC (Rvs.tmp rfl Rvs.nil)) (none, 0) (by rfl) (xN))
    | ok ac t6 =>
    have c6 : Ct Tryz.prog W 56 [strV s, .int .i64 (a : Nat), .int .i64 34] [] (fun _ : Unit => .tuple #[strV ac, .int .i64 ((a + (tx ac).length : Nat) : Int), .int .i64 ((0 : Nat) : Int)]) (fun _ => []) := dgtext_ct (W := W) (s := s) (a := a) 34 (by omega) hfit (by omega) _ h6
    have f6 := rtx_fit h6
    have d6 := rtx_drop h6
    obtain ⟨a6, ha6⟩ : ∃ a6, a6 = a + (tx ac).length := ⟨_, rfl⟩
    rw [← ha6] at f6 d6 c6
    rw [d6] at h6
    clear ha6 d6
    cases h7 : ru (s.drop a6) with
    | bad e =>
      have c7 : Ct Tryz.prog W 58 [strV s, .int .i64 (a6 : Nat)] [] (fun _ : Unit => .tuple #[.int .i64 0, .int .i64 ((a6 : Nat) : Int), .int .i64 (e : Nat)]) (fun _ => []) := by
        have q := dgint_ct (W := W) (s := s) (a := a6) f6 (by omega) _ h7
        rw [show rdN (Rd.bad e) = 0 from rfl, show zag 0 = 0 from rfl] at q
        exact q
      have hne : decide (((e : Nat) : Int) ≠ 0) = true := decide_eq_true (by have := ru_err h7; omega)
      have hb := hq.symm.trans (rdPst_5 h1 h2 h3 h4 (h5.trans (hi.bad hlt (rdLeg_num h6 h7))))
      subst hb
      repeat' (first 
    | (refine is_call ?_; first | (refine KJ_call xE c7 xP rfl (fun _ => ?_)) | (refine KJ_call xE c6 xP rfl (fun _ => ?_)))
    | (refine ek_build ?_; refine EK_ev (Ev_build xV xW) ?_)
    | (refine ek_neq ?_; first | refine EK_ev (Ev_neqI_q rfl rfl hne) ?_ | refine EK_ev (Ev_neqI_q rfl rfl z0) ?_)
    | (refine ek_lss ?_; refine EK_ev (Ev_lssI_q rfl rfl ql) ?_)
    | refine xst ?_
    | (refine xsa ?_; intro _)
    | (refine xsb ?_ ?_ <;> intro _ <;> first | (exfalso; omega) | skip)
    | refine xsc ?_
    | fail)
      all_goals refine KJ.nilrow 55 2 ?_
      all_goals (refine is_ex ?_; exact KJ_done (by first | exact Or.inl rfl | exact Or.inr rfl) rfl (Rvs.agg (T := 25) rfl inferInstance inferInstance xS xC (Rvs.tmp rfl Rvs.nil)) (none, 0) (by rfl) (xN))
    | ok y t7 =>
      have f7 := ru_fit h7
      have d7 := ru_drop h7
      obtain ⟨am, ham⟩ : ∃ am, am = zag y := ⟨_, rfl⟩
      have c7 : Ct Tryz.prog W 58 [strV s, .int .i64 (a6 : Nat)] [] (fun _ : Unit => .tuple #[.int .i64 am, .int .i64 ((a6 + (vu y).length : Nat) : Int), .int .i64 ((0 : Nat) : Int)]) (fun _ => []) := by rw [ham]; exact dgint_ct (W := W) (s := s) (a := a6) f6 (by omega) _ h7
      obtain ⟨a7, ha7⟩ : ∃ a7, a7 = a6 + (vu y).length := ⟨_, rfl⟩
      rw [← ha7] at f7 d7 c7
      rw [d7] at h7
      have hl := rdLeg_ok h6 h7
      rw [← ham] at hl
      have hnx := hi.next hlt hl f7
      clear ha7 ham d7
      repeat' (first 
    | (refine is_call ?_; first | (refine KJ_call xE c7 xP rfl (fun _ => ?_)) | (refine KJ_call xE c6 xP rfl (fun _ => ?_)))
    | (refine is_append ?_; refine KJ_appOne (a := (⟨ac, am⟩ : Leg)) enc_leg rfl rfl rfl xS xS b1 b2 rfl (fun g1 c1 => ?_))
    | (refine is_bslice ?_; refine KJ_bslice1 rfl xF (by rfl) (by omega) rfl (fun gb => ?_))
    | (refine ek_build ?_; refine EK_ev (Ev_build xV xW) ?_)
    | (refine ek_add ?_; refine EK_ev (Ev_addI_v (r := ((i + 1 : Nat) : Int)) rfl rfl (by omega) (by omega)) ?_)
    | (refine ek_neq ?_; refine EK_ev (Ev_neqI_q rfl rfl z0) ?_)
    | (refine ek_lss ?_; refine EK_ev (Ev_lssI_q rfl rfl ql) ?_)
    | refine xst ?_
    | (refine xsa ?_; intro _)
    | (refine xsb ?_ ?_ <;> intro _ <;> first | (exfalso; omega) | skip)
    | refine xsc ?_
    | fail)
      all_goals refine KJ_again ⟨(i + 1, acc ++ [⟨ac, am⟩], a7, some ⟨g1, 0, none⟩, c1), hnx⟩ (by show n - (i + 1) < n - i; omega) xB (xN)
  · have ql : decide (((i : Nat) : Int) < ((n : Nat) : Int)) = false := decide_eq_false (by omega)
    have hst := h5.trans (hi.stop hlt)
    by_cases hend : a < s.length
    · have hb := hq.symm.trans ((rdPst_6 h1 h2 h3 h4 hst).trans (if_neg (by intro h; have := congrArg List.length h; rw [List.length_drop, List.length_nil] at this; omega)))
      subst hb
      have qe : decide (((a : Nat) : Int) < ((s.length : Nat) : Int)) = true := decide_eq_true (by omega)
      repeat' (first 
    | (refine ek_lss ?_; first | refine EK_ev (Ev_lssI_q rfl rfl ql) ?_ | refine EK_ev (Ev_lssI_q rfl rfl qe) ?_)
    | refine xst ?_
    | (refine xsa ?_; intro _)
    | (refine xsb ?_ ?_ <;> intro _ <;> first | (exfalso; omega) | skip)
    | refine xsc ?_
    | fail)
      all_goals refine KJ.nilrow 55 2 ?_
      all_goals (refine is_ex ?_; exact KJ_done (by first | exact Or.inl rfl | exact Or.inr rfl) rfl (Rvs.agg (T := 25) rfl inferInstance inferInstance xS xC (Rvs.tmp rfl Rvs.nil)) (none, 0) (by rfl) (xN))
    · have hb := hq.symm.trans ((rdPst_6 h1 h2 h3 h4 hst).trans (if_pos (List.drop_of_length_le (by omega))))
      subst hb
      have qe : decide (((a : Nat) : Int) < ((s.length : Nat) : Int)) = false := decide_eq_false (by omega)
      repeat' (first 
    | (refine ek_lss ?_; first | refine EK_ev (Ev_lssI_q rfl rfl ql) ?_ | refine EK_ev (Ev_lssI_q rfl rfl qe) ?_)
    | refine xst ?_
    | (refine xsa ?_; intro _)
    | (refine xsb ?_ ?_ <;> intro _ <;> first | (exfalso; omega) | skip)
    | refine xsc ?_
    | fail)
      all_goals (refine is_ex ?_; exact KJ_done (by first | exact Or.inl rfl | exact Or.inr rfl) rfl (Rvs.agg (T := 25) rfl inferInstance inferInstance xS xC (Rvs.tmp rfl Rvs.nil)) (sa, sc) (by rfl) (xN))
set_option maxHeartbeats 4000000 in
theorem dpdecode_ct (s : List UInt8) (hs : s.length ≤ 9223372036854775807) (D : Pst) (e : Nat) (hD : decPst s = (D, e)) :
    Ct Tryz.prog W 11 [strV s] [] (fun x : Option Addr × Nat => .tuple #[.agg (pstC D x.1 x.2).toArray, .int .i64 (e : Nat)]) (fun x => [lsP legC 55 2 (.slice x.1 D.legs.length x.2) D.legs]) := by
  unfold decPst at hD
  have z0 : decide (((0 : Nat) : Int) ≠ 0) = false := rfl
  have z1 : decide (((0 : Nat) : Int) = 0) = true := rfl
  cases hq : rdPst s with
  | bad e' =>
    rw [hq] at hD
    cases hD
    have he := rdPst_badE hq
    have n0 : decide (((e : Nat) : Int) ≠ 0) = true := decide_eq_true (by omega)
    have n1 : decide (((e : Nat) : Int) = 0) = false := decide_eq_false (by omega)
    have cp : Ct Tryz.prog W 31 [strV s] [] (fun x : Option Addr × Nat => .tuple #[.agg #[strV [], .int .i64 0, strV [], .slice x.1 0 x.2], .int .i64 (e : Nat)]) (fun x => [lsP legC 55 2 (.slice x.1 0 x.2) []]) := dread_ct s hs _ hq
    refine Ct.enter Tryz.func11 rfl Tryz.ntmps11 (by simp) (fun R => ?_)
    repeat' (first 
    | (refine is_alloc ?_; refine KJ_alloc rfl (fun g => ?_))
    | (refine is_call ?_; refine KJ_call xE cp xP rfl (fun x => ?_))
    | (refine ek_build ?_; refine EK_ev (Ev_build xV xW) ?_)
    | (refine ek_eql ?_; refine EK_ev (Ev_eqlI_q rfl rfl n1) ?_)
    | (refine ek_neq ?_; refine EK_ev (Ev_neqI_q rfl rfl n0) ?_)
    | refine xst ?_
    | (refine xsa ?_; intro _)
    | (refine xsb ?_ ?_ <;> intro _ <;> first | (exfalso; omega) | skip)
    | refine xsc ?_
    | fail)
    all_goals refine KJ.nilrow 55 2 ?_
    all_goals (refine is_ex ?_; exact KJ_done (by first | exact Or.inl rfl | exact Or.inr rfl) rfl (Rvs.agg (T := 25) rfl inferInstance inferInstance xS xC (Rvs.tmp rfl Rvs.nil)) (none, 0) (by rfl) (xN))
  | ok p t =>
    rw [hq] at hD
    dsimp only at hD
    have hfit := rdPst_fit hq
    have cp : Ct Tryz.prog W 31 [strV s] [] (fun x : Option Addr × Nat => .tuple #[.agg (pstC p x.1 x.2).toArray, .int .i64 ((0 : Nat) : Int)]) (fun x => [lsP legC 55 2 (.slice x.1 p.legs.length x.2) p.legs]) := dread_ct s hs _ hq
    have cc := fun a c => dpcheck_ct (W := W) (lsP legC 55 2 (.slice a p.legs.length c) p.legs) a c p hfit (Lv.own enc_leg rfl)
    obtain ⟨id, tick, note, legs⟩ := p
    unfold pstC at cp cc
    dsimp only at cp cc
    by_cases h0 : checkE ⟨id, tick, note, legs⟩ = 0
    · rw [if_pos h0] at hD
      cases hD
      rw [h0] at cc
      unfold pstC
      dsimp only
      refine Ct.enter Tryz.func11 rfl Tryz.ntmps11 (by simp) (fun R => ?_)
      repeat' (first 
    | (refine is_alloc ?_; refine KJ_alloc rfl (fun g => ?_))
    | (refine is_call ?_; first | (refine KJ_call xE (cc _ _) xP rfl (fun _ => ?_)) | (refine KJ_call xE cp xP rfl (fun x => ?_)))
    | (refine ek_eql ?_; refine EK_ev (Ev_eqlI_q rfl rfl z1) ?_)
    | (refine ek_neq ?_; refine EK_ev (Ev_neqI_q rfl rfl z0) ?_)
    | refine xst ?_
    | (refine xsa ?_; intro _)
    | (refine xsb ?_ ?_ <;> intro _ <;> first | (exfalso; omega) | skip)
    | refine xsc ?_
    | fail)
      all_goals (refine is_ex ?_; exact KJ_done (by first | exact Or.inl rfl | exact Or.inr rfl) rfl (Rvs.agg (T := 25) rfl inferInstance inferInstance xS xC (Rvs.tmp rfl Rvs.nil)) (x.1, x.2) (by rfl) (xN))
    · rw [if_neg h0] at hD
      cases hD
      obtain ⟨e, he⟩ : ∃ e, e = checkE ⟨id, tick, note, legs⟩ := ⟨_, rfl⟩
      rw [← he] at cc h0 ⊢
      have n0 : decide (((e : Nat) : Int) ≠ 0) = true := decide_eq_true (by omega)
      unfold pstC
      dsimp only
      refine Ct.enter Tryz.func11 rfl Tryz.ntmps11 (by simp) (fun R => ?_)
      repeat' (first 
    | (refine is_alloc ?_; refine KJ_alloc rfl (fun g => ?_))
    | (refine is_call ?_; first | (refine KJ_call xE (cc _ _) xP rfl (fun _ => ?_)) | (refine KJ_call xE cp xP rfl (fun x => ?_)))
    | (refine ek_build ?_; refine EK_ev (Ev_build xV xW) ?_)
    | (refine ek_eql ?_; refine EK_ev (Ev_eqlI_q rfl rfl z1) ?_)
    | (refine ek_neq ?_; first | refine EK_ev (Ev_neqI_q rfl rfl n0) ?_ | refine EK_ev (Ev_neqI_q rfl rfl z0) ?_)
    | refine xst ?_
    | (refine xsa ?_; intro _)
    | (refine xsb ?_ ?_ <;> intro _ <;> first | (exfalso; omega) | skip)
    | refine xsc ?_
    | fail)
      all_goals refine KJ.nilrow 55 2 ?_
      all_goals (refine is_ex ?_; exact KJ_done (by first | exact Or.inl rfl | exact Or.inr rfl) rfl (Rvs.agg (T := 25) rfl inferInstance inferInstance xS xC (Rvs.tmp rfl Rvs.nil)) (none, 0) (by rfl) (xN))
end
end Go.Proofs.YtdbfemdpdpaffaaGreatDoor
