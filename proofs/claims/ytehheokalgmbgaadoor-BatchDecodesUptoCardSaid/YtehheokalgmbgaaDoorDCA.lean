/-
  RrR1, RrR2, RrR3.
-/
import Derived.Test.YtehheokalgmbgaaDoorDBX
/-
  The document's reader (chapter 12): number, text. (Printed by genrr1.py.)
-/
namespace Go.Proofs.YtehheokalgmbgaaDoor
open Go Go.RowKit
/-- the document's reader over s: it stands at a, e is the first error's number -/
abbrev drP (p : Nat) (s : List UInt8) (a : Nat) (e : Int) : SP := cellsP p [strV s, .int .i64 (a : Nat), .int .i64 e] 86
section
variable {W : World} {p : Nat} {s : List UInt8} {a : Nat}
set_option maxHeartbeats 8000000 in
theorem rdnum_ct (ha : a ≤ s.length) (hs : s.length ≤ 9223372036854775800) (q : Rd Nat) (hq : ru (s.drop a) = q) :
    Ct Tryd.prog W 44 [.pointer (some ⟨p, 0, none⟩)] [drP p s a 0] (fun _ : Unit => .int .u64 (rdN q : Nat)) (fun _ => [drP p s (a + rdL q) (rdE q : Nat)]) := by
  have hdl : (s.drop a).length = s.length - a := List.length_drop
  have qz : decide ((0 : Int) = 0) = true := rfl
  refine Ct.enter Tryd.func44 rfl Tryd.ntmps44 (by simp) (fun R => ?_)
  repeat' (first 
    | refine xst ?_
    | (refine xsa ?_; intro _)
    | (refine xsb ?_ ?_ <;> intro _ <;> first | (exfalso; omega) | skip)
    | refine xsc ?_
    | (refine KJ_draws (id := 5) (.op 0 (.op 1 (.op 2 (.op 3 (.op 4 (.op 5 (.op 6 (.op 7 (.op 8 (.op 9 (.op 10 (.op 11 .nil)))))))))))) (by kernel_rfl) (by kernel_rfl) ?_)
    | (refine KJ_draws (id := 8) (.op 0 (.op 1 (.op 2 (.op 3 (.op 4 (.op 5 (.op 6 (.op 7 (.op 8 (.op 9 (.op 10 (.op 11 .nil)))))))))))) (by kernel_rfl) (by kernel_rfl) ?_)
    | refine FW_alt ?_ ?_
    | refine KJ_flow ?_ ?_
    | exact Rech.nil
    | fail)
  refine KJ_loop (fun i : {i : Nat × Nat // RuI (s.drop a) i.1 i.2} => [(0, .pointer (some ⟨p, 0, none⟩)), (3, .int .u64 (i.1.2 : Nat)), (4, .int .i64 (i.1.1 : Nat))])
    (fun i => [drP p s a 0] ++ R) (fun i => 10 - i.1.1) ⟨(0, 0), RuI.start _⟩ xB (xN) (fun ⟨(i, x), hi⟩ => ?_)
  dsimp only at hi ⊢
  have i9 := hi.i9
  have hil := hi.il
  by_cases hend : i = s.length - a
  · have hbad := hi.short (by omega)
    rw [hq] at hbad
    have qe : decide (((s.length : Nat) : Int) ≤ ((a + i : Nat) : Int)) = true := decide_eq_true (by omega)
    subst hbad
    repeat' (first 
    | (refine ek_add ?_; refine EK_ev (Ev_addI_v (r := ((a + i : Nat) : Int)) rfl rfl (by omega) (by omega)) ?_)
    | (refine ek_eql ?_; refine EK_ev (Ev_eqlI_q rfl rfl qz) ?_)
    | (refine ek_geq ?_; refine EK_ev (Ev_geqI_q rfl rfl qe) ?_)
    | refine xst ?_
    | (refine xsa ?_; intro _)
    | (refine xsb ?_ ?_ <;> intro _ <;> first | (exfalso; omega) | skip)
    | refine xsc ?_
    | (refine KJ_draws (id := 5) (.op 0 (.op 1 (.op 2 (.op 3 (.op 4 (.op 5 (.op 6 (.op 7 (.op 8 (.op 9 (.op 10 (.op 11 .nil)))))))))))) (by kernel_rfl) (by kernel_rfl) ?_)
    | (refine KJ_draws (id := 8) (.op 0 (.op 1 (.op 2 (.op 3 (.op 4 (.op 5 (.op 6 (.op 7 (.op 8 (.op 9 (.op 10 (.op 11 .nil)))))))))))) (by kernel_rfl) (by kernel_rfl) ?_)
    | refine FW_alt ?_ ?_
    | refine KJ_flow ?_ ?_
    | exact Rech.nil
    | fail)
    all_goals rw [show a + rdL (Rd.bad 1) = a from rfl]
    all_goals (exact xdn ())
  have qe : decide (((s.length : Nat) : Int) ≤ ((a + i : Nat) : Int)) = false := decide_eq_false (by omega)
  obtain ⟨b, hb⟩ : ∃ b, (s.drop a)[i]? = some b := ⟨_, List.getElem?_eq_getElem (by omega)⟩
  have hbs : s[a + i]? = some b := by rw [← hb, List.getElem?_drop]
  have hbt := UInt8.toNat_lt b
  have hcase : (i = 9 ∧ 1 < b.toNat) ∨ (i = 9 ∧ b.toNat = 0) ∨ (i = 9 ∧ b.toNat = 1) ∨ (i ≠ 9 ∧ b.toNat = 0 ∧ 0 < i) ∨ (i ≠ 9 ∧ b.toNat = 0 ∧ i = 0) ∨ (i ≠ 9 ∧ 0 < b.toNat ∧ b.toNat < 128 ∧ i = 0) ∨ (i ≠ 9 ∧ 0 < b.toNat ∧ b.toNat < 128 ∧ 0 < i) ∨ (i ≠ 9 ∧ ¬ b.toNat < 128 ∧ i = 0) ∨ (i ≠ 9 ∧ ¬ b.toNat < 128 ∧ 0 < i) := by omega
  rcases hcase with h9 | h9 | h9 | h9 | h9 | h9 | h9 | h9 | h9
  ·
    have hbad := hi.bad hb h9
    rw [hq] at hbad
    subst hbad
    have q9 : decide ((i : Int) = 9) = true := decide_eq_true (by omega)
    have qb : decide ((1 : Int) < (b.toNat : Int)) = true := decide_eq_true (by omega)
    repeat' (first 
    | (refine ek_index ?_; refine EK_ev (Ev_indexStr rfl rfl (by omega) hbs) ?_)
    | (refine ek_add ?_; refine EK_ev (Ev_addI_v (r := ((a + i : Nat) : Int)) rfl rfl (by omega) (by omega)) ?_)
    | (refine ek_eql ?_; first | refine EK_ev (Ev_eqlI_q rfl rfl qz) ?_ | refine EK_ev (Ev_eqlI_q rfl rfl q9) ?_)
    | (refine ek_gtr ?_; refine EK_ev (Ev_gtrI_q rfl rfl qb) ?_)
    | (refine ek_geq ?_; refine EK_ev (Ev_geqI_q rfl rfl qe) ?_)
    | refine xst ?_
    | (refine xsa ?_; intro _)
    | (refine xsb ?_ ?_ <;> intro _ <;> first | (exfalso; omega) | skip)
    | refine xsc ?_
    | (refine KJ_draws (id := 5) (.op 0 (.op 1 (.op 2 (.op 3 (.op 4 (.op 5 (.op 6 (.op 7 (.op 8 (.op 9 (.op 10 (.op 11 .nil)))))))))))) (by kernel_rfl) (by kernel_rfl) ?_)
    | (refine KJ_draws (id := 8) (.op 0 (.op 1 (.op 2 (.op 3 (.op 4 (.op 5 (.op 6 (.op 7 (.op 8 (.op 9 (.op 10 (.op 11 .nil)))))))))))) (by kernel_rfl) (by kernel_rfl) ?_)
    | refine FW_alt ?_ ?_
    | refine KJ_flow ?_ ?_
    | exact Rech.nil
    | fail)
    all_goals rw [show a + rdL (Rd.bad 2) = a from rfl]
    all_goals (exact xdn ())
  ·
    have hbad := hi.nought hb (by omega) (by omega)
    rw [hq] at hbad
    subst hbad
    have q9 : decide ((i : Int) = 9) = true := decide_eq_true (by omega)
    have qb : decide ((1 : Int) < (b.toNat : Int)) = false := decide_eq_false (by omega)
    have q0 : decide ((b.toNat : Int) = 0) = true := decide_eq_true (by omega)
    have q1 : decide ((0 : Int) < (i : Int)) = true := decide_eq_true (by omega)
    repeat' (first 
    | (refine ek_index ?_; refine EK_ev (Ev_indexStr rfl rfl (by omega) hbs) ?_)
    | (refine ek_add ?_; refine EK_ev (Ev_addI_v (r := ((a + i : Nat) : Int)) rfl rfl (by omega) (by omega)) ?_)
    | (refine ek_eql ?_; first | refine EK_ev (Ev_eqlI_q rfl rfl qz) ?_ | refine EK_ev (Ev_eqlI_q rfl rfl q0) ?_ | refine EK_ev (Ev_eqlI_q rfl rfl q9) ?_)
    | (refine ek_gtr ?_; first | refine EK_ev (Ev_gtrI_q rfl rfl q1) ?_ | refine EK_ev (Ev_gtrI_q rfl rfl qb) ?_)
    | (refine ek_geq ?_; refine EK_ev (Ev_geqI_q rfl rfl qe) ?_)
    | refine xst ?_
    | (refine xsa ?_; intro _)
    | (refine xsb ?_ ?_ <;> intro _ <;> first | (exfalso; omega) | skip)
    | refine xsc ?_
    | (refine KJ_draws (id := 5) (.op 0 (.op 1 (.op 2 (.op 3 (.op 4 (.op 5 (.op 6 (.op 7 (.op 8 (.op 9 (.op 10 (.op 11 .nil)))))))))))) (by kernel_rfl) (by kernel_rfl) ?_)
    | (refine KJ_draws (id := 8) (.op 0 (.op 1 (.op 2 (.op 3 (.op 4 (.op 5 (.op 6 (.op 7 (.op 8 (.op 9 (.op 10 (.op 11 .nil)))))))))))) (by kernel_rfl) (by kernel_rfl) ?_)
    | refine FW_alt ?_ ?_
    | refine KJ_flow ?_ ?_
    | exact Rech.nil
    | fail)
    all_goals rw [show a + rdL (Rd.bad 2) = a from rfl]
    all_goals (exact xdn ())
  ·
    have c1 : IntKind.u64.wrap ((b.toNat % 128 : Nat) : Int) = ((b.toNat % 128 : Nat) : Int) := u64_wrap _ (by omega)
    have hfit := hi.fit (b := b) (by omega)
    have sh := shl7 (b.toNat % 128) i i9 (by omega)
    have hsum : IntKind.u64.wrap (((x : Nat) : Int) + ((b.toNat % 128 * 2 ^ (7 * i) : Nat) : Int)) = ((x + b.toNat % 128 * 2 ^ (7 * i) : Nat) : Int) := by rw [← Int.natCast_add]; exact u64_wrap _ (by omega)
    have ql : decide ((b.toNat : Int) < 128) = true := decide_eq_true (by omega)
    have hok := hi.done hb (by omega) (by omega) (by omega)
    have hlen := RuI.len hok (by omega)
    rw [hq] at hok
    have hA : a + (i + 1) = a + rdL q := by rw [hok]; show _ = a + (vu _).length; rw [hlen]
    have hV : Value.int .u64 ((x + b.toNat % 128 * 2 ^ (7 * i) : Nat) : Int) = .int .u64 (rdN q : Nat) := by rw [hok]; rfl
    have hZ : ((rdE q : Nat) : Int) = 0 := by rw [hok]; rfl
    have q9 : decide ((i : Int) = 9) = true := decide_eq_true (by omega)
    have qb : decide ((1 : Int) < (b.toNat : Int)) = false := decide_eq_false (by omega)
    have q0 : decide ((b.toNat : Int) = 0) = false := decide_eq_false (by omega)
    have q1 : decide ((0 : Int) < (i : Int)) = true := decide_eq_true (by omega)
    repeat' (first 
    | (refine ek_conv ?_; refine EK_ev (Ev_convI_v rfl c1) ?_)
    | (refine ek_index ?_; refine EK_ev (Ev_indexStr rfl rfl (by omega) hbs) ?_)
    | (refine ek_add ?_; first | refine EK_ev (Ev_add_w rfl rfl hsum) ?_ | refine EK_ev (Ev_addI_v (r := ((a + i : Nat) : Int)) rfl rfl (by omega) (by omega)) ?_ | refine EK_ev (Ev_addI_v (r := ((a + (i + 1) : Nat) : Int)) rfl rfl (by omega) (by omega)) ?_ | refine EK_ev (Ev_addI_v (r := ((i + 1 : Nat) : Int)) rfl rfl (by omega) (by omega)) ?_)
    | (refine ek_mul ?_; refine EK_ev (Ev_mulI_v (r := ((7 * i : Nat) : Int)) rfl rfl (by omega) (by omega)) ?_)
    | (refine ek_rem ?_; refine EK_ev (Ev_rem_w (r := ((b.toNat % 128 : Nat) : Int)) rfl rfl (by omega) (by omega)) ?_)
    | (refine ek_shl ?_; refine EK_ev (Ev_shl_t rfl rfl sh) ?_)
    | (refine ek_eql ?_; first | refine EK_ev (Ev_eqlI_q rfl rfl qz) ?_ | refine EK_ev (Ev_eqlI_q rfl rfl q0) ?_ | refine EK_ev (Ev_eqlI_q rfl rfl q9) ?_)
    | (refine ek_lss ?_; refine EK_ev (Ev_lssI_q rfl rfl ql) ?_)
    | (refine ek_gtr ?_; first | refine EK_ev (Ev_gtrI_q rfl rfl q1) ?_ | refine EK_ev (Ev_gtrI_q rfl rfl qb) ?_)
    | (refine ek_geq ?_; refine EK_ev (Ev_geqI_q rfl rfl qe) ?_)
    | refine xst ?_
    | (refine xsa ?_; intro _)
    | (refine xsb ?_ ?_ <;> intro _ <;> first | (exfalso; omega) | skip)
    | refine xsc ?_
    | (refine KJ_draws (id := 5) (.op 0 (.op 1 (.op 2 (.op 3 (.op 4 (.op 5 (.op 6 (.op 7 (.op 8 (.op 9 (.op 10 (.op 11 .nil)))))))))))) (by kernel_rfl) (by kernel_rfl) ?_)
    | (refine KJ_draws (id := 8) (.op 0 (.op 1 (.op 2 (.op 3 (.op 4 (.op 5 (.op 6 (.op 7 (.op 8 (.op 9 (.op 10 (.op 11 .nil)))))))))))) (by kernel_rfl) (by kernel_rfl) ?_)
    | refine FW_alt ?_ ?_
    | refine KJ_flow ?_ ?_
    | exact Rech.nil
    | fail)
    all_goals rw [hA, hZ]
    all_goals exact xdn () (hc := by exact hV)
  ·
    have hbad := hi.nought hb (by omega) (by omega)
    rw [hq] at hbad
    subst hbad
    have q9 : decide ((i : Int) = 9) = false := decide_eq_false (by omega)
    have q0 : decide ((b.toNat : Int) = 0) = true := decide_eq_true (by omega)
    have q1 : decide ((0 : Int) < (i : Int)) = true := decide_eq_true (by omega)
    repeat' (first 
    | (refine ek_index ?_; refine EK_ev (Ev_indexStr rfl rfl (by omega) hbs) ?_)
    | (refine ek_add ?_; refine EK_ev (Ev_addI_v (r := ((a + i : Nat) : Int)) rfl rfl (by omega) (by omega)) ?_)
    | (refine ek_eql ?_; first | refine EK_ev (Ev_eqlI_q rfl rfl qz) ?_ | refine EK_ev (Ev_eqlI_q rfl rfl q0) ?_ | refine EK_ev (Ev_eqlI_q rfl rfl q9) ?_)
    | (refine ek_gtr ?_; refine EK_ev (Ev_gtrI_q rfl rfl q1) ?_)
    | (refine ek_geq ?_; refine EK_ev (Ev_geqI_q rfl rfl qe) ?_)
    | refine xst ?_
    | (refine xsa ?_; intro _)
    | (refine xsb ?_ ?_ <;> intro _ <;> first | (exfalso; omega) | skip)
    | refine xsc ?_
    | (refine KJ_draws (id := 5) (.op 0 (.op 1 (.op 2 (.op 3 (.op 4 (.op 5 (.op 6 (.op 7 (.op 8 (.op 9 (.op 10 (.op 11 .nil)))))))))))) (by kernel_rfl) (by kernel_rfl) ?_)
    | (refine KJ_draws (id := 8) (.op 0 (.op 1 (.op 2 (.op 3 (.op 4 (.op 5 (.op 6 (.op 7 (.op 8 (.op 9 (.op 10 (.op 11 .nil)))))))))))) (by kernel_rfl) (by kernel_rfl) ?_)
    | refine FW_alt ?_ ?_
    | refine KJ_flow ?_ ?_
    | exact Rech.nil
    | fail)
    all_goals rw [show a + rdL (Rd.bad 2) = a from rfl]
    all_goals (exact xdn ())
  ·
    have c1 : IntKind.u64.wrap ((b.toNat % 128 : Nat) : Int) = ((b.toNat % 128 : Nat) : Int) := u64_wrap _ (by omega)
    have hfit := hi.fit (b := b) (by omega)
    have sh := shl7 (b.toNat % 128) i i9 (by omega)
    have hsum : IntKind.u64.wrap (((x : Nat) : Int) + ((b.toNat % 128 * 2 ^ (7 * i) : Nat) : Int)) = ((x + b.toNat % 128 * 2 ^ (7 * i) : Nat) : Int) := by rw [← Int.natCast_add]; exact u64_wrap _ (by omega)
    have ql : decide ((b.toNat : Int) < 128) = true := decide_eq_true (by omega)
    have hok := hi.done hb (by omega) (by omega) (by omega)
    have hlen := RuI.len hok (by omega)
    rw [hq] at hok
    have hA : a + (i + 1) = a + rdL q := by rw [hok]; show _ = a + (vu _).length; rw [hlen]
    have hV : Value.int .u64 ((x + b.toNat % 128 * 2 ^ (7 * i) : Nat) : Int) = .int .u64 (rdN q : Nat) := by rw [hok]; rfl
    have hZ : ((rdE q : Nat) : Int) = 0 := by rw [hok]; rfl
    have q9 : decide ((i : Int) = 9) = false := decide_eq_false (by omega)
    have q1 : decide ((0 : Int) < (i : Int)) = false := decide_eq_false (by omega)
    repeat' (first 
    | (refine ek_conv ?_; refine EK_ev (Ev_convI_v rfl c1) ?_)
    | (refine ek_index ?_; refine EK_ev (Ev_indexStr rfl rfl (by omega) hbs) ?_)
    | (refine ek_add ?_; first | refine EK_ev (Ev_add_w rfl rfl hsum) ?_ | refine EK_ev (Ev_addI_v (r := ((a + i : Nat) : Int)) rfl rfl (by omega) (by omega)) ?_ | refine EK_ev (Ev_addI_v (r := ((a + (i + 1) : Nat) : Int)) rfl rfl (by omega) (by omega)) ?_ | refine EK_ev (Ev_addI_v (r := ((i + 1 : Nat) : Int)) rfl rfl (by omega) (by omega)) ?_)
    | (refine ek_mul ?_; refine EK_ev (Ev_mulI_v (r := ((7 * i : Nat) : Int)) rfl rfl (by omega) (by omega)) ?_)
    | (refine ek_rem ?_; refine EK_ev (Ev_rem_w (r := ((b.toNat % 128 : Nat) : Int)) rfl rfl (by omega) (by omega)) ?_)
    | (refine ek_shl ?_; refine EK_ev (Ev_shl_t rfl rfl sh) ?_)
    | (refine ek_eql ?_; first | refine EK_ev (Ev_eqlI_q rfl rfl qz) ?_ | refine EK_ev (Ev_eqlI_q rfl rfl q9) ?_)
    | (refine ek_lss ?_; refine EK_ev (Ev_lssI_q rfl rfl ql) ?_)
    | (refine ek_gtr ?_; refine EK_ev (Ev_gtrI_q rfl rfl q1) ?_)
    | (refine ek_geq ?_; refine EK_ev (Ev_geqI_q rfl rfl qe) ?_)
    | refine xst ?_
    | (refine xsa ?_; intro _)
    | (refine xsb ?_ ?_ <;> intro _ <;> first | (exfalso; omega) | skip)
    | refine xsc ?_
    | (refine KJ_draws (id := 5) (.op 0 (.op 1 (.op 2 (.op 3 (.op 4 (.op 5 (.op 6 (.op 7 (.op 8 (.op 9 (.op 10 (.op 11 .nil)))))))))))) (by kernel_rfl) (by kernel_rfl) ?_)
    | (refine KJ_draws (id := 8) (.op 0 (.op 1 (.op 2 (.op 3 (.op 4 (.op 5 (.op 6 (.op 7 (.op 8 (.op 9 (.op 10 (.op 11 .nil)))))))))))) (by kernel_rfl) (by kernel_rfl) ?_)
    | refine FW_alt ?_ ?_
    | refine KJ_flow ?_ ?_
    | exact Rech.nil
    | fail)
    all_goals rw [hA, hZ]
    all_goals exact xdn () (hc := by exact hV)
  ·
    have c1 : IntKind.u64.wrap ((b.toNat % 128 : Nat) : Int) = ((b.toNat % 128 : Nat) : Int) := u64_wrap _ (by omega)
    have hfit := hi.fit (b := b) (by omega)
    have sh := shl7 (b.toNat % 128) i i9 (by omega)
    have hsum : IntKind.u64.wrap (((x : Nat) : Int) + ((b.toNat % 128 * 2 ^ (7 * i) : Nat) : Int)) = ((x + b.toNat % 128 * 2 ^ (7 * i) : Nat) : Int) := by rw [← Int.natCast_add]; exact u64_wrap _ (by omega)
    have ql : decide ((b.toNat : Int) < 128) = true := decide_eq_true (by omega)
    have hok := hi.done hb (by omega) (by omega) (by omega)
    have hlen := RuI.len hok (by omega)
    rw [hq] at hok
    have hA : a + (i + 1) = a + rdL q := by rw [hok]; show _ = a + (vu _).length; rw [hlen]
    have hV : Value.int .u64 ((x + b.toNat % 128 * 2 ^ (7 * i) : Nat) : Int) = .int .u64 (rdN q : Nat) := by rw [hok]; rfl
    have hZ : ((rdE q : Nat) : Int) = 0 := by rw [hok]; rfl
    have q9 : decide ((i : Int) = 9) = false := decide_eq_false (by omega)
    have q1 : decide ((0 : Int) < (i : Int)) = false := decide_eq_false (by omega)
    repeat' (first 
    | (refine ek_conv ?_; refine EK_ev (Ev_convI_v rfl c1) ?_)
    | (refine ek_index ?_; refine EK_ev (Ev_indexStr rfl rfl (by omega) hbs) ?_)
    | (refine ek_add ?_; first | refine EK_ev (Ev_add_w rfl rfl hsum) ?_ | refine EK_ev (Ev_addI_v (r := ((a + i : Nat) : Int)) rfl rfl (by omega) (by omega)) ?_ | refine EK_ev (Ev_addI_v (r := ((a + (i + 1) : Nat) : Int)) rfl rfl (by omega) (by omega)) ?_ | refine EK_ev (Ev_addI_v (r := ((i + 1 : Nat) : Int)) rfl rfl (by omega) (by omega)) ?_)
    | (refine ek_mul ?_; refine EK_ev (Ev_mulI_v (r := ((7 * i : Nat) : Int)) rfl rfl (by omega) (by omega)) ?_)
    | (refine ek_rem ?_; refine EK_ev (Ev_rem_w (r := ((b.toNat % 128 : Nat) : Int)) rfl rfl (by omega) (by omega)) ?_)
    | (refine ek_shl ?_; refine EK_ev (Ev_shl_t rfl rfl sh) ?_)
    | (refine ek_eql ?_; first | refine EK_ev (Ev_eqlI_q rfl rfl qz) ?_ | refine EK_ev (Ev_eqlI_q rfl rfl q9) ?_)
    | (refine ek_lss ?_; refine EK_ev (Ev_lssI_q rfl rfl ql) ?_)
    | (refine ek_gtr ?_; refine EK_ev (Ev_gtrI_q rfl rfl q1) ?_)
    | (refine ek_geq ?_; refine EK_ev (Ev_geqI_q rfl rfl qe) ?_)
    | refine xst ?_
    | (refine xsa ?_; intro _)
    | (refine xsb ?_ ?_ <;> intro _ <;> first | (exfalso; omega) | skip)
    | refine xsc ?_
    | (refine KJ_draws (id := 5) (.op 0 (.op 1 (.op 2 (.op 3 (.op 4 (.op 5 (.op 6 (.op 7 (.op 8 (.op 9 (.op 10 (.op 11 .nil)))))))))))) (by kernel_rfl) (by kernel_rfl) ?_)
    | (refine KJ_draws (id := 8) (.op 0 (.op 1 (.op 2 (.op 3 (.op 4 (.op 5 (.op 6 (.op 7 (.op 8 (.op 9 (.op 10 (.op 11 .nil)))))))))))) (by kernel_rfl) (by kernel_rfl) ?_)
    | refine FW_alt ?_ ?_
    | refine KJ_flow ?_ ?_
    | exact Rech.nil
    | fail)
    all_goals rw [hA, hZ]
    all_goals exact xdn () (hc := by exact hV)
  ·
    have c1 : IntKind.u64.wrap ((b.toNat % 128 : Nat) : Int) = ((b.toNat % 128 : Nat) : Int) := u64_wrap _ (by omega)
    have hfit := hi.fit (b := b) (by omega)
    have sh := shl7 (b.toNat % 128) i i9 (by omega)
    have hsum : IntKind.u64.wrap (((x : Nat) : Int) + ((b.toNat % 128 * 2 ^ (7 * i) : Nat) : Int)) = ((x + b.toNat % 128 * 2 ^ (7 * i) : Nat) : Int) := by rw [← Int.natCast_add]; exact u64_wrap _ (by omega)
    have ql : decide ((b.toNat : Int) < 128) = true := decide_eq_true (by omega)
    have hok := hi.done hb (by omega) (by omega) (by omega)
    have hlen := RuI.len hok (by omega)
    rw [hq] at hok
    have hA : a + (i + 1) = a + rdL q := by rw [hok]; show _ = a + (vu _).length; rw [hlen]
    have hV : Value.int .u64 ((x + b.toNat % 128 * 2 ^ (7 * i) : Nat) : Int) = .int .u64 (rdN q : Nat) := by rw [hok]; rfl
    have hZ : ((rdE q : Nat) : Int) = 0 := by rw [hok]; rfl
    have q9 : decide ((i : Int) = 9) = false := decide_eq_false (by omega)
    have q0 : decide ((b.toNat : Int) = 0) = false := decide_eq_false (by omega)
    have q1 : decide ((0 : Int) < (i : Int)) = true := decide_eq_true (by omega)
    repeat' (first 
    | (refine ek_conv ?_; refine EK_ev (Ev_convI_v rfl c1) ?_)
    | (refine ek_index ?_; refine EK_ev (Ev_indexStr rfl rfl (by omega) hbs) ?_)
    | (refine ek_add ?_; first | refine EK_ev (Ev_add_w rfl rfl hsum) ?_ | refine EK_ev (Ev_addI_v (r := ((a + i : Nat) : Int)) rfl rfl (by omega) (by omega)) ?_ | refine EK_ev (Ev_addI_v (r := ((a + (i + 1) : Nat) : Int)) rfl rfl (by omega) (by omega)) ?_ | refine EK_ev (Ev_addI_v (r := ((i + 1 : Nat) : Int)) rfl rfl (by omega) (by omega)) ?_)
    | (refine ek_mul ?_; refine EK_ev (Ev_mulI_v (r := ((7 * i : Nat) : Int)) rfl rfl (by omega) (by omega)) ?_)
    | (refine ek_rem ?_; refine EK_ev (Ev_rem_w (r := ((b.toNat % 128 : Nat) : Int)) rfl rfl (by omega) (by omega)) ?_)
    | (refine ek_shl ?_; refine EK_ev (Ev_shl_t rfl rfl sh) ?_)
    | (refine ek_eql ?_; first | refine EK_ev (Ev_eqlI_q rfl rfl qz) ?_ | refine EK_ev (Ev_eqlI_q rfl rfl q0) ?_ | refine EK_ev (Ev_eqlI_q rfl rfl q9) ?_)
    | (refine ek_lss ?_; refine EK_ev (Ev_lssI_q rfl rfl ql) ?_)
    | (refine ek_gtr ?_; refine EK_ev (Ev_gtrI_q rfl rfl q1) ?_)
    | (refine ek_geq ?_; refine EK_ev (Ev_geqI_q rfl rfl qe) ?_)
    | refine xst ?_
    | (refine xsa ?_; intro _)
    | (refine xsb ?_ ?_ <;> intro _ <;> first | (exfalso; omega) | skip)
    | refine xsc ?_
    | (refine KJ_draws (id := 5) (.op 0 (.op 1 (.op 2 (.op 3 (.op 4 (.op 5 (.op 6 (.op 7 (.op 8 (.op 9 (.op 10 (.op 11 .nil)))))))))))) (by kernel_rfl) (by kernel_rfl) ?_)
    | (refine KJ_draws (id := 8) (.op 0 (.op 1 (.op 2 (.op 3 (.op 4 (.op 5 (.op 6 (.op 7 (.op 8 (.op 9 (.op 10 (.op 11 .nil)))))))))))) (by kernel_rfl) (by kernel_rfl) ?_)
    | refine FW_alt ?_ ?_
    | refine KJ_flow ?_ ?_
    | exact Rech.nil
    | fail)
    all_goals rw [hA, hZ]
    all_goals exact xdn () (hc := by exact hV)
  ·
    have c1 : IntKind.u64.wrap ((b.toNat % 128 : Nat) : Int) = ((b.toNat % 128 : Nat) : Int) := u64_wrap _ (by omega)
    have hfit := hi.fit (b := b) (by omega)
    have sh := shl7 (b.toNat % 128) i i9 (by omega)
    have hsum : IntKind.u64.wrap (((x : Nat) : Int) + ((b.toNat % 128 * 2 ^ (7 * i) : Nat) : Int)) = ((x + b.toNat % 128 * 2 ^ (7 * i) : Nat) : Int) := by rw [← Int.natCast_add]; exact u64_wrap _ (by omega)
    have ql : decide ((b.toNat : Int) < 128) = false := decide_eq_false (by omega)
    have hnx := hi.next hb (by omega) (by omega)
    have q9 : decide ((i : Int) = 9) = false := decide_eq_false (by omega)
    have q1 : decide ((0 : Int) < (i : Int)) = false := decide_eq_false (by omega)
    repeat' (first 
    | (refine ek_conv ?_; refine EK_ev (Ev_convI_v rfl c1) ?_)
    | (refine ek_index ?_; refine EK_ev (Ev_indexStr rfl rfl (by omega) hbs) ?_)
    | (refine ek_add ?_; first | refine EK_ev (Ev_add_w rfl rfl hsum) ?_ | refine EK_ev (Ev_addI_v (r := ((a + i : Nat) : Int)) rfl rfl (by omega) (by omega)) ?_ | refine EK_ev (Ev_addI_v (r := ((a + (i + 1) : Nat) : Int)) rfl rfl (by omega) (by omega)) ?_ | refine EK_ev (Ev_addI_v (r := ((i + 1 : Nat) : Int)) rfl rfl (by omega) (by omega)) ?_)
    | (refine ek_mul ?_; refine EK_ev (Ev_mulI_v (r := ((7 * i : Nat) : Int)) rfl rfl (by omega) (by omega)) ?_)
    | (refine ek_rem ?_; refine EK_ev (Ev_rem_w (r := ((b.toNat % 128 : Nat) : Int)) rfl rfl (by omega) (by omega)) ?_)
    | (refine ek_shl ?_; refine EK_ev (Ev_shl_t rfl rfl sh) ?_)
    | (refine ek_eql ?_; first | refine EK_ev (Ev_eqlI_q rfl rfl qz) ?_ | refine EK_ev (Ev_eqlI_q rfl rfl q9) ?_)
    | (refine ek_lss ?_; refine EK_ev (Ev_lssI_q rfl rfl ql) ?_)
    | (refine ek_gtr ?_; refine EK_ev (Ev_gtrI_q rfl rfl q1) ?_)
    | (refine ek_geq ?_; refine EK_ev (Ev_geqI_q rfl rfl qe) ?_)
    | refine xst ?_
    | (refine xsa ?_; intro _)
    | (refine xsb ?_ ?_ <;> intro _ <;> first | (exfalso; omega) | skip)
    | refine xsc ?_
    | (refine KJ_draws (id := 5) (.op 0 (.op 1 (.op 2 (.op 3 (.op 4 (.op 5 (.op 6 (.op 7 (.op 8 (.op 9 (.op 10 (.op 11 .nil)))))))))))) (by kernel_rfl) (by kernel_rfl) ?_)
    | (refine KJ_draws (id := 8) (.op 0 (.op 1 (.op 2 (.op 3 (.op 4 (.op 5 (.op 6 (.op 7 (.op 8 (.op 9 (.op 10 (.op 11 .nil)))))))))))) (by kernel_rfl) (by kernel_rfl) ?_)
    | refine FW_alt ?_ ?_
    | refine KJ_flow ?_ ?_
    | exact Rech.nil
    | fail)
    all_goals refine KJ_again ⟨(i + 1, x + b.toNat % 128 * 2 ^ (7 * i)), hnx⟩ (by show 10 - (i + 1) < 10 - i; omega) xB (xN)
  ·
    have c1 : IntKind.u64.wrap ((b.toNat % 128 : Nat) : Int) = ((b.toNat % 128 : Nat) : Int) := u64_wrap _ (by omega)
    have hfit := hi.fit (b := b) (by omega)
    have sh := shl7 (b.toNat % 128) i i9 (by omega)
    have hsum : IntKind.u64.wrap (((x : Nat) : Int) + ((b.toNat % 128 * 2 ^ (7 * i) : Nat) : Int)) = ((x + b.toNat % 128 * 2 ^ (7 * i) : Nat) : Int) := by rw [← Int.natCast_add]; exact u64_wrap _ (by omega)
    have ql : decide ((b.toNat : Int) < 128) = false := decide_eq_false (by omega)
    have hnx := hi.next hb (by omega) (by omega)
    have q9 : decide ((i : Int) = 9) = false := decide_eq_false (by omega)
    have q0 : decide ((b.toNat : Int) = 0) = false := decide_eq_false (by omega)
    have q1 : decide ((0 : Int) < (i : Int)) = true := decide_eq_true (by omega)
    repeat' (first 
    | (refine ek_conv ?_; refine EK_ev (Ev_convI_v rfl c1) ?_)
    | (refine ek_index ?_; refine EK_ev (Ev_indexStr rfl rfl (by omega) hbs) ?_)
    | (refine ek_add ?_; first | refine EK_ev (Ev_add_w rfl rfl hsum) ?_ | refine EK_ev (Ev_addI_v (r := ((a + i : Nat) : Int)) rfl rfl (by omega) (by omega)) ?_ | refine EK_ev (Ev_addI_v (r := ((a + (i + 1) : Nat) : Int)) rfl rfl (by omega) (by omega)) ?_ | refine EK_ev (Ev_addI_v (r := ((i + 1 : Nat) : Int)) rfl rfl (by omega) (by omega)) ?_)
    | (refine ek_mul ?_; refine EK_ev (Ev_mulI_v (r := ((7 * i : Nat) : Int)) rfl rfl (by omega) (by omega)) ?_)
    | (refine ek_rem ?_; refine EK_ev (Ev_rem_w (r := ((b.toNat % 128 : Nat) : Int)) rfl rfl (by omega) (by omega)) ?_)
    | (refine ek_shl ?_; refine EK_ev (Ev_shl_t rfl rfl sh) ?_)
    | (refine ek_eql ?_; first | refine EK_ev (Ev_eqlI_q rfl rfl qz) ?_ | refine EK_ev (Ev_eqlI_q rfl rfl q0) ?_ | refine EK_ev (Ev_eqlI_q rfl rfl q9) ?_)
    | (refine ek_lss ?_; refine EK_ev (Ev_lssI_q rfl rfl ql) ?_)
    | (refine ek_gtr ?_; refine EK_ev (Ev_gtrI_q rfl rfl q1) ?_)
    | (refine ek_geq ?_; refine EK_ev (Ev_geqI_q rfl rfl qe) ?_)
    | refine xst ?_
    | (refine xsa ?_; intro _)
    | (refine xsb ?_ ?_ <;> intro _ <;> first | (exfalso; omega) | skip)
    | refine xsc ?_
    | (refine KJ_draws (id := 5) (.op 0 (.op 1 (.op 2 (.op 3 (.op 4 (.op 5 (.op 6 (.op 7 (.op 8 (.op 9 (.op 10 (.op 11 .nil)))))))))))) (by kernel_rfl) (by kernel_rfl) ?_)
    | (refine KJ_draws (id := 8) (.op 0 (.op 1 (.op 2 (.op 3 (.op 4 (.op 5 (.op 6 (.op 7 (.op 8 (.op 9 (.op 10 (.op 11 .nil)))))))))))) (by kernel_rfl) (by kernel_rfl) ?_)
    | refine FW_alt ?_ ?_
    | refine KJ_flow ?_ ?_
    | exact Rech.nil
    | fail)
    all_goals refine KJ_again ⟨(i + 1, x + b.toNat % 128 * 2 ^ (7 * i)), hnx⟩ (by show 10 - (i + 1) < 10 - i; omega) xB (xN)
set_option maxHeartbeats 4000000 in
theorem rdtext_bad (ha : a ≤ s.length) (hs : s.length ≤ 9223372036854775800) (e : Nat) (hq : rtx 2147483647 (s.drop a) = .bad e) :
    Ct Tryd.prog W 60 [.pointer (some ⟨p, 0, none⟩)] [drP p s a 0] (fun _ : Nat => strV []) (fun a' => [drP p s a' (e : Nat)]) := by
  have cn0 := fun q hq => rdnum_ct (W := W) (p := p) (s := s) (a := a) ha hs q hq
  have qz : decide ((0 : Int) = 0) = true := rfl
  rcases rtx_cases 2147483647 (s.drop a) with ⟨e', h1, h2, h3⟩ | ⟨n, t, h1, h4, h2, h3⟩ | ⟨n, t, h1, h4, h5, h2, h3⟩ | ⟨n, t, h1, h4, h5, h2, h3⟩
  · rw [hq] at h2
    cases h2
    have cn := cn0 _ h1
    have hne : e ≠ 0 := by rcases ru_err h1 with h | h <;> omega
    have qe : decide (((e : Nat) : Int) = 0) = false := decide_eq_false (by omega)
    have qn : decide (((e : Nat) : Int) ≠ 0) = true := decide_eq_true (by omega)
    rw [show rdL (.bad e) = 0 from rfl, show rdE (α := Nat) (.bad e) = e from rfl, show rdN (.bad e) = 0 from rfl, Nat.add_zero] at cn
    refine Ct.enter Tryd.func60 rfl Tryd.ntmps60 (by simp) (fun R => ?_)
    repeat' (first 
    | (refine is_call ?_; refine KJ_call xE cn xP rfl (fun _ => ?_))
    | (refine ek_eql ?_; refine EK_ev (Ev_eqlI_q rfl rfl qe) ?_)
    | (refine ek_neq ?_; refine EK_ev (Ev_neqI_q rfl rfl qn) ?_)
    | refine xst ?_
    | (refine xsa ?_; intro _)
    | (refine xsb ?_ ?_ <;> intro _ <;> first | (exfalso; omega) | skip)
    | refine xsc ?_
    | (refine KJ_draws (id := 4) (.op 0 (.op 1 (.op 2 (.op 3 (.op 4 (.op 5 (.op 6 (.op 7 (.op 8 (.op 9 (.op 10 (.op 11 (.op 12 (.op 13 (.op 14 (.op 15 (.op 16 (.op 17 (.op 18 (.op 19 .nil)))))))))))))))))))) (by kernel_rfl) (by kernel_rfl) ?_)
    | (refine KJ_draws (id := 9) (.op 0 (.op 1 (.op 2 (.op 3 (.op 4 (.op 5 (.op 6 (.op 7 (.op 8 (.op 9 (.op 10 (.op 11 (.op 12 (.op 13 (.op 14 (.op 15 (.op 16 .nil))))))))))))))))) (by kernel_rfl) (by kernel_rfl) ?_)
    | refine FW_alt ?_ ?_
    | refine KJ_flow ?_ ?_
    | exact Rech.nil
    | fail)
    all_goals (exact xdn a)
  · rw [hq] at h2
    cases h2
    have cn := cn0 _ h1
    rw [show rdL (.ok n t) = (vu n).length from rfl, show rdE (.ok n t) = 0 from rfl, show rdN (.ok n t) = n from rfl] at cn
    have qg : decide ((2147483647 : Int) < ((n : Nat) : Int)) = true := decide_eq_true (by omega)
    have q3 : decide ((3 : Int) = 0) = false := rfl
    have q3n : decide ((3 : Int) ≠ 0) = true := rfl
    have qz : decide (((0 : Nat) : Int) = 0) = true := rfl
    refine Ct.enter Tryd.func60 rfl Tryd.ntmps60 (by simp) (fun R => ?_)
    repeat' (first 
    | (refine is_call ?_; refine KJ_call xE cn xP rfl (fun _ => ?_))
    | (refine ek_eql ?_; first | refine EK_ev (Ev_eqlI_q rfl rfl q3) ?_ | refine EK_ev (Ev_eqlI_q rfl rfl qz) ?_)
    | (refine ek_neq ?_; refine EK_ev (Ev_neqI_q rfl rfl q3n) ?_)
    | (refine ek_gtr ?_; refine EK_ev (Ev_gtrI_q rfl rfl qg) ?_)
    | refine xst ?_
    | (refine xsa ?_; intro _)
    | (refine xsb ?_ ?_ <;> intro _ <;> first | (exfalso; omega) | skip)
    | refine xsc ?_
    | (refine KJ_draws (id := 4) (.op 0 (.op 1 (.op 2 (.op 3 (.op 4 (.op 5 (.op 6 (.op 7 (.op 8 (.op 9 (.op 10 (.op 11 (.op 12 (.op 13 (.op 14 (.op 15 (.op 16 (.op 17 (.op 18 (.op 19 .nil)))))))))))))))))))) (by kernel_rfl) (by kernel_rfl) ?_)
    | (refine KJ_draws (id := 9) (.op 0 (.op 1 (.op 2 (.op 3 (.op 4 (.op 5 (.op 6 (.op 7 (.op 8 (.op 9 (.op 10 (.op 11 (.op 12 (.op 13 (.op 14 (.op 15 (.op 16 .nil))))))))))))))))) (by kernel_rfl) (by kernel_rfl) ?_)
    | refine FW_alt ?_ ?_
    | refine KJ_flow ?_ ?_
    | exact Rech.nil
    | fail)
    all_goals (exact xdn (a + (vu n).length))
  · rw [hq] at h2
    cases h2
    have cn := cn0 _ h1
    have hf := ru_fit h1
    have ht := congrArg List.length (ru_drop h1)
    rw [List.length_drop] at ht
    rw [show rdL (.ok n t) = (vu n).length from rfl, show rdE (.ok n t) = 0 from rfl, show rdN (.ok n t) = n from rfl] at cn
    obtain ⟨a1, ha1⟩ : ∃ a1, a1 = a + (vu n).length := ⟨_, rfl⟩
    rw [← ha1] at cn hf ht
    have qg : decide ((2147483647 : Int) < ((n : Nat) : Int)) = false := decide_eq_false (by omega)
    have qg2 : decide (((s.length - a1 : Nat) : Int) < ((n : Nat) : Int)) = true := decide_eq_true (by omega)
    have q3 : decide ((1 : Int) = 0) = false := rfl
    have q3n : decide ((1 : Int) ≠ 0) = true := rfl
    have qz : decide (((0 : Nat) : Int) = 0) = true := rfl
    have cv : IntKind.u64.wrap ((s.length - a1 : Nat) : Int) = ((s.length - a1 : Nat) : Int) := u64_wrap _ (by omega)
    refine Ct.enter Tryd.func60 rfl Tryd.ntmps60 (by simp) (fun R => ?_)
    repeat' (first 
    | (refine is_call ?_; refine KJ_call xE cn xP rfl (fun _ => ?_))
    | (refine ek_conv ?_; refine EK_ev (Ev_convI_v rfl cv) ?_)
    | (refine ek_sub ?_; refine EK_ev (Ev_subI_v (r := ((s.length - a1 : Nat) : Int)) rfl rfl (by omega) (by omega)) ?_)
    | (refine ek_eql ?_; first | refine EK_ev (Ev_eqlI_q rfl rfl q3) ?_ | refine EK_ev (Ev_eqlI_q rfl rfl qz) ?_)
    | (refine ek_neq ?_; refine EK_ev (Ev_neqI_q rfl rfl q3n) ?_)
    | (refine ek_gtr ?_; first | refine EK_ev (Ev_gtrI_q rfl rfl qg2) ?_ | refine EK_ev (Ev_gtrI_q rfl rfl qg) ?_)
    | refine xst ?_
    | (refine xsa ?_; intro _)
    | (refine xsb ?_ ?_ <;> intro _ <;> first | (exfalso; omega) | skip)
    | refine xsc ?_
    | (refine KJ_draws (id := 4) (.op 0 (.op 1 (.op 2 (.op 3 (.op 4 (.op 5 (.op 6 (.op 7 (.op 8 (.op 9 (.op 10 (.op 11 (.op 12 (.op 13 (.op 14 (.op 15 (.op 16 (.op 17 (.op 18 (.op 19 .nil)))))))))))))))))))) (by kernel_rfl) (by kernel_rfl) ?_)
    | (refine KJ_draws (id := 9) (.op 0 (.op 1 (.op 2 (.op 3 (.op 4 (.op 5 (.op 6 (.op 7 (.op 8 (.op 9 (.op 10 (.op 11 (.op 12 (.op 13 (.op 14 (.op 15 (.op 16 .nil))))))))))))))))) (by kernel_rfl) (by kernel_rfl) ?_)
    | refine FW_alt ?_ ?_
    | refine KJ_flow ?_ ?_
    | exact Rech.nil
    | fail)
    all_goals (exact xdn a1)
  · rw [hq] at h2; cases h2
set_option maxHeartbeats 4000000 in
theorem rdtext_ct (ha : a ≤ s.length) (hs : s.length ≤ 9223372036854775800) (y t' : List UInt8) (hq : rtx 2147483647 (s.drop a) = .ok y t') :
    Ct Tryd.prog W 60 [.pointer (some ⟨p, 0, none⟩)] [drP p s a 0] (fun _ : Unit => strV y) (fun _ => [drP p s (a + (tx y).length) 0]) := by
  have hxA := txA_ok hq
  rcases rtx_cases 2147483647 (s.drop a) with ⟨e', h1, h2, h3⟩ | ⟨n, t, h1, h4, h2, h3⟩ | ⟨n, t, h1, h4, h5, h2, h3⟩ | ⟨n, t, h1, h4, h5, h2, h3⟩
  · rw [hq] at h2; cases h2
  · rw [hq] at h2; cases h2
  · rw [hq] at h2; cases h2
  · have cn := rdnum_ct (W := W) (p := p) (s := s) (a := a) ha hs _ h1
    rw [← hxA, h3, ← Nat.add_assoc]
    rw [hq] at h2
    cases h2
    have hf := ru_fit h1
    have htd := ru_drop h1
    have ht := congrArg List.length htd
    rw [List.length_drop] at ht
    rw [show rdL (.ok n t) = (vu n).length from rfl, show rdE (.ok n t) = 0 from rfl, show rdN (.ok n t) = n from rfl] at cn
    obtain ⟨a1, ha1⟩ : ∃ a1, a1 = a + (vu n).length := ⟨_, rfl⟩
    rw [← ha1] at cn hf ht htd ⊢
    have qg : decide ((2147483647 : Int) < ((n : Nat) : Int)) = false := decide_eq_false (by omega)
    have qg2 : decide (((s.length - a1 : Nat) : Int) < ((n : Nat) : Int)) = false := decide_eq_false (by omega)
    have qz : decide (((0 : Nat) : Int) = 0) = true := rfl
    have qzn : decide (((0 : Nat) : Int) ≠ 0) = false := rfl
    have cv : IntKind.u64.wrap ((s.length - a1 : Nat) : Int) = ((s.length - a1 : Nat) : Int) := u64_wrap _ (by omega)
    have cn2 : IntKind.i64.wrap ((n : Nat) : Int) = ((n : Nat) : Int) := by
      simp only [IntKind.wrap, IntKind.signed, IntKind.bits]
      simp
      omega
    have hsl : (s.take (Int.toNat ((a1 + n : Nat) : Int))).drop (Int.toNat ((a1 : Nat) : Int)) = t.take n := by
      rw [Int.toNat_natCast, Int.toNat_natCast, htd, List.drop_take]
      congr 1; omega
    refine Ct.enter Tryd.func60 rfl Tryd.ntmps60 (by simp) (fun R => ?_)
    repeat' (first 
    | (refine is_call ?_; refine KJ_call xE cn xP rfl (fun _ => ?_))
    | (refine ek_conv ?_; first | refine EK_ev (Ev_convI_v rfl cv) ?_ | refine EK_ev (Ev_convI_v rfl cn2) ?_)
    | (refine ek_slice ?_; refine EK_ev (Ev_sliceStr_t rfl rfl rfl (by omega) hsl) ?_)
    | (refine ek_add ?_; refine EK_ev (Ev_addI_v (r := ((a1 + n : Nat) : Int)) rfl rfl (by omega) (by omega)) ?_)
    | (refine ek_sub ?_; first | refine EK_ev (Ev_subI_v (r := ((s.length - a1 : Nat) : Int)) rfl rfl (by omega) (by omega)) ?_ | refine EK_ev (Ev_subI_v (r := ((a1 : Nat) : Int)) rfl rfl (by omega) (by omega)) ?_)
    | (refine ek_eql ?_; refine EK_ev (Ev_eqlI_q rfl rfl qz) ?_)
    | (refine ek_neq ?_; refine EK_ev (Ev_neqI_q rfl rfl qzn) ?_)
    | (refine ek_gtr ?_; first | refine EK_ev (Ev_gtrI_q rfl rfl qg2) ?_ | refine EK_ev (Ev_gtrI_q rfl rfl qg) ?_)
    | refine xst ?_
    | (refine xsa ?_; intro _)
    | (refine xsb ?_ ?_ <;> intro _ <;> first | (exfalso; omega) | skip)
    | refine xsc ?_
    | (refine KJ_draws (id := 4) (.op 0 (.op 1 (.op 2 (.op 3 (.op 4 (.op 5 (.op 6 (.op 7 (.op 8 (.op 9 (.op 10 (.op 11 (.op 12 (.op 13 (.op 14 (.op 15 (.op 16 (.op 17 (.op 18 (.op 19 .nil)))))))))))))))))))) (by kernel_rfl) (by kernel_rfl) ?_)
    | (refine KJ_draws (id := 9) (.op 0 (.op 1 (.op 2 (.op 3 (.op 4 (.op 5 (.op 6 (.op 7 (.op 8 (.op 9 (.op 10 (.op 11 (.op 12 (.op 13 (.op 14 (.op 15 (.op 16 .nil))))))))))))))))) (by kernel_rfl) (by kernel_rfl) ?_)
    | refine FW_alt ?_ ?_
    | refine KJ_flow ?_ ?_
    | exact Rech.nil
    | fail)
    all_goals (exact xdn ())
end
end Go.Proofs.YtehheokalgmbgaaDoor
/-
  The document's reader (chapter 12): op. (Printed by genrr2.py.)
-/
namespace Go.Proofs.YtehheokalgmbgaaDoor
open Go Go.RowKit
section
variable {W : World} {p : Nat} {s : List UInt8} {a : Nat}
set_option maxHeartbeats 8000000 in
theorem rdop_bad (ha : a ≤ s.length) (hs : s.length ≤ 9223372036854775800) (first : Bool) (last : List UInt8) (e : Nat) (hq : rdOp first last (s.drop a) = .bad e) :
    Ct Tryd.prog W 45 [.pointer (some ⟨p, 0, none⟩), .bool first, strV last] [drP p s a 0] (fun x : BOp × Nat => .agg (opC x.1).toArray) (fun x => [drP p s x.2 (e : Nat)]) := by
  have qz : decide ((0 : Int) = 0) = true := rfl
  rcases rdOp_cases first last (s.drop a) with ⟨hl, h1⟩ | ⟨b, t, hl, hb, h1⟩ | ⟨b, t, hl, hb, hk⟩
  · rw [hq] at h1
    cases h1
    have han : a = s.length := by have := congrArg List.length hl; rw [List.length_drop, List.length_nil] at this; omega
    have ql : decide (((s.length : Nat) : Int) ≤ ((a : Nat) : Int)) = true := decide_eq_true (by omega)
    refine Ct.enter Tryd.func45 rfl Tryd.ntmps45 (by simp) (fun R => ?_)
    repeat' (first 
    | (refine is_alloc ?_; refine KJ_alloc rfl (fun g => ?_))
    | (refine ek_build ?_; refine EK_ev (Ev_build xV xW) ?_)
    | (refine ek_geq ?_; refine EK_ev (Ev_geqI_q rfl rfl ql) ?_)
    | refine xst ?_
    | (refine xsa ?_; intro _)
    | (refine xsb ?_ ?_ <;> intro _ <;> first | (exfalso; omega) | skip)
    | refine xsc ?_
    | (refine KJ_draws (id := 2) (.op 0 (.op 1 (.op 2 (.op 3 (.op 4 (.op 5 (.op 6 (.op 7 (.op 8 (.op 9 .nil)))))))))) (by kernel_rfl) (by kernel_rfl) ?_)
    | (refine KJ_draws (id := 5) (.op 0 (.op 1 (.op 2 (.op 3 (.op 4 (.op 5 (.op 6 (.op 7 (.op 8 (.op 9 .nil)))))))))) (by kernel_rfl) (by kernel_rfl) ?_)
    | refine FW_alt ?_ ?_
    | refine KJ_flow ?_ ?_
    | exact Rech.nil
    | fail)
    all_goals (refine is_ex ?_; exact KJ_done (by first | exact Or.inl rfl | exact Or.inr rfl) rfl (Rvs.agg (T := 29) rfl inferInstance inferInstance xS xC Rvs.nil) (⟨false, [], []⟩, a) (by rfl) (xN))
  · rw [hq] at h1
    cases h1
    have hb0 : s[a]? = some b := by have := congrArg (fun l => l[0]?) hl; simpa [List.getElem?_drop] using this
    have hlt := (List.getElem?_eq_some_iff.1 hb0).1
    have ht : t = s.drop (a + 1) := by rw [← List.drop_drop, hl]; rfl
    have hb2 : s[Int.toNat ((a : Nat) : Int)]? = some b := by rw [Int.toNat_natCast]; exact hb0
    have ql : decide (((s.length : Nat) : Int) ≤ ((a : Nat) : Int)) = false := decide_eq_false (by omega)
    have qb : decide ((1 : Int) < (b.toNat : Int)) = true := decide_eq_true (by omega)
    refine Ct.enter Tryd.func45 rfl Tryd.ntmps45 (by simp) (fun R => ?_)
    repeat' (first 
    | (refine is_alloc ?_; refine KJ_alloc rfl (fun g => ?_))
    | (refine ek_index ?_; refine EK_ev (Ev_indexStr rfl rfl (by omega) hb2) ?_)
    | (refine ek_build ?_; refine EK_ev (Ev_build xV xW) ?_)
    | (refine ek_add ?_; refine EK_ev (Ev_addI_v (r := ((a + 1 : Nat) : Int)) rfl rfl (by omega) (by omega)) ?_)
    | (refine ek_gtr ?_; refine EK_ev (Ev_gtrI_q rfl rfl qb) ?_)
    | (refine ek_geq ?_; refine EK_ev (Ev_geqI_q rfl rfl ql) ?_)
    | refine xst ?_
    | (refine xsa ?_; intro _)
    | (refine xsb ?_ ?_ <;> intro _ <;> first | (exfalso; omega) | skip)
    | refine xsc ?_
    | (refine KJ_draws (id := 2) (.op 0 (.op 1 (.op 2 (.op 3 (.op 4 (.op 5 (.op 6 (.op 7 (.op 8 (.op 9 .nil)))))))))) (by kernel_rfl) (by kernel_rfl) ?_)
    | (refine KJ_draws (id := 5) (.op 0 (.op 1 (.op 2 (.op 3 (.op 4 (.op 5 (.op 6 (.op 7 (.op 8 (.op 9 .nil)))))))))) (by kernel_rfl) (by kernel_rfl) ?_)
    | refine FW_alt ?_ ?_
    | refine KJ_flow ?_ ?_
    | exact Rech.nil
    | fail)
    all_goals (refine is_ex ?_; exact KJ_done (by first | exact Or.inl rfl | exact Or.inr rfl) rfl (Rvs.agg (T := 29) rfl inferInstance inferInstance xS xC Rvs.nil) (⟨false, [], []⟩, a + 1) (by rfl) (xN))
  ·
    have hb0 : s[a]? = some b := by have := congrArg (fun l => l[0]?) hl; simpa [List.getElem?_drop] using this
    have hlt := (List.getElem?_eq_some_iff.1 hb0).1
    have ht : t = s.drop (a + 1) := by rw [← List.drop_drop, hl]; rfl
    have hb2 : s[Int.toNat ((a : Nat) : Int)]? = some b := by rw [Int.toNat_natCast]; exact hb0
    have ql : decide (((s.length : Nat) : Int) ≤ ((a : Nat) : Int)) = false := decide_eq_false (by omega)
    have qb : decide ((1 : Int) < (b.toNat : Int)) = false := decide_eq_false (by omega)
    obtain ⟨d, hd⟩ : ∃ d, decide ((b.toNat : Int) = 1) = d := ⟨_, rfl⟩
    rw [ht] at hk
    rcases hk with ⟨e', hk, h1⟩ | ⟨k, u, hk, hk2⟩
    · rw [hq] at h1
      cases h1
      have ck := rdtext_bad (W := W) (p := p) (s := s) (a := a + 1) (by omega) hs e hk
      have qe : decide (((e : Nat) : Int) = 0) = false := decide_eq_false (by have := rtx_err hk; omega)
      refine Ct.enter Tryd.func45 rfl Tryd.ntmps45 (by simp) (fun R => ?_)
      repeat' (first 
    | (refine is_alloc ?_; refine KJ_alloc rfl (fun g => ?_))
    | (refine is_call ?_; refine KJ_call xE ck xP rfl (fun a3 => ?_))
    | (refine ek_index ?_; refine EK_ev (Ev_indexStr rfl rfl (by omega) hb2) ?_)
    | (refine ek_build ?_; refine EK_ev (Ev_build xV xW) ?_)
    | (refine ek_add ?_; refine EK_ev (Ev_addI_v (r := ((a + 1 : Nat) : Int)) rfl rfl (by omega) (by omega)) ?_)
    | (refine ek_eql ?_; first | refine EK_ev (Ev_eqlI_q rfl rfl hd) ?_ | refine EK_ev (Ev_eqlI_q rfl rfl qe) ?_)
    | (refine ek_gtr ?_; refine EK_ev (Ev_gtrI_q rfl rfl qb) ?_)
    | (refine ek_geq ?_; refine EK_ev (Ev_geqI_q rfl rfl ql) ?_)
    | refine xst ?_
    | (refine xsa ?_; intro _)
    | (refine xsb ?_ ?_ <;> intro _ <;> first | (exfalso; omega) | skip)
    | refine xsc ?_
    | (refine KJ_draws (id := 2) (.op 0 (.op 1 (.op 2 (.op 3 (.op 4 (.op 5 (.op 6 (.op 7 (.op 8 (.op 9 .nil)))))))))) (by kernel_rfl) (by kernel_rfl) ?_)
    | (refine KJ_draws (id := 5) (.op 0 (.op 1 (.op 2 (.op 3 (.op 4 (.op 5 (.op 6 (.op 7 (.op 8 (.op 9 .nil)))))))))) (by kernel_rfl) (by kernel_rfl) ?_)
    | refine FW_alt ?_ ?_
    | refine KJ_flow ?_ ?_
    | exact Rech.nil
    | fail)
      all_goals (refine is_ex ?_; exact KJ_done (by first | exact Or.inl rfl | exact Or.inr rfl) rfl (Rvs.agg (T := 29) rfl inferInstance inferInstance xS xC Rvs.nil) (⟨d, [], []⟩, a3) (by rfl) (xN))
    have ck := rdtext_ct (W := W) (p := p) (s := s) (a := a + 1) (by omega) hs k u hk
    have hkf := rtx_fit hk
    have hu := rtx_drop hk
    obtain ⟨a2, ha2⟩ : ∃ a2, a2 = a + 1 + (tx k).length := ⟨_, rfl⟩
    rw [← ha2] at ck hkf hu
    have hle := leq_not k last
    have q4 : decide ((4 : Int) = 0) = false := rfl
    rcases hk2 with ⟨rfl, hle2, h1⟩ | ⟨hor, hk2⟩
    · rw [hq] at h1
      cases h1
      rw [hle2, Bool.not_false] at hle
      refine Ct.enter Tryd.func45 rfl Tryd.ntmps45 (by simp) (fun R => ?_)
      repeat' (first 
    | (refine is_alloc ?_; refine KJ_alloc rfl (fun g => ?_))
    | (refine is_call ?_; refine KJ_call xE ck xP rfl (fun _ => ?_))
    | (refine ek_index ?_; refine EK_ev (Ev_indexStr rfl rfl (by omega) hb2) ?_)
    | (refine ek_build ?_; refine EK_ev (Ev_build xV xW) ?_)
    | (refine ek_add ?_; refine EK_ev (Ev_addI_v (r := ((a + 1 : Nat) : Int)) rfl rfl (by omega) (by omega)) ?_)
    | (refine ek_eql ?_; first | refine EK_ev (Ev_eqlI_q rfl rfl qz) ?_ | refine EK_ev (Ev_eqlI_q rfl rfl hd) ?_ | refine EK_ev (Ev_eqlI_q rfl rfl q4) ?_)
    | (refine ek_leq ?_; refine EK_ev (Ev_leqS_q rfl rfl hle) ?_)
    | (refine ek_gtr ?_; refine EK_ev (Ev_gtrI_q rfl rfl qb) ?_)
    | (refine ek_geq ?_; refine EK_ev (Ev_geqI_q rfl rfl ql) ?_)
    | refine xst ?_
    | (refine xsa ?_; intro _)
    | (refine xsb ?_ ?_ <;> intro _ <;> first | (exfalso; omega) | skip)
    | refine xsc ?_
    | (refine KJ_draws (id := 2) (.op 0 (.op 1 (.op 2 (.op 3 (.op 4 (.op 5 (.op 6 (.op 7 (.op 8 (.op 9 .nil)))))))))) (by kernel_rfl) (by kernel_rfl) ?_)
    | (refine KJ_draws (id := 5) (.op 0 (.op 1 (.op 2 (.op 3 (.op 4 (.op 5 (.op 6 (.op 7 (.op 8 (.op 9 .nil)))))))))) (by kernel_rfl) (by kernel_rfl) ?_)
    | refine FW_alt ?_ ?_
    | refine KJ_flow ?_ ?_
    | exact Rech.nil
    | fail)
      all_goals (refine is_ex ?_; exact KJ_done (by first | exact Or.inl rfl | exact Or.inr rfl) rfl (Rvs.agg (T := 29) rfl inferInstance inferInstance xS xC Rvs.nil) (⟨d, k, []⟩, a2) (by rfl) (xN))
    rcases hk2 with ⟨hb1, h1⟩ | ⟨hb1, e', hv, h1⟩ | ⟨hb1, v, w, hv, h1⟩
    · rw [hq] at h1; cases h1
    · rw [hq] at h1
      cases h1
      rw [hu] at hv
      have cv := rdtext_bad (W := W) (p := p) (s := s) (a := a2) hkf hs e hv
      have hd0 : d = false := by rw [← hd]; exact decide_eq_false (by omega)
      subst hd0
      rcases hor with rfl | hlt2
      ·
        refine Ct.enter Tryd.func45 rfl Tryd.ntmps45 (by simp) (fun R => ?_)
        repeat' (first 
    | (refine is_alloc ?_; refine KJ_alloc rfl (fun g => ?_))
    | (refine is_call ?_; first | (refine KJ_call xE cv xP rfl (fun a3 => ?_)) | (refine KJ_call xE ck xP rfl (fun _ => ?_)))
    | (refine ek_index ?_; refine EK_ev (Ev_indexStr rfl rfl (by omega) hb2) ?_)
    | (refine ek_build ?_; refine EK_ev (Ev_build xV xW) ?_)
    | (refine ek_add ?_; refine EK_ev (Ev_addI_v (r := ((a + 1 : Nat) : Int)) rfl rfl (by omega) (by omega)) ?_)
    | (refine ek_eql ?_; first | refine EK_ev (Ev_eqlI_q rfl rfl qz) ?_ | refine EK_ev (Ev_eqlI_q rfl rfl hd) ?_)
    | (refine ek_gtr ?_; refine EK_ev (Ev_gtrI_q rfl rfl qb) ?_)
    | (refine ek_geq ?_; refine EK_ev (Ev_geqI_q rfl rfl ql) ?_)
    | refine xst ?_
    | (refine xsa ?_; intro _)
    | (refine xsb ?_ ?_ <;> intro _ <;> first | (exfalso; omega) | skip)
    | refine xsc ?_
    | (refine KJ_draws (id := 2) (.op 0 (.op 1 (.op 2 (.op 3 (.op 4 (.op 5 (.op 6 (.op 7 (.op 8 (.op 9 .nil)))))))))) (by kernel_rfl) (by kernel_rfl) ?_)
    | (refine KJ_draws (id := 5) (.op 0 (.op 1 (.op 2 (.op 3 (.op 4 (.op 5 (.op 6 (.op 7 (.op 8 (.op 9 .nil)))))))))) (by kernel_rfl) (by kernel_rfl) ?_)
    | refine FW_alt ?_ ?_
    | refine KJ_flow ?_ ?_
    | exact Rech.nil
    | fail)
        all_goals (refine is_ex ?_; exact KJ_done (by first | exact Or.inl rfl | exact Or.inr rfl) rfl (Rvs.agg (T := 29) rfl inferInstance inferInstance xS xC Rvs.nil) (⟨false, k, []⟩, a3) (by rfl) (xN))
      · rw [hlt2, Bool.not_true] at hle
        cases first
        ·
          refine Ct.enter Tryd.func45 rfl Tryd.ntmps45 (by simp) (fun R => ?_)
          repeat' (first 
    | (refine is_alloc ?_; refine KJ_alloc rfl (fun g => ?_))
    | (refine is_call ?_; first | (refine KJ_call xE cv xP rfl (fun a3 => ?_)) | (refine KJ_call xE ck xP rfl (fun _ => ?_)))
    | (refine ek_index ?_; refine EK_ev (Ev_indexStr rfl rfl (by omega) hb2) ?_)
    | (refine ek_build ?_; refine EK_ev (Ev_build xV xW) ?_)
    | (refine ek_add ?_; refine EK_ev (Ev_addI_v (r := ((a + 1 : Nat) : Int)) rfl rfl (by omega) (by omega)) ?_)
    | (refine ek_eql ?_; first | refine EK_ev (Ev_eqlI_q rfl rfl qz) ?_ | refine EK_ev (Ev_eqlI_q rfl rfl hd) ?_)
    | (refine ek_leq ?_; refine EK_ev (Ev_leqS_q rfl rfl hle) ?_)
    | (refine ek_gtr ?_; refine EK_ev (Ev_gtrI_q rfl rfl qb) ?_)
    | (refine ek_geq ?_; refine EK_ev (Ev_geqI_q rfl rfl ql) ?_)
    | refine xst ?_
    | (refine xsa ?_; intro _)
    | (refine xsb ?_ ?_ <;> intro _ <;> first | (exfalso; omega) | skip)
    | refine xsc ?_
    | (refine KJ_draws (id := 2) (.op 0 (.op 1 (.op 2 (.op 3 (.op 4 (.op 5 (.op 6 (.op 7 (.op 8 (.op 9 .nil)))))))))) (by kernel_rfl) (by kernel_rfl) ?_)
    | (refine KJ_draws (id := 5) (.op 0 (.op 1 (.op 2 (.op 3 (.op 4 (.op 5 (.op 6 (.op 7 (.op 8 (.op 9 .nil)))))))))) (by kernel_rfl) (by kernel_rfl) ?_)
    | refine FW_alt ?_ ?_
    | refine KJ_flow ?_ ?_
    | exact Rech.nil
    | fail)
          all_goals (refine is_ex ?_; exact KJ_done (by first | exact Or.inl rfl | exact Or.inr rfl) rfl (Rvs.agg (T := 29) rfl inferInstance inferInstance xS xC Rvs.nil) (⟨false, k, []⟩, a3) (by rfl) (xN))
        ·
          refine Ct.enter Tryd.func45 rfl Tryd.ntmps45 (by simp) (fun R => ?_)
          repeat' (first 
    | (refine is_alloc ?_; refine KJ_alloc rfl (fun g => ?_))
    | (refine is_call ?_; first | (refine KJ_call xE cv xP rfl (fun a3 => ?_)) | (refine KJ_call xE ck xP rfl (fun _ => ?_)))
    | (refine ek_index ?_; refine EK_ev (Ev_indexStr rfl rfl (by omega) hb2) ?_)
    | (refine ek_build ?_; refine EK_ev (Ev_build xV xW) ?_)
    | (refine ek_add ?_; refine EK_ev (Ev_addI_v (r := ((a + 1 : Nat) : Int)) rfl rfl (by omega) (by omega)) ?_)
    | (refine ek_eql ?_; first | refine EK_ev (Ev_eqlI_q rfl rfl qz) ?_ | refine EK_ev (Ev_eqlI_q rfl rfl hd) ?_)
    | (refine ek_leq ?_; refine EK_ev (Ev_leqS_q rfl rfl hle) ?_)
    | (refine ek_gtr ?_; refine EK_ev (Ev_gtrI_q rfl rfl qb) ?_)
    | (refine ek_geq ?_; refine EK_ev (Ev_geqI_q rfl rfl ql) ?_)
    | refine xst ?_
    | (refine xsa ?_; intro _)
    | (refine xsb ?_ ?_ <;> intro _ <;> first | (exfalso; omega) | skip)
    | refine xsc ?_
    | (refine KJ_draws (id := 2) (.op 0 (.op 1 (.op 2 (.op 3 (.op 4 (.op 5 (.op 6 (.op 7 (.op 8 (.op 9 .nil)))))))))) (by kernel_rfl) (by kernel_rfl) ?_)
    | (refine KJ_draws (id := 5) (.op 0 (.op 1 (.op 2 (.op 3 (.op 4 (.op 5 (.op 6 (.op 7 (.op 8 (.op 9 .nil)))))))))) (by kernel_rfl) (by kernel_rfl) ?_)
    | refine FW_alt ?_ ?_
    | refine KJ_flow ?_ ?_
    | exact Rech.nil
    | fail)
          all_goals (refine is_ex ?_; exact KJ_done (by first | exact Or.inl rfl | exact Or.inr rfl) rfl (Rvs.agg (T := 29) rfl inferInstance inferInstance xS xC Rvs.nil) (⟨false, k, []⟩, a3) (by rfl) (xN))
    · rw [hq] at h1; cases h1
set_option maxHeartbeats 8000000 in
theorem rdop_ct (ha : a ≤ s.length) (hs : s.length ≤ 9223372036854775800) (first : Bool) (last : List UInt8) (op : BOp) (t' : List UInt8) (hq : rdOp first last (s.drop a) = .ok op t') :
    Ct Tryd.prog W 45 [.pointer (some ⟨p, 0, none⟩), .bool first, strV last] [drP p s a 0] (fun _ : Unit => .agg (opC op).toArray) (fun _ => [drP p s (a + (encOp op).length) 0]) := by
  have qz : decide ((0 : Int) = 0) = true := rfl
  rcases rdOp_cases first last (s.drop a) with ⟨hl, h1⟩ | ⟨b, t, hl, hb, h1⟩ | ⟨b, t, hl, hb, hk⟩
  · rw [hq] at h1; cases h1
  · rw [hq] at h1; cases h1
  ·
    have hb0 : s[a]? = some b := by have := congrArg (fun l => l[0]?) hl; simpa [List.getElem?_drop] using this
    have hlt := (List.getElem?_eq_some_iff.1 hb0).1
    have ht : t = s.drop (a + 1) := by rw [← List.drop_drop, hl]; rfl
    have hb2 : s[Int.toNat ((a : Nat) : Int)]? = some b := by rw [Int.toNat_natCast]; exact hb0
    have ql : decide (((s.length : Nat) : Int) ≤ ((a : Nat) : Int)) = false := decide_eq_false (by omega)
    have qb : decide ((1 : Int) < (b.toNat : Int)) = false := decide_eq_false (by omega)
    rw [ht] at hk
    rcases hk with ⟨e', hk, h1⟩ | ⟨k, u, hk, hk2⟩
    · rw [hq] at h1; cases h1
    have ck := rdtext_ct (W := W) (p := p) (s := s) (a := a + 1) (by omega) hs k u hk
    have hkf := rtx_fit hk
    have hu := rtx_drop hk
    have hle := leq_not k last
    rcases hk2 with ⟨rfl, hle2, h1⟩ | ⟨hor, hk2⟩
    · rw [hq] at h1; cases h1
    rcases hk2 with ⟨hb1, h1⟩ | ⟨hb1, e', hv, h1⟩ | ⟨hb1, v, w, hv, h1⟩
    · rw [hq] at h1
      cases h1
      have hd : decide ((b.toNat : Int) = 1) = true := decide_eq_true (by omega)
      have hA : a + (encOp ⟨true, k, []⟩).length = a + 1 + (tx k).length := by rw [encOp_del, List.length_cons]; omega
      rw [hA]
      obtain ⟨a2, ha2⟩ : ∃ a2, a2 = a + 1 + (tx k).length := ⟨_, rfl⟩
      rw [← ha2] at ck hkf hu ⊢
      rcases hor with rfl | hlt2
      ·
        refine Ct.enter Tryd.func45 rfl Tryd.ntmps45 (by simp) (fun R => ?_)
        repeat' (first 
    | (refine is_alloc ?_; refine KJ_alloc rfl (fun g => ?_))
    | (refine is_call ?_; refine KJ_call xE ck xP rfl (fun _ => ?_))
    | (refine ek_index ?_; refine EK_ev (Ev_indexStr rfl rfl (by omega) hb2) ?_)
    | (refine ek_build ?_; refine EK_ev (Ev_build xV xW) ?_)
    | (refine ek_add ?_; refine EK_ev (Ev_addI_v (r := ((a + 1 : Nat) : Int)) rfl rfl (by omega) (by omega)) ?_)
    | (refine ek_eql ?_; first | refine EK_ev (Ev_eqlI_q rfl rfl qz) ?_ | refine EK_ev (Ev_eqlI_q rfl rfl hd) ?_)
    | (refine ek_gtr ?_; refine EK_ev (Ev_gtrI_q rfl rfl qb) ?_)
    | (refine ek_geq ?_; refine EK_ev (Ev_geqI_q rfl rfl ql) ?_)
    | refine xst ?_
    | (refine xsa ?_; intro _)
    | (refine xsb ?_ ?_ <;> intro _ <;> first | (exfalso; omega) | skip)
    | refine xsc ?_
    | (refine KJ_draws (id := 2) (.op 0 (.op 1 (.op 2 (.op 3 (.op 4 (.op 5 (.op 6 (.op 7 (.op 8 (.op 9 .nil)))))))))) (by kernel_rfl) (by kernel_rfl) ?_)
    | (refine KJ_draws (id := 5) (.op 0 (.op 1 (.op 2 (.op 3 (.op 4 (.op 5 (.op 6 (.op 7 (.op 8 (.op 9 .nil)))))))))) (by kernel_rfl) (by kernel_rfl) ?_)
    | refine FW_alt ?_ ?_
    | refine KJ_flow ?_ ?_
    | exact Rech.nil
    | fail)
        all_goals (refine is_ex ?_; exact KJ_done (by first | exact Or.inl rfl | exact Or.inr rfl) rfl (Rvs.agg (T := 29) rfl inferInstance inferInstance xS xC Rvs.nil) () (by rfl) (xN))
      · rw [hlt2, Bool.not_true] at hle
        cases first
        ·
          refine Ct.enter Tryd.func45 rfl Tryd.ntmps45 (by simp) (fun R => ?_)
          repeat' (first 
    | (refine is_alloc ?_; refine KJ_alloc rfl (fun g => ?_))
    | (refine is_call ?_; refine KJ_call xE ck xP rfl (fun _ => ?_))
    | (refine ek_index ?_; refine EK_ev (Ev_indexStr rfl rfl (by omega) hb2) ?_)
    | (refine ek_build ?_; refine EK_ev (Ev_build xV xW) ?_)
    | (refine ek_add ?_; refine EK_ev (Ev_addI_v (r := ((a + 1 : Nat) : Int)) rfl rfl (by omega) (by omega)) ?_)
    | (refine ek_eql ?_; first | refine EK_ev (Ev_eqlI_q rfl rfl qz) ?_ | refine EK_ev (Ev_eqlI_q rfl rfl hd) ?_)
    | (refine ek_leq ?_; refine EK_ev (Ev_leqS_q rfl rfl hle) ?_)
    | (refine ek_gtr ?_; refine EK_ev (Ev_gtrI_q rfl rfl qb) ?_)
    | (refine ek_geq ?_; refine EK_ev (Ev_geqI_q rfl rfl ql) ?_)
    | refine xst ?_
    | (refine xsa ?_; intro _)
    | (refine xsb ?_ ?_ <;> intro _ <;> first | (exfalso; omega) | skip)
    | refine xsc ?_
    | (refine KJ_draws (id := 2) (.op 0 (.op 1 (.op 2 (.op 3 (.op 4 (.op 5 (.op 6 (.op 7 (.op 8 (.op 9 .nil)))))))))) (by kernel_rfl) (by kernel_rfl) ?_)
    | (refine KJ_draws (id := 5) (.op 0 (.op 1 (.op 2 (.op 3 (.op 4 (.op 5 (.op 6 (.op 7 (.op 8 (.op 9 .nil)))))))))) (by kernel_rfl) (by kernel_rfl) ?_)
    | refine FW_alt ?_ ?_
    | refine KJ_flow ?_ ?_
    | exact Rech.nil
    | fail)
          all_goals (refine is_ex ?_; exact KJ_done (by first | exact Or.inl rfl | exact Or.inr rfl) rfl (Rvs.agg (T := 29) rfl inferInstance inferInstance xS xC Rvs.nil) () (by rfl) (xN))
        ·
          refine Ct.enter Tryd.func45 rfl Tryd.ntmps45 (by simp) (fun R => ?_)
          repeat' (first 
    | (refine is_alloc ?_; refine KJ_alloc rfl (fun g => ?_))
    | (refine is_call ?_; refine KJ_call xE ck xP rfl (fun _ => ?_))
    | (refine ek_index ?_; refine EK_ev (Ev_indexStr rfl rfl (by omega) hb2) ?_)
    | (refine ek_build ?_; refine EK_ev (Ev_build xV xW) ?_)
    | (refine ek_add ?_; refine EK_ev (Ev_addI_v (r := ((a + 1 : Nat) : Int)) rfl rfl (by omega) (by omega)) ?_)
    | (refine ek_eql ?_; first | refine EK_ev (Ev_eqlI_q rfl rfl qz) ?_ | refine EK_ev (Ev_eqlI_q rfl rfl hd) ?_)
    | (refine ek_leq ?_; refine EK_ev (Ev_leqS_q rfl rfl hle) ?_)
    | (refine ek_gtr ?_; refine EK_ev (Ev_gtrI_q rfl rfl qb) ?_)
    | (refine ek_geq ?_; refine EK_ev (Ev_geqI_q rfl rfl ql) ?_)
    | refine xst ?_
    | (refine xsa ?_; intro _)
    | (refine xsb ?_ ?_ <;> intro _ <;> first | (exfalso; omega) | skip)
    | refine xsc ?_
    | (refine KJ_draws (id := 2) (.op 0 (.op 1 (.op 2 (.op 3 (.op 4 (.op 5 (.op 6 (.op 7 (.op 8 (.op 9 .nil)))))))))) (by kernel_rfl) (by kernel_rfl) ?_)
    | (refine KJ_draws (id := 5) (.op 0 (.op 1 (.op 2 (.op 3 (.op 4 (.op 5 (.op 6 (.op 7 (.op 8 (.op 9 .nil)))))))))) (by kernel_rfl) (by kernel_rfl) ?_)
    | refine FW_alt ?_ ?_
    | refine KJ_flow ?_ ?_
    | exact Rech.nil
    | fail)
          all_goals (refine is_ex ?_; exact KJ_done (by first | exact Or.inl rfl | exact Or.inr rfl) rfl (Rvs.agg (T := 29) rfl inferInstance inferInstance xS xC Rvs.nil) () (by rfl) (xN))
    · rw [hq] at h1; cases h1
    · rw [hq] at h1
      cases h1
      rw [hu] at hv
      have hd : decide ((b.toNat : Int) = 1) = false := decide_eq_false (by omega)
      have cv := rdtext_ct (W := W) (p := p) (s := s) (a := a + 1 + (tx k).length) hkf hs v t' hv
      have hA : a + (encOp ⟨false, k, v⟩).length = a + 1 + (tx k).length + (tx v).length := by rw [encOp_put, List.length_cons, List.length_append]; omega
      rw [hA]
      obtain ⟨a2, ha2⟩ : ∃ a2, a2 = a + 1 + (tx k).length := ⟨_, rfl⟩
      rw [← ha2] at ck hkf hu cv ⊢
      rcases hor with rfl | hlt2
      ·
        refine Ct.enter Tryd.func45 rfl Tryd.ntmps45 (by simp) (fun R => ?_)
        repeat' (first 
    | (refine is_alloc ?_; refine KJ_alloc rfl (fun g => ?_))
    | (refine is_call ?_; first | (refine KJ_call xE cv xP rfl (fun _ => ?_)) | (refine KJ_call xE ck xP rfl (fun _ => ?_)))
    | (refine ek_index ?_; refine EK_ev (Ev_indexStr rfl rfl (by omega) hb2) ?_)
    | (refine ek_build ?_; refine EK_ev (Ev_build xV xW) ?_)
    | (refine ek_add ?_; refine EK_ev (Ev_addI_v (r := ((a + 1 : Nat) : Int)) rfl rfl (by omega) (by omega)) ?_)
    | (refine ek_eql ?_; first | refine EK_ev (Ev_eqlI_q rfl rfl qz) ?_ | refine EK_ev (Ev_eqlI_q rfl rfl hd) ?_)
    | (refine ek_gtr ?_; refine EK_ev (Ev_gtrI_q rfl rfl qb) ?_)
    | (refine ek_geq ?_; refine EK_ev (Ev_geqI_q rfl rfl ql) ?_)
    | refine xst ?_
    | (refine xsa ?_; intro _)
    | (refine xsb ?_ ?_ <;> intro _ <;> first | (exfalso; omega) | skip)
    | refine xsc ?_
    | (refine KJ_draws (id := 2) (.op 0 (.op 1 (.op 2 (.op 3 (.op 4 (.op 5 (.op 6 (.op 7 (.op 8 (.op 9 .nil)))))))))) (by kernel_rfl) (by kernel_rfl) ?_)
    | (refine KJ_draws (id := 5) (.op 0 (.op 1 (.op 2 (.op 3 (.op 4 (.op 5 (.op 6 (.op 7 (.op 8 (.op 9 .nil)))))))))) (by kernel_rfl) (by kernel_rfl) ?_)
    | refine FW_alt ?_ ?_
    | refine KJ_flow ?_ ?_
    | exact Rech.nil
    | fail)
        all_goals (refine is_ex ?_; exact KJ_done (by first | exact Or.inl rfl | exact Or.inr rfl) rfl (Rvs.agg (T := 29) rfl inferInstance inferInstance xS xC Rvs.nil) () (by rfl) (xN))
      · rw [hlt2, Bool.not_true] at hle
        cases first
        ·
          refine Ct.enter Tryd.func45 rfl Tryd.ntmps45 (by simp) (fun R => ?_)
          repeat' (first 
    | (refine is_alloc ?_; refine KJ_alloc rfl (fun g => ?_))
    | (refine is_call ?_; first | (refine KJ_call xE cv xP rfl (fun _ => ?_)) | (refine KJ_call xE ck xP rfl (fun _ => ?_)))
    | (refine ek_index ?_; refine EK_ev (Ev_indexStr rfl rfl (by omega) hb2) ?_)
    | (refine ek_build ?_; refine EK_ev (Ev_build xV xW) ?_)
    | (refine ek_add ?_; refine EK_ev (Ev_addI_v (r := ((a + 1 : Nat) : Int)) rfl rfl (by omega) (by omega)) ?_)
    | (refine ek_eql ?_; first | refine EK_ev (Ev_eqlI_q rfl rfl qz) ?_ | refine EK_ev (Ev_eqlI_q rfl rfl hd) ?_)
    | (refine ek_leq ?_; refine EK_ev (Ev_leqS_q rfl rfl hle) ?_)
    | (refine ek_gtr ?_; refine EK_ev (Ev_gtrI_q rfl rfl qb) ?_)
    | (refine ek_geq ?_; refine EK_ev (Ev_geqI_q rfl rfl ql) ?_)
    | refine xst ?_
    | (refine xsa ?_; intro _)
    | (refine xsb ?_ ?_ <;> intro _ <;> first | (exfalso; omega) | skip)
    | refine xsc ?_
    | (refine KJ_draws (id := 2) (.op 0 (.op 1 (.op 2 (.op 3 (.op 4 (.op 5 (.op 6 (.op 7 (.op 8 (.op 9 .nil)))))))))) (by kernel_rfl) (by kernel_rfl) ?_)
    | (refine KJ_draws (id := 5) (.op 0 (.op 1 (.op 2 (.op 3 (.op 4 (.op 5 (.op 6 (.op 7 (.op 8 (.op 9 .nil)))))))))) (by kernel_rfl) (by kernel_rfl) ?_)
    | refine FW_alt ?_ ?_
    | refine KJ_flow ?_ ?_
    | exact Rech.nil
    | fail)
          all_goals (refine is_ex ?_; exact KJ_done (by first | exact Or.inl rfl | exact Or.inr rfl) rfl (Rvs.agg (T := 29) rfl inferInstance inferInstance xS xC Rvs.nil) () (by rfl) (xN))
        ·
          refine Ct.enter Tryd.func45 rfl Tryd.ntmps45 (by simp) (fun R => ?_)
          repeat' (first 
    | (refine is_alloc ?_; refine KJ_alloc rfl (fun g => ?_))
    | (refine is_call ?_; first | (refine KJ_call xE cv xP rfl (fun _ => ?_)) | (refine KJ_call xE ck xP rfl (fun _ => ?_)))
    | (refine ek_index ?_; refine EK_ev (Ev_indexStr rfl rfl (by omega) hb2) ?_)
    | (refine ek_build ?_; refine EK_ev (Ev_build xV xW) ?_)
    | (refine ek_add ?_; refine EK_ev (Ev_addI_v (r := ((a + 1 : Nat) : Int)) rfl rfl (by omega) (by omega)) ?_)
    | (refine ek_eql ?_; first | refine EK_ev (Ev_eqlI_q rfl rfl qz) ?_ | refine EK_ev (Ev_eqlI_q rfl rfl hd) ?_)
    | (refine ek_leq ?_; refine EK_ev (Ev_leqS_q rfl rfl hle) ?_)
    | (refine ek_gtr ?_; refine EK_ev (Ev_gtrI_q rfl rfl qb) ?_)
    | (refine ek_geq ?_; refine EK_ev (Ev_geqI_q rfl rfl ql) ?_)
    | refine xst ?_
    | (refine xsa ?_; intro _)
    | (refine xsb ?_ ?_ <;> intro _ <;> first | (exfalso; omega) | skip)
    | refine xsc ?_
    | (refine KJ_draws (id := 2) (.op 0 (.op 1 (.op 2 (.op 3 (.op 4 (.op 5 (.op 6 (.op 7 (.op 8 (.op 9 .nil)))))))))) (by kernel_rfl) (by kernel_rfl) ?_)
    | (refine KJ_draws (id := 5) (.op 0 (.op 1 (.op 2 (.op 3 (.op 4 (.op 5 (.op 6 (.op 7 (.op 8 (.op 9 .nil)))))))))) (by kernel_rfl) (by kernel_rfl) ?_)
    | refine FW_alt ?_ ?_
    | refine KJ_flow ?_ ?_
    | exact Rech.nil
    | fail)
          all_goals (refine is_ex ?_; exact KJ_done (by first | exact Or.inl rfl | exact Or.inr rfl) rfl (Rvs.agg (T := 29) rfl inferInstance inferInstance xS xC Rvs.nil) () (by rfl) (xN))
end
end Go.Proofs.YtehheokalgmbgaaDoor
/-
  The document's answer for chapter 12: Decode.
-/
namespace Go.Proofs.YtehheokalgmbgaaDoor
open Go Go.RowKit
/-- ops being read by the document's reader: e is the first error's number -/
structure RefI (s : List UInt8) (n : Nat) (R : Rd (List BOp)) (i : Nat) (acc : List BOp) (last : List UInt8) (a e : Nat) : Prop where
  good : e = 0 → RopI s n R i acc last a
  bad : e ≠ 0 → R = .bad e
  small : acc.length ≤ s.length + 1
section
variable {W : World}
set_option maxHeartbeats 8000000 in
theorem rdecode_ct (s : List UInt8) (hs : s.length ≤ 4398046511104) :
    Ct Tryd.prog W 20 [strV s] [] (fun x : Option Addr × Nat => .tuple #[.slice x.1 (decode s).1.length x.2, .int .i64 ((decode s).2 : Nat)]) (fun x => [lsP opC 29 3 (.slice x.1 (decode s).1.length x.2) (decode s).1]) := by
  have cu0 := fun p q hq => rdnum_ct (W := W) (p := p) (s := s) (a := 0) (by omega) (by omega) q hq
  rw [List.drop_zero] at cu0
  refine Ct.enter Tryd.func20 rfl Tryd.ntmps20 (by simp) (fun R => ?_)
  cases hn : ru s with
  | bad e =>
    have cu := fun p => cu0 p _ hn
    rw [show rdL (.bad e) = 0 from rfl, show rdN (.bad e) = 0 from rfl, show rdE (α := Nat) (.bad e) = e from rfl] at cu
    have hne : e ≠ 0 := by rcases ru_err hn with h | h <;> omega
    have hd := decode_bad hn
    have qe : decide (((e : Nat) : Int) = 0) = false := decide_eq_false (by omega)
    have qn : decide (((e : Nat) : Int) ≠ 0) = true := decide_eq_true (by omega)
    have ql : decide (((0 : Nat) : Int) < ((0 : Nat) : Int)) = false := rfl
    repeat' (first 
    | (refine is_box ?_; refine KJ_box rfl xF rfl (fun p => ?_))
    | (refine is_call ?_; refine KJ_call xE (cu _) xP rfl (fun _ => ?_))
    | (refine is_bslice ?_; refine KJ_bslice0 rfl (fun g0 => ?_))
    | (refine ek_build ?_; refine EK_ev (Ev_build xV xW) ?_)
    | refine xst ?_
    | (refine xsa ?_; intro _)
    | (refine xsb ?_ ?_ <;> intro _ <;> first | (exfalso; omega) | skip)
    | refine xsc ?_
    | (refine KJ_draws (id := 14) (.op 0 (.op 1 (.op 2 (.op 3 (.op 4 (.op 5 .nil)))))) (by kernel_rfl) (by kernel_rfl) ?_)
    | refine FW_alt ?_ ?_
    | refine KJ_flow ?_ ?_
    | exact Rech.nil
    | fail)
    refine KJ_loop (fun x : Unit => [(4, .pointer (some ⟨p, 0, none⟩)), (5, .int .u64 ((0 : Nat) : Int)), (8, .int .u64 ((0 : Nat) : Int))])
      (fun x => [drP p s 0 e] ++ R) (fun x => 0) () xB (xN) (fun _ => ?_)
    repeat' (first 
    | (refine ek_eql ?_; refine EK_ev (Ev_eqlI_q rfl rfl qe) ?_)
    | (refine ek_neq ?_; refine EK_ev (Ev_neqI_q rfl rfl qn) ?_)
    | (refine ek_lss ?_; refine EK_ev (Ev_lssI_q rfl rfl ql) ?_)
    | refine xst ?_
    | (refine xsa ?_; intro _)
    | (refine xsb ?_ ?_ <;> intro _ <;> first | (exfalso; omega) | skip)
    | refine xsc ?_
    | (refine KJ_draws (id := 14) (.op 0 (.op 1 (.op 2 (.op 3 (.op 4 (.op 5 .nil)))))) (by kernel_rfl) (by kernel_rfl) ?_)
    | refine FW_alt ?_ ?_
    | refine KJ_flow ?_ ?_
    | exact Rech.nil
    | fail)
    all_goals rw [hd]
    all_goals refine KJ.nilrow 29 3 ?_
    all_goals (exact xdn (none, 0))
  | ok n t =>
    have cu := fun p => cu0 p _ hn
    have hf := ru_fit (a := 0) (s := s) (by rw [List.drop_zero]; exact hn)
    have htd := ru_drop (a := 0) (s := s) (by rw [List.drop_zero]; exact hn)
    have hno : n < 18446744073709551616 := (vu_ru hn).2
    rw [show rdL (.ok n t) = (vu n).length from rfl, show rdN (.ok n t) = n from rfl, show rdE (.ok n t) = 0 from rfl] at cu
    obtain ⟨a0, ha0⟩ : ∃ a0, a0 = 0 + (vu n).length := ⟨_, rfl⟩
    rw [← ha0] at hf htd cu
    repeat' (first 
    | (refine is_box ?_; refine KJ_box rfl xF rfl (fun p => ?_))
    | (refine is_call ?_; refine KJ_call xE (cu _) xP rfl (fun _ => ?_))
    | (refine is_bslice ?_; refine KJ_bslice0 rfl (fun g0 => ?_))
    | (refine ek_build ?_; refine EK_ev (Ev_build xV xW) ?_)
    | refine xst ?_
    | (refine xsa ?_; intro _)
    | (refine xsb ?_ ?_ <;> intro _ <;> first | (exfalso; omega) | skip)
    | refine xsc ?_
    | (refine KJ_draws (id := 14) (.op 0 (.op 1 (.op 2 (.op 3 (.op 4 (.op 5 .nil)))))) (by kernel_rfl) (by kernel_rfl) ?_)
    | refine FW_alt ?_ ?_
    | refine KJ_flow ?_ ?_
    | exact Rech.nil
    | fail)
    refine KJ_loop (fun x : {x : Nat × List BOp × List UInt8 × Nat × Nat × Option Addr × Nat // RefI s n (rdOps n true [] t) x.1 x.2.1 x.2.2.1 x.2.2.2.1 x.2.2.2.2.1} => [(0, strV s), (4, .pointer (some ⟨p, 0, none⟩)), (5, .int .u64 (n : Nat)), (6, .slice x.1.2.2.2.2.2.1 x.1.2.1.length x.1.2.2.2.2.2.2), (7, strV x.1.2.2.1), (8, .int .u64 (x.1.1 : Nat))])
      (fun x => [drP p s x.1.2.2.2.1 (x.1.2.2.2.2.1 : Nat), lsP opC 29 3 (.slice x.1.2.2.2.2.2.1 x.1.2.1.length x.1.2.2.2.2.2.2) x.1.2.1] ++ R) (fun x => if x.1.2.2.2.2.1 = 0 then n - x.1.1 + 1 else 0) ⟨(0, [], [], a0, 0, some ⟨g0, 0, none⟩, 0), ⟨fun _ => RopI.start hf htd, fun h => absurd rfl h, Nat.zero_le _⟩⟩ xB (xN) (fun ⟨(i, acc, last, a, e, sa, sc), hi⟩ => ?_)
    dsimp only at hi ⊢
    by_cases he : e = 0
    · subst he
      have hg := hi.good rfl
      have hlen := hg.len
      have htwo := hg.two
      have hfit := hg.fit
      have qz : decide (((0 : Nat) : Int) = 0) = true := rfl
      by_cases hlt : i < n
      · have ql : decide (((i : Nat) : Int) < ((n : Nat) : Int)) = true := decide_eq_true (by omega)
        have qf : decide (((i : Nat) : Int) = 0) = decide (i = 0) := by by_cases h : i = 0 <;> simp [h]
        have b1 : (acc.length + 1) * 40 ≤ 140737488355328 := by omega
        have b2 : acc.length + 1 ≤ 9223372036854775807 := by omega
        have ha : IntKind.u64.wrap ((i : Int) + 1) = ((i + 1 : Nat) : Int) := by
          rw [show (i : Int) + 1 = ((i + 1 : Nat) : Int) by omega]; exact u64_wrap _ (by omega)
        cases hq : rdOp (decide (i = 0)) last (s.drop a) with
        | bad e =>
          have hb := hg.bad hlt hq
          have hne : e ≠ 0 := by have := rdOp_err hq; omega
          have co := rdop_bad (W := W) (p := p) (s := s) (a := a) hfit (by omega) (decide (i = 0)) last e hq
          repeat' (first 
    | (refine is_alloc ?_; refine KJ_alloc rfl (fun g => ?_))
    | (refine is_call ?_; refine KJ_call xE co xP rfl (fun x => ?_); obtain ⟨o', a'⟩ := x)
    | (refine is_append ?_; refine KJ_appOne (a := o') enc_op rfl rfl rfl xS xS b1 b2 rfl (fun g1 c1 => ?_))
    | (refine is_bslice ?_; refine KJ_bslice1 rfl xF (by rfl) (by omega) rfl (fun gb => ?_))
    | (refine ek_add ?_; refine EK_ev (Ev_add_w rfl rfl ha) ?_)
    | (refine ek_eql ?_; first | refine EK_ev (Ev_eqlI_q rfl rfl qf) ?_ | refine EK_ev (Ev_eqlI_q rfl rfl qz) ?_)
    | (refine ek_lss ?_; refine EK_ev (Ev_lssI_q rfl rfl ql) ?_)
    | refine xst ?_
    | (refine xsa ?_; intro _)
    | (refine xsb ?_ ?_ <;> intro _ <;> first | (exfalso; omega) | skip)
    | refine xsc ?_
    | (refine KJ_draws (id := 14) (.op 0 (.op 1 (.op 2 (.op 3 (.op 4 (.op 5 .nil)))))) (by kernel_rfl) (by kernel_rfl) ?_)
    | refine FW_alt ?_ ?_
    | refine KJ_flow ?_ ?_
    | exact Rech.nil
    | fail)
          all_goals refine KJ_again ⟨(i + 1, acc ++ [o'], o'.key, a', e, some ⟨g1, 0, none⟩, c1), ⟨fun h => absurd h hne, fun _ => hb, by dsimp only; rw [List.length_append]; show acc.length + 1 ≤ _; omega⟩⟩ (by dsimp only; rw [if_neg hne, if_pos rfl]; omega) xB (xN)
        | ok o u =>
          have hnx := hg.next hlt hq
          have co := rdop_ct (W := W) (p := p) (s := s) (a := a) hfit (by omega) (decide (i = 0)) last o u hq
          repeat' (first 
    | (refine is_alloc ?_; refine KJ_alloc rfl (fun g => ?_))
    | (refine is_call ?_; refine KJ_call xE co xP rfl (fun _ => ?_))
    | (refine is_append ?_; refine KJ_appOne (a := o) enc_op rfl rfl rfl xS xS b1 b2 rfl (fun g1 c1 => ?_))
    | (refine is_bslice ?_; refine KJ_bslice1 rfl xF (by rfl) (by omega) rfl (fun gb => ?_))
    | (refine ek_add ?_; refine EK_ev (Ev_add_w rfl rfl ha) ?_)
    | (refine ek_eql ?_; first | refine EK_ev (Ev_eqlI_q rfl rfl qf) ?_ | refine EK_ev (Ev_eqlI_q rfl rfl qz) ?_)
    | (refine ek_lss ?_; refine EK_ev (Ev_lssI_q rfl rfl ql) ?_)
    | refine xst ?_
    | (refine xsa ?_; intro _)
    | (refine xsb ?_ ?_ <;> intro _ <;> first | (exfalso; omega) | skip)
    | refine xsc ?_
    | (refine KJ_draws (id := 14) (.op 0 (.op 1 (.op 2 (.op 3 (.op 4 (.op 5 .nil)))))) (by kernel_rfl) (by kernel_rfl) ?_)
    | refine FW_alt ?_ ?_
    | refine KJ_flow ?_ ?_
    | exact Rech.nil
    | fail)
          all_goals refine KJ_again ⟨(i + 1, acc ++ [o], o.key, a + (encOp o).length, 0, some ⟨g1, 0, none⟩, c1), ⟨fun _ => hnx, fun h => absurd rfl h, by dsimp only; rw [List.length_append]; show acc.length + 1 ≤ _; omega⟩⟩ (by dsimp only; rw [if_pos rfl, if_pos rfl]; omega) xB (xN)
      · have ql : decide (((i : Nat) : Int) < ((n : Nat) : Int)) = false := decide_eq_false (by omega)
        have hst := hg.stop hlt
        by_cases hend : a < s.length
        · have hd := decode_tail hn hst (by intro h; have := congrArg List.length h; rw [List.length_drop, List.length_nil] at this; omega)
          have qa : decide (((a : Nat) : Int) < ((s.length : Nat) : Int)) = true := decide_eq_true (by omega)
          have q5 : decide ((5 : Int) ≠ 0) = true := rfl
          repeat' (first 
    | (refine ek_eql ?_; refine EK_ev (Ev_eqlI_q rfl rfl qz) ?_)
    | (refine ek_neq ?_; refine EK_ev (Ev_neqI_q rfl rfl q5) ?_)
    | (refine ek_lss ?_; first | refine EK_ev (Ev_lssI_q rfl rfl qa) ?_ | refine EK_ev (Ev_lssI_q rfl rfl ql) ?_)
    | refine xst ?_
    | (refine xsa ?_; intro _)
    | (refine xsb ?_ ?_ <;> intro _ <;> first | (exfalso; omega) | skip)
    | refine xsc ?_
    | (refine KJ_draws (id := 14) (.op 0 (.op 1 (.op 2 (.op 3 (.op 4 (.op 5 .nil)))))) (by kernel_rfl) (by kernel_rfl) ?_)
    | refine FW_alt ?_ ?_
    | refine KJ_flow ?_ ?_
    | exact Rech.nil
    | fail)
          all_goals rw [hd]
          all_goals refine KJ.nilrow 29 3 ?_
          all_goals (exact xdn (none, 0))
        · have hd := decode_ok hn hst (List.drop_of_length_le (by omega))
          have qa : decide (((a : Nat) : Int) < ((s.length : Nat) : Int)) = false := decide_eq_false (by omega)
          have q5 : decide (((0 : Nat) : Int) ≠ 0) = false := rfl
          repeat' (first 
    | (refine ek_eql ?_; refine EK_ev (Ev_eqlI_q rfl rfl qz) ?_)
    | (refine ek_neq ?_; refine EK_ev (Ev_neqI_q rfl rfl q5) ?_)
    | (refine ek_lss ?_; first | refine EK_ev (Ev_lssI_q rfl rfl qa) ?_ | refine EK_ev (Ev_lssI_q rfl rfl ql) ?_)
    | refine xst ?_
    | (refine xsa ?_; intro _)
    | (refine xsb ?_ ?_ <;> intro _ <;> first | (exfalso; omega) | skip)
    | refine xsc ?_
    | (refine KJ_draws (id := 14) (.op 0 (.op 1 (.op 2 (.op 3 (.op 4 (.op 5 .nil)))))) (by kernel_rfl) (by kernel_rfl) ?_)
    | refine FW_alt ?_ ?_
    | refine KJ_flow ?_ ?_
    | exact Rech.nil
    | fail)
          all_goals rw [hd]
          all_goals (exact xdn (sa, sc))
    · have hb := hi.bad he
      have hd := decode_bad2 hn hb
      have qe : decide (((e : Nat) : Int) = 0) = false := decide_eq_false (by omega)
      have qn : decide (((e : Nat) : Int) ≠ 0) = true := decide_eq_true (by omega)
      by_cases hlt : i < n
      · have ql : decide (((i : Nat) : Int) < ((n : Nat) : Int)) = true := decide_eq_true (by omega)
        repeat' (first 
    | (refine ek_eql ?_; refine EK_ev (Ev_eqlI_q rfl rfl qe) ?_)
    | (refine ek_neq ?_; refine EK_ev (Ev_neqI_q rfl rfl qn) ?_)
    | (refine ek_lss ?_; refine EK_ev (Ev_lssI_q rfl rfl ql) ?_)
    | refine xst ?_
    | (refine xsa ?_; intro _)
    | (refine xsb ?_ ?_ <;> intro _ <;> first | (exfalso; omega) | skip)
    | refine xsc ?_
    | (refine KJ_draws (id := 14) (.op 0 (.op 1 (.op 2 (.op 3 (.op 4 (.op 5 .nil)))))) (by kernel_rfl) (by kernel_rfl) ?_)
    | refine FW_alt ?_ ?_
    | refine KJ_flow ?_ ?_
    | exact Rech.nil
    | fail)
        all_goals rw [hd]
        all_goals refine KJ.nilrow 29 3 ?_
        all_goals (exact xdn (none, 0))
      · have ql : decide (((i : Nat) : Int) < ((n : Nat) : Int)) = false := decide_eq_false (by omega)
        repeat' (first 
    | (refine ek_eql ?_; refine EK_ev (Ev_eqlI_q rfl rfl qe) ?_)
    | (refine ek_neq ?_; refine EK_ev (Ev_neqI_q rfl rfl qn) ?_)
    | (refine ek_lss ?_; refine EK_ev (Ev_lssI_q rfl rfl ql) ?_)
    | refine xst ?_
    | (refine xsa ?_; intro _)
    | (refine xsb ?_ ?_ <;> intro _ <;> first | (exfalso; omega) | skip)
    | refine xsc ?_
    | (refine KJ_draws (id := 14) (.op 0 (.op 1 (.op 2 (.op 3 (.op 4 (.op 5 .nil)))))) (by kernel_rfl) (by kernel_rfl) ?_)
    | refine FW_alt ?_ ?_
    | refine KJ_flow ?_ ?_
    | exact Rech.nil
    | fail)
        all_goals rw [hd]
        all_goals refine KJ.nilrow 29 3 ?_
        all_goals (exact xdn (none, 0))
end
end Go.Proofs.YtehheokalgmbgaaDoor
