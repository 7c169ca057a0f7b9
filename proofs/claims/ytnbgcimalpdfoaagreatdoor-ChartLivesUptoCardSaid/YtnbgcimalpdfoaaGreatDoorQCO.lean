/-
  RdW1, RdW2.
-/
import Derived.Test.YtnbgcimalpdfoaaGreatDoorQCB
import Derived.Test.YtnbgcimalpdfoaaGreatDoorQCM
import Derived.Test.YtnbgcimalpdfoaaGreatDoorQCX
/-
  The package wire: a reader; its numbers, its bytes.
-/
namespace Go.Proofs.YtnbgcimalpdfoaaGreatDoor
open Go Go.RowKit
/-- a reader over s that stands at a -/
abbrev rdP (p : Nat) (s : List UInt8) (a : Nat) : SP := cellsP p [strV s, .int .i64 (a : Nat)] 237
def rdE {α : Type} : Rd α → Nat
  | .bad e => e
  | .ok _ _ => 0
def rdN : Rd Nat → Nat
  | .bad _ => 0
  | .ok x _ => x
/-- how many bytes a number takes -/
def rdL : Rd Nat → Nat
  | .bad _ => 0
  | .ok x _ => (vu x).length
section
variable {W : World} {F : Nat → Addr} {p : Nat} {s : List UInt8} {a : Nat}
theorem rread_ct (s : List UInt8) : Ct Tryz.prog W 117 [strV s] [] (fun p : Nat => .pointer (some ⟨p, 0, none⟩)) (fun p => [rdP p s 0]) := by
  refine Ct.enter Tryz.func117 rfl Tryz.ntmps117 (by simp) (fun R => ?_)
  repeat' (first 
    | (refine is_box ?_; refine KJ_box rfl xF rfl (fun g => ?_))
    | (refine ek_build ?_; refine EK_ev (Ev_build xV xW) ?_)
    | refine xst ?_
    | (refine xsa ?_; intro _)
    | (refine xsb ?_ ?_ <;> intro _ <;> first | (exfalso; omega) | skip)
    | refine xsc ?_
    | fail)
  all_goals (exact xdn g)
theorem rleft_ct (ha : a ≤ s.length) (hs : s.length ≤ 9223372036854775807) : Ct Tryz.prog W 183 [.pointer (some ⟨p, 0, none⟩)] [rdP p s a] (fun _ : Unit => .int .i64 (s.length - a : Nat)) (fun _ => [rdP p s a]) := by
  refine Ct.enter Tryz.func183 rfl Tryz.ntmps183 (by simp) (fun R => ?_)
  repeat' (first 
    | (refine ek_sub ?_; refine EK_ev (Ev_subI_v (r := ((s.length - a : Nat) : Int)) rfl rfl (by omega) (by omega)) ?_)
    | refine xst ?_
    | (refine xsa ?_; intro _)
    | (refine xsb ?_ ?_ <;> intro _ <;> first | (exfalso; omega) | skip)
    | refine xsc ?_
    | (refine KJ_draws (id := 1) (.op 0 (.op 1 (.op 2 (.op 3 (.op 4 (.op 5 (.op 6 (.op 7 (.op 8 (.op 9 (.op 10 .nil))))))))))) (by kernel_rfl) (by kernel_rfl) ?_)
    | refine FW_alt ?_ ?_
    | refine FW_efn rfl rfl rfl rfl rfl ?_ ?_
    | refine KJ_flow ?_ ?_
    | exact Rech.nil
    | fail)
  all_goals (exact xdn ())
set_option maxHeartbeats 4000000 in
theorem ruint_ct (ha : a ≤ s.length) (hs : s.length ≤ 9223372036854775807) (e1 : W.cell? ⟨14, 0, none⟩ = some (errV F 1)) (e2 : W.cell? ⟨15, 0, none⟩ = some (errV F 2)) (q : Rd Nat) (hq : ru (s.drop a) = q) :
    Ct Tryz.prog W 166 [.pointer (some ⟨p, 0, none⟩)] [rdP p s a] (fun _ : Unit => .tuple #[.int .u64 (rdN q : Nat), errV F (rdE q)]) (fun _ => [rdP p s (a + rdL q)]) := by
  have cl := rleft_ct (W := W) (p := p) (s := s) (a := a) ha (by omega)
  have hdl : (s.drop a).length = s.length - a := List.length_drop
  refine Ct.enter Tryz.func166 rfl Tryz.ntmps166 (by simp) (fun R => ?_)
  repeat' (first 
    | refine xst ?_
    | (refine xsa ?_; intro _)
    | (refine xsb ?_ ?_ <;> intro _ <;> first | (exfalso; omega) | skip)
    | refine xsc ?_
    | (refine KJ_draws (id := 5) (.op 0 (.op 1 (.op 2 .nil))) (by kernel_rfl) (by kernel_rfl) ?_)
    | (refine KJ_draws (id := 6) (.op 0 (.op 1 (.op 2 (.op 3 (.op 4 (.op 5 (.op 6 (.op 7 (.op 8 (.op 9 (.op 10 (.op 11 .nil)))))))))))) (by kernel_rfl) (by kernel_rfl) ?_)
    | (refine KJ_draws (id := 8) (.op 0 (.op 1 (.op 2 .nil))) (by kernel_rfl) (by kernel_rfl) ?_)
    | (refine KJ_draws (id := 12) (.op 0 (.op 1 (.op 2 .nil))) (by kernel_rfl) (by kernel_rfl) ?_)
    | refine FW_alt ?_ ?_
    | refine FW_efn rfl rfl rfl rfl rfl ?_ ?_
    | refine KJ_flow ?_ ?_
    | exact Rech.nil
    | fail)
  refine KJ_loop (fun i : {i : Nat × Nat // RuI (s.drop a) i.1 i.2} => [(0, .pointer (some ⟨p, 0, none⟩)), (4, .int .u64 (i.1.2 : Nat)), (5, .int .i64 (i.1.1 : Nat))])
    (fun i => [rdP p s a] ++ R) (fun i => 10 - i.1.1) ⟨(0, 0), RuI.start _⟩ xB (xN) (fun ⟨(i, x), hi⟩ => ?_)
  dsimp only at hi ⊢
  have i9 := hi.i9
  have hil := hi.il
  by_cases hend : i = s.length - a
  · have hbad := hi.short (by omega)
    rw [hq] at hbad
    have qe : decide ((i : Int) = ((s.length - a : Nat) : Int)) = true := decide_eq_true (by omega)
    repeat' (first 
    | (refine is_call ?_; refine KJ_call xE cl xP rfl (fun _ => ?_))
    | (refine ek_load ?_; refine EK_ev (Ev_loadOld rfl e1) ?_)
    | (refine ek_eql ?_; refine EK_ev (Ev_eqlI_q rfl rfl qe) ?_)
    | refine xst ?_
    | (refine xsa ?_; intro _)
    | (refine xsb ?_ ?_ <;> intro _ <;> first | (exfalso; omega) | skip)
    | refine xsc ?_
    | (refine KJ_draws (id := 5) (.op 0 (.op 1 (.op 2 .nil))) (by kernel_rfl) (by kernel_rfl) ?_)
    | (refine KJ_draws (id := 6) (.op 0 (.op 1 (.op 2 (.op 3 (.op 4 (.op 5 (.op 6 (.op 7 (.op 8 (.op 9 (.op 10 (.op 11 .nil)))))))))))) (by kernel_rfl) (by kernel_rfl) ?_)
    | (refine KJ_draws (id := 8) (.op 0 (.op 1 (.op 2 .nil))) (by kernel_rfl) (by kernel_rfl) ?_)
    | (refine KJ_draws (id := 12) (.op 0 (.op 1 (.op 2 .nil))) (by kernel_rfl) (by kernel_rfl) ?_)
    | refine FW_alt ?_ ?_
    | refine FW_efn rfl rfl rfl rfl rfl ?_ ?_
    | refine KJ_flow ?_ ?_
    | exact Rech.nil
    | fail)
    all_goals exact xdn () (hc := by rw [hbad]; rfl) (hE := by rw [show a + rdL q = a by rw [hbad]; rfl]; exact (xN))
  have qe : decide ((i : Int) = ((s.length - a : Nat) : Int)) = false := decide_eq_false (by omega)
  obtain ⟨b, hb⟩ : ∃ b, (s.drop a)[i]? = some b := ⟨_, List.getElem?_eq_getElem (by omega)⟩
  have hbs : s[a + i]? = some b := by rw [← hb, List.getElem?_drop]
  have hbt := UInt8.toNat_lt b
  have hcase : (i = 9 ∧ 1 < b.toNat) ∨ (i = 9 ∧ b.toNat = 0) ∨ (i = 9 ∧ b.toNat = 1) ∨ (i ≠ 9 ∧ b.toNat = 0 ∧ 0 < i) ∨ (i ≠ 9 ∧ b.toNat = 0 ∧ i = 0) ∨ (i ≠ 9 ∧ 0 < b.toNat ∧ b.toNat < 128) ∨ (i ≠ 9 ∧ ¬ b.toNat < 128) := by omega
  rcases hcase with h9 | h9 | h9 | h9 | h9 | h9 | h9
  · have hbad := hi.bad hb h9
    rw [hq] at hbad
    have q9 : decide ((i : Int) = 9) = true := decide_eq_true (by omega)
    have qb : decide ((1 : Int) < (b.toNat : Int)) = true := decide_eq_true (by omega)
    repeat' (first 
    | (refine is_call ?_; refine KJ_call xE cl xP rfl (fun _ => ?_))
    | (refine ek_load ?_; refine EK_ev (Ev_loadOld rfl e2) ?_)
    | (refine ek_conv ?_; refine EK_ev (Ev_convI_v rfl c1) ?_)
    | (refine ek_index ?_; refine EK_ev (Ev_indexStr rfl rfl (by omega) hbs) ?_)
    | (refine ek_add ?_; first | refine EK_ev (Ev_addI_v (r := ((a + i : Nat) : Int)) rfl rfl (by omega) (by omega)) ?_ | refine EK_ev (Ev_addI_v (r := ((a + (i + 1) : Nat) : Int)) rfl rfl (by omega) (by omega)) ?_ | refine EK_ev (Ev_addI_v (r := ((i + 1 : Nat) : Int)) rfl rfl (by omega) (by omega)) ?_)
    | (refine ek_mul ?_; refine EK_ev (Ev_mulI_v (r := ((7 * i : Nat) : Int)) rfl rfl (by omega) (by omega)) ?_)
    | (refine ek_and ?_; refine EK_ev (Ev_and_s rfl rfl (and127 b)) ?_)
    | (refine ek_or ?_; refine EK_ev (Ev_or_s rfl rfl orr) ?_)
    | (refine ek_shl ?_; refine EK_ev (Ev_shl_t rfl rfl sh) ?_)
    | (refine ek_eql ?_; first | refine EK_ev (Ev_eqlI_q rfl rfl qe) ?_ | refine EK_ev (Ev_eqlI_q rfl rfl q9) ?_ | refine EK_ev (Ev_eqlI_q rfl rfl q0) ?_)
    | (refine ek_lss ?_; refine EK_ev (Ev_lssI_q rfl rfl ql) ?_)
    | (refine ek_gtr ?_; refine EK_ev (Ev_gtrI_q rfl rfl qb) ?_)
    | refine xst ?_
    | (refine xsa ?_; intro _)
    | (refine xsb ?_ ?_ <;> intro _ <;> first | (exfalso; omega) | skip)
    | refine xsc ?_
    | (refine KJ_draws (id := 5) (.op 0 (.op 1 (.op 2 .nil))) (by kernel_rfl) (by kernel_rfl) ?_)
    | (refine KJ_draws (id := 6) (.op 0 (.op 1 (.op 2 (.op 3 (.op 4 (.op 5 (.op 6 (.op 7 (.op 8 (.op 9 (.op 10 (.op 11 .nil)))))))))))) (by kernel_rfl) (by kernel_rfl) ?_)
    | (refine KJ_draws (id := 8) (.op 0 (.op 1 (.op 2 .nil))) (by kernel_rfl) (by kernel_rfl) ?_)
    | (refine KJ_draws (id := 12) (.op 0 (.op 1 (.op 2 .nil))) (by kernel_rfl) (by kernel_rfl) ?_)
    | refine FW_alt ?_ ?_
    | refine FW_efn rfl rfl rfl rfl rfl ?_ ?_
    | refine KJ_flow ?_ ?_
    | exact Rech.nil
    | fail)
    all_goals exact xdn () (hc := by rw [hbad]; rfl) (hE := by rw [show a + rdL q = a by rw [hbad]; rfl]; exact (xN))
  · have hbad := hi.nought hb (by omega) (by omega)
    rw [hq] at hbad
    have c1 : IntKind.u64.wrap ((b.toNat % 128 : Nat) : Int) = ((b.toNat % 128 : Nat) : Int) := u64_wrap _ (by omega)
    have hfit := hi.fit (b := b) (by omega)
    have sh := shl7 (b.toNat % 128) i i9 (by omega)
    have orr := or7 x (b.toNat % 128) i hi.x7 hfit
    have ql : decide ((b.toNat : Int) < 128) = true := decide_eq_true (by omega)
    have q9 : decide ((i : Int) = 9) = true := decide_eq_true (by omega)
    have qb : decide ((1 : Int) < (b.toNat : Int)) = false := decide_eq_false (by omega)
    have q0 : decide ((b.toNat : Int) = 0) = true := decide_eq_true (by omega)
    have q1 : decide ((0 : Int) < (i : Int)) = true := decide_eq_true (by omega)
    repeat' (first 
    | (refine is_call ?_; refine KJ_call xE cl xP rfl (fun _ => ?_))
    | (refine ek_load ?_; refine EK_ev (Ev_loadOld rfl e2) ?_)
    | (refine ek_conv ?_; refine EK_ev (Ev_convI_v rfl c1) ?_)
    | (refine ek_index ?_; refine EK_ev (Ev_indexStr rfl rfl (by omega) hbs) ?_)
    | (refine ek_add ?_; first | refine EK_ev (Ev_addI_v (r := ((a + i : Nat) : Int)) rfl rfl (by omega) (by omega)) ?_ | refine EK_ev (Ev_addI_v (r := ((a + (i + 1) : Nat) : Int)) rfl rfl (by omega) (by omega)) ?_ | refine EK_ev (Ev_addI_v (r := ((i + 1 : Nat) : Int)) rfl rfl (by omega) (by omega)) ?_)
    | (refine ek_mul ?_; refine EK_ev (Ev_mulI_v (r := ((7 * i : Nat) : Int)) rfl rfl (by omega) (by omega)) ?_)
    | (refine ek_and ?_; refine EK_ev (Ev_and_s rfl rfl (and127 b)) ?_)
    | (refine ek_or ?_; refine EK_ev (Ev_or_s rfl rfl orr) ?_)
    | (refine ek_shl ?_; refine EK_ev (Ev_shl_t rfl rfl sh) ?_)
    | (refine ek_eql ?_; first | refine EK_ev (Ev_eqlI_q rfl rfl qe) ?_ | refine EK_ev (Ev_eqlI_q rfl rfl q9) ?_ | refine EK_ev (Ev_eqlI_q rfl rfl q0) ?_)
    | (refine ek_lss ?_; refine EK_ev (Ev_lssI_q rfl rfl ql) ?_)
    | (refine ek_gtr ?_; first | refine EK_ev (Ev_gtrI_q rfl rfl q1) ?_ | refine EK_ev (Ev_gtrI_q rfl rfl qb) ?_)
    | refine xst ?_
    | (refine xsa ?_; intro _)
    | (refine xsb ?_ ?_ <;> intro _ <;> first | (exfalso; omega) | skip)
    | refine xsc ?_
    | (refine KJ_draws (id := 5) (.op 0 (.op 1 (.op 2 .nil))) (by kernel_rfl) (by kernel_rfl) ?_)
    | (refine KJ_draws (id := 6) (.op 0 (.op 1 (.op 2 (.op 3 (.op 4 (.op 5 (.op 6 (.op 7 (.op 8 (.op 9 (.op 10 (.op 11 .nil)))))))))))) (by kernel_rfl) (by kernel_rfl) ?_)
    | (refine KJ_draws (id := 8) (.op 0 (.op 1 (.op 2 .nil))) (by kernel_rfl) (by kernel_rfl) ?_)
    | (refine KJ_draws (id := 12) (.op 0 (.op 1 (.op 2 .nil))) (by kernel_rfl) (by kernel_rfl) ?_)
    | refine FW_alt ?_ ?_
    | refine FW_efn rfl rfl rfl rfl rfl ?_ ?_
    | refine KJ_flow ?_ ?_
    | exact Rech.nil
    | fail)
    all_goals exact xdn () (hc := by rw [hbad]; rfl) (hE := by rw [show a + rdL q = a by rw [hbad]; rfl]; exact (xN))
  · have hok := hi.done hb (by omega) (by omega) (by omega)
    have hlen := RuI.len hok (by omega)
    rw [hq] at hok
    have c1 : IntKind.u64.wrap ((b.toNat % 128 : Nat) : Int) = ((b.toNat % 128 : Nat) : Int) := u64_wrap _ (by omega)
    have hfit := hi.fit (b := b) (by omega)
    have sh := shl7 (b.toNat % 128) i i9 (by omega)
    have orr := or7 x (b.toNat % 128) i hi.x7 hfit
    have ql : decide ((b.toNat : Int) < 128) = true := decide_eq_true (by omega)
    have q9 : decide ((i : Int) = 9) = true := decide_eq_true (by omega)
    have qb : decide ((1 : Int) < (b.toNat : Int)) = false := decide_eq_false (by omega)
    have q0 : decide ((b.toNat : Int) = 0) = false := decide_eq_false (by omega)
    have hA : a + (i + 1) = a + rdL q := by rw [hok]; show _ = a + (vu _).length; rw [hlen]
    have hV : Value.tuple #[.int .u64 ((x + b.toNat % 128 * 2 ^ (7 * i) : Nat) : Int), .nilIface] = .tuple #[.int .u64 (rdN q : Nat), errV F (rdE q)] := by rw [hok]; rfl
    repeat' (first 
    | (refine is_call ?_; refine KJ_call xE cl xP rfl (fun _ => ?_))
    | (refine ek_load ?_; refine EK_ev (Ev_loadOld rfl e2) ?_)
    | (refine ek_conv ?_; refine EK_ev (Ev_convI_v rfl c1) ?_)
    | (refine ek_index ?_; refine EK_ev (Ev_indexStr rfl rfl (by omega) hbs) ?_)
    | (refine ek_add ?_; first | refine EK_ev (Ev_addI_v (r := ((a + i : Nat) : Int)) rfl rfl (by omega) (by omega)) ?_ | refine EK_ev (Ev_addI_v (r := ((a + (i + 1) : Nat) : Int)) rfl rfl (by omega) (by omega)) ?_ | refine EK_ev (Ev_addI_v (r := ((i + 1 : Nat) : Int)) rfl rfl (by omega) (by omega)) ?_)
    | (refine ek_mul ?_; refine EK_ev (Ev_mulI_v (r := ((7 * i : Nat) : Int)) rfl rfl (by omega) (by omega)) ?_)
    | (refine ek_and ?_; refine EK_ev (Ev_and_s rfl rfl (and127 b)) ?_)
    | (refine ek_or ?_; refine EK_ev (Ev_or_s rfl rfl orr) ?_)
    | (refine ek_shl ?_; refine EK_ev (Ev_shl_t rfl rfl sh) ?_)
    | (refine ek_eql ?_; first | refine EK_ev (Ev_eqlI_q rfl rfl qe) ?_ | refine EK_ev (Ev_eqlI_q rfl rfl q9) ?_ | refine EK_ev (Ev_eqlI_q rfl rfl q0) ?_)
    | (refine ek_lss ?_; refine EK_ev (Ev_lssI_q rfl rfl ql) ?_)
    | (refine ek_gtr ?_; refine EK_ev (Ev_gtrI_q rfl rfl qb) ?_)
    | refine xst ?_
    | (refine xsa ?_; intro _)
    | (refine xsb ?_ ?_ <;> intro _ <;> first | (exfalso; omega) | skip)
    | refine xsc ?_
    | (refine KJ_draws (id := 5) (.op 0 (.op 1 (.op 2 .nil))) (by kernel_rfl) (by kernel_rfl) ?_)
    | (refine KJ_draws (id := 6) (.op 0 (.op 1 (.op 2 (.op 3 (.op 4 (.op 5 (.op 6 (.op 7 (.op 8 (.op 9 (.op 10 (.op 11 .nil)))))))))))) (by kernel_rfl) (by kernel_rfl) ?_)
    | (refine KJ_draws (id := 8) (.op 0 (.op 1 (.op 2 .nil))) (by kernel_rfl) (by kernel_rfl) ?_)
    | (refine KJ_draws (id := 12) (.op 0 (.op 1 (.op 2 .nil))) (by kernel_rfl) (by kernel_rfl) ?_)
    | refine FW_alt ?_ ?_
    | refine FW_efn rfl rfl rfl rfl rfl ?_ ?_
    | refine KJ_flow ?_ ?_
    | exact Rech.nil
    | fail)
    all_goals rw [hA]
    all_goals exact xdn () (hc := by exact hV)
  · have hbad := hi.nought hb (by omega) (by omega)
    rw [hq] at hbad
    have c1 : IntKind.u64.wrap ((b.toNat % 128 : Nat) : Int) = ((b.toNat % 128 : Nat) : Int) := u64_wrap _ (by omega)
    have hfit := hi.fit (b := b) (by omega)
    have sh := shl7 (b.toNat % 128) i i9 (by omega)
    have orr := or7 x (b.toNat % 128) i hi.x7 hfit
    have ql : decide ((b.toNat : Int) < 128) = true := decide_eq_true (by omega)
    have q9 : decide ((i : Int) = 9) = false := decide_eq_false (by omega)
    have q0 : decide ((b.toNat : Int) = 0) = true := decide_eq_true (by omega)
    have q1 : decide ((0 : Int) < (i : Int)) = true := decide_eq_true (by omega)
    repeat' (first 
    | (refine is_call ?_; refine KJ_call xE cl xP rfl (fun _ => ?_))
    | (refine ek_load ?_; refine EK_ev (Ev_loadOld rfl e2) ?_)
    | (refine ek_conv ?_; refine EK_ev (Ev_convI_v rfl c1) ?_)
    | (refine ek_index ?_; refine EK_ev (Ev_indexStr rfl rfl (by omega) hbs) ?_)
    | (refine ek_add ?_; first | refine EK_ev (Ev_addI_v (r := ((a + i : Nat) : Int)) rfl rfl (by omega) (by omega)) ?_ | refine EK_ev (Ev_addI_v (r := ((a + (i + 1) : Nat) : Int)) rfl rfl (by omega) (by omega)) ?_ | refine EK_ev (Ev_addI_v (r := ((i + 1 : Nat) : Int)) rfl rfl (by omega) (by omega)) ?_)
    | (refine ek_mul ?_; refine EK_ev (Ev_mulI_v (r := ((7 * i : Nat) : Int)) rfl rfl (by omega) (by omega)) ?_)
    | (refine ek_and ?_; refine EK_ev (Ev_and_s rfl rfl (and127 b)) ?_)
    | (refine ek_or ?_; refine EK_ev (Ev_or_s rfl rfl orr) ?_)
    | (refine ek_shl ?_; refine EK_ev (Ev_shl_t rfl rfl sh) ?_)
    | (refine ek_eql ?_; first | refine EK_ev (Ev_eqlI_q rfl rfl qe) ?_ | refine EK_ev (Ev_eqlI_q rfl rfl q9) ?_ | refine EK_ev (Ev_eqlI_q rfl rfl q0) ?_)
    | (refine ek_lss ?_; refine EK_ev (Ev_lssI_q rfl rfl ql) ?_)
    | (refine ek_gtr ?_; first | refine EK_ev (Ev_gtrI_q rfl rfl q1) ?_ | refine EK_ev (Ev_gtrI_q rfl rfl qb) ?_)
    | refine xst ?_
    | (refine xsa ?_; intro _)
    | (refine xsb ?_ ?_ <;> intro _ <;> first | (exfalso; omega) | skip)
    | refine xsc ?_
    | (refine KJ_draws (id := 5) (.op 0 (.op 1 (.op 2 .nil))) (by kernel_rfl) (by kernel_rfl) ?_)
    | (refine KJ_draws (id := 6) (.op 0 (.op 1 (.op 2 (.op 3 (.op 4 (.op 5 (.op 6 (.op 7 (.op 8 (.op 9 (.op 10 (.op 11 .nil)))))))))))) (by kernel_rfl) (by kernel_rfl) ?_)
    | (refine KJ_draws (id := 8) (.op 0 (.op 1 (.op 2 .nil))) (by kernel_rfl) (by kernel_rfl) ?_)
    | (refine KJ_draws (id := 12) (.op 0 (.op 1 (.op 2 .nil))) (by kernel_rfl) (by kernel_rfl) ?_)
    | refine FW_alt ?_ ?_
    | refine FW_efn rfl rfl rfl rfl rfl ?_ ?_
    | refine KJ_flow ?_ ?_
    | exact Rech.nil
    | fail)
    all_goals exact xdn () (hc := by rw [hbad]; rfl) (hE := by rw [show a + rdL q = a by rw [hbad]; rfl]; exact (xN))
  · have hok := hi.done hb (by omega) (by omega) (by omega)
    have hlen := RuI.len hok (by omega)
    rw [hq] at hok
    have c1 : IntKind.u64.wrap ((b.toNat % 128 : Nat) : Int) = ((b.toNat % 128 : Nat) : Int) := u64_wrap _ (by omega)
    have hfit := hi.fit (b := b) (by omega)
    have sh := shl7 (b.toNat % 128) i i9 (by omega)
    have orr := or7 x (b.toNat % 128) i hi.x7 hfit
    have ql : decide ((b.toNat : Int) < 128) = true := decide_eq_true (by omega)
    have q9 : decide ((i : Int) = 9) = false := decide_eq_false (by omega)
    have q0 : decide ((b.toNat : Int) = 0) = true := decide_eq_true (by omega)
    have q1 : decide ((0 : Int) < (i : Int)) = false := decide_eq_false (by omega)
    have hA : a + (i + 1) = a + rdL q := by rw [hok]; show _ = a + (vu _).length; rw [hlen]
    have hV : Value.tuple #[.int .u64 ((x + b.toNat % 128 * 2 ^ (7 * i) : Nat) : Int), .nilIface] = .tuple #[.int .u64 (rdN q : Nat), errV F (rdE q)] := by rw [hok]; rfl
    repeat' (first 
    | (refine is_call ?_; refine KJ_call xE cl xP rfl (fun _ => ?_))
    | (refine ek_load ?_; refine EK_ev (Ev_loadOld rfl e2) ?_)
    | (refine ek_conv ?_; refine EK_ev (Ev_convI_v rfl c1) ?_)
    | (refine ek_index ?_; refine EK_ev (Ev_indexStr rfl rfl (by omega) hbs) ?_)
    | (refine ek_add ?_; first | refine EK_ev (Ev_addI_v (r := ((a + i : Nat) : Int)) rfl rfl (by omega) (by omega)) ?_ | refine EK_ev (Ev_addI_v (r := ((a + (i + 1) : Nat) : Int)) rfl rfl (by omega) (by omega)) ?_ | refine EK_ev (Ev_addI_v (r := ((i + 1 : Nat) : Int)) rfl rfl (by omega) (by omega)) ?_)
    | (refine ek_mul ?_; refine EK_ev (Ev_mulI_v (r := ((7 * i : Nat) : Int)) rfl rfl (by omega) (by omega)) ?_)
    | (refine ek_and ?_; refine EK_ev (Ev_and_s rfl rfl (and127 b)) ?_)
    | (refine ek_or ?_; refine EK_ev (Ev_or_s rfl rfl orr) ?_)
    | (refine ek_shl ?_; refine EK_ev (Ev_shl_t rfl rfl sh) ?_)
    | (refine ek_eql ?_; first | refine EK_ev (Ev_eqlI_q rfl rfl qe) ?_ | refine EK_ev (Ev_eqlI_q rfl rfl q9) ?_ | refine EK_ev (Ev_eqlI_q rfl rfl q0) ?_)
    | (refine ek_lss ?_; refine EK_ev (Ev_lssI_q rfl rfl ql) ?_)
    | (refine ek_gtr ?_; first | refine EK_ev (Ev_gtrI_q rfl rfl q1) ?_ | refine EK_ev (Ev_gtrI_q rfl rfl qb) ?_)
    | refine xst ?_
    | (refine xsa ?_; intro _)
    | (refine xsb ?_ ?_ <;> intro _ <;> first | (exfalso; omega) | skip)
    | refine xsc ?_
    | (refine KJ_draws (id := 5) (.op 0 (.op 1 (.op 2 .nil))) (by kernel_rfl) (by kernel_rfl) ?_)
    | (refine KJ_draws (id := 6) (.op 0 (.op 1 (.op 2 (.op 3 (.op 4 (.op 5 (.op 6 (.op 7 (.op 8 (.op 9 (.op 10 (.op 11 .nil)))))))))))) (by kernel_rfl) (by kernel_rfl) ?_)
    | (refine KJ_draws (id := 8) (.op 0 (.op 1 (.op 2 .nil))) (by kernel_rfl) (by kernel_rfl) ?_)
    | (refine KJ_draws (id := 12) (.op 0 (.op 1 (.op 2 .nil))) (by kernel_rfl) (by kernel_rfl) ?_)
    | refine FW_alt ?_ ?_
    | refine FW_efn rfl rfl rfl rfl rfl ?_ ?_
    | refine KJ_flow ?_ ?_
    | exact Rech.nil
    | fail)
    all_goals rw [hA]
    all_goals exact xdn () (hc := by exact hV)
  · have hok := hi.done hb (by omega) (by omega) (by omega)
    have hlen := RuI.len hok (by omega)
    rw [hq] at hok
    have c1 : IntKind.u64.wrap ((b.toNat % 128 : Nat) : Int) = ((b.toNat % 128 : Nat) : Int) := u64_wrap _ (by omega)
    have hfit := hi.fit (b := b) (by omega)
    have sh := shl7 (b.toNat % 128) i i9 (by omega)
    have orr := or7 x (b.toNat % 128) i hi.x7 hfit
    have ql : decide ((b.toNat : Int) < 128) = true := decide_eq_true (by omega)
    have q9 : decide ((i : Int) = 9) = false := decide_eq_false (by omega)
    have q0 : decide ((b.toNat : Int) = 0) = false := decide_eq_false (by omega)
    have hA : a + (i + 1) = a + rdL q := by rw [hok]; show _ = a + (vu _).length; rw [hlen]
    have hV : Value.tuple #[.int .u64 ((x + b.toNat % 128 * 2 ^ (7 * i) : Nat) : Int), .nilIface] = .tuple #[.int .u64 (rdN q : Nat), errV F (rdE q)] := by rw [hok]; rfl
    repeat' (first 
    | (refine is_call ?_; refine KJ_call xE cl xP rfl (fun _ => ?_))
    | (refine ek_load ?_; refine EK_ev (Ev_loadOld rfl e2) ?_)
    | (refine ek_conv ?_; refine EK_ev (Ev_convI_v rfl c1) ?_)
    | (refine ek_index ?_; refine EK_ev (Ev_indexStr rfl rfl (by omega) hbs) ?_)
    | (refine ek_add ?_; first | refine EK_ev (Ev_addI_v (r := ((a + i : Nat) : Int)) rfl rfl (by omega) (by omega)) ?_ | refine EK_ev (Ev_addI_v (r := ((a + (i + 1) : Nat) : Int)) rfl rfl (by omega) (by omega)) ?_ | refine EK_ev (Ev_addI_v (r := ((i + 1 : Nat) : Int)) rfl rfl (by omega) (by omega)) ?_)
    | (refine ek_mul ?_; refine EK_ev (Ev_mulI_v (r := ((7 * i : Nat) : Int)) rfl rfl (by omega) (by omega)) ?_)
    | (refine ek_and ?_; refine EK_ev (Ev_and_s rfl rfl (and127 b)) ?_)
    | (refine ek_or ?_; refine EK_ev (Ev_or_s rfl rfl orr) ?_)
    | (refine ek_shl ?_; refine EK_ev (Ev_shl_t rfl rfl sh) ?_)
    | (refine ek_eql ?_; first | refine EK_ev (Ev_eqlI_q rfl rfl qe) ?_ | refine EK_ev (Ev_eqlI_q rfl rfl q9) ?_ | refine EK_ev (Ev_eqlI_q rfl rfl q0) ?_)
    | (refine ek_lss ?_; refine EK_ev (Ev_lssI_q rfl rfl ql) ?_)
    | (refine ek_gtr ?_; refine EK_ev (Ev_gtrI_q rfl rfl qb) ?_)
    | refine xst ?_
    | (refine xsa ?_; intro _)
    | (refine xsb ?_ ?_ <;> intro _ <;> first | (exfalso; omega) | skip)
    | refine xsc ?_
    | (refine KJ_draws (id := 5) (.op 0 (.op 1 (.op 2 .nil))) (by kernel_rfl) (by kernel_rfl) ?_)
    | (refine KJ_draws (id := 6) (.op 0 (.op 1 (.op 2 (.op 3 (.op 4 (.op 5 (.op 6 (.op 7 (.op 8 (.op 9 (.op 10 (.op 11 .nil)))))))))))) (by kernel_rfl) (by kernel_rfl) ?_)
    | (refine KJ_draws (id := 8) (.op 0 (.op 1 (.op 2 .nil))) (by kernel_rfl) (by kernel_rfl) ?_)
    | (refine KJ_draws (id := 12) (.op 0 (.op 1 (.op 2 .nil))) (by kernel_rfl) (by kernel_rfl) ?_)
    | refine FW_alt ?_ ?_
    | refine FW_efn rfl rfl rfl rfl rfl ?_ ?_
    | refine KJ_flow ?_ ?_
    | exact Rech.nil
    | fail)
    all_goals rw [hA]
    all_goals exact xdn () (hc := by exact hV)
  · have hnx := hi.next hb (by omega) h9.2
    have c1 : IntKind.u64.wrap ((b.toNat % 128 : Nat) : Int) = ((b.toNat % 128 : Nat) : Int) := u64_wrap _ (by omega)
    have hfit := hi.fit (b := b) (by omega)
    have sh := shl7 (b.toNat % 128) i i9 (by omega)
    have orr := or7 x (b.toNat % 128) i hi.x7 hfit
    have ql : decide ((b.toNat : Int) < 128) = false := decide_eq_false (by omega)
    have q9 : decide ((i : Int) = 9) = false := decide_eq_false (by omega)
    repeat' (first 
    | (refine is_call ?_; refine KJ_call xE cl xP rfl (fun _ => ?_))
    | (refine ek_load ?_; refine EK_ev (Ev_loadOld rfl e2) ?_)
    | (refine ek_conv ?_; refine EK_ev (Ev_convI_v rfl c1) ?_)
    | (refine ek_index ?_; refine EK_ev (Ev_indexStr rfl rfl (by omega) hbs) ?_)
    | (refine ek_add ?_; first | refine EK_ev (Ev_addI_v (r := ((a + i : Nat) : Int)) rfl rfl (by omega) (by omega)) ?_ | refine EK_ev (Ev_addI_v (r := ((a + (i + 1) : Nat) : Int)) rfl rfl (by omega) (by omega)) ?_ | refine EK_ev (Ev_addI_v (r := ((i + 1 : Nat) : Int)) rfl rfl (by omega) (by omega)) ?_)
    | (refine ek_mul ?_; refine EK_ev (Ev_mulI_v (r := ((7 * i : Nat) : Int)) rfl rfl (by omega) (by omega)) ?_)
    | (refine ek_and ?_; refine EK_ev (Ev_and_s rfl rfl (and127 b)) ?_)
    | (refine ek_or ?_; refine EK_ev (Ev_or_s rfl rfl orr) ?_)
    | (refine ek_shl ?_; refine EK_ev (Ev_shl_t rfl rfl sh) ?_)
    | (refine ek_eql ?_; first | refine EK_ev (Ev_eqlI_q rfl rfl qe) ?_ | refine EK_ev (Ev_eqlI_q rfl rfl q9) ?_ | refine EK_ev (Ev_eqlI_q rfl rfl q0) ?_)
    | (refine ek_lss ?_; refine EK_ev (Ev_lssI_q rfl rfl ql) ?_)
    | (refine ek_gtr ?_; refine EK_ev (Ev_gtrI_q rfl rfl qb) ?_)
    | refine xst ?_
    | (refine xsa ?_; intro _)
    | (refine xsb ?_ ?_ <;> intro _ <;> first | (exfalso; omega) | skip)
    | refine xsc ?_
    | (refine KJ_draws (id := 5) (.op 0 (.op 1 (.op 2 .nil))) (by kernel_rfl) (by kernel_rfl) ?_)
    | (refine KJ_draws (id := 6) (.op 0 (.op 1 (.op 2 (.op 3 (.op 4 (.op 5 (.op 6 (.op 7 (.op 8 (.op 9 (.op 10 (.op 11 .nil)))))))))))) (by kernel_rfl) (by kernel_rfl) ?_)
    | (refine KJ_draws (id := 8) (.op 0 (.op 1 (.op 2 .nil))) (by kernel_rfl) (by kernel_rfl) ?_)
    | (refine KJ_draws (id := 12) (.op 0 (.op 1 (.op 2 .nil))) (by kernel_rfl) (by kernel_rfl) ?_)
    | refine FW_alt ?_ ?_
    | refine FW_efn rfl rfl rfl rfl rfl ?_ ?_
    | refine KJ_flow ?_ ?_
    | exact Rech.nil
    | fail)
    all_goals refine KJ_again ⟨(i + 1, x + b.toNat % 128 * 2 ^ (7 * i)), hnx⟩ (by show 10 - (i + 1) < 10 - i; omega) xB (xN)
end
end Go.Proofs.YtnbgcimalpdfoaaGreatDoor
/-
  The package wire: a reader's bytes, limits and texts.
-/
namespace Go.Proofs.YtnbgcimalpdfoaaGreatDoor
open Go Go.RowKit
theorem errNe {F : Nat → Addr} {e : Nat} (h : e ≠ 0) : eqOne (.interface #[("Error", 114)]) (errV F e) .nilIface = some false := by rw [errV_pos F e (by omega)]; rfl
theorem shl0 (b : UInt8) : ShlF .u64 (b.toNat : Int) 0 (b.toNat : Int) := by
  have hb := UInt8.toNat_lt b
  refine ⟨by omega, ?_⟩
  show IntKind.u64.wrap ((b.toNat : Int) * 2 ^ 0) = _
  rw [show ((b.toNat : Int) * 2 ^ 0) = ((b.toNat : Nat) : Int) by simp]
  exact u64_wrap _ (by omega)
theorem or0 (b : UInt8) : OrF .u64 0 (b.toNat : Int) (b.toNat : Int) := by
  have hb := UInt8.toNat_lt b
  have := or7 0 b.toNat 0 (by simp) (by omega)
  have e : ((b.toNat * 2 ^ (7 * 0) : Nat) : Int) = (b.toNat : Int) := by simp
  have e2 : ((0 + b.toNat * 2 ^ (7 * 0) : Nat) : Int) = (b.toNat : Int) := by simp
  rw [e, e2] at this
  exact this
/-- what of a number above the limit is told -/
def uptE (most : Nat) : Rd Nat → Nat
  | .bad e => e
  | .ok x _ => if most < x then 3 else 0
def uptN (most : Nat) : Rd Nat → Nat
  | .bad _ => 0
  | .ok x _ => if most < x then 0 else x
def uptL (most : Nat) : Rd Nat → Nat
  | .bad _ => 0
  | .ok x _ => if most < x then 0 else (vu x).length
section
variable {W : World} {F : Nat → Addr} {p : Nat} {s : List UInt8} {a : Nat}
set_option maxHeartbeats 1000000 in
theorem rlow_no (ha : a = s.length) (hs : s.length ≤ 9223372036854775807) (e1 : W.cell? ⟨14, 0, none⟩ = some (errV F 1)) :
    Ct Tryz.prog W 176 [.pointer (some ⟨p, 0, none⟩), .int .i64 1] [rdP p s a] (fun _ : Unit => .tuple #[.int .u64 0, errV F 1]) (fun _ => [rdP p s a]) := by
  have cl := rleft_ct (W := W) (p := p) (s := s) (a := a) (by omega) (by omega)
  have ql : decide (((s.length - a : Nat) : Int) < 1) = true := decide_eq_true (by omega)
  refine Ct.enter Tryz.func176 rfl Tryz.ntmps176 (by simp) (fun R => ?_)
  repeat' (first 
    | (refine is_call ?_; refine KJ_call xE cl xP rfl (fun _ => ?_))
    | (refine ek_load ?_; refine EK_ev (Ev_loadOld rfl e1) ?_)
    | (refine ek_lss ?_; refine EK_ev (Ev_lssI_q rfl rfl ql) ?_)
    | refine xst ?_
    | (refine xsa ?_; intro _)
    | (refine xsb ?_ ?_ <;> intro _ <;> first | (exfalso; omega) | skip)
    | refine xsc ?_
    | (refine KJ_draws (id := 2) (.op 0 (.op 1 (.op 2 .nil))) (by kernel_rfl) (by kernel_rfl) ?_)
    | (refine KJ_draws (id := 7) (.op 0 (.op 1 (.op 2 (.op 3 (.op 4 (.op 5 (.op 6 (.op 7 (.op 8 (.op 9 (.op 10 (.op 11 (.op 12 (.op 13 (.op 14 (.op 15 (.op 16 (.ef 17 [] .nil)))))))))))))))))) (by kernel_rfl) (by kernel_rfl) ?_)
    | refine FW_alt ?_ ?_
    | refine FW_efn rfl rfl rfl rfl rfl ?_ ?_
    | refine KJ_flow ?_ ?_
    | exact Rech.nil
    | fail)
  all_goals (exact xdn ())
set_option maxHeartbeats 1000000 in
theorem rlow_ct {b : UInt8} (hb : s[a]? = some b) (hs : s.length ≤ 9223372036854775807) :
    Ct Tryz.prog W 176 [.pointer (some ⟨p, 0, none⟩), .int .i64 1] [rdP p s a] (fun _ : Unit => .tuple #[.int .u64 (b.toNat : Int), .nilIface]) (fun _ => [rdP p s (a + 1)]) := by
  have hlt := (List.getElem?_eq_some_iff.1 hb).1
  have hbt := UInt8.toNat_lt b
  have cl := rleft_ct (W := W) (p := p) (s := s) (a := a) (by omega) (by omega)
  have ql : decide (((s.length - a : Nat) : Int) < 1) = false := decide_eq_false (by omega)
  refine Ct.enter Tryz.func176 rfl Tryz.ntmps176 (by simp) (fun R => ?_)
  repeat' (first 
    | (refine is_call ?_; refine KJ_call xE cl xP rfl (fun _ => ?_))
    | (refine ek_lss ?_; refine EK_ev (Ev_lssI_q rfl rfl ql) ?_)
    | refine xst ?_
    | (refine xsa ?_; intro _)
    | (refine xsb ?_ ?_ <;> intro _ <;> first | (exfalso; omega) | skip)
    | refine xsc ?_
    | (refine KJ_draws (id := 2) (.op 0 (.op 1 (.op 2 .nil))) (by kernel_rfl) (by kernel_rfl) ?_)
    | (refine KJ_draws (id := 7) (.op 0 (.op 1 (.op 2 (.op 3 (.op 4 (.op 5 (.op 6 (.op 7 (.op 8 (.op 9 (.op 10 (.op 11 (.op 12 (.op 13 (.op 14 (.op 15 (.op 16 (.ef 17 [] .nil)))))))))))))))))) (by kernel_rfl) (by kernel_rfl) ?_)
    | refine FW_alt ?_ ?_
    | refine FW_efn rfl rfl rfl rfl rfl ?_ ?_
    | refine KJ_flow ?_ ?_
    | exact Rech.nil
    | fail)
  refine KJ_loop (fun i : {i : Nat × Nat // (i.1 = 0 ∧ i.2 = 0) ∨ (i.1 = 1 ∧ i.2 = b.toNat)} => [(0, .pointer (some ⟨p, 0, none⟩)), (1, .int .i64 1), (6, .int .u64 (i.1.2 : Nat)), (13, .int .i64 1), (14, .int .i64 (i.1.1 : Nat))])
    (fun i => [rdP p s a] ++ R) (fun i => 1 - i.1.1) ⟨(0, 0), .inl ⟨rfl, rfl⟩⟩ xB (xN) (fun ⟨(i, x), hi⟩ => ?_)
  dsimp only at hi ⊢
  rcases hi with ⟨rfl, rfl⟩ | ⟨rfl, rfl⟩
  · have q1 : decide (((0 : Nat) : Int) < 1) = true := rfl
    have hb2 : s[Int.toNat ((a : Nat) : Int)]? = some b := by simpa using hb
    have c1 : IntKind.u64.wrap ((b.toNat : Nat) : Int) = ((b.toNat : Nat) : Int) := u64_wrap _ (by omega)
    repeat' (first 
    | (refine ek_conv ?_; refine EK_ev (Ev_convI_v rfl c1) ?_)
    | (refine ek_index ?_; refine EK_ev (Ev_indexStr rfl rfl (by omega) hb2) ?_)
    | (refine ek_add ?_; first | refine EK_ev (Ev_addI_v (r := ((1 : Nat) : Int)) rfl rfl (by omega) (by omega)) ?_ | refine EK_ev (Ev_addI_v (r := ((a : Nat) : Int)) rfl rfl (by omega) (by omega)) ?_)
    | (refine ek_mul ?_; refine EK_ev (Ev_mulI_v (r := 0) rfl rfl (by omega) (by omega)) ?_)
    | (refine ek_or ?_; refine EK_ev (Ev_or_s rfl rfl (or0 b)) ?_)
    | (refine ek_shl ?_; refine EK_ev (Ev_shl_t rfl rfl (shl0 b)) ?_)
    | (refine ek_lss ?_; refine EK_ev (Ev_lssI_q rfl rfl q1) ?_)
    | refine xst ?_
    | (refine xsa ?_; intro _)
    | (refine xsb ?_ ?_ <;> intro _ <;> first | (exfalso; omega) | skip)
    | refine xsc ?_
    | (refine KJ_draws (id := 2) (.op 0 (.op 1 (.op 2 .nil))) (by kernel_rfl) (by kernel_rfl) ?_)
    | (refine KJ_draws (id := 7) (.op 0 (.op 1 (.op 2 (.op 3 (.op 4 (.op 5 (.op 6 (.op 7 (.op 8 (.op 9 (.op 10 (.op 11 (.op 12 (.op 13 (.op 14 (.op 15 (.op 16 (.ef 17 [] .nil)))))))))))))))))) (by kernel_rfl) (by kernel_rfl) ?_)
    | refine FW_alt ?_ ?_
    | refine FW_efn rfl rfl rfl rfl rfl ?_ ?_
    | refine KJ_flow ?_ ?_
    | exact Rech.nil
    | fail)
    all_goals refine KJ_again ⟨(1, b.toNat), .inr ⟨rfl, rfl⟩⟩ (by show 1 - 1 < 1 - 0; omega) xB (xN)
  · have q1 : decide (((1 : Nat) : Int) < 1) = false := rfl
    repeat' (first 
    | (refine ek_add ?_; refine EK_ev (Ev_addI_v (r := ((a + 1 : Nat) : Int)) rfl rfl (by omega) (by omega)) ?_)
    | (refine ek_lss ?_; refine EK_ev (Ev_lssI_q rfl rfl q1) ?_)
    | refine xst ?_
    | (refine xsa ?_; intro _)
    | (refine xsb ?_ ?_ <;> intro _ <;> first | (exfalso; omega) | skip)
    | refine xsc ?_
    | (refine KJ_draws (id := 2) (.op 0 (.op 1 (.op 2 .nil))) (by kernel_rfl) (by kernel_rfl) ?_)
    | (refine KJ_draws (id := 7) (.op 0 (.op 1 (.op 2 (.op 3 (.op 4 (.op 5 (.op 6 (.op 7 (.op 8 (.op 9 (.op 10 (.op 11 (.op 12 (.op 13 (.op 14 (.op 15 (.op 16 (.ef 17 [] .nil)))))))))))))))))) (by kernel_rfl) (by kernel_rfl) ?_)
    | refine FW_alt ?_ ?_
    | refine FW_efn rfl rfl rfl rfl rfl ?_ ?_
    | refine KJ_flow ?_ ?_
    | exact Rech.nil
    | fail)
    all_goals (exact xdn ())
theorem rbyte_no (ha : a = s.length) (hs : s.length ≤ 9223372036854775807) (e1 : W.cell? ⟨14, 0, none⟩ = some (errV F 1)) :
    Ct Tryz.prog W 127 [.pointer (some ⟨p, 0, none⟩)] [rdP p s a] (fun _ : Unit => .tuple #[bv 0, errV F 1]) (fun _ => [rdP p s a]) := by
  have cl := rlow_no (W := W) (F := F) (p := p) (s := s) (a := a) ha hs e1
  refine Ct.enter Tryz.func127 rfl Tryz.ntmps127 (by simp) (fun R => ?_)
  repeat' (first 
    | (refine is_call ?_; refine KJ_call xE cl xP rfl (fun _ => ?_))
    | (refine ek_conv ?_; refine EK_ev (Ev_convI_v (j := 0) rfl rfl) ?_)
    | refine xst ?_
    | (refine xsa ?_; intro _)
    | (refine xsb ?_ ?_ <;> intro _ <;> first | (exfalso; omega) | skip)
    | refine xsc ?_
    | fail)
  all_goals (exact xdn ())
theorem rbyte_ct {b : UInt8} (hb : s[a]? = some b) (hs : s.length ≤ 9223372036854775807) :
    Ct Tryz.prog W 127 [.pointer (some ⟨p, 0, none⟩)] [rdP p s a] (fun _ : Unit => .tuple #[bv b, .nilIface]) (fun _ => [rdP p s (a + 1)]) := by
  have hbt := UInt8.toNat_lt b
  have cl := rlow_ct (W := W) (p := p) (s := s) (a := a) hb hs
  have c1 : IntKind.u8.wrap ((b.toNat : Nat) : Int) = ((b.toNat : Nat) : Int) := by rw [u8_wrap]; congr 1; omega
  refine Ct.enter Tryz.func127 rfl Tryz.ntmps127 (by simp) (fun R => ?_)
  repeat' (first 
    | (refine is_call ?_; refine KJ_call xE cl xP rfl (fun _ => ?_))
    | (refine ek_conv ?_; refine EK_ev (Ev_convI_v rfl c1) ?_)
    | refine xst ?_
    | (refine xsa ?_; intro _)
    | (refine xsb ?_ ?_ <;> intro _ <;> first | (exfalso; omega) | skip)
    | refine xsc ?_
    | fail)
  all_goals (exact xdn ())
theorem rdone_ct (ha : a ≤ s.length) (hs : s.length ≤ 9223372036854775807) (e5 : W.cell? ⟨18, 0, none⟩ = some (errV F 5)) :
    Ct Tryz.prog W 169 [.pointer (some ⟨p, 0, none⟩)] [rdP p s a] (fun _ : Unit => errV F (if a < s.length then 5 else 0)) (fun _ => [rdP p s a]) := by
  have cl := rleft_ct (W := W) (p := p) (s := s) (a := a) ha (by omega)
  by_cases h : a < s.length
  · have ql : decide ((0 : Int) < ((s.length - a : Nat) : Int)) = true := decide_eq_true (by omega)
    rw [if_pos h]
    refine Ct.enter Tryz.func169 rfl Tryz.ntmps169 (by simp) (fun R => ?_)
    repeat' (first 
    | (refine is_call ?_; refine KJ_call xE cl xP rfl (fun _ => ?_))
    | (refine ek_load ?_; refine EK_ev (Ev_loadOld rfl e5) ?_)
    | (refine ek_gtr ?_; refine EK_ev (Ev_gtrI_q rfl rfl ql) ?_)
    | refine xst ?_
    | (refine xsa ?_; intro _)
    | (refine xsb ?_ ?_ <;> intro _ <;> first | (exfalso; omega) | skip)
    | refine xsc ?_
    | fail)
    all_goals (exact xdn ())
  · have ql : decide ((0 : Int) < ((s.length - a : Nat) : Int)) = false := decide_eq_false (by omega)
    rw [if_neg h]
    refine Ct.enter Tryz.func169 rfl Tryz.ntmps169 (by simp) (fun R => ?_)
    repeat' (first 
    | (refine is_call ?_; refine KJ_call xE cl xP rfl (fun _ => ?_))
    | (refine ek_gtr ?_; refine EK_ev (Ev_gtrI_q rfl rfl ql) ?_)
    | refine xst ?_
    | (refine xsa ?_; intro _)
    | (refine xsb ?_ ?_ <;> intro _ <;> first | (exfalso; omega) | skip)
    | refine xsc ?_
    | fail)
    all_goals (exact xdn ())
set_option maxHeartbeats 2000000 in
theorem uptoC_ct (br bm most : Nat) (hm : most ≤ 9223372036854775807) (ha : a ≤ s.length) (hs : s.length ≤ 9223372036854775807) (e1 : W.cell? ⟨14, 0, none⟩ = some (errV F 1)) (e2 : W.cell? ⟨15, 0, none⟩ = some (errV F 2)) (e3 : W.cell? ⟨16, 0, none⟩ = some (errV F 3)) (q : Rd Nat) (hq : ru (s.drop a) = q) :
    Ct Tryz.prog W 212 [.pointer (some ⟨br, 0, none⟩), .pointer (some ⟨bm, 0, none⟩)] [rdP p s a, cellsP br [.pointer (some ⟨p, 0, none⟩)] 176, cellsP bm [.int .i64 (most : Nat)] 3] (fun _ : Unit => .tuple #[.int .i64 (IntKind.i64.wrap (rdN q : Nat)), errV F (uptE most q)])
      (fun _ => [rdP p s (a + rdL q), cellsP br [.pointer (some ⟨p, 0, none⟩)] 176, cellsP bm [.int .i64 (most : Nat)] 3]) := by
  have cu := ruint_ct (W := W) (F := F) (p := p) (s := s) (a := a) ha hs e1 e2 q hq
  have cm : IntKind.u64.wrap ((most : Nat) : Int) = ((most : Nat) : Int) := u64_wrap _ (by omega)
  have q0 : decide ((most : Int) < 0) = false := decide_eq_false (by omega)
  cases q with
  | bad e =>
    have hne : e ≠ 0 := by rcases ru_err hq with h | h <;> omega
    have hn := errNe (F := F) hne
    refine Ct.enter Tryz.func212 rfl Tryz.ntmps212 (by simp) (fun R => ?_)
    repeat' (first 
    | (refine is_call ?_; refine KJ_call xE cu xP rfl (fun _ => ?_))
    | (refine ek_eql ?_; refine EK_ev (Ev_eqlNil rfl hn) ?_)
    | refine xst ?_
    | (refine xsa ?_; intro _)
    | (refine xsb ?_ ?_ <;> intro _ <;> first | (exfalso; omega) | skip)
    | refine xsc ?_
    | fail)
    all_goals (exact xdn ())
  | ok x t =>
    have hx := (vu_ru hq).2
    by_cases hl : most < x
    · have qg : decide (((most : Nat) : Int) < ((x : Nat) : Int)) = true := decide_eq_true (by omega)
      have he : uptE most (.ok x t) = 3 := if_pos hl
      rw [he]
      refine Ct.enter Tryz.func212 rfl Tryz.ntmps212 (by simp) (fun R => ?_)
      repeat' (first 
    | (refine is_call ?_; refine KJ_call xE cu xP rfl (fun _ => ?_))
    | (refine ek_load ?_; refine EK_ev (Ev_loadOld rfl e3) ?_)
    | (refine ek_conv ?_; refine EK_ev (Ev_convI_v rfl cm) ?_)
    | (refine ek_lss ?_; refine EK_ev (Ev_lssI_q rfl rfl q0) ?_)
    | (refine ek_gtr ?_; refine EK_ev (Ev_gtrI_q rfl rfl qg) ?_)
    | refine xst ?_
    | (refine xsa ?_; intro _)
    | (refine xsb ?_ ?_ <;> intro _ <;> first | (exfalso; omega) | skip)
    | refine xsc ?_
    | fail)
      all_goals (exact xdn ())
    · have qg : decide (((most : Nat) : Int) < ((x : Nat) : Int)) = false := decide_eq_false (by omega)
      have he : uptE most (.ok x t) = 0 := if_neg hl
      rw [he]
      refine Ct.enter Tryz.func212 rfl Tryz.ntmps212 (by simp) (fun R => ?_)
      repeat' (first 
    | (refine is_call ?_; refine KJ_call xE cu xP rfl (fun _ => ?_))
    | (refine ek_conv ?_; refine EK_ev (Ev_convI_v rfl cm) ?_)
    | (refine ek_lss ?_; refine EK_ev (Ev_lssI_q rfl rfl q0) ?_)
    | (refine ek_gtr ?_; refine EK_ev (Ev_gtrI_q rfl rfl qg) ?_)
    | refine xst ?_
    | (refine xsa ?_; intro _)
    | (refine xsb ?_ ?_ <;> intro _ <;> first | (exfalso; omega) | skip)
    | refine xsc ?_
    | fail)
      all_goals (exact xdn ())
end
end Go.Proofs.YtnbgcimalpdfoaaGreatDoor
