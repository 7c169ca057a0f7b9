/-
  WpW1.
-/
import Derived.Test.YtnbgcimalpdfoaaGreatDoorPCO
import Derived.Test.YtnbgcimalpdfoaaGreatDoorPBY
/-
  The document's writing and reading of numbers of eight bytes (chapter 1), and the row of a window (chapter 19).
-/
namespace Go.Proofs.YtnbgcimalpdfoaaGreatDoor
open Go Go.RowKit
section
variable {P : Program} {W : World} {n : Nat} {E : Env} {H : List SP} {t u : TypeId} {x y : Operand} {kd : IntKind}
theorem Ev_quo_u {i j : Int} {r : Nat} (hx : Env.ev E x = some (.int kd i)) (hy : Env.ev E y = some (.int kd j)) (hb : 0 ≤ i ∧ 0 < j) (h : i / j = (r : Int)) (hw : kd.wrap ((r : Nat) : Int) = (r : Int)) : Ev P W n E H (.binOp .quo t x y u) (.int kd ((r : Nat) : Int)) := by
  have e : kd.wrap (i.tdiv j) = ((r : Nat) : Int) := by rw [Int.tdiv_eq_ediv_of_nonneg hb.1, h, hw]
  rw [← e]
  exact Ev_quo hx hy (by omega)
theorem Ev_mul_d {i j r : Int} (hx : Env.ev E x = some (.int kd i)) (hy : Env.ev E y = some (.int kd j)) (h : kd.wrap (i * j) = r) : Ev P W n E H (.binOp .mul t x y u) (.int kd r) := by subst h; exact Ev_mul hx hy
end
theorem valB_step {s : List UInt8} {k f : Nat} {b : UInt8} (h : s[k]? = some b) : valB ((s.drop k).take (f + 1)) = b.toNat + 256 * valB ((s.drop (k + 1)).take f) := by
  obtain ⟨hk, hb⟩ := List.getElem?_eq_some_iff.1 h
  rw [List.drop_eq_getElem_cons hk, hb]
  rfl
section
variable {W : World}
instance fn_dlow : FnIs Tryz.prog 120 := ⟨by kernel_rfl⟩
instance fn_dgetlow : FnIs Tryz.prog 67 := ⟨by kernel_rfl⟩
instance fn_drow19 : FnIs Tryz.prog 66 := ⟨by kernel_rfl⟩
set_option maxHeartbeats 2000000 in
theorem dlow_ct (x n : Nat) (h0 : 0 < n) (hn : n ≤ 1000) (hx : x < 18446744073709551616) : Ct Tryz.prog W 120 [.int .u64 (x : Nat), .int .i64 (n : Nat)] [] (fun _ : Unit => strV (loB n x)) (fun _ => []) := by
  refine Ct.enter Tryz.func120 rfl Tryz.ntmps120 (by simp) (fun R => ?_)
  repeat' (first 
    | refine xst ?_
    | (refine xsa ?_; intro _)
    | (refine xsb ?_ ?_ <;> intro _ <;> first | (exfalso; omega) | skip)
    | refine xsc ?_
    | fail)
  refine KJ.nilrow 5 1 ?_
  refine KJ_loop (fun i : {i : List UInt8 × Nat × Nat × Option Addr × Nat // i.2.2.1 ≤ n ∧ i.2.1 < 18446744073709551616 ∧ i.1 ++ loB i.2.2.1 i.2.1 = loB n x} => [(0, .int .u64 (i.1.2.1 : Nat)), (1, .int .i64 (n : Nat)), (5, .slice i.1.2.2.2.1 i.1.1.length i.1.2.2.2.2), (6, .int .i64 (n - i.1.2.2.1 : Nat))])
    (fun i => [byP (.slice i.1.2.2.2.1 i.1.1.length i.1.2.2.2.2) i.1.1] ++ R) (fun i => i.1.2.2.1) ⟨([], x, n, none, 0), Nat.le_refl _, hx, rfl⟩ (by dsimp only; rw [Nat.sub_self]; exact xB) (xN) (fun ⟨(m, y, f, oa, oc), hf, hy, hi⟩ => ?_)
  dsimp only at hf hy hi ⊢
  have hlen := congrArg List.length hi
  rw [List.length_append, loB_len, loB_len] at hlen
  cases f with
  | zero =>
    have ql : decide (((n - 0 : Nat) : Int) < (n : Nat)) = false := decide_eq_false (by omega)
    rw [show loB 0 y = [] from rfl, List.append_nil] at hi
    refine KJ.lsSome xS (by omega) (fun g hg => ?_)
    subst hg
    repeat' (first 
    | (refine ek_conv ?_; refine EK_ev (Ev_bytesB rfl xS rfl) ?_)
    | (refine ek_lss ?_; refine EK_ev (Ev_lssI_q rfl rfl ql) ?_)
    | refine xst ?_
    | (refine xsa ?_; intro _)
    | (refine xsb ?_ ?_ <;> intro _ <;> first | (exfalso; omega) | skip)
    | refine xsc ?_
    | fail)
    all_goals exact xdn () (hc := by rw [← hi]; rfl)
  | succ f =>
    have ql : decide (((n - (f + 1) : Nat) : Int) < (n : Nat)) = true := decide_eq_true (by omega)
    have e1 : IntKind.u8.wrap ((y : Nat) : Int) = ((UInt8.ofNat (y % 256)).toNat : Int) := by rw [u8_wrap, UInt8.toNat_ofNat']; omega
    have hnx : m ++ [UInt8.ofNat (y % 256)] ++ loB f (y / 256) = loB n x := by rw [← hi, List.append_assoc]; rfl
    have b1 : (m.length + 1) * 1 ≤ 140737488355328 := by omega
    have b2 : m.length + 1 ≤ 9223372036854775807 := by omega
    have hy2 : y / 256 < 18446744073709551616 := by omega
    have hw := u64_wrap (y / 256) hy2
    repeat' (first 
    | (refine is_append ?_; refine KJ_appOne (a := UInt8.ofNat (y % 256)) byC_ok rfl rfl rfl xS xS b1 b2 rfl (fun g' c' => ?_))
    | (refine is_bslice ?_; refine KJ_bslice1 rfl xF (by rfl) (by omega) rfl (fun gb => ?_))
    | (refine ek_conv ?_; refine EK_ev (Ev_convI_v rfl e1) ?_)
    | (refine ek_add ?_; refine EK_ev (Ev_addI_v (r := ((n - f : Nat) : Int)) rfl rfl (by omega) (by omega)) ?_)
    | (refine ek_quo ?_; refine EK_ev (Ev_quo_u (r := y / 256) rfl rfl (by omega) (by omega) hw) ?_)
    | (refine ek_lss ?_; refine EK_ev (Ev_lssI_q rfl rfl ql) ?_)
    | refine xst ?_
    | (refine xsa ?_; intro _)
    | (refine xsb ?_ ?_ <;> intro _ <;> first | (exfalso; omega) | skip)
    | refine xsc ?_
    | fail)
    all_goals refine KJ_again ⟨(m ++ [UInt8.ofNat (y % 256)], y / 256, f, some ⟨g', 0, none⟩, c'), Nat.le_of_succ_le hf, hy2, hnx⟩ (by show f < f + 1; omega) xB (xN)
set_option maxHeartbeats 2000000 in
theorem dgetlow_ct (s : List UInt8) (a : Nat) (ha : a + 8 ≤ s.length) (hs : s.length ≤ 9223372036854775000) :
    Ct Tryz.prog W 67 [strV s, .int .i64 (a : Nat), .int .i64 8] [] (fun _ : Unit => .tuple #[.int .u64 (valB ((s.drop a).take 8) : Nat), .int .i64 (a + 8 : Nat), .int .i64 0]) (fun _ => []) := by
  have q0 : decide (((s.length : Nat) : Int) - (a : Nat) < 8) = false := decide_eq_false (by omega)
  refine Ct.enter Tryz.func67 rfl Tryz.ntmps67 (by simp) (fun R => ?_)
  repeat' (first 
    | (refine ek_sub ?_; refine EK_ev (Ev_subI_v rfl rfl rfl (by omega)) ?_)
    | (refine ek_lss ?_; refine EK_ev (Ev_lssI_q rfl rfl q0) ?_)
    | refine xst ?_
    | (refine xsa ?_; intro _)
    | (refine xsb ?_ ?_ <;> intro _ <;> first | (exfalso; omega) | skip)
    | refine xsc ?_
    | fail)
  refine KJ_loop (fun i : {i : Nat × Nat // i.1 ≤ 8 ∧ i.2 = valB ((s.drop (a + i.1)).take (8 - i.1))} => [(0, strV s), (1, .int .i64 (a : Nat)), (2, .int .i64 8), (9, .int .u64 (i.1.2 : Nat)), (10, .int .i64 ((i.1.1 : Int) - 1))])
    (fun _ => [] ++ R) (fun i => i.1.1) ⟨(8, 0), Nat.le_refl _, by rw [Nat.sub_self]; rfl⟩ xB (xN) (fun ⟨(i, x), hi, hx⟩ => ?_)
  dsimp only at hi hx ⊢
  cases i with
  | zero =>
    have q1 : decide ((0 : Int) ≤ ((0 : Nat) : Int) - 1) = false := decide_eq_false (by omega)
    rw [Nat.add_zero, Nat.sub_zero] at hx
    repeat' (first 
    | (refine ek_add ?_; refine EK_ev (Ev_addI_v (r := ((a + 8 : Nat) : Int)) rfl rfl (by omega) (by omega)) ?_)
    | (refine ek_geq ?_; refine EK_ev (Ev_geqI_q rfl rfl q1) ?_)
    | refine xst ?_
    | (refine xsa ?_; intro _)
    | (refine xsb ?_ ?_ <;> intro _ <;> first | (exfalso; omega) | skip)
    | refine xsc ?_
    | fail)
    all_goals exact xdn () (hc := by rw [← hx]; rfl)
  | succ i =>
    have q1 : decide ((0 : Int) ≤ ((i + 1 : Nat) : Int) - 1) = true := decide_eq_true (by omega)
    obtain ⟨b, hb⟩ : ∃ b, s[a + i]? = some b := ⟨_, List.getElem?_eq_getElem (by omega)⟩
    have hbs : s[((a + i : Nat) : Int).toNat]? = some b := by rw [Int.toNat_natCast]; exact hb
    have hbt := UInt8.toNat_lt b
    have c1 : IntKind.u64.wrap ((b.toNat : Nat) : Int) = ((b.toNat : Nat) : Int) := u64_wrap _ (by omega)
    have hnx := valB_step (f := 8 - (i + 1)) hb
    rw [show a + i + 1 = a + (i + 1) by omega, ← hx, show 8 - (i + 1) + 1 = 8 - i by omega] at hnx
    have hxl := valB_lt ((s.drop (a + i)).take (8 - i))
    have hp : (256 : Nat) ^ ((s.drop (a + i)).take (8 - i)).length ≤ 256 ^ 8 := Nat.pow_le_pow_right (by omega) (by rw [List.length_take]; omega)
    have hp2 : (256 : Nat) ^ 8 = 18446744073709551616 := by decide
    rw [hnx] at hxl
    have m1 : IntKind.u64.wrap ((x : Int) * 256) = ((x * 256 : Nat) : Int) := by
      rw [show (x : Int) * 256 = ((x * 256 : Nat) : Int) by omega]
      exact u64_wrap _ (by omega)
    have a1 : IntKind.u64.wrap (((x * 256 : Nat) : Int) + ((b.toNat : Nat) : Int)) = ((b.toNat + 256 * x : Nat) : Int) := by
      rw [show ((x * 256 : Nat) : Int) + ((b.toNat : Nat) : Int) = ((b.toNat + 256 * x : Nat) : Int) by omega]
      exact u64_wrap _ (by omega)
    repeat' (first 
    | (refine ek_conv ?_; refine EK_ev (Ev_convI_v rfl c1) ?_)
    | (refine ek_index ?_; refine EK_ev (Ev_indexStr rfl rfl (by omega) hbs) ?_)
    | (refine ek_add ?_; first | refine EK_ev (Ev_addI_v (r := ((a + i : Nat) : Int)) rfl rfl (by omega) (by omega)) ?_ | refine EK_ev (Ev_add_w rfl rfl a1) ?_)
    | (refine ek_sub ?_; refine EK_ev (Ev_subI_v (r := (i : Int) - 1) rfl rfl (by omega) (by omega)) ?_)
    | (refine ek_mul ?_; refine EK_ev (Ev_mul_d rfl rfl m1) ?_)
    | (refine ek_geq ?_; refine EK_ev (Ev_geqI_q rfl rfl q1) ?_)
    | refine xst ?_
    | (refine xsa ?_; intro _)
    | (refine xsb ?_ ?_ <;> intro _ <;> first | (exfalso; omega) | skip)
    | refine xsc ?_
    | fail)
    all_goals refine KJ_again ⟨(i, b.toNat + 256 * x), Nat.le_of_succ_le hi, hnx.symm⟩ (by show i < i + 1; omega) xB (xN)
theorem drow19_ct (w u : Nat) (hw : w < 9223372036854775808) (hu : u < 9223372036854775808) : Ct Tryz.prog W 66 [.int .i64 (w : Nat), .int .i64 (u : Nat)] [] (fun _ : Unit => strV (rowW w u)) (fun _ => []) := by
  have c1 := dlow_ct (W := W) w 8 (by omega) (by omega) (by omega)
  have c2 := dlow_ct (W := W) u 8 (by omega) (by omega) (by omega)
  have w1 := u64_wrap w (by omega)
  have w2 := u64_wrap u (by omega)
  have bl : (loB 8 w).length + (loB 8 u).length ≤ 9223372036854775807 := by rw [loB_len, loB_len]; omega
  refine Ct.enter Tryz.func66 rfl Tryz.ntmps66 (by simp) (fun R => ?_)
  repeat' (first 
    | (refine is_call ?_; first | (refine KJ_call xE c1 xP rfl (fun _ => ?_)) | (refine KJ_call xE c2 xP rfl (fun _ => ?_)))
    | (refine ek_conv ?_; first | refine EK_ev (Ev_convI_v rfl w1) ?_ | refine EK_ev (Ev_convI_v rfl w2) ?_)
    | (refine ek_add ?_; refine EK_ev (Ev_addS (a := loB 8 w) (b := loB 8 u) rfl rfl bl) ?_)
    | refine xst ?_
    | (refine xsa ?_; intro _)
    | (refine xsb ?_ ?_ <;> intro _ <;> first | (exfalso; omega) | skip)
    | refine xsc ?_
    | fail)
  all_goals (exact xdn ())
end
end Go.Proofs.YtnbgcimalpdfoaaGreatDoor
