/-
  PoD0, PoD1, PoD4, PoD5, PoD6.
-/
import Derived.Test.YtdbfemdpdpaffaaGreatDoorPBZ
import Derived.Test.YtdbfemdpdpaffaaGreatDoorPBI
import Derived.Test.YtdbfemdpdpaffaaGreatDoorPCK
import Derived.Test.YtdbfemdpdpaffaaGreatDoorPBX
/-
  The document's answers of chapters 3, 4, 5 as plain data: the same accounts.
-/
namespace Go.Proofs.YtdbfemdpdpaffaaGreatDoor
open Go Go.RowKit
/-- the last three bytes -/
def last3 (s : List UInt8) : List UInt8 := s.drop (s.length - 3)
theorem codeB_len {s : List UInt8} (h : codeB s = true) : s.length = 3 := by
  unfold codeB at h
  simp only [Bool.and_eq_true, decide_eq_true_eq] at h
  exact h.1
theorem sys_part (s p : List UInt8) (h4 : 4 ≤ s.length) : (decide (s.take p.length = p) && codeB (s.drop p.length)) = (codeB (last3 s) && decide (s = p ++ last3 s)) := by
  rw [Bool.eq_iff_iff]
  simp only [Bool.and_eq_true, decide_eq_true_eq]
  constructor
  · rintro ⟨h1, h2⟩
    have h3 := codeB_len h2
    rw [List.length_drop] at h3
    have e : p.length = s.length - 3 := by omega
    have e2 : last3 s = s.drop p.length := by unfold last3; rw [e]
    rw [e2]
    refine ⟨h2, ?_⟩
    conv => lhs; rw [← List.take_append_drop p.length s, h1]
  · rintro ⟨h1, h2⟩
    have h3 := codeB_len h1
    have e : p.length = s.length - 3 := by
      have := congrArg List.length h2
      rw [List.length_append] at this
      omega
    have e2 : s.drop p.length = last3 s := by unfold last3; rw [e]
    rw [e2]
    refine ⟨?_, h1⟩
    have := congrArg (List.take p.length) h2
    rwa [List.take_left] at this
theorem sysB_small {s : List UInt8} (h : s.length < 4) : sysB s = false := by
  rw [Bool.eq_false_iff]
  intro hs
  unfold sysB at hs
  rw [List.any_eq_true] at hs
  obtain ⟨p, hp, h2⟩ := hs
  simp only [Bool.and_eq_true, decide_eq_true_eq] at h2
  have h3 := codeB_len h2.2
  rw [List.length_drop] at h3
  unfold kinds4 at hp
  simp only [List.mem_cons, List.not_mem_nil, or_false] at hp
  rcases hp with rfl | rfl | rfl | rfl <;> simp at h3 <;> omega
theorem sysB_is {s : List UInt8} (h : 4 ≤ s.length) : sysB s = kinds4.any fun p => codeB (last3 s) && decide (s = p ++ last3 s) := by
  unfold sysB
  congr 1
  funext p
  exact sys_part s p h
theorem restG_some {l : List UInt8} (h : (l.all fun b => digB b || capB b) = true) (r : Nat) : ∃ x, restG l r = some x := by
  have := restG_all l r
  rw [h] at this
  exact Option.isSome_iff_exists.1 this
theorem digits2_some {l : List UInt8} (h : (l.all fun b => digB b || capB b) = true) (hne : l ≠ []) : ∃ x, restG (l ++ [48, 48]) 0 = some x ∧ digits2 l = some (dig2 x) := by
  obtain ⟨x, hx⟩ := restG_some (l := l ++ [48, 48]) (by rw [List.all_append, h]; rfl) 0
  refine ⟨x, hx, ?_⟩
  unfold digits2
  rw [if_neg hne, hx]
  rfl
theorem all_swap (l : List UInt8) : (l.all fun b => capB b || digB b) = l.all fun b => digB b || capB b := by
  congr 1
  funext b
  rw [Bool.or_comm]
theorem all_cap {l : List UInt8} (h : l.all capB = true) : (l.all fun b => digB b || capB b) = true := by
  rw [List.all_eq_true] at *
  intro b hb
  rw [h b hb, Bool.or_true]
/-- of a text of the right form the digits can be asked -/
theorem form_digits {s : List UInt8} (h : formA s = true) : (((s.drop 4) ++ s.take 2).all fun b => digB b || capB b) = true ∧ s.drop 4 ++ s.take 2 ≠ [] := by
  unfold formA at h
  simp only [Bool.and_eq_true, decide_eq_true_eq] at h
  obtain ⟨⟨⟨⟨h1, h2⟩, h3⟩, h4⟩, h5⟩ := h
  refine ⟨?_, fun q => ?_⟩
  · rw [List.all_append, all_cap h3, Bool.and_true, ← all_swap]
    exact h5
  · have := congrArg List.length q
    rw [List.length_append, List.length_drop] at this
    simp only [List.length_nil] at this
    omega
end Go.Proofs.YtdbfemdpdpaffaaGreatDoor
/-
  The document's writing (chapter 1): a varint, a signed number, a text.
-/
namespace Go.Proofs.YtdbfemdpdpaffaaGreatDoor
open Go Go.RowKit
section
variable {P : Program} {W : World} {n : Nat} {E : Env} {H : List SP} {t u : TypeId} {x y : Operand} {kd : IntKind}
theorem Ev_quo_u {i j : Int} {r : Nat} (hx : Env.ev E x = some (.int kd i)) (hy : Env.ev E y = some (.int kd j)) (hb : 0 ≤ i ∧ 0 < j) (h : i / j = (r : Int)) (hw : kd.wrap ((r : Nat) : Int) = (r : Int)) : Ev P W n E H (.binOp .quo t x y u) (.int kd ((r : Nat) : Int)) := by
  have e : kd.wrap (i.tdiv j) = ((r : Nat) : Int) := by rw [Int.tdiv_eq_ediv_of_nonneg hb.1, h, hw]
  rw [← e]
  exact Ev_quo hx hy (by omega)
theorem Ev_mul_d {i j r : Int} (hx : Env.ev E x = some (.int kd i)) (hy : Env.ev E y = some (.int kd j)) (h : kd.wrap (i * j) = r) : Ev P W n E H (.binOp .mul t x y u) (.int kd r) := by subst h; exact Ev_mul hx hy
end
section
variable {W : World}
set_option maxHeartbeats 1000000 in
theorem duint_ct (x : Nat) (hx : x < 18446744073709551616) : Ct Tryz.prog W 70 [.int .u64 (x : Nat)] [] (fun _ : Unit => strV (vu x)) (fun _ => []) := by
  refine Ct.enter Tryz.func70 rfl Tryz.ntmps70 (by simp) (fun R => ?_)
  repeat' (first 
    | refine xst ?_
    | (refine xsa ?_; intro _)
    | (refine xsb ?_ ?_ <;> intro _ <;> first | (exfalso; omega) | skip)
    | refine xsc ?_
    | fail)
  refine KJ_loop (fun i : {i : List UInt8 × Nat × Nat // VuI [] x i} => [(0, .int .u64 (i.1.2.1 : Nat)), (3, strV i.1.1)])
    (fun _ => [] ++ R) (fun i => i.1.2.2) ⟨([], x, 9), VuI.start [] hx⟩ xB (xN) (fun ⟨(l, y, f), hi⟩ => ?_)
  dsimp only at hi ⊢
  have hlen := hi.len
  have hv := vu_len x
  have hyx := hi.2.2.1
  dsimp only [List.length_nil] at hlen hyx
  have bl : l.length + ([UInt8.ofNat y] : List UInt8).length ≤ 9223372036854775807 := by simp; omega
  by_cases hlt : y < 128
  · have ql : decide ((127 : Int) < (y : Nat)) = false := decide_eq_false (by omega)
    have w1 : IntKind.u8.wrap ((y : Nat) : Int) = ((UInt8.ofNat y).toNat : Int) := u8_of y
    have hlast := hi.last hlt
    rw [List.nil_append] at hlast
    repeat' (first 
    | (refine is_bslice ?_; refine KJ_bslice1 rfl xF (by rfl) (by omega) rfl (fun gb => ?_))
    | (refine ek_conv ?_; first | refine EK_ev (Ev_convI_v rfl w1) ?_ | refine EK_ev (Ev_bytesStr0 (l := [UInt8.ofNat y]) rfl xS rfl) ?_)
    | (refine ek_add ?_; refine EK_ev (Ev_addS (a := l) (b := [UInt8.ofNat y]) rfl rfl bl) ?_)
    | (refine ek_gtr ?_; refine EK_ev (Ev_gtrI_q rfl rfl ql) ?_)
    | refine xst ?_
    | (refine xsa ?_; intro _)
    | (refine xsb ?_ ?_ <;> intro _ <;> first | (exfalso; omega) | skip)
    | refine xsc ?_
    | fail)
    all_goals rw [hlast]
    all_goals (exact xdn ())
  · have ql : decide ((127 : Int) < (y : Nat)) = true := decide_eq_true (by omega)
    obtain ⟨f', rfl, hnx⟩ := hi.next hlt
    have w1 : IntKind.u8.wrap ((y % 128 + 128 : Nat) : Int) = ((UInt8.ofNat (y % 128 + 128)).toNat : Int) := u8_of (y % 128 + 128)
    have w3 : IntKind.u64.wrap (((y % 128 : Nat) : Int) + 128) = ((y % 128 + 128 : Nat) : Int) := by rw [show ((y % 128 : Nat) : Int) + 128 = ((y % 128 + 128 : Nat) : Int) by omega]; exact u64_wrap _ (by omega)
    have w4 : IntKind.u64.wrap ((y / 128 : Nat) : Int) = ((y / 128 : Nat) : Int) := u64_wrap _ (by omega)
    have m1 : ((y : Nat) : Int) % 128 = ((y % 128 : Nat) : Int) := by omega
    have m2 : ((y : Nat) : Int) / 128 = ((y / 128 : Nat) : Int) := by omega
    have bl2 : l.length + ([UInt8.ofNat (y % 128 + 128)] : List UInt8).length ≤ 9223372036854775807 := by simp; omega
    repeat' (first 
    | (refine is_bslice ?_; refine KJ_bslice1 rfl xF (by rfl) (by omega) rfl (fun gb => ?_))
    | (refine ek_conv ?_; first | refine EK_ev (Ev_convI_v rfl w1) ?_ | refine EK_ev (Ev_bytesStr0 (l := [UInt8.ofNat (y % 128 + 128)]) rfl xS rfl) ?_)
    | (refine ek_add ?_; first | refine EK_ev (Ev_add_w rfl rfl w3) ?_ | refine EK_ev (Ev_addS (a := l) (b := [UInt8.ofNat (y % 128 + 128)]) rfl rfl bl2) ?_)
    | (refine ek_quo ?_; refine EK_ev (Ev_quo_u rfl rfl (by omega) m2 w4) ?_)
    | (refine ek_rem ?_; refine EK_ev (Ev_rem_w rfl rfl (by omega) m1) ?_)
    | (refine ek_gtr ?_; refine EK_ev (Ev_gtrI_q rfl rfl ql) ?_)
    | refine xst ?_
    | (refine xsa ?_; intro _)
    | (refine xsb ?_ ?_ <;> intro _ <;> first | (exfalso; omega) | skip)
    | refine xsc ?_
    | fail)
    all_goals refine KJ_again ⟨(l ++ [UInt8.ofNat (y % 128 + 128)], y / 128, f'), hnx⟩ (by show f' < f' + 1; omega) xB (xN)
theorem dint_ct (x : Int) (h : -9223372036854775808 ≤ x ∧ x ≤ 9223372036854775807) : Ct Tryz.prog W 71 [.int .i64 x] [] (fun _ : Unit => strV (vu (zig x))) (fun _ => []) := by
  have cu := duint_ct (W := W) (zig x) (zig_lt64 x h)
  by_cases hx : x < 0
  · have ql : decide (x < 0) = true := decide_eq_true hx
    obtain ⟨m, hm⟩ : ∃ m : Nat, (m : Int) = -(x + 1) := ⟨(-(x + 1)).toNat, by omega⟩
    have hz : ((zig x : Nat) : Int) = 2 * m + 1 := by unfold zig; rw [if_pos hx]; omega
    have w1 : IntKind.i64.wrap (0 - (x + 1)) = (m : Int) := by rw [i64_wrap _ (by omega)]; omega
    have w2 : IntKind.u64.wrap (m : Int) = ((m : Nat) : Int) := u64_wrap _ (by omega)
    have w3 : IntKind.u64.wrap (2 * (m : Int)) = ((2 * m : Nat) : Int) := by rw [show (2 * (m : Int)) = ((2 * m : Nat) : Int) by omega]; exact u64_wrap _ (by omega)
    have w4 : IntKind.u64.wrap (((2 * m : Nat) : Int) + 1) = ((zig x : Nat) : Int) := by rw [show ((2 * m : Nat) : Int) + 1 = ((zig x : Nat) : Int) by omega]; exact u64_wrap _ (zig_lt64 x h)
    refine Ct.enter Tryz.func71 rfl Tryz.ntmps71 (by simp) (fun R => ?_)
    repeat' (first 
    | (refine is_call ?_; refine KJ_call xE cu xP rfl (fun _ => ?_))
    | (refine ek_un ?_; refine EK_ev (Ev_neg_v rfl w1) ?_)
    | (refine ek_conv ?_; refine EK_ev (Ev_convI_v rfl w2) ?_)
    | (refine ek_add ?_; first | refine EK_ev (Ev_addI_v (r := x + 1) rfl rfl rfl (by omega)) ?_ | refine EK_ev (Ev_add_w rfl rfl w4) ?_)
    | (refine ek_mul ?_; refine EK_ev (Ev_mul_d rfl rfl w3) ?_)
    | (refine ek_lss ?_; refine EK_ev (Ev_lssI_q rfl rfl ql) ?_)
    | refine xst ?_
    | (refine xsa ?_; intro _)
    | (refine xsb ?_ ?_ <;> intro _ <;> first | (exfalso; omega) | skip)
    | refine xsc ?_
    | fail)
    all_goals (exact xdn ())
  · have ql : decide (x < 0) = false := decide_eq_false hx
    obtain ⟨m, hm⟩ : ∃ m : Nat, (m : Int) = x := ⟨x.toNat, by omega⟩
    have hz : ((zig x : Nat) : Int) = 2 * m := by unfold zig; rw [if_neg hx]; omega
    have w2 : IntKind.u64.wrap x = ((m : Nat) : Int) := by rw [← hm]; exact u64_wrap _ (by omega)
    have w3 : IntKind.u64.wrap (2 * (m : Int)) = ((zig x : Nat) : Int) := by rw [show (2 * (m : Int)) = ((zig x : Nat) : Int) by omega]; exact u64_wrap _ (zig_lt64 x h)
    refine Ct.enter Tryz.func71 rfl Tryz.ntmps71 (by simp) (fun R => ?_)
    repeat' (first 
    | (refine is_call ?_; refine KJ_call xE cu xP rfl (fun _ => ?_))
    | (refine ek_conv ?_; refine EK_ev (Ev_convI_v rfl w2) ?_)
    | (refine ek_mul ?_; refine EK_ev (Ev_mul_d rfl rfl w3) ?_)
    | (refine ek_lss ?_; refine EK_ev (Ev_lssI_q rfl rfl ql) ?_)
    | refine xst ?_
    | (refine xsa ?_; intro _)
    | (refine xsb ?_ ?_ <;> intro _ <;> first | (exfalso; omega) | skip)
    | refine xsc ?_
    | fail)
    all_goals (exact xdn ())
theorem dtext_ct (s : List UInt8) (hs : s.length ≤ 2000000) : Ct Tryz.prog W 69 [strV s] [] (fun _ : Unit => strV (tx s)) (fun _ => []) := by
  have cu := duint_ct (W := W) s.length (by omega)
  have w2 : IntKind.u64.wrap ((s.length : Nat) : Int) = ((s.length : Nat) : Int) := u64_wrap _ (by omega)
  have bl : (vu s.length).length + s.length ≤ 9223372036854775807 := by have := vu_len s.length; omega
  refine Ct.enter Tryz.func69 rfl Tryz.ntmps69 (by simp) (fun R => ?_)
  repeat' (first 
    | (refine is_call ?_; refine KJ_call xE cu xP rfl (fun _ => ?_))
    | (refine ek_conv ?_; refine EK_ev (Ev_convI_v rfl w2) ?_)
    | (refine ek_add ?_; refine EK_ev (Ev_addS (a := vu s.length) (b := s) rfl rfl bl) ?_)
    | refine xst ?_
    | (refine xsa ?_; intro _)
    | (refine xsb ?_ ?_ <;> intro _ <;> first | (exfalso; omega) | skip)
    | refine xsc ?_
    | fail)
  all_goals (exact xdn ())
end
end Go.Proofs.YtdbfemdpdpaffaaGreatDoor
/-
  The document's answers of chapters 3 and 5: bytes, the rest by 97, check digits. (Printed by genpod4.py.)
-/
namespace Go.Proofs.YtdbfemdpdpaffaaGreatDoor
open Go Go.RowKit
section
variable {W : World}
theorem dcap_ct (b : UInt8) : Ct Tryz.prog W 93 [bv b] [] (fun _ : Unit => .bool (capB b)) (fun _ => []) := by
  unfold capB
  cases h1 : decide (65 ≤ b.toNat) <;> cases h2 : decide (b.toNat ≤ 90)
  all_goals have q1 := (range_ct 65 90 b).1.trans h1
  all_goals have q2 := (range_ct 65 90 b).2.trans h2
  all_goals refine Ct.enter Tryz.func93 rfl Tryz.ntmps93 (by simp) (fun R => ?_)
  all_goals repeat' (first 
    | (refine ek_leq ?_; refine EK_ev (Ev_leqI_q rfl rfl q2) ?_)
    | (refine ek_geq ?_; refine EK_ev (Ev_geqI_q rfl rfl q1) ?_)
    | refine xst ?_
    | (refine xsa ?_; intro _)
    | (refine xsb ?_ ?_ <;> intro _ <;> first | (exfalso; omega) | skip)
    | refine xsc ?_
    | fail)
  all_goals (exact xdn ())
theorem ddig_ct (b : UInt8) : Ct Tryz.prog W 94 [bv b] [] (fun _ : Unit => .bool (digB b)) (fun _ => []) := by
  unfold digB
  cases h1 : decide (48 ≤ b.toNat) <;> cases h2 : decide (b.toNat ≤ 57)
  all_goals have q1 := (range_ct 48 57 b).1.trans h1
  all_goals have q2 := (range_ct 48 57 b).2.trans h2
  all_goals refine Ct.enter Tryz.func94 rfl Tryz.ntmps94 (by simp) (fun R => ?_)
  all_goals repeat' (first 
    | (refine ek_leq ?_; refine EK_ev (Ev_leqI_q rfl rfl q2) ?_)
    | (refine ek_geq ?_; refine EK_ev (Ev_geqI_q rfl rfl q1) ?_)
    | refine xst ?_
    | (refine xsa ?_; intro _)
    | (refine xsb ?_ ?_ <;> intro _ <;> first | (exfalso; omega) | skip)
    | refine xsc ?_
    | fail)
  all_goals (exact xdn ())
set_option maxHeartbeats 1000000 in
theorem dall_cap (s : List UInt8) (hs : s.length ≤ 9223372036854775800) : Ct Tryz.prog W 95 [strV s, .bool true, .bool false] [] (fun _ : Unit => .bool (s.all capB)) (fun _ => []) := by
  refine Ct.enter Tryz.func95 rfl Tryz.ntmps95 (by simp) (fun R => ?_)
  repeat' (first 
    | refine xst ?_
    | (refine xsa ?_; intro _)
    | (refine xsb ?_ ?_ <;> intro _ <;> first | (exfalso; omega) | skip)
    | refine xsc ?_
    | fail)
  refine KJ_loop (fun i : {k : Nat // k ≤ s.length ∧ (s.take k).all capB = true} => [(0, strV s), (1, .bool true), (2, .bool false), (7, .int .i64 (i.1 : Nat))])
    (fun _ => [] ++ R) (fun i => s.length - i.1) ⟨0, by omega, rfl⟩ xB (xN) (fun ⟨k, hk, ha⟩ => ?_)
  dsimp only
  by_cases hlt : k < s.length
  · have ql : decide (((k : Nat) : Int) < ((s.length : Nat) : Int)) = true := decide_eq_true (by omega)
    obtain ⟨b, hb⟩ : ∃ b, s[k]? = some b := ⟨_, List.getElem?_eq_getElem hlt⟩
    have c1 := dcap_ct (W := W) b
    cases hc : capB b with
    | true =>
      rw [hc] at c1
      repeat' (first 
    | (refine is_call ?_; refine KJ_call xE c1 xP rfl (fun _ => ?_))
    | (refine ek_index ?_; refine EK_ev (Ev_indexStr rfl rfl (by omega) hb) ?_)
    | (refine ek_add ?_; refine EK_ev (Ev_addI_v (r := ((k + 1 : Nat) : Int)) rfl rfl (by omega) (by omega)) ?_)
    | (refine ek_lss ?_; refine EK_ev (Ev_lssI_q rfl rfl ql) ?_)
    | refine xst ?_
    | (refine xsa ?_; intro _)
    | (refine xsb ?_ ?_ <;> intro _ <;> first | (exfalso; omega) | skip)
    | refine xsc ?_
    | fail)
      all_goals exact KJ_again ⟨k + 1, by omega, all_next hb ha hc⟩ (by show s.length - (k + 1) < s.length - k; omega) xB (xN)
    | false =>
      rw [hc] at c1
      rw [all_bad hb hc]
      repeat' (first 
    | (refine is_call ?_; refine KJ_call xE c1 xP rfl (fun _ => ?_))
    | (refine ek_index ?_; refine EK_ev (Ev_indexStr rfl rfl (by omega) hb) ?_)
    | (refine ek_lss ?_; refine EK_ev (Ev_lssI_q rfl rfl ql) ?_)
    | refine xst ?_
    | (refine xsa ?_; intro _)
    | (refine xsb ?_ ?_ <;> intro _ <;> first | (exfalso; omega) | skip)
    | refine xsc ?_
    | fail)
      all_goals (exact xdn ())
  · have ql : decide (((k : Nat) : Int) < ((s.length : Nat) : Int)) = false := decide_eq_false (by omega)
    have e : k = s.length := by omega
    subst e
    rw [List.take_length] at ha
    rw [ha]
    repeat' (first 
    | (refine ek_lss ?_; refine EK_ev (Ev_lssI_q rfl rfl ql) ?_)
    | refine xst ?_
    | (refine xsa ?_; intro _)
    | (refine xsb ?_ ?_ <;> intro _ <;> first | (exfalso; omega) | skip)
    | refine xsc ?_
    | fail)
    all_goals (exact xdn ())
set_option maxHeartbeats 1000000 in
theorem dall_dig (s : List UInt8) (hs : s.length ≤ 9223372036854775800) : Ct Tryz.prog W 95 [strV s, .bool false, .bool true] [] (fun _ : Unit => .bool (s.all digB)) (fun _ => []) := by
  refine Ct.enter Tryz.func95 rfl Tryz.ntmps95 (by simp) (fun R => ?_)
  repeat' (first 
    | refine xst ?_
    | (refine xsa ?_; intro _)
    | (refine xsb ?_ ?_ <;> intro _ <;> first | (exfalso; omega) | skip)
    | refine xsc ?_
    | fail)
  refine KJ_loop (fun i : {k : Nat // k ≤ s.length ∧ (s.take k).all digB = true} => [(0, strV s), (1, .bool false), (2, .bool true), (7, .int .i64 (i.1 : Nat))])
    (fun _ => [] ++ R) (fun i => s.length - i.1) ⟨0, by omega, rfl⟩ xB (xN) (fun ⟨k, hk, ha⟩ => ?_)
  dsimp only
  by_cases hlt : k < s.length
  · have ql : decide (((k : Nat) : Int) < ((s.length : Nat) : Int)) = true := decide_eq_true (by omega)
    obtain ⟨b, hb⟩ : ∃ b, s[k]? = some b := ⟨_, List.getElem?_eq_getElem hlt⟩
    have c2 := ddig_ct (W := W) b
    cases hd : digB b with
    | true =>
      rw [hd] at c2
      repeat' (first 
    | (refine is_call ?_; refine KJ_call xE c2 xP rfl (fun _ => ?_))
    | (refine ek_index ?_; refine EK_ev (Ev_indexStr rfl rfl (by omega) hb) ?_)
    | (refine ek_add ?_; refine EK_ev (Ev_addI_v (r := ((k + 1 : Nat) : Int)) rfl rfl (by omega) (by omega)) ?_)
    | (refine ek_lss ?_; refine EK_ev (Ev_lssI_q rfl rfl ql) ?_)
    | refine xst ?_
    | (refine xsa ?_; intro _)
    | (refine xsb ?_ ?_ <;> intro _ <;> first | (exfalso; omega) | skip)
    | refine xsc ?_
    | fail)
      all_goals exact KJ_again ⟨k + 1, by omega, all_next hb ha hd⟩ (by show s.length - (k + 1) < s.length - k; omega) xB (xN)
    | false =>
      rw [hd] at c2
      rw [all_bad hb hd]
      repeat' (first 
    | (refine is_call ?_; refine KJ_call xE c2 xP rfl (fun _ => ?_))
    | (refine ek_index ?_; refine EK_ev (Ev_indexStr rfl rfl (by omega) hb) ?_)
    | (refine ek_lss ?_; refine EK_ev (Ev_lssI_q rfl rfl ql) ?_)
    | refine xst ?_
    | (refine xsa ?_; intro _)
    | (refine xsb ?_ ?_ <;> intro _ <;> first | (exfalso; omega) | skip)
    | refine xsc ?_
    | fail)
      all_goals (exact xdn ())
  · have ql : decide (((k : Nat) : Int) < ((s.length : Nat) : Int)) = false := decide_eq_false (by omega)
    have e : k = s.length := by omega
    subst e
    rw [List.take_length] at ha
    rw [ha]
    repeat' (first 
    | (refine ek_lss ?_; refine EK_ev (Ev_lssI_q rfl rfl ql) ?_)
    | refine xst ?_
    | (refine xsa ?_; intro _)
    | (refine xsb ?_ ?_ <;> intro _ <;> first | (exfalso; omega) | skip)
    | refine xsc ?_
    | fail)
    all_goals (exact xdn ())
set_option maxHeartbeats 1000000 in
theorem dall_pln (s : List UInt8) (hs : s.length ≤ 9223372036854775800) : Ct Tryz.prog W 95 [strV s, .bool true, .bool true] [] (fun _ : Unit => .bool (s.all (fun b => capB b || digB b))) (fun _ => []) := by
  refine Ct.enter Tryz.func95 rfl Tryz.ntmps95 (by simp) (fun R => ?_)
  repeat' (first 
    | refine xst ?_
    | (refine xsa ?_; intro _)
    | (refine xsb ?_ ?_ <;> intro _ <;> first | (exfalso; omega) | skip)
    | refine xsc ?_
    | fail)
  refine KJ_loop (fun i : {k : Nat // k ≤ s.length ∧ (s.take k).all (fun b => capB b || digB b) = true} => [(0, strV s), (1, .bool true), (2, .bool true), (7, .int .i64 (i.1 : Nat))])
    (fun _ => [] ++ R) (fun i => s.length - i.1) ⟨0, by omega, rfl⟩ xB (xN) (fun ⟨k, hk, ha⟩ => ?_)
  dsimp only
  by_cases hlt : k < s.length
  · have ql : decide (((k : Nat) : Int) < ((s.length : Nat) : Int)) = true := decide_eq_true (by omega)
    obtain ⟨b, hb⟩ : ∃ b, s[k]? = some b := ⟨_, List.getElem?_eq_getElem hlt⟩
    have c1 := dcap_ct (W := W) b
    have c2 := ddig_ct (W := W) b
    cases hc : capB b with
    | true =>
      rw [hc] at c1
      have hp : (fun b => capB b || digB b) b = true := by show (capB b || digB b) = true; rw [hc, Bool.true_or]
      repeat' (first 
    | (refine is_call ?_; refine KJ_call xE c1 xP rfl (fun _ => ?_))
    | (refine ek_index ?_; refine EK_ev (Ev_indexStr rfl rfl (by omega) hb) ?_)
    | (refine ek_add ?_; refine EK_ev (Ev_addI_v (r := ((k + 1 : Nat) : Int)) rfl rfl (by omega) (by omega)) ?_)
    | (refine ek_lss ?_; refine EK_ev (Ev_lssI_q rfl rfl ql) ?_)
    | refine xst ?_
    | (refine xsa ?_; intro _)
    | (refine xsb ?_ ?_ <;> intro _ <;> first | (exfalso; omega) | skip)
    | refine xsc ?_
    | fail)
      all_goals exact KJ_again ⟨k + 1, by omega, all_next hb ha hp⟩ (by show s.length - (k + 1) < s.length - k; omega) xB (xN)
    | false =>
      cases hd : digB b with
      | true =>
        rw [hc] at c1
        rw [hd] at c2
        have hp : (fun b => capB b || digB b) b = true := by show (capB b || digB b) = true; rw [hc, hd]; rfl
        repeat' (first 
    | (refine is_call ?_; first | (refine KJ_call xE c2 xP rfl (fun _ => ?_)) | (refine KJ_call xE c1 xP rfl (fun _ => ?_)))
    | (refine ek_index ?_; refine EK_ev (Ev_indexStr rfl rfl (by omega) hb) ?_)
    | (refine ek_add ?_; refine EK_ev (Ev_addI_v (r := ((k + 1 : Nat) : Int)) rfl rfl (by omega) (by omega)) ?_)
    | (refine ek_lss ?_; refine EK_ev (Ev_lssI_q rfl rfl ql) ?_)
    | refine xst ?_
    | (refine xsa ?_; intro _)
    | (refine xsb ?_ ?_ <;> intro _ <;> first | (exfalso; omega) | skip)
    | refine xsc ?_
    | fail)
        all_goals exact KJ_again ⟨k + 1, by omega, all_next hb ha hp⟩ (by show s.length - (k + 1) < s.length - k; omega) xB (xN)
      | false =>
        rw [hc] at c1
        rw [hd] at c2
        have hp : (fun b => capB b || digB b) b = false := by show (capB b || digB b) = false; rw [hc, hd]; rfl
        rw [all_bad hb hp]
        repeat' (first 
    | (refine is_call ?_; first | (refine KJ_call xE c2 xP rfl (fun _ => ?_)) | (refine KJ_call xE c1 xP rfl (fun _ => ?_)))
    | (refine ek_index ?_; refine EK_ev (Ev_indexStr rfl rfl (by omega) hb) ?_)
    | (refine ek_lss ?_; refine EK_ev (Ev_lssI_q rfl rfl ql) ?_)
    | refine xst ?_
    | (refine xsa ?_; intro _)
    | (refine xsb ?_ ?_ <;> intro _ <;> first | (exfalso; omega) | skip)
    | refine xsc ?_
    | fail)
        all_goals (exact xdn ())
  · have ql : decide (((k : Nat) : Int) < ((s.length : Nat) : Int)) = false := decide_eq_false (by omega)
    have e : k = s.length := by omega
    subst e
    rw [List.take_length] at ha
    rw [ha]
    repeat' (first 
    | (refine ek_lss ?_; refine EK_ev (Ev_lssI_q rfl rfl ql) ?_)
    | refine xst ?_
    | (refine xsa ?_; intro _)
    | (refine xsb ?_ ?_ <;> intro _ <;> first | (exfalso; omega) | skip)
    | refine xsc ?_
    | fail)
    all_goals (exact xdn ())
def valD (b : UInt8) : Int := if digB b = true then ((b.toNat - 48 : Nat) : Int) else if capB b = true then ((b.toNat - 65 + 10 : Nat) : Int) else -1
theorem dvalue_ct (b : UInt8) : Ct Tryz.prog W 139 [bv b] [] (fun _ : Unit => .int .i64 (valD b)) (fun _ => []) := by
  have hb8 : b.toNat < 256 := b.toNat_lt
  have w1 : IntKind.i64.wrap ((b.toNat : Nat) : Int) = ((b.toNat : Nat) : Int) := i64_wrap _ (by omega)
  unfold valD digB capB
  cases h1 : decide (48 ≤ b.toNat) <;> cases h2 : decide (b.toNat ≤ 57) <;> cases h3 : decide (65 ≤ b.toNat) <;> cases h4 : decide (b.toNat ≤ 90)
  all_goals have q1 := (range_ct 48 57 b).1.trans h1
  all_goals have q2 := (range_ct 48 57 b).2.trans h2
  all_goals have q3 := (range_ct 65 90 b).1.trans h3
  all_goals have q4 := (range_ct 65 90 b).2.trans h4
  all_goals have e1 : decide (48 ≤ b.toNat) = true → ((b.toNat : Nat) : Int) - 48 = ((b.toNat - 48 : Nat) : Int) := fun q => by have := of_decide_eq_true q; omega
  all_goals have e2 : decide (65 ≤ b.toNat) = true → ((b.toNat : Nat) : Int) - 65 = ((b.toNat - 65 : Nat) : Int) := fun q => by have := of_decide_eq_true q; omega
  all_goals refine Ct.enter Tryz.func139 rfl Tryz.ntmps139 (by simp) (fun R => ?_)
  all_goals repeat' (first 
    | (refine ek_conv ?_; refine EK_ev (Ev_convI_v rfl w1) ?_)
    | (refine ek_add ?_; refine EK_ev (Ev_addI_v (r := ((b.toNat - 65 + 10 : Nat) : Int)) rfl rfl (by omega) (by omega)) ?_)
    | (refine ek_sub ?_; first | refine EK_ev (Ev_subI_v rfl rfl (e2 h3) (by omega)) ?_ | refine EK_ev (Ev_subI_v rfl rfl (e1 h1) (by omega)) ?_)
    | (refine ek_leq ?_; first | refine EK_ev (Ev_leqI_q rfl rfl q4) ?_ | refine EK_ev (Ev_leqI_q rfl rfl q2) ?_)
    | (refine ek_geq ?_; first | refine EK_ev (Ev_geqI_q rfl rfl q3) ?_ | refine EK_ev (Ev_geqI_q rfl rfl q1) ?_)
    | refine xst ?_
    | (refine xsa ?_; intro _)
    | (refine xsb ?_ ?_ <;> intro _ <;> first | (exfalso; omega) | skip)
    | refine xsc ?_
    | fail)
  all_goals (exact xdn ())
theorem val_dig {b : UInt8} (h : digB b = true) : valD b = ((b.toNat - 48 : Nat) : Int) ∧ b.toNat - 48 ≤ 9 := by
  unfold valD
  rw [if_pos h]
  refine ⟨rfl, ?_⟩
  unfold digB at h
  simp only [Bool.and_eq_true, decide_eq_true_eq] at h
  omega
theorem val_cap {b : UInt8} (h : digB b = false) (h2 : capB b = true) : valD b = ((b.toNat - 65 + 10 : Nat) : Int) ∧ b.toNat - 65 + 10 < 40 := by
  unfold valD
  rw [if_neg (by rw [h]; decide), if_pos h2]
  refine ⟨rfl, ?_⟩
  unfold capB at h2
  simp only [Bool.and_eq_true, decide_eq_true_eq] at h2
  omega
theorem val_bad {b : UInt8} (h : digB b = false) (h2 : capB b = false) : valD b = -1 := by
  unfold valD
  rw [if_neg (by rw [h]; decide), if_neg (by rw [h2]; decide)]
set_option maxHeartbeats 4000000 in
theorem drest_ct (s : List UInt8) (hs : s.length ≤ 9223372036854775800) (hne : s ≠ []) (q : Option Nat) (hq : restG s 0 = q) :
    Ct Tryz.prog W 118 [strV s] [] (fun _ : Unit => .tuple #[.int .i64 (q.getD 0 : Nat), .int .i64 (rstE q : Nat)]) (fun _ => []) := by
  have hlen : s.length ≠ 0 := fun e => hne (List.length_eq_zero_iff.1 e)
  have q0 : decide (((s.length : Nat) : Int) = 0) = false := decide_eq_false (by omega)
  refine Ct.enter Tryz.func118 rfl Tryz.ntmps118 (by simp) (fun R => ?_)
  repeat' (first 
    | (refine ek_eql ?_; refine EK_ev (Ev_eqlI_q rfl rfl q0) ?_)
    | refine xst ?_
    | (refine xsa ?_; intro _)
    | (refine xsb ?_ ?_ <;> intro _ <;> first | (exfalso; omega) | skip)
    | refine xsc ?_
    | fail)
  refine KJ_loop (fun i : {x : Nat × Nat // x.1 ≤ s.length ∧ x.2 < 97 ∧ restG (s.drop x.1) x.2 = q} => [(0, strV s), (4, .int .i64 (i.1.2 : Nat)), (5, .int .i64 (i.1.1 : Nat))])
    (fun _ => [] ++ R) (fun i => s.length - i.1.1) ⟨(0, 0), by omega, by omega, hq⟩ xB (xN) (fun ⟨(k, r), hk, hr, ha⟩ => ?_)
  dsimp only at hk hr ha ⊢
  by_cases hlt : k < s.length
  · have ql : decide (((k : Nat) : Int) < ((s.length : Nat) : Int)) = true := decide_eq_true (by omega)
    obtain ⟨b, hb⟩ : ∃ b, s[k]? = some b := ⟨_, List.getElem?_eq_getElem hlt⟩
    rw [drop_get hb] at ha
    have cv := dvalue_ct (W := W) b
    cases h1 : digB b with
    | true =>
      obtain ⟨e1, e2⟩ := val_dig h1
      obtain ⟨v, hv⟩ : ∃ v, v = b.toNat - 48 := ⟨_, rfl⟩
      rw [e1, ← hv] at cv
      rw [restG_dig h1, ← hv] at ha
      rw [← hv] at e2
      clear e1 hv
      have g1 : decide (((v : Nat) : Int) < 0) = false := decide_eq_false (by omega)
      have g2 : decide ((9 : Int) < ((v : Nat) : Int)) = false := decide_eq_false (by omega)
      have m1 : ((r : Nat) : Int) * 10 + ((v : Nat) : Int) = ((10 * r + v : Nat) : Int) := by omega
      have m2 : ((10 * r + v : Nat) : Int) % 97 = (((10 * r + v) % 97 : Nat) : Int) := by omega
      repeat' (first 
    | (refine is_call ?_; refine KJ_call xE cv xP rfl (fun _ => ?_))
    | (refine ek_index ?_; refine EK_ev (Ev_indexStr rfl rfl (by omega) hb) ?_)
    | (refine ek_add ?_; first | refine EK_ev (Ev_addI_v rfl rfl m1 (by omega)) ?_ | refine EK_ev (Ev_addI_v (r := ((k + 1 : Nat) : Int)) rfl rfl (by omega) (by omega)) ?_)
    | (refine ek_mul ?_; refine EK_ev (Ev_mulI_v rfl rfl rfl (by omega)) ?_)
    | (refine ek_rem ?_; first | refine EK_ev (Ev_rem_w rfl rfl (by omega) m2) ?_ | refine EK_ev (Ev_rem_w (r := ((v : Nat) : Int)) rfl rfl (by omega) (by omega)) ?_)
    | (refine ek_lss ?_; first | refine EK_ev (Ev_lssI_q rfl rfl g1) ?_ | refine EK_ev (Ev_lssI_q rfl rfl ql) ?_)
    | (refine ek_gtr ?_; refine EK_ev (Ev_gtrI_q rfl rfl g2) ?_)
    | refine xst ?_
    | (refine xsa ?_; intro _)
    | (refine xsb ?_ ?_ <;> intro _ <;> first | (exfalso; omega) | skip)
    | refine xsc ?_
    | fail)
      all_goals exact KJ_again ⟨(k + 1, (10 * r + v) % 97), by show k + 1 ≤ s.length; omega, Nat.mod_lt _ (by omega), ha⟩ (by show s.length - (k + 1) < s.length - k; omega) xB (xN)
    | false =>
      cases h2 : capB b with
      | true =>
        obtain ⟨e1, e2⟩ := val_cap h1 h2
        rw [restG_cap h1 h2, Nat.add_assoc] at ha
        obtain ⟨v, hv⟩ : ∃ v, v = b.toNat - 65 + 10 := ⟨_, rfl⟩
        have e3 : 9 < v := by omega
        rw [e1, ← hv] at cv
        rw [← hv] at ha e2
        clear e1 hv
        have g1 : decide (((v : Nat) : Int) < 0) = false := decide_eq_false (by omega)
        have g2 : decide ((9 : Int) < ((v : Nat) : Int)) = true := decide_eq_true (by omega)
        obtain ⟨r1, hr1⟩ : ∃ r1, r1 = (r * 10 + v / 10) % 97 := ⟨_, rfl⟩
        have hr2 : (100 * r + v) % 97 = (r1 * 10 + v % 10) % 97 := by rw [hr1]; omega
        have hr97 : r1 < 97 := by rw [hr1]; exact Nat.mod_lt _ (by omega)
        have m1 : ((r : Nat) : Int) * 10 + ((v / 10 : Nat) : Int) = ((r * 10 + v / 10 : Nat) : Int) := by omega
        have m2 : ((r * 10 + v / 10 : Nat) : Int) % 97 = ((r1 : Nat) : Int) := by rw [hr1]; omega
        have m3 : ((r1 : Nat) : Int) * 10 + ((v % 10 : Nat) : Int) = ((r1 * 10 + v % 10 : Nat) : Int) := by omega
        have m4 : ((r1 * 10 + v % 10 : Nat) : Int) % 97 = (((r1 * 10 + v % 10) % 97 : Nat) : Int) := by omega
        rw [hr2] at ha
        repeat' (first 
    | (refine is_call ?_; refine KJ_call xE cv xP rfl (fun _ => ?_))
    | (refine ek_index ?_; refine EK_ev (Ev_indexStr rfl rfl (by omega) hb) ?_)
    | (refine ek_add ?_; first | refine EK_ev (Ev_addI_v rfl rfl m3 (by omega)) ?_ | refine EK_ev (Ev_addI_v rfl rfl m1 (by omega)) ?_ | refine EK_ev (Ev_addI_v (r := ((k + 1 : Nat) : Int)) rfl rfl (by omega) (by omega)) ?_)
    | (refine ek_mul ?_; refine EK_ev (Ev_mulI_v rfl rfl rfl (by omega)) ?_)
    | (refine ek_quo ?_; refine EK_ev (Ev_quo_w (r := ((v / 10 : Nat) : Int)) rfl rfl (by omega) (by omega)) ?_)
    | (refine ek_rem ?_; first | refine EK_ev (Ev_rem_w rfl rfl (by omega) m4) ?_ | refine EK_ev (Ev_rem_w rfl rfl (by omega) m2) ?_ | refine EK_ev (Ev_rem_w (r := ((v % 10 : Nat) : Int)) rfl rfl (by omega) (by omega)) ?_)
    | (refine ek_lss ?_; first | refine EK_ev (Ev_lssI_q rfl rfl g1) ?_ | refine EK_ev (Ev_lssI_q rfl rfl ql) ?_)
    | (refine ek_gtr ?_; refine EK_ev (Ev_gtrI_q rfl rfl g2) ?_)
    | refine xst ?_
    | (refine xsa ?_; intro _)
    | (refine xsb ?_ ?_ <;> intro _ <;> first | (exfalso; omega) | skip)
    | refine xsc ?_
    | fail)
        all_goals exact KJ_again ⟨(k + 1, (r1 * 10 + v % 10) % 97), by show k + 1 ≤ s.length; omega, Nat.mod_lt _ (by omega), ha⟩ (by show s.length - (k + 1) < s.length - k; omega) xB (xN)
      | false =>
        rw [restG_bad h1 h2] at ha
        subst ha
        rw [val_bad h1 h2] at cv
        have g1 : decide ((-1 : Int) < 0) = true := rfl
        repeat' (first 
    | (refine is_call ?_; refine KJ_call xE cv xP rfl (fun _ => ?_))
    | (refine ek_index ?_; refine EK_ev (Ev_indexStr rfl rfl (by omega) hb) ?_)
    | (refine ek_lss ?_; first | refine EK_ev (Ev_lssI_q rfl rfl g1) ?_ | refine EK_ev (Ev_lssI_q rfl rfl ql) ?_)
    | refine xst ?_
    | (refine xsa ?_; intro _)
    | (refine xsb ?_ ?_ <;> intro _ <;> first | (exfalso; omega) | skip)
    | refine xsc ?_
    | fail)
        all_goals (exact xdn ())
  · have ql : decide (((k : Nat) : Int) < ((s.length : Nat) : Int)) = false := decide_eq_false (by omega)
    have e : k = s.length := by omega
    subst e
    rw [List.drop_length] at ha
    have ha : some r = q := ha
    subst ha
    repeat' (first 
    | (refine ek_lss ?_; refine EK_ev (Ev_lssI_q rfl rfl ql) ?_)
    | refine xst ?_
    | (refine xsa ?_; intro _)
    | (refine xsb ?_ ?_ <;> intro _ <;> first | (exfalso; omega) | skip)
    | refine xsc ?_
    | fail)
    all_goals (exact xdn ())
set_option maxHeartbeats 2000000 in
theorem ddigits_ct (s : List UInt8) (hs : s.length ≤ 2000000) (hne : s ≠ []) (hall : (s.all fun b => digB b || capB b) = true) (r : Nat) (hr : restG (s ++ [48, 48]) 0 = some r) :
    Ct Tryz.prog W 96 [strV s] [] (fun _ : Unit => .tuple #[strV (dig2 r), .int .i64 0]) (fun _ => []) := by
  obtain ⟨r0, hr0⟩ := restG_some hall 0
  have hr97 := restG_lt _ (by omega) hr
  have c1 : Ct Tryz.prog W 118 [strV s] [] (fun _ : Unit => .tuple #[.int .i64 (r0 : Nat), .int .i64 0]) (fun _ => []) := drest_ct (W := W) s (by omega) hne _ hr0
  have c2 : Ct Tryz.prog W 118 [strV (s ++ [48, 48])] [] (fun _ : Unit => .tuple #[.int .i64 (r : Nat), .int .i64 0]) (fun _ => []) := drest_ct (W := W) (s ++ [48, 48]) (by rw [List.length_append]; simp; omega) (by simp) _ hr
  have w1 : IntKind.u8.wrap (48 + (98 - ((r : Nat) : Int)) / 10) = ((UInt8.ofNat (48 + (98 - r) / 10)).toNat : Int) := by
    rw [← u8_of]; congr 1; omega
  have w2 : IntKind.u8.wrap (48 + (98 - ((r : Nat) : Int)) % 10) = ((UInt8.ofNat (48 + (98 - r) % 10)).toNat : Int) := by
    rw [← u8_of]; congr 1; omega
  have g0 : decide ((0 : Int) ≠ 0) = false := rfl
  refine Ct.enter Tryz.func96 rfl Tryz.ntmps96 (by simp) (fun R => ?_)
  repeat' (first 
    | (refine is_call ?_; first | (refine KJ_call xE c2 xP rfl (fun _ => ?_)) | (refine KJ_call xE c1 xP rfl (fun _ => ?_)))
    | (refine is_bslice ?_; refine KJ_bsliceN (len := 2) (places := [(0, 1), (1, 1)]) (base := [.int .u8 0, .int .u8 0]) xV (by rfl) (by rfl) xW (by omega) rfl (fun gb => ?_))
    | (refine ek_conv ?_; first | refine EK_ev (Ev_convI_v rfl w2) ?_ | refine EK_ev (Ev_convI_v rfl w1) ?_ | refine EK_ev (Ev_bytesStr0 (l := dig2 r) rfl xS rfl) ?_)
    | (refine ek_add ?_; refine EK_ev (Ev_addS (a := s) (b := [48, 48]) rfl rfl (by simp; omega)) ?_)
    | (refine ek_neq ?_; refine EK_ev (Ev_neqI_q rfl rfl g0) ?_)
    | refine xst ?_
    | (refine xsa ?_; intro _)
    | (refine xsb ?_ ?_ <;> intro _ <;> first | (exfalso; omega) | skip)
    | refine xsc ?_
    | fail)
  all_goals (exact xdn ())
end
end Go.Proofs.YtdbfemdpdpaffaaGreatDoor
/-
  The document's answers of chapters 4, 5 and 16: accounts, ids. (Printed by genpod5.py.)
-/
namespace Go.Proofs.YtdbfemdpdpaffaaGreatDoor
open Go Go.RowKit
section
variable {W : World}
set_option maxHeartbeats 4000000 in
theorem dcheck_ct (s : List UInt8) (hs : s.length ≤ 2000000) : Ct Tryz.prog W 60 [strV s] [] (fun _ : Unit => .int .i64 (accE s : Nat)) (fun _ => []) := by
  have sa : s.take (2 : Int).toNat = s.take 2 := rfl
  have sb : s.drop (4 : Int).toNat = s.drop 4 := rfl
  have sc : (s.take (4 : Int).toNat).drop (2 : Int).toNat = (s.drop 2).take 2 := by
    show (s.take 4).drop 2 = _
    rw [List.drop_take]
  have c1 := dall_cap (W := W) (s.take 2) (by rw [List.length_take]; omega)
  have c2 := dall_dig (W := W) ((s.drop 2).take 2) (by rw [List.length_take]; omega)
  have c3 := dall_pln (W := W) (s.drop 4) (by rw [List.length_drop]; omega)
  obtain ⟨r, hr⟩ : ∃ r, r = accE s := ⟨_, rfl⟩
  rw [← hr]
  unfold accE at hr
  have hform : formA s = (decide (5 ≤ s.length) && decide (s.length ≤ 34) && (s.take 2).all capB && ((s.drop 2).take 2).all digB && (s.drop 4).all fun b => capB b || digB b) := rfl
  have bad : formA s = false → r = 7 := fun q => by rw [hr, if_pos q]
  cases h1 : decide (5 ≤ s.length) with
  | false =>
    have hb := bad (by rw [hform, h1]; simp)
    subst hb
    have q1 : decide (((s.length : Nat) : Int) < 5) = true := decide_eq_true (by have := of_decide_eq_false h1; omega)
    refine Ct.enter Tryz.func60 rfl Tryz.ntmps60 (by simp) (fun R => ?_)
    repeat' (first 
    | (refine ek_lss ?_; refine EK_ev (Ev_lssI_q rfl rfl q1) ?_)
    | refine xst ?_
    | (refine xsa ?_; intro _)
    | (refine xsb ?_ ?_ <;> intro _ <;> first | (exfalso; omega) | skip)
    | refine xsc ?_
    | (refine KJ_draws (id := 3) (.op 0 (.op 1 (.op 2 (.op 3 (.op 4 (.ef 5 [] (.op 6 (.op 7 (.op 8 (.op 9 (.op 10 .nil))))))))))) (by kernel_rfl) (by kernel_rfl) ?_)
    | refine FW_alt ?_ ?_
    | refine FW_efn rfl rfl rfl rfl rfl ?_ ?_
    | refine KJ_flow ?_ ?_
    | exact Rech.nil
    | fail)
    all_goals (exact xdn ())
  | true =>
  have l1 := of_decide_eq_true h1
  have q1 : decide (((s.length : Nat) : Int) < 5) = false := decide_eq_false (by omega)
  cases h2 : decide (s.length ≤ 34) with
  | false =>
    have hb := bad (by rw [hform, h1, h2]; simp)
    subst hb
    have q2 : decide ((34 : Int) < ((s.length : Nat) : Int)) = true := decide_eq_true (by have := of_decide_eq_false h2; omega)
    refine Ct.enter Tryz.func60 rfl Tryz.ntmps60 (by simp) (fun R => ?_)
    repeat' (first 
    | (refine ek_lss ?_; refine EK_ev (Ev_lssI_q rfl rfl q1) ?_)
    | (refine ek_gtr ?_; refine EK_ev (Ev_gtrI_q rfl rfl q2) ?_)
    | refine xst ?_
    | (refine xsa ?_; intro _)
    | (refine xsb ?_ ?_ <;> intro _ <;> first | (exfalso; omega) | skip)
    | refine xsc ?_
    | (refine KJ_draws (id := 3) (.op 0 (.op 1 (.op 2 (.op 3 (.op 4 (.ef 5 [] (.op 6 (.op 7 (.op 8 (.op 9 (.op 10 .nil))))))))))) (by kernel_rfl) (by kernel_rfl) ?_)
    | refine FW_alt ?_ ?_
    | refine FW_efn rfl rfl rfl rfl rfl ?_ ?_
    | refine KJ_flow ?_ ?_
    | exact Rech.nil
    | fail)
    all_goals (exact xdn ())
  | true =>
  have l2 := of_decide_eq_true h2
  have q2 : decide ((34 : Int) < ((s.length : Nat) : Int)) = false := decide_eq_false (by omega)
  cases h3 : (s.take 2).all capB with
  | false =>
    have hb := bad (by rw [hform, h1, h2, h3]; simp)
    subst hb
    rw [h3] at c1
    refine Ct.enter Tryz.func60 rfl Tryz.ntmps60 (by simp) (fun R => ?_)
    repeat' (first 
    | (refine is_call ?_; refine KJ_call xE c1 xP rfl (fun _ => ?_))
    | (refine ek_slice ?_; first | refine EK_ev (Ev_sliceStr_t rfl rfl rfl (by omega) sc) ?_ | refine EK_ev (Ev_sliceFrom_p rfl rfl (by omega) sb) ?_ | refine EK_ev (Ev_sliceTo_p rfl rfl (by omega) sa) ?_)
    | (refine ek_lss ?_; refine EK_ev (Ev_lssI_q rfl rfl q1) ?_)
    | (refine ek_gtr ?_; refine EK_ev (Ev_gtrI_q rfl rfl q2) ?_)
    | refine xst ?_
    | (refine xsa ?_; intro _)
    | (refine xsb ?_ ?_ <;> intro _ <;> first | (exfalso; omega) | skip)
    | refine xsc ?_
    | (refine KJ_draws (id := 3) (.op 0 (.op 1 (.op 2 (.op 3 (.op 4 (.ef 5 [] (.op 6 (.op 7 (.op 8 (.op 9 (.op 10 .nil))))))))))) (by kernel_rfl) (by kernel_rfl) ?_)
    | refine FW_alt ?_ ?_
    | refine FW_efn rfl rfl rfl rfl rfl ?_ ?_
    | refine KJ_flow ?_ ?_
    | exact Rech.nil
    | fail)
    all_goals (exact xdn ())
  | true =>
  rw [h3] at c1
  cases h4 : ((s.drop 2).take 2).all digB with
  | false =>
    have hb := bad (by rw [hform, h1, h2, h3, h4]; simp)
    subst hb
    rw [h4] at c2
    refine Ct.enter Tryz.func60 rfl Tryz.ntmps60 (by simp) (fun R => ?_)
    repeat' (first 
    | (refine is_call ?_; first | (refine KJ_call xE c2 xP rfl (fun _ => ?_)) | (refine KJ_call xE c1 xP rfl (fun _ => ?_)))
    | (refine ek_slice ?_; first | refine EK_ev (Ev_sliceStr_t rfl rfl rfl (by omega) sc) ?_ | refine EK_ev (Ev_sliceFrom_p rfl rfl (by omega) sb) ?_ | refine EK_ev (Ev_sliceTo_p rfl rfl (by omega) sa) ?_)
    | (refine ek_lss ?_; refine EK_ev (Ev_lssI_q rfl rfl q1) ?_)
    | (refine ek_gtr ?_; refine EK_ev (Ev_gtrI_q rfl rfl q2) ?_)
    | refine xst ?_
    | (refine xsa ?_; intro _)
    | (refine xsb ?_ ?_ <;> intro _ <;> first | (exfalso; omega) | skip)
    | refine xsc ?_
    | (refine KJ_draws (id := 3) (.op 0 (.op 1 (.op 2 (.op 3 (.op 4 (.ef 5 [] (.op 6 (.op 7 (.op 8 (.op 9 (.op 10 .nil))))))))))) (by kernel_rfl) (by kernel_rfl) ?_)
    | refine FW_alt ?_ ?_
    | refine FW_efn rfl rfl rfl rfl rfl ?_ ?_
    | refine KJ_flow ?_ ?_
    | exact Rech.nil
    | fail)
    all_goals (exact xdn ())
  | true =>
  rw [h4] at c2
  cases h5 : (s.drop 4).all (fun b => capB b || digB b) with
  | false =>
    have hb := bad (by rw [hform, h1, h2, h3, h4, h5]; simp)
    subst hb
    rw [h5] at c3
    refine Ct.enter Tryz.func60 rfl Tryz.ntmps60 (by simp) (fun R => ?_)
    repeat' (first 
    | (refine is_call ?_; first | (refine KJ_call xE c3 xP rfl (fun _ => ?_)) | (refine KJ_call xE c2 xP rfl (fun _ => ?_)) | (refine KJ_call xE c1 xP rfl (fun _ => ?_)))
    | (refine ek_slice ?_; first | refine EK_ev (Ev_sliceStr_t rfl rfl rfl (by omega) sc) ?_ | refine EK_ev (Ev_sliceFrom_p rfl rfl (by omega) sb) ?_ | refine EK_ev (Ev_sliceTo_p rfl rfl (by omega) sa) ?_)
    | (refine ek_lss ?_; refine EK_ev (Ev_lssI_q rfl rfl q1) ?_)
    | (refine ek_gtr ?_; refine EK_ev (Ev_gtrI_q rfl rfl q2) ?_)
    | refine xst ?_
    | (refine xsa ?_; intro _)
    | (refine xsb ?_ ?_ <;> intro _ <;> first | (exfalso; omega) | skip)
    | refine xsc ?_
    | (refine KJ_draws (id := 3) (.op 0 (.op 1 (.op 2 (.op 3 (.op 4 (.ef 5 [] (.op 6 (.op 7 (.op 8 (.op 9 (.op 10 .nil))))))))))) (by kernel_rfl) (by kernel_rfl) ?_)
    | refine FW_alt ?_ ?_
    | refine FW_efn rfl rfl rfl rfl rfl ?_ ?_
    | refine KJ_flow ?_ ?_
    | exact Rech.nil
    | fail)
    all_goals (exact xdn ())
  | true =>
  rw [h5] at c3
  have hf : formA s = true := by rw [hform, h1, h2, h3, h4, h5]; rfl
  rw [if_neg (by rw [hf]; decide)] at hr
  obtain ⟨ga, gn⟩ := form_digits hf
  obtain ⟨x, hx, hd⟩ := digits2_some ga gn
  have cd := ddigits_ct (W := W) (s.drop 4 ++ s.take 2) (by rw [List.length_append, List.length_drop, List.length_take]; omega) gn ga x hx
  rw [hd] at hr
  have bl : (s.drop 4).length + (s.take 2).length ≤ 9223372036854775807 := by rw [List.length_drop, List.length_take]; omega
  by_cases he : dig2 x = (s.drop 2).take 2
  · have hr : r = 0 := by rw [hr, if_pos (by rw [he])]
    subst hr
    refine Ct.enter Tryz.func60 rfl Tryz.ntmps60 (by simp) (fun R => ?_)
    repeat' (first 
    | (refine is_call ?_; first | (refine KJ_call xE cd xP rfl (fun _ => ?_)) | (refine KJ_call xE c3 xP rfl (fun _ => ?_)) | (refine KJ_call xE c2 xP rfl (fun _ => ?_)) | (refine KJ_call xE c1 xP rfl (fun _ => ?_)))
    | (refine ek_slice ?_; first | refine EK_ev (Ev_sliceStr_t rfl rfl rfl (by omega) sc) ?_ | refine EK_ev (Ev_sliceFrom_p rfl rfl (by omega) sb) ?_ | refine EK_ev (Ev_sliceTo_p rfl rfl (by omega) sa) ?_)
    | (refine ek_add ?_; refine EK_ev (Ev_addS (a := s.drop 4) (b := s.take 2) rfl rfl bl) ?_)
    | (refine ek_neq ?_; refine EK_ev (Ev_neqS_f rfl rfl he) ?_)
    | (refine ek_lss ?_; refine EK_ev (Ev_lssI_q rfl rfl q1) ?_)
    | (refine ek_gtr ?_; refine EK_ev (Ev_gtrI_q rfl rfl q2) ?_)
    | refine xst ?_
    | (refine xsa ?_; intro _)
    | (refine xsb ?_ ?_ <;> intro _ <;> first | (exfalso; omega) | skip)
    | refine xsc ?_
    | (refine KJ_draws (id := 3) (.op 0 (.op 1 (.op 2 (.op 3 (.op 4 (.ef 5 [] (.op 6 (.op 7 (.op 8 (.op 9 (.op 10 .nil))))))))))) (by kernel_rfl) (by kernel_rfl) ?_)
    | refine FW_alt ?_ ?_
    | refine FW_efn rfl rfl rfl rfl rfl ?_ ?_
    | refine KJ_flow ?_ ?_
    | exact Rech.nil
    | fail)
    all_goals (exact xdn ())
  · have hr : r = 8 := by rw [hr, if_neg (fun q => he (Option.some.inj q))]
    subst hr
    refine Ct.enter Tryz.func60 rfl Tryz.ntmps60 (by simp) (fun R => ?_)
    repeat' (first 
    | (refine is_call ?_; first | (refine KJ_call xE cd xP rfl (fun _ => ?_)) | (refine KJ_call xE c3 xP rfl (fun _ => ?_)) | (refine KJ_call xE c2 xP rfl (fun _ => ?_)) | (refine KJ_call xE c1 xP rfl (fun _ => ?_)))
    | (refine ek_slice ?_; first | refine EK_ev (Ev_sliceStr_t rfl rfl rfl (by omega) sc) ?_ | refine EK_ev (Ev_sliceFrom_p rfl rfl (by omega) sb) ?_ | refine EK_ev (Ev_sliceTo_p rfl rfl (by omega) sa) ?_)
    | (refine ek_add ?_; refine EK_ev (Ev_addS (a := s.drop 4) (b := s.take 2) rfl rfl bl) ?_)
    | (refine ek_neq ?_; refine EK_ev (Ev_neqS_t rfl rfl he) ?_)
    | (refine ek_lss ?_; refine EK_ev (Ev_lssI_q rfl rfl q1) ?_)
    | (refine ek_gtr ?_; refine EK_ev (Ev_gtrI_q rfl rfl q2) ?_)
    | refine xst ?_
    | (refine xsa ?_; intro _)
    | (refine xsb ?_ ?_ <;> intro _ <;> first | (exfalso; omega) | skip)
    | refine xsc ?_
    | (refine KJ_draws (id := 3) (.op 0 (.op 1 (.op 2 (.op 3 (.op 4 (.ef 5 [] (.op 6 (.op 7 (.op 8 (.op 9 (.op 10 .nil))))))))))) (by kernel_rfl) (by kernel_rfl) ?_)
    | refine FW_alt ?_ ?_
    | refine FW_efn rfl rfl rfl rfl rfl ?_ ?_
    | refine KJ_flow ?_ ?_
    | exact Rech.nil
    | fail)
    all_goals (exact xdn ())
set_option maxHeartbeats 8000000 in
theorem ddId_ct (s : List UInt8) (hs : s.length ≤ 2000000) : Ct Tryz.prog W 59 [strV s] [] (fun _ : Unit => .int .i64 ((if idOk s = true then 0 else 26 : Nat) : Int)) (fun _ => []) := by
  cases h1 : decide (1 ≤ s.length) with
  | false =>
    have e : idOk s = false := by unfold idOk; rw [h1]; rfl
    rw [e, if_neg (by decide)]
    have q1 : decide (((s.length : Nat) : Int) < 1) = true := decide_eq_true (by have := of_decide_eq_false h1; omega)
    refine Ct.enter Tryz.func59 rfl Tryz.ntmps59 (by simp) (fun R => ?_)
    repeat' (first 
    | (refine ek_lss ?_; refine EK_ev (Ev_lssI_q rfl rfl q1) ?_)
    | refine xst ?_
    | (refine xsa ?_; intro _)
    | (refine xsb ?_ ?_ <;> intro _ <;> first | (exfalso; omega) | skip)
    | refine xsc ?_
    | fail)
    all_goals (exact xdn ())
  | true =>
  have l1 := of_decide_eq_true h1
  have q1 : decide (((s.length : Nat) : Int) < 1) = false := decide_eq_false (by omega)
  cases h2 : decide (s.length ≤ 32) with
  | false =>
    have e : idOk s = false := by unfold idOk; rw [h1, h2]; rfl
    rw [e, if_neg (by decide)]
    have q2 : decide ((32 : Int) < ((s.length : Nat) : Int)) = true := decide_eq_true (by have := of_decide_eq_false h2; omega)
    refine Ct.enter Tryz.func59 rfl Tryz.ntmps59 (by simp) (fun R => ?_)
    repeat' (first 
    | (refine ek_lss ?_; refine EK_ev (Ev_lssI_q rfl rfl q1) ?_)
    | (refine ek_gtr ?_; refine EK_ev (Ev_gtrI_q rfl rfl q2) ?_)
    | refine xst ?_
    | (refine xsa ?_; intro _)
    | (refine xsb ?_ ?_ <;> intro _ <;> first | (exfalso; omega) | skip)
    | refine xsc ?_
    | fail)
    all_goals (exact xdn ())
  | true =>
  have l2 := of_decide_eq_true h2
  have q2 : decide ((32 : Int) < ((s.length : Nat) : Int)) = false := decide_eq_false (by omega)
  have hid : idOk s = s.all idB := by unfold idOk; rw [h1, h2]; rfl
  rw [hid]
  refine Ct.enter Tryz.func59 rfl Tryz.ntmps59 (by simp) (fun R => ?_)
  repeat' (first 
    | (refine ek_lss ?_; refine EK_ev (Ev_lssI_q rfl rfl q1) ?_)
    | (refine ek_gtr ?_; refine EK_ev (Ev_gtrI_q rfl rfl q2) ?_)
    | refine xst ?_
    | (refine xsa ?_; intro _)
    | (refine xsb ?_ ?_ <;> intro _ <;> first | (exfalso; omega) | skip)
    | refine xsc ?_
    | fail)
  refine KJ_loop (fun i : {k : Nat // k ≤ s.length ∧ (s.take k).all idB = true} => [(0, strV s), (3, .int .i64 (i.1 : Nat))])
    (fun _ => [] ++ R) (fun i => s.length - i.1) ⟨0, by omega, rfl⟩ xB (xN) (fun ⟨k, hk, ha⟩ => ?_)
  dsimp only
  by_cases hlt : k < s.length
  rotate_left
  · have ql : decide (((k : Nat) : Int) < ((s.length : Nat) : Int)) = false := decide_eq_false (by omega)
    have e : k = s.length := by omega
    subst e
    rw [List.take_length] at ha
    rw [ha, if_pos rfl]
    repeat' (first 
    | (refine ek_lss ?_; refine EK_ev (Ev_lssI_q rfl rfl ql) ?_)
    | refine xst ?_
    | (refine xsa ?_; intro _)
    | (refine xsb ?_ ?_ <;> intro _ <;> first | (exfalso; omega) | skip)
    | refine xsc ?_
    | fail)
    all_goals (exact xdn ())
  have ql : decide (((k : Nat) : Int) < ((s.length : Nat) : Int)) = true := decide_eq_true (by omega)
  obtain ⟨b, hb⟩ : ∃ b, s[k]? = some b := ⟨_, List.getElem?_eq_getElem hlt⟩
  have c1 := dcap_ct (W := W) b
  have c2 := ddig_ct (W := W) b
  obtain ⟨z, hz⟩ : ∃ z, z = idB b := ⟨_, rfl⟩
  have hz2 := hz
  unfold idB lowB at hz2
  cases g1 : capB b with
  | true =>
    rw [g1] at c1
    rw [g1] at hz2
    have hz2 : z = true := hz2.trans (by simp)
    have hz := hz.symm.trans hz2
    repeat' (first 
    | (refine is_call ?_; refine KJ_call xE c1 xP rfl (fun _ => ?_))
    | (refine ek_index ?_; refine EK_ev (Ev_indexStr rfl rfl (by omega) hb) ?_)
    | (refine ek_add ?_; refine EK_ev (Ev_addI_v (r := ((k + 1 : Nat) : Int)) rfl rfl (by omega) (by omega)) ?_)
    | (refine ek_lss ?_; refine EK_ev (Ev_lssI_q rfl rfl ql) ?_)
    | refine xst ?_
    | (refine xsa ?_; intro _)
    | (refine xsb ?_ ?_ <;> intro _ <;> first | (exfalso; omega) | skip)
    | refine xsc ?_
    | fail)
    all_goals exact KJ_again ⟨k + 1, by omega, all_next hb ha hz⟩ (by show s.length - (k + 1) < s.length - k; omega) xB (xN)
  | false =>
  rw [g1] at c1
  cases g2 : digB b with
  | true =>
    rw [g2] at c2
    rw [g1, g2] at hz2
    have hz2 : z = true := hz2.trans (by simp)
    have hz := hz.symm.trans hz2
    repeat' (first 
    | (refine is_call ?_; first | (refine KJ_call xE c2 xP rfl (fun _ => ?_)) | (refine KJ_call xE c1 xP rfl (fun _ => ?_)))
    | (refine ek_index ?_; refine EK_ev (Ev_indexStr rfl rfl (by omega) hb) ?_)
    | (refine ek_add ?_; refine EK_ev (Ev_addI_v (r := ((k + 1 : Nat) : Int)) rfl rfl (by omega) (by omega)) ?_)
    | (refine ek_lss ?_; refine EK_ev (Ev_lssI_q rfl rfl ql) ?_)
    | refine xst ?_
    | (refine xsa ?_; intro _)
    | (refine xsb ?_ ?_ <;> intro _ <;> first | (exfalso; omega) | skip)
    | refine xsc ?_
    | fail)
    all_goals exact KJ_again ⟨k + 1, by omega, all_next hb ha hz⟩ (by show s.length - (k + 1) < s.length - k; omega) xB (xN)
  | false =>
  rw [g2] at c2
  have c3 := (range_ct 97 122 b).1
  have c4 := (range_ct 97 122 b).2
  have c5 := dec_nat b 46
  have c6 := dec_nat b 95
  have c7 := dec_nat b 45
  cases g3 : decide (97 ≤ b.toNat) <;> cases g4 : decide (b.toNat ≤ 122)
  case true.true =>
    rw [g1, g2, g3, g4] at hz2
    have hz2 : z = true := hz2.trans (by simp)
    have hz := hz.symm.trans hz2
    repeat' (first 
    | (refine is_call ?_; first | (refine KJ_call xE c2 xP rfl (fun _ => ?_)) | (refine KJ_call xE c1 xP rfl (fun _ => ?_)))
    | (refine ek_index ?_; refine EK_ev (Ev_indexStr rfl rfl (by omega) hb) ?_)
    | (refine ek_add ?_; refine EK_ev (Ev_addI_v (r := ((k + 1 : Nat) : Int)) rfl rfl (by omega) (by omega)) ?_)
    | (refine ek_lss ?_; refine EK_ev (Ev_lssI_q rfl rfl ql) ?_)
    | (refine ek_leq ?_; refine EK_ev (Ev_leqI_q rfl rfl (c4.trans g4)) ?_)
    | (refine ek_geq ?_; refine EK_ev (Ev_geqI_q rfl rfl (c3.trans g3)) ?_)
    | refine xst ?_
    | (refine xsa ?_; intro _)
    | (refine xsb ?_ ?_ <;> intro _ <;> first | (exfalso; omega) | skip)
    | refine xsc ?_
    | fail)
    all_goals exact KJ_again ⟨k + 1, by omega, all_next hb ha hz⟩ (by show s.length - (k + 1) < s.length - k; omega) xB (xN)
  all_goals cases g5 : decide (b.toNat = 46)
  case false.false.true =>
    rw [g1, g2, g3, g4, g5] at hz2
    have hz2 : z = true := hz2.trans (by simp)
    have hz := hz.symm.trans hz2
    repeat' (first 
    | (refine is_call ?_; first | (refine KJ_call xE c2 xP rfl (fun _ => ?_)) | (refine KJ_call xE c1 xP rfl (fun _ => ?_)))
    | (refine ek_index ?_; refine EK_ev (Ev_indexStr rfl rfl (by omega) hb) ?_)
    | (refine ek_add ?_; refine EK_ev (Ev_addI_v (r := ((k + 1 : Nat) : Int)) rfl rfl (by omega) (by omega)) ?_)
    | (refine ek_eql ?_; refine EK_ev (Ev_eqlI_q rfl rfl (c5.trans g5)) ?_)
    | (refine ek_lss ?_; refine EK_ev (Ev_lssI_q rfl rfl ql) ?_)
    | (refine ek_leq ?_; refine EK_ev (Ev_leqI_q rfl rfl (c4.trans g4)) ?_)
    | (refine ek_geq ?_; refine EK_ev (Ev_geqI_q rfl rfl (c3.trans g3)) ?_)
    | refine xst ?_
    | (refine xsa ?_; intro _)
    | (refine xsb ?_ ?_ <;> intro _ <;> first | (exfalso; omega) | skip)
    | refine xsc ?_
    | fail)
    all_goals exact KJ_again ⟨k + 1, by omega, all_next hb ha hz⟩ (by show s.length - (k + 1) < s.length - k; omega) xB (xN)
  case false.true.true =>
    rw [g1, g2, g3, g4, g5] at hz2
    have hz2 : z = true := hz2.trans (by simp)
    have hz := hz.symm.trans hz2
    repeat' (first 
    | (refine is_call ?_; first | (refine KJ_call xE c2 xP rfl (fun _ => ?_)) | (refine KJ_call xE c1 xP rfl (fun _ => ?_)))
    | (refine ek_index ?_; refine EK_ev (Ev_indexStr rfl rfl (by omega) hb) ?_)
    | (refine ek_add ?_; refine EK_ev (Ev_addI_v (r := ((k + 1 : Nat) : Int)) rfl rfl (by omega) (by omega)) ?_)
    | (refine ek_eql ?_; refine EK_ev (Ev_eqlI_q rfl rfl (c5.trans g5)) ?_)
    | (refine ek_lss ?_; refine EK_ev (Ev_lssI_q rfl rfl ql) ?_)
    | (refine ek_leq ?_; refine EK_ev (Ev_leqI_q rfl rfl (c4.trans g4)) ?_)
    | (refine ek_geq ?_; refine EK_ev (Ev_geqI_q rfl rfl (c3.trans g3)) ?_)
    | refine xst ?_
    | (refine xsa ?_; intro _)
    | (refine xsb ?_ ?_ <;> intro _ <;> first | (exfalso; omega) | skip)
    | refine xsc ?_
    | fail)
    all_goals exact KJ_again ⟨k + 1, by omega, all_next hb ha hz⟩ (by show s.length - (k + 1) < s.length - k; omega) xB (xN)
  case true.false.true =>
    rw [g1, g2, g3, g4, g5] at hz2
    have hz2 : z = true := hz2.trans (by simp)
    have hz := hz.symm.trans hz2
    repeat' (first 
    | (refine is_call ?_; first | (refine KJ_call xE c2 xP rfl (fun _ => ?_)) | (refine KJ_call xE c1 xP rfl (fun _ => ?_)))
    | (refine ek_index ?_; refine EK_ev (Ev_indexStr rfl rfl (by omega) hb) ?_)
    | (refine ek_add ?_; refine EK_ev (Ev_addI_v (r := ((k + 1 : Nat) : Int)) rfl rfl (by omega) (by omega)) ?_)
    | (refine ek_eql ?_; refine EK_ev (Ev_eqlI_q rfl rfl (c5.trans g5)) ?_)
    | (refine ek_lss ?_; refine EK_ev (Ev_lssI_q rfl rfl ql) ?_)
    | (refine ek_leq ?_; refine EK_ev (Ev_leqI_q rfl rfl (c4.trans g4)) ?_)
    | (refine ek_geq ?_; refine EK_ev (Ev_geqI_q rfl rfl (c3.trans g3)) ?_)
    | refine xst ?_
    | (refine xsa ?_; intro _)
    | (refine xsb ?_ ?_ <;> intro _ <;> first | (exfalso; omega) | skip)
    | refine xsc ?_
    | fail)
    all_goals exact KJ_again ⟨k + 1, by omega, all_next hb ha hz⟩ (by show s.length - (k + 1) < s.length - k; omega) xB (xN)
  all_goals cases g6 : decide (b.toNat = 95)
  case false.false.false.true =>
    rw [g1, g2, g3, g4, g5, g6] at hz2
    have hz2 : z = true := hz2.trans (by simp)
    have hz := hz.symm.trans hz2
    repeat' (first 
    | (refine is_call ?_; first | (refine KJ_call xE c2 xP rfl (fun _ => ?_)) | (refine KJ_call xE c1 xP rfl (fun _ => ?_)))
    | (refine ek_index ?_; refine EK_ev (Ev_indexStr rfl rfl (by omega) hb) ?_)
    | (refine ek_add ?_; refine EK_ev (Ev_addI_v (r := ((k + 1 : Nat) : Int)) rfl rfl (by omega) (by omega)) ?_)
    | (refine ek_eql ?_; first | refine EK_ev (Ev_eqlI_q rfl rfl (c6.trans g6)) ?_ | refine EK_ev (Ev_eqlI_q rfl rfl (c5.trans g5)) ?_)
    | (refine ek_lss ?_; refine EK_ev (Ev_lssI_q rfl rfl ql) ?_)
    | (refine ek_leq ?_; refine EK_ev (Ev_leqI_q rfl rfl (c4.trans g4)) ?_)
    | (refine ek_geq ?_; refine EK_ev (Ev_geqI_q rfl rfl (c3.trans g3)) ?_)
    | refine xst ?_
    | (refine xsa ?_; intro _)
    | (refine xsb ?_ ?_ <;> intro _ <;> first | (exfalso; omega) | skip)
    | refine xsc ?_
    | fail)
    all_goals exact KJ_again ⟨k + 1, by omega, all_next hb ha hz⟩ (by show s.length - (k + 1) < s.length - k; omega) xB (xN)
  case false.true.false.true =>
    rw [g1, g2, g3, g4, g5, g6] at hz2
    have hz2 : z = true := hz2.trans (by simp)
    have hz := hz.symm.trans hz2
    repeat' (first 
    | (refine is_call ?_; first | (refine KJ_call xE c2 xP rfl (fun _ => ?_)) | (refine KJ_call xE c1 xP rfl (fun _ => ?_)))
    | (refine ek_index ?_; refine EK_ev (Ev_indexStr rfl rfl (by omega) hb) ?_)
    | (refine ek_add ?_; refine EK_ev (Ev_addI_v (r := ((k + 1 : Nat) : Int)) rfl rfl (by omega) (by omega)) ?_)
    | (refine ek_eql ?_; first | refine EK_ev (Ev_eqlI_q rfl rfl (c6.trans g6)) ?_ | refine EK_ev (Ev_eqlI_q rfl rfl (c5.trans g5)) ?_)
    | (refine ek_lss ?_; refine EK_ev (Ev_lssI_q rfl rfl ql) ?_)
    | (refine ek_leq ?_; refine EK_ev (Ev_leqI_q rfl rfl (c4.trans g4)) ?_)
    | (refine ek_geq ?_; refine EK_ev (Ev_geqI_q rfl rfl (c3.trans g3)) ?_)
    | refine xst ?_
    | (refine xsa ?_; intro _)
    | (refine xsb ?_ ?_ <;> intro _ <;> first | (exfalso; omega) | skip)
    | refine xsc ?_
    | fail)
    all_goals exact KJ_again ⟨k + 1, by omega, all_next hb ha hz⟩ (by show s.length - (k + 1) < s.length - k; omega) xB (xN)
  case true.false.false.true =>
    rw [g1, g2, g3, g4, g5, g6] at hz2
    have hz2 : z = true := hz2.trans (by simp)
    have hz := hz.symm.trans hz2
    repeat' (first 
    | (refine is_call ?_; first | (refine KJ_call xE c2 xP rfl (fun _ => ?_)) | (refine KJ_call xE c1 xP rfl (fun _ => ?_)))
    | (refine ek_index ?_; refine EK_ev (Ev_indexStr rfl rfl (by omega) hb) ?_)
    | (refine ek_add ?_; refine EK_ev (Ev_addI_v (r := ((k + 1 : Nat) : Int)) rfl rfl (by omega) (by omega)) ?_)
    | (refine ek_eql ?_; first | refine EK_ev (Ev_eqlI_q rfl rfl (c6.trans g6)) ?_ | refine EK_ev (Ev_eqlI_q rfl rfl (c5.trans g5)) ?_)
    | (refine ek_lss ?_; refine EK_ev (Ev_lssI_q rfl rfl ql) ?_)
    | (refine ek_leq ?_; refine EK_ev (Ev_leqI_q rfl rfl (c4.trans g4)) ?_)
    | (refine ek_geq ?_; refine EK_ev (Ev_geqI_q rfl rfl (c3.trans g3)) ?_)
    | refine xst ?_
    | (refine xsa ?_; intro _)
    | (refine xsb ?_ ?_ <;> intro _ <;> first | (exfalso; omega) | skip)
    | refine xsc ?_
    | fail)
    all_goals exact KJ_again ⟨k + 1, by omega, all_next hb ha hz⟩ (by show s.length - (k + 1) < s.length - k; omega) xB (xN)
  all_goals cases g7 : decide (b.toNat = 45)
  case false.false.false.false.true =>
    rw [g1, g2, g3, g4, g5, g6, g7] at hz2
    have hz2 : z = true := hz2.trans (by simp)
    have hz := hz.symm.trans hz2
    repeat' (first 
    | (refine is_call ?_; first | (refine KJ_call xE c2 xP rfl (fun _ => ?_)) | (refine KJ_call xE c1 xP rfl (fun _ => ?_)))
    | (refine ek_index ?_; refine EK_ev (Ev_indexStr rfl rfl (by omega) hb) ?_)
    | (refine ek_add ?_; refine EK_ev (Ev_addI_v (r := ((k + 1 : Nat) : Int)) rfl rfl (by omega) (by omega)) ?_)
    | (refine ek_eql ?_; first | refine EK_ev (Ev_eqlI_q rfl rfl (c7.trans g7)) ?_ | refine EK_ev (Ev_eqlI_q rfl rfl (c6.trans g6)) ?_ | refine EK_ev (Ev_eqlI_q rfl rfl (c5.trans g5)) ?_)
    | (refine ek_lss ?_; refine EK_ev (Ev_lssI_q rfl rfl ql) ?_)
    | (refine ek_leq ?_; refine EK_ev (Ev_leqI_q rfl rfl (c4.trans g4)) ?_)
    | (refine ek_geq ?_; refine EK_ev (Ev_geqI_q rfl rfl (c3.trans g3)) ?_)
    | refine xst ?_
    | (refine xsa ?_; intro _)
    | (refine xsb ?_ ?_ <;> intro _ <;> first | (exfalso; omega) | skip)
    | refine xsc ?_
    | fail)
    all_goals exact KJ_again ⟨k + 1, by omega, all_next hb ha hz⟩ (by show s.length - (k + 1) < s.length - k; omega) xB (xN)
  case false.false.false.false.false =>
    rw [g1, g2, g3, g4, g5, g6, g7] at hz2
    have hz2 : z = false := hz2.trans (by simp)
    have hz := hz.symm.trans hz2
    rw [all_bad hb hz, if_neg (by decide)]
    repeat' (first 
    | (refine is_call ?_; first | (refine KJ_call xE c2 xP rfl (fun _ => ?_)) | (refine KJ_call xE c1 xP rfl (fun _ => ?_)))
    | (refine ek_index ?_; refine EK_ev (Ev_indexStr rfl rfl (by omega) hb) ?_)
    | (refine ek_eql ?_; first | refine EK_ev (Ev_eqlI_q rfl rfl (c7.trans g7)) ?_ | refine EK_ev (Ev_eqlI_q rfl rfl (c6.trans g6)) ?_ | refine EK_ev (Ev_eqlI_q rfl rfl (c5.trans g5)) ?_)
    | (refine ek_lss ?_; refine EK_ev (Ev_lssI_q rfl rfl ql) ?_)
    | (refine ek_leq ?_; refine EK_ev (Ev_leqI_q rfl rfl (c4.trans g4)) ?_)
    | (refine ek_geq ?_; refine EK_ev (Ev_geqI_q rfl rfl (c3.trans g3)) ?_)
    | refine xst ?_
    | (refine xsa ?_; intro _)
    | (refine xsb ?_ ?_ <;> intro _ <;> first | (exfalso; omega) | skip)
    | refine xsc ?_
    | fail)
    all_goals (exact xdn ())
  case false.true.false.false.true =>
    rw [g1, g2, g3, g4, g5, g6, g7] at hz2
    have hz2 : z = true := hz2.trans (by simp)
    have hz := hz.symm.trans hz2
    repeat' (first 
    | (refine is_call ?_; first | (refine KJ_call xE c2 xP rfl (fun _ => ?_)) | (refine KJ_call xE c1 xP rfl (fun _ => ?_)))
    | (refine ek_index ?_; refine EK_ev (Ev_indexStr rfl rfl (by omega) hb) ?_)
    | (refine ek_add ?_; refine EK_ev (Ev_addI_v (r := ((k + 1 : Nat) : Int)) rfl rfl (by omega) (by omega)) ?_)
    | (refine ek_eql ?_; first | refine EK_ev (Ev_eqlI_q rfl rfl (c7.trans g7)) ?_ | refine EK_ev (Ev_eqlI_q rfl rfl (c6.trans g6)) ?_ | refine EK_ev (Ev_eqlI_q rfl rfl (c5.trans g5)) ?_)
    | (refine ek_lss ?_; refine EK_ev (Ev_lssI_q rfl rfl ql) ?_)
    | (refine ek_leq ?_; refine EK_ev (Ev_leqI_q rfl rfl (c4.trans g4)) ?_)
    | (refine ek_geq ?_; refine EK_ev (Ev_geqI_q rfl rfl (c3.trans g3)) ?_)
    | refine xst ?_
    | (refine xsa ?_; intro _)
    | (refine xsb ?_ ?_ <;> intro _ <;> first | (exfalso; omega) | skip)
    | refine xsc ?_
    | fail)
    all_goals exact KJ_again ⟨k + 1, by omega, all_next hb ha hz⟩ (by show s.length - (k + 1) < s.length - k; omega) xB (xN)
  case false.true.false.false.false =>
    rw [g1, g2, g3, g4, g5, g6, g7] at hz2
    have hz2 : z = false := hz2.trans (by simp)
    have hz := hz.symm.trans hz2
    rw [all_bad hb hz, if_neg (by decide)]
    repeat' (first 
    | (refine is_call ?_; first | (refine KJ_call xE c2 xP rfl (fun _ => ?_)) | (refine KJ_call xE c1 xP rfl (fun _ => ?_)))
    | (refine ek_index ?_; refine EK_ev (Ev_indexStr rfl rfl (by omega) hb) ?_)
    | (refine ek_eql ?_; first | refine EK_ev (Ev_eqlI_q rfl rfl (c7.trans g7)) ?_ | refine EK_ev (Ev_eqlI_q rfl rfl (c6.trans g6)) ?_ | refine EK_ev (Ev_eqlI_q rfl rfl (c5.trans g5)) ?_)
    | (refine ek_lss ?_; refine EK_ev (Ev_lssI_q rfl rfl ql) ?_)
    | (refine ek_leq ?_; refine EK_ev (Ev_leqI_q rfl rfl (c4.trans g4)) ?_)
    | (refine ek_geq ?_; refine EK_ev (Ev_geqI_q rfl rfl (c3.trans g3)) ?_)
    | refine xst ?_
    | (refine xsa ?_; intro _)
    | (refine xsb ?_ ?_ <;> intro _ <;> first | (exfalso; omega) | skip)
    | refine xsc ?_
    | fail)
    all_goals (exact xdn ())
  case true.false.false.false.true =>
    rw [g1, g2, g3, g4, g5, g6, g7] at hz2
    have hz2 : z = true := hz2.trans (by simp)
    have hz := hz.symm.trans hz2
    repeat' (first 
    | (refine is_call ?_; first | (refine KJ_call xE c2 xP rfl (fun _ => ?_)) | (refine KJ_call xE c1 xP rfl (fun _ => ?_)))
    | (refine ek_index ?_; refine EK_ev (Ev_indexStr rfl rfl (by omega) hb) ?_)
    | (refine ek_add ?_; refine EK_ev (Ev_addI_v (r := ((k + 1 : Nat) : Int)) rfl rfl (by omega) (by omega)) ?_)
    | (refine ek_eql ?_; first | refine EK_ev (Ev_eqlI_q rfl rfl (c7.trans g7)) ?_ | refine EK_ev (Ev_eqlI_q rfl rfl (c6.trans g6)) ?_ | refine EK_ev (Ev_eqlI_q rfl rfl (c5.trans g5)) ?_)
    | (refine ek_lss ?_; refine EK_ev (Ev_lssI_q rfl rfl ql) ?_)
    | (refine ek_leq ?_; refine EK_ev (Ev_leqI_q rfl rfl (c4.trans g4)) ?_)
    | (refine ek_geq ?_; refine EK_ev (Ev_geqI_q rfl rfl (c3.trans g3)) ?_)
    | refine xst ?_
    | (refine xsa ?_; intro _)
    | (refine xsb ?_ ?_ <;> intro _ <;> first | (exfalso; omega) | skip)
    | refine xsc ?_
    | fail)
    all_goals exact KJ_again ⟨k + 1, by omega, all_next hb ha hz⟩ (by show s.length - (k + 1) < s.length - k; omega) xB (xN)
  case true.false.false.false.false =>
    rw [g1, g2, g3, g4, g5, g6, g7] at hz2
    have hz2 : z = false := hz2.trans (by simp)
    have hz := hz.symm.trans hz2
    rw [all_bad hb hz, if_neg (by decide)]
    repeat' (first 
    | (refine is_call ?_; first | (refine KJ_call xE c2 xP rfl (fun _ => ?_)) | (refine KJ_call xE c1 xP rfl (fun _ => ?_)))
    | (refine ek_index ?_; refine EK_ev (Ev_indexStr rfl rfl (by omega) hb) ?_)
    | (refine ek_eql ?_; first | refine EK_ev (Ev_eqlI_q rfl rfl (c7.trans g7)) ?_ | refine EK_ev (Ev_eqlI_q rfl rfl (c6.trans g6)) ?_ | refine EK_ev (Ev_eqlI_q rfl rfl (c5.trans g5)) ?_)
    | (refine ek_lss ?_; refine EK_ev (Ev_lssI_q rfl rfl ql) ?_)
    | (refine ek_leq ?_; refine EK_ev (Ev_leqI_q rfl rfl (c4.trans g4)) ?_)
    | (refine ek_geq ?_; refine EK_ev (Ev_geqI_q rfl rfl (c3.trans g3)) ?_)
    | refine xst ?_
    | (refine xsa ?_; intro _)
    | (refine xsb ?_ ?_ <;> intro _ <;> first | (exfalso; omega) | skip)
    | refine xsc ?_
    | fail)
    all_goals (exact xdn ())
set_option maxHeartbeats 4000000 in
theorem dpid_ct (s : List UInt8) (hs : s.length ≤ 2000000) : Ct Tryz.prog W 33 [strV s] [] (fun _ : Unit => .bool (pidOk s)) (fun _ => []) := by
  match s, hs with
  | [], hs =>
    have ci : Ct Tryz.prog W 59 [strV []] [] (fun _ : Unit => .int .i64 26) (fun _ => []) := ddId_ct (W := W) [] hs
    have q0 : decide ((0 : Int) < ((([] : List UInt8).length : Nat) : Int)) = false := rfl
    have qi : decide ((26 : Int) = 0) = false := rfl
    refine Ct.enter Tryz.func33 rfl Tryz.ntmps33 (by simp) (fun R => ?_)
    repeat' (first 
    | (refine is_call ?_; refine KJ_call xE ci xP rfl (fun _ => ?_))
    | (refine ek_eql ?_; refine EK_ev (Ev_eqlI_q rfl rfl qi) ?_)
    | (refine ek_gtr ?_; refine EK_ev (Ev_gtrI_q rfl rfl q0) ?_)
    | refine xst ?_
    | (refine xsa ?_; intro _)
    | (refine xsb ?_ ?_ <;> intro _ <;> first | (exfalso; omega) | skip)
    | refine xsc ?_
    | fail)
    all_goals (exact xdn ())
  | b :: l, hs =>
    have q0 : decide ((0 : Int) < (((b :: l).length : Nat) : Int)) = true := decide_eq_true (by simp only [List.length_cons]; omega)
    have hb : (b :: l)[0]? = some b := rfl
    have hl : l.length ≤ 2000000 := by simp only [List.length_cons] at hs; omega
    have sb : (b :: l).drop (1 : Int).toNat = l := rfl
    by_cases h35 : b.toNat = 35
    · have e : pidOk (b :: l) = (idOk l && decide (l.length ≤ 31)) := by show (if b.toNat = 35 then _ else _) = _; rw [if_pos h35]
      rw [e]
      have qb : decide ((b.toNat : Int) = 35) = true := decide_eq_true (by omega)
      cases h31 : decide (l.length ≤ 31) with
      | false =>
        have qg : decide ((32 : Int) ≤ ((l.length : Nat) : Int)) = true := decide_eq_true (by have := of_decide_eq_false h31; omega)
        rw [Bool.and_false]
        refine Ct.enter Tryz.func33 rfl Tryz.ntmps33 (by simp) (fun R => ?_)
        repeat' (first 
    | (refine ek_index ?_; refine EK_ev (Ev_indexStr rfl rfl (by omega) hb) ?_)
    | (refine ek_slice ?_; refine EK_ev (Ev_sliceFrom_p rfl rfl (by simp only [List.length_cons]; omega) sb) ?_)
    | (refine ek_eql ?_; refine EK_ev (Ev_eqlI_q rfl rfl qb) ?_)
    | (refine ek_gtr ?_; refine EK_ev (Ev_gtrI_q rfl rfl q0) ?_)
    | (refine ek_geq ?_; refine EK_ev (Ev_geqI_q rfl rfl qg) ?_)
    | refine xst ?_
    | (refine xsa ?_; intro _)
    | (refine xsb ?_ ?_ <;> intro _ <;> first | (exfalso; omega) | skip)
    | refine xsc ?_
    | fail)
        all_goals (exact xdn ())
      | true =>
        have qg : decide ((32 : Int) ≤ ((l.length : Nat) : Int)) = false := decide_eq_false (by have := of_decide_eq_true h31; omega)
        rw [Bool.and_true]
        have ci := ddId_ct (W := W) l hl
        cases hi : idOk l with
        | false =>
          rw [hi, if_neg (by decide)] at ci
          have qi : decide (((26 : Nat) : Int) = 0) = false := rfl
          refine Ct.enter Tryz.func33 rfl Tryz.ntmps33 (by simp) (fun R => ?_)
          repeat' (first 
    | (refine is_call ?_; refine KJ_call xE ci xP rfl (fun _ => ?_))
    | (refine ek_index ?_; refine EK_ev (Ev_indexStr rfl rfl (by omega) hb) ?_)
    | (refine ek_slice ?_; refine EK_ev (Ev_sliceFrom_p rfl rfl (by simp only [List.length_cons]; omega) sb) ?_)
    | (refine ek_eql ?_; first | refine EK_ev (Ev_eqlI_q rfl rfl qi) ?_ | refine EK_ev (Ev_eqlI_q rfl rfl qb) ?_)
    | (refine ek_gtr ?_; refine EK_ev (Ev_gtrI_q rfl rfl q0) ?_)
    | (refine ek_geq ?_; refine EK_ev (Ev_geqI_q rfl rfl qg) ?_)
    | refine xst ?_
    | (refine xsa ?_; intro _)
    | (refine xsb ?_ ?_ <;> intro _ <;> first | (exfalso; omega) | skip)
    | refine xsc ?_
    | fail)
          all_goals (exact xdn ())
        | true =>
          rw [hi, if_pos rfl] at ci
          have qi : decide (((0 : Nat) : Int) = 0) = true := rfl
          refine Ct.enter Tryz.func33 rfl Tryz.ntmps33 (by simp) (fun R => ?_)
          repeat' (first 
    | (refine is_call ?_; refine KJ_call xE ci xP rfl (fun _ => ?_))
    | (refine ek_index ?_; refine EK_ev (Ev_indexStr rfl rfl (by omega) hb) ?_)
    | (refine ek_slice ?_; refine EK_ev (Ev_sliceFrom_p rfl rfl (by simp only [List.length_cons]; omega) sb) ?_)
    | (refine ek_eql ?_; first | refine EK_ev (Ev_eqlI_q rfl rfl qi) ?_ | refine EK_ev (Ev_eqlI_q rfl rfl qb) ?_)
    | (refine ek_gtr ?_; refine EK_ev (Ev_gtrI_q rfl rfl q0) ?_)
    | (refine ek_geq ?_; refine EK_ev (Ev_geqI_q rfl rfl qg) ?_)
    | refine xst ?_
    | (refine xsa ?_; intro _)
    | (refine xsb ?_ ?_ <;> intro _ <;> first | (exfalso; omega) | skip)
    | refine xsc ?_
    | fail)
          all_goals (exact xdn ())
    · have e : pidOk (b :: l) = idOk (b :: l) := by show (if b.toNat = 35 then _ else _) = _; rw [if_neg h35]
      rw [e]
      have qb : decide ((b.toNat : Int) = 35) = false := decide_eq_false (by omega)
      have ci := ddId_ct (W := W) (b :: l) hs
      cases hi : idOk (b :: l) with
      | false =>
        rw [hi, if_neg (by decide)] at ci
        have qi : decide (((26 : Nat) : Int) = 0) = false := rfl
        refine Ct.enter Tryz.func33 rfl Tryz.ntmps33 (by simp) (fun R => ?_)
        repeat' (first 
    | (refine is_call ?_; refine KJ_call xE ci xP rfl (fun _ => ?_))
    | (refine ek_index ?_; refine EK_ev (Ev_indexStr rfl rfl (by omega) hb) ?_)
    | (refine ek_eql ?_; first | refine EK_ev (Ev_eqlI_q rfl rfl qi) ?_ | refine EK_ev (Ev_eqlI_q rfl rfl qb) ?_)
    | (refine ek_gtr ?_; refine EK_ev (Ev_gtrI_q rfl rfl q0) ?_)
    | refine xst ?_
    | (refine xsa ?_; intro _)
    | (refine xsb ?_ ?_ <;> intro _ <;> first | (exfalso; omega) | skip)
    | refine xsc ?_
    | fail)
        all_goals (exact xdn ())
      | true =>
        rw [hi, if_pos rfl] at ci
        have qi : decide (((0 : Nat) : Int) = 0) = true := rfl
        refine Ct.enter Tryz.func33 rfl Tryz.ntmps33 (by simp) (fun R => ?_)
        repeat' (first 
    | (refine is_call ?_; refine KJ_call xE ci xP rfl (fun _ => ?_))
    | (refine ek_index ?_; refine EK_ev (Ev_indexStr rfl rfl (by omega) hb) ?_)
    | (refine ek_eql ?_; first | refine EK_ev (Ev_eqlI_q rfl rfl qi) ?_ | refine EK_ev (Ev_eqlI_q rfl rfl qb) ?_)
    | (refine ek_gtr ?_; refine EK_ev (Ev_gtrI_q rfl rfl q0) ?_)
    | refine xst ?_
    | (refine xsa ?_; intro _)
    | (refine xsb ?_ ?_ <;> intro _ <;> first | (exfalso; omega) | skip)
    | refine xsc ?_
    | fail)
        all_goals (exact xdn ())
end
end Go.Proofs.YtdbfemdpdpaffaaGreatDoor
/-
  The document's answers of chapters 4, 5 and 16: currencies, the system's accounts, a leg's account. (Printed by genpod6.py.)
-/
namespace Go.Proofs.YtdbfemdpdpaffaaGreatDoor
open Go Go.RowKit
section
variable {W : World}
set_option maxHeartbeats 2000000 in
theorem dcode_ct (s : List UInt8) : Ct Tryz.prog W 61 [strV s] [] (fun _ : Unit => .bool (codeB s)) (fun _ => []) := by
  by_cases h3 : s.length = 3
  case neg =>
    have e : codeB s = false := by unfold codeB; rw [decide_eq_false h3, Bool.false_and]
    rw [e]
    have q : decide (((s.length : Nat) : Int) ≠ 3) = true := decide_eq_true (by omega)
    refine Ct.enter Tryz.func61 rfl Tryz.ntmps61 (by simp) (fun R => ?_)
    repeat' (first 
    | (refine ek_neq ?_; refine EK_ev (Ev_neqI_q rfl rfl q) ?_)
    | refine xst ?_
    | (refine xsa ?_; intro _)
    | (refine xsb ?_ ?_ <;> intro _ <;> first | (exfalso; omega) | skip)
    | refine xsc ?_
    | fail)
    all_goals (exact xdn ())
  have e : codeB s = s.all capB := by unfold codeB; rw [decide_eq_true h3, Bool.true_and]
  rw [e]
  have q : decide (((s.length : Nat) : Int) ≠ 3) = false := decide_eq_false (by omega)
  refine Ct.enter Tryz.func61 rfl Tryz.ntmps61 (by simp) (fun R => ?_)
  repeat' (first 
    | (refine ek_neq ?_; refine EK_ev (Ev_neqI_q rfl rfl q) ?_)
    | refine xst ?_
    | (refine xsa ?_; intro _)
    | (refine xsb ?_ ?_ <;> intro _ <;> first | (exfalso; omega) | skip)
    | refine xsc ?_
    | fail)
  refine KJ_loop (fun i : {k : Nat // k ≤ 3 ∧ (s.take k).all capB = true} => [(0, strV s), (3, .int .i64 (i.1 : Nat))])
    (fun _ => [] ++ R) (fun i => 3 - i.1) ⟨0, by omega, rfl⟩ xB (xN) (fun ⟨k, hk, ha⟩ => ?_)
  dsimp only
  by_cases hlt : k < 3
  · have ql : decide (((k : Nat) : Int) < 3) = true := decide_eq_true (by omega)
    obtain ⟨b, hb⟩ : ∃ b, s[k]? = some b := ⟨_, List.getElem?_eq_getElem (by omega)⟩
    cases g1 : decide (65 ≤ b.toNat) <;> cases g2 : decide (b.toNat ≤ 90)
    case true.true =>
      have hc : capB b = true := by unfold capB; rw [g1, g2]; rfl
      have q1 : decide ((b.toNat : Int) < 65) = false := decide_eq_false (by have := of_decide_eq_true g1; omega)
      have q2 : decide ((90 : Int) < (b.toNat : Int)) = false := decide_eq_false (by have := of_decide_eq_true g2; omega)
      repeat' (first 
    | (refine ek_index ?_; refine EK_ev (Ev_indexStr rfl rfl (by omega) hb) ?_)
    | (refine ek_add ?_; refine EK_ev (Ev_addI_v (r := ((k + 1 : Nat) : Int)) rfl rfl (by omega) (by omega)) ?_)
    | (refine ek_lss ?_; first | refine EK_ev (Ev_lssI_q rfl rfl q1) ?_ | refine EK_ev (Ev_lssI_q rfl rfl ql) ?_)
    | (refine ek_gtr ?_; refine EK_ev (Ev_gtrI_q rfl rfl q2) ?_)
    | refine xst ?_
    | (refine xsa ?_; intro _)
    | (refine xsb ?_ ?_ <;> intro _ <;> first | (exfalso; omega) | skip)
    | refine xsc ?_
    | fail)
      all_goals exact KJ_again ⟨k + 1, by omega, all_next hb ha hc⟩ (by show 3 - (k + 1) < 3 - k; omega) xB (xN)
    case true.false =>
      have hc : capB b = false := by unfold capB; rw [g1, g2]; rfl
      have q1 : decide ((b.toNat : Int) < 65) = false := decide_eq_false (by have := of_decide_eq_true g1; omega)
      have q2 : decide ((90 : Int) < (b.toNat : Int)) = true := decide_eq_true (by have := of_decide_eq_false g2; omega)
      rw [all_bad hb hc]
      repeat' (first 
    | (refine ek_index ?_; refine EK_ev (Ev_indexStr rfl rfl (by omega) hb) ?_)
    | (refine ek_lss ?_; first | refine EK_ev (Ev_lssI_q rfl rfl q1) ?_ | refine EK_ev (Ev_lssI_q rfl rfl ql) ?_)
    | (refine ek_gtr ?_; refine EK_ev (Ev_gtrI_q rfl rfl q2) ?_)
    | refine xst ?_
    | (refine xsa ?_; intro _)
    | (refine xsb ?_ ?_ <;> intro _ <;> first | (exfalso; omega) | skip)
    | refine xsc ?_
    | fail)
      all_goals (exact xdn ())
    all_goals
      have hc : capB b = false := by unfold capB; rw [g1, g2]; rfl
      have q1 : decide ((b.toNat : Int) < 65) = true := decide_eq_true (by have := of_decide_eq_false g1; omega)
      rw [all_bad hb hc]
      repeat' (first 
    | (refine ek_index ?_; refine EK_ev (Ev_indexStr rfl rfl (by omega) hb) ?_)
    | (refine ek_lss ?_; first | refine EK_ev (Ev_lssI_q rfl rfl q1) ?_ | refine EK_ev (Ev_lssI_q rfl rfl ql) ?_)
    | refine xst ?_
    | (refine xsa ?_; intro _)
    | (refine xsb ?_ ?_ <;> intro _ <;> first | (exfalso; omega) | skip)
    | refine xsc ?_
    | fail)
      all_goals (exact xdn ())
  · have ql : decide (((k : Nat) : Int) < 3) = false := decide_eq_false (by omega)
    have e : k = s.length := by omega
    subst e
    rw [List.take_length] at ha
    rw [ha]
    repeat' (first 
    | (refine ek_lss ?_; refine EK_ev (Ev_lssI_q rfl rfl ql) ?_)
    | refine xst ?_
    | (refine xsa ?_; intro _)
    | (refine xsb ?_ ?_ <;> intro _ <;> first | (exfalso; omega) | skip)
    | refine xsc ?_
    | fail)
    all_goals (exact xdn ())
set_option maxHeartbeats 2000000 in
theorem dsys_ct (k : Nat) (hk : k < 4) (m : Int) (hm : m = ((2 + k : Nat) : Int)) (c : List UInt8) (hc : codeB c = true) : Ct Tryz.prog W 62 [.int .i64 m, strV c] [] (fun _ : Unit => strV (kindT k ++ c)) (fun _ => []) := by
  have hl := codeB_len hc
  have cc := dcode_ct (W := W) c
  rw [hc] at cc
  match k, hk with
  | 0, _ =>
    have hm : m = 2 := hm
    subst hm
    have bl : ([111, 117, 116, 115, 105, 100, 101, 46] : List UInt8).length + c.length ≤ 9223372036854775807 := by rw [hl]; decide
    refine Ct.enter Tryz.func62 rfl Tryz.ntmps62 (by simp) (fun R => ?_)
    repeat' (first 
    | (refine is_call ?_; refine KJ_call xE cc xP rfl (fun _ => ?_))
    | (refine ek_add ?_; refine EK_ev (Ev_addS (a := [111, 117, 116, 115, 105, 100, 101, 46]) (b := c) rfl rfl bl) ?_)
    | (refine ek_eql ?_; first | refine EK_ev (Ev_eqlI_q (q := true) rfl rfl (by decide)) ?_ | refine EK_ev (Ev_eqlI_q (q := false) rfl rfl (by decide)) ?_)
    | refine xst ?_
    | (refine xsa ?_; intro _)
    | (refine xsb ?_ ?_ <;> intro _ <;> first | (exfalso; omega) | skip)
    | refine xsc ?_
    | fail)
    all_goals (exact xdn ())
  | 1, _ =>
    have hm : m = 3 := hm
    subst hm
    have bl : ([115, 117, 115, 112, 101, 110, 115, 101, 46] : List UInt8).length + c.length ≤ 9223372036854775807 := by rw [hl]; decide
    refine Ct.enter Tryz.func62 rfl Tryz.ntmps62 (by simp) (fun R => ?_)
    repeat' (first 
    | (refine is_call ?_; refine KJ_call xE cc xP rfl (fun _ => ?_))
    | (refine ek_add ?_; refine EK_ev (Ev_addS (a := [115, 117, 115, 112, 101, 110, 115, 101, 46]) (b := c) rfl rfl bl) ?_)
    | (refine ek_eql ?_; first | refine EK_ev (Ev_eqlI_q (q := true) rfl rfl (by decide)) ?_ | refine EK_ev (Ev_eqlI_q (q := false) rfl rfl (by decide)) ?_)
    | refine xst ?_
    | (refine xsa ?_; intro _)
    | (refine xsb ?_ ?_ <;> intro _ <;> first | (exfalso; omega) | skip)
    | refine xsc ?_
    | fail)
    all_goals (exact xdn ())
  | 2, _ =>
    have hm : m = 4 := hm
    subst hm
    have bl : ([99, 108, 101, 97, 114, 105, 110, 103, 46] : List UInt8).length + c.length ≤ 9223372036854775807 := by rw [hl]; decide
    refine Ct.enter Tryz.func62 rfl Tryz.ntmps62 (by simp) (fun R => ?_)
    repeat' (first 
    | (refine is_call ?_; refine KJ_call xE cc xP rfl (fun _ => ?_))
    | (refine ek_add ?_; refine EK_ev (Ev_addS (a := [99, 108, 101, 97, 114, 105, 110, 103, 46]) (b := c) rfl rfl bl) ?_)
    | (refine ek_eql ?_; first | refine EK_ev (Ev_eqlI_q (q := true) rfl rfl (by decide)) ?_ | refine EK_ev (Ev_eqlI_q (q := false) rfl rfl (by decide)) ?_)
    | refine xst ?_
    | (refine xsa ?_; intro _)
    | (refine xsb ?_ ?_ <;> intro _ <;> first | (exfalso; omega) | skip)
    | refine xsc ?_
    | fail)
    all_goals (exact xdn ())
  | 3, _ =>
    have hm : m = 5 := hm
    subst hm
    have bl : ([102, 101, 101, 115, 46] : List UInt8).length + c.length ≤ 9223372036854775807 := by rw [hl]; decide
    refine Ct.enter Tryz.func62 rfl Tryz.ntmps62 (by simp) (fun R => ?_)
    repeat' (first 
    | (refine is_call ?_; refine KJ_call xE cc xP rfl (fun _ => ?_))
    | (refine ek_add ?_; refine EK_ev (Ev_addS (a := [102, 101, 101, 115, 46]) (b := c) rfl rfl bl) ?_)
    | (refine ek_eql ?_; first | refine EK_ev (Ev_eqlI_q (q := true) rfl rfl (by decide)) ?_ | refine EK_ev (Ev_eqlI_q (q := false) rfl rfl (by decide)) ?_)
    | refine xst ?_
    | (refine xsa ?_; intro _)
    | (refine xsb ?_ ?_ <;> intro _ <;> first | (exfalso; omega) | skip)
    | refine xsc ?_
    | fail)
    all_goals (exact xdn ())
theorem kinds_any (p : List UInt8 → Bool) : kinds4.any p = (p (kindT 0) || (p (kindT 1) || (p (kindT 2) || (p (kindT 3) || false)))) := rfl
theorem sys_no {s : List UInt8} (h4 : 4 ≤ s.length) (h : codeB (last3 s) = false ∨ ∀ j, j < 4 → s ≠ kindT j ++ last3 s) : sysB s = false := by
  rw [sysB_is h4, kinds_any]
  rcases h with h | h
  · rw [h]; rfl
  · rw [decide_eq_false (h 0 (by omega)), decide_eq_false (h 1 (by omega)), decide_eq_false (h 2 (by omega)), decide_eq_false (h 3 (by omega))]; simp
theorem sys_yes {s : List UInt8} (h4 : 4 ≤ s.length) (h : codeB (last3 s) = true) {j : Nat} (hj : j < 4) (he : s = kindT j ++ last3 s) : sysB s = true := by
  rw [sysB_is h4, kinds_any]
  match j, hj with
  | 0, _ => rw [h, decide_eq_true he]; simp
  | 1, _ => rw [h, decide_eq_true he]; simp
  | 2, _ => rw [h, decide_eq_true he]; simp
  | 3, _ => rw [h, decide_eq_true he]; simp
set_option maxHeartbeats 4000000 in
theorem daccount_ct (s : List UInt8) (hs : s.length ≤ 2000000) : Ct Tryz.prog W 34 [strV s] [] (fun _ : Unit => .bool (accB s)) (fun _ => []) := by
  have ck := dcheck_ct (W := W) s hs
  by_cases h0 : accE s = 0
  · have e : accB s = true := by unfold accB; rw [decide_eq_true h0]; rfl
    rw [e]
    rw [h0] at ck
    have q : decide (((0 : Nat) : Int) = 0) = true := rfl
    refine Ct.enter Tryz.func34 rfl Tryz.ntmps34 (by simp) (fun R => ?_)
    repeat' (first 
    | (refine is_call ?_; refine KJ_call xE ck xP rfl (fun _ => ?_))
    | (refine ek_eql ?_; refine EK_ev (Ev_eqlI_q rfl rfl q) ?_)
    | refine xst ?_
    | (refine xsa ?_; intro _)
    | (refine xsb ?_ ?_ <;> intro _ <;> first | (exfalso; omega) | skip)
    | refine xsc ?_
    | fail)
    all_goals (exact xdn ())
  have e : accB s = sysB s := by unfold accB; rw [decide_eq_false h0, Bool.false_or]
  rw [e]
  obtain ⟨ec, hec⟩ : ∃ ec, ec = accE s := ⟨_, rfl⟩
  rw [← hec] at ck
  have q0 : decide (((ec : Nat) : Int) = 0) = false := decide_eq_false (by omega)
  by_cases h4 : 4 ≤ s.length
  case neg =>
    rw [sysB_small (by omega)]
    have q4 : decide (((s.length : Nat) : Int) < 4) = true := decide_eq_true (by omega)
    refine Ct.enter Tryz.func34 rfl Tryz.ntmps34 (by simp) (fun R => ?_)
    repeat' (first 
    | (refine is_call ?_; refine KJ_call xE ck xP rfl (fun _ => ?_))
    | (refine ek_eql ?_; refine EK_ev (Ev_eqlI_q rfl rfl q0) ?_)
    | (refine ek_lss ?_; refine EK_ev (Ev_lssI_q rfl rfl q4) ?_)
    | refine xst ?_
    | (refine xsa ?_; intro _)
    | (refine xsb ?_ ?_ <;> intro _ <;> first | (exfalso; omega) | skip)
    | refine xsc ?_
    | fail)
    all_goals (exact xdn ())
  have q4 : decide (((s.length : Nat) : Int) < 4) = false := decide_eq_false (by omega)
  have e3 : ((s.length : Nat) : Int) - 3 = ((s.length - 3 : Nat) : Int) := by omega
  have s3 : s.drop (((s.length - 3 : Nat) : Int)).toNat = last3 s := by rw [Int.toNat_natCast]; rfl
  obtain ⟨c, hc⟩ : ∃ c, c = last3 s := ⟨_, rfl⟩
  rw [← hc] at s3
  have cc := dcode_ct (W := W) c
  refine Ct.enter Tryz.func34 rfl Tryz.ntmps34 (by simp) (fun R => ?_)
  repeat' (first 
    | (refine is_call ?_; refine KJ_call xE ck xP rfl (fun _ => ?_))
    | (refine ek_slice ?_; refine EK_ev (Ev_sliceFrom_p rfl rfl (by omega) s3) ?_)
    | (refine ek_sub ?_; refine EK_ev (Ev_subI_v rfl rfl e3 (by omega)) ?_)
    | (refine ek_eql ?_; refine EK_ev (Ev_eqlI_q rfl rfl q0) ?_)
    | (refine ek_lss ?_; refine EK_ev (Ev_lssI_q rfl rfl q4) ?_)
    | refine xst ?_
    | (refine xsa ?_; intro _)
    | (refine xsb ?_ ?_ <;> intro _ <;> first | (exfalso; omega) | skip)
    | refine xsc ?_
    | fail)
  refine KJ_loop (fun i : {k : Nat // k ≤ 4 ∧ (codeB c = false ∨ ∀ j, j < k → s ≠ kindT j ++ c)} => [(0, strV s), (3, strV c), (4, .int .i64 ((2 + i.1 : Nat) : Int))])
    (fun _ => [] ++ R) (fun i => 4 - i.1) ⟨0, by omega, .inr (by omega)⟩ xB (xN) (fun ⟨k, hk, ha⟩ => ?_)
  dsimp only
  by_cases hlt : k < 4
  rotate_left
  · have ql : decide (((2 + k : Nat) : Int) ≤ 5) = false := decide_eq_false (by omega)
    rw [sys_no h4 (by rw [← hc]; rcases ha with ha | ha; exact .inl ha; exact .inr fun j hj => ha j (by omega))]
    repeat' (first 
    | (refine ek_leq ?_; refine EK_ev (Ev_leqI_q rfl rfl ql) ?_)
    | refine xst ?_
    | (refine xsa ?_; intro _)
    | (refine xsb ?_ ?_ <;> intro _ <;> first | (exfalso; omega) | skip)
    | refine xsc ?_
    | fail)
    all_goals (exact xdn ())
  have ql : decide (((2 + k : Nat) : Int) ≤ 5) = true := decide_eq_true (by omega)
  have hbb : codeB c = false ∨ codeB c = true := by cases codeB c <;> simp
  rcases hbb with hb | hb
  · rw [hb] at cc
    repeat' (first 
    | (refine is_call ?_; refine KJ_call xE cc xP rfl (fun _ => ?_))
    | (refine ek_add ?_; refine EK_ev (Ev_addI_v (r := ((2 + (k + 1) : Nat) : Int)) rfl rfl (by omega) (by omega)) ?_)
    | (refine ek_leq ?_; refine EK_ev (Ev_leqI_q rfl rfl ql) ?_)
    | refine xst ?_
    | (refine xsa ?_; intro _)
    | (refine xsb ?_ ?_ <;> intro _ <;> first | (exfalso; omega) | skip)
    | refine xsc ?_
    | fail)
    all_goals exact KJ_again ⟨k + 1, by omega, .inl hb⟩ (by show 4 - (k + 1) < 4 - k; omega) xB (xN)
  · rw [hb] at cc
    have cs := dsys_ct (W := W) k hlt _ rfl c hb
    obtain ⟨t, ht⟩ : ∃ t, t = kindT k ++ c := ⟨_, rfl⟩
    rw [← ht] at cs
    by_cases he : s = t
    · rw [sys_yes h4 (by rw [← hc]; exact hb) hlt (by rw [← hc, ← ht]; exact he)]
      repeat' (first 
    | (refine is_call ?_; first | (refine KJ_call xE cs xP rfl (fun _ => ?_)) | (refine KJ_call xE cc xP rfl (fun _ => ?_)))
    | (refine ek_eql ?_; refine EK_ev (Ev_eqlS_t rfl rfl he) ?_)
    | (refine ek_leq ?_; refine EK_ev (Ev_leqI_q rfl rfl ql) ?_)
    | refine xst ?_
    | (refine xsa ?_; intro _)
    | (refine xsb ?_ ?_ <;> intro _ <;> first | (exfalso; omega) | skip)
    | refine xsc ?_
    | fail)
      all_goals (exact xdn ())
    · have hnx : ∀ j, j < k + 1 → s ≠ kindT j ++ c := fun j hj => by
        by_cases hjk : j = k
        · rw [hjk, ← ht]; exact he
        · rcases ha with ha | ha
          · rw [hb] at ha; cases ha
          · exact ha j (by omega)
      repeat' (first 
    | (refine is_call ?_; first | (refine KJ_call xE cs xP rfl (fun _ => ?_)) | (refine KJ_call xE cc xP rfl (fun _ => ?_)))
    | (refine ek_add ?_; refine EK_ev (Ev_addI_v (r := ((2 + (k + 1) : Nat) : Int)) rfl rfl (by omega) (by omega)) ?_)
    | (refine ek_eql ?_; refine EK_ev (Ev_eqlS_f rfl rfl he) ?_)
    | (refine ek_leq ?_; refine EK_ev (Ev_leqI_q rfl rfl ql) ?_)
    | refine xst ?_
    | (refine xsa ?_; intro _)
    | (refine xsb ?_ ?_ <;> intro _ <;> first | (exfalso; omega) | skip)
    | refine xsc ?_
    | fail)
      all_goals exact KJ_again ⟨k + 1, by omega, .inr hnx⟩ (by show 4 - (k + 1) < 4 - k; omega) xB (xN)
end
end Go.Proofs.YtdbfemdpdpaffaaGreatDoor
