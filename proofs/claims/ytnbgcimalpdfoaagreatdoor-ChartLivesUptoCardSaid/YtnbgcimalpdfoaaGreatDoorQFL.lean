/-
  Open15, Open15b.
-/
import Derived.Test.YtnbgcimalpdfoaaGreatDoorQFG
import Derived.Test.YtnbgcimalpdfoaaGreatDoorQDA
/-
  Arguments of chapter 15 opened: an account, a life, by value.
-/
namespace Go.Proofs.YtnbgcimalpdfoaaGreatDoor
open Go Go.RowKit Go.ChangeShapes Go.WideShapes Go.Deep
theorem cellsI64y : Tryz.prog.cellsOf 2 = 1 := by kernel_rfl
theorem cellsStry : Tryz.prog.cellsOf 9 = 1 := by kernel_rfl
theorem cellsBoolw : Tryz.prog.cellsOf 4 = 1 := by kernel_rfl
theorem cellsAcct : Tryz.prog.cellsOf 51 = 6 := by kernel_rfl
theorem i64_both {n : Int} (h : (Lit.int .i64 n).wf = true) : -9223372036854775808 ≤ n ∧ n ≤ 9223372036854775807 := by
  have h' : (decide (-9223372036854775808 ≤ n) && decide (n ≤ 9223372036854775807)) = true := h
  simpa only [Bool.and_eq_true, decide_eq_true_eq] using h'
section
variable {H : Type} {enc : TypeId × Value → H} {W : World} {base : Nat} {held : Bool}
set_option maxRecDepth 100000 in
theorem acct_of {r : Reach} {b0 : Nat} {v : Value} {d : DataW H} {p : List MemPlace} (hv : Value.okWide Tryz.prog W r b0 51 v) (h : DataW.Trod enc Tryz.prog W base (fun _ => true) held 51 v d p) :
    ∃ a : Acct, v = acV a ∧ a.id.length ≤ Rows.uptoBulk d ∧ a.cur.length ≤ Rows.uptoBulk d ∧ (-9223372036854775808 ≤ a.bal ∧ a.bal ≤ 9223372036854775807) := by
  obtain ⟨⟨cl⟩, rfl, hsz⟩ := okWide_struct Tryz.underlying51 hv
  obtain ⟨fuel, hf⟩ := h
  have hf' : DataW.trod enc Tryz.prog W base (fun _ => true) held fuel 51 cl = some (d, p) := hf
  obtain ⟨xs, m, _, hx, hl, hxl, hf⟩ := DataW.trod_struct Tryz.underlying51 hf'
  rw [cellsAcct] at hl
  match cl, hl with
  | [c0, c1, c2, c3, c4, c5], _ =>
    match xs, hxl with
    | [y0, y1, y2, y3, y4, y5], _ =>
      have h0 : DataW.trod enc Tryz.prog W base (fun _ => true) held m 9 [c0] = some y0 := field_of hf 0 rfl cellsStry
      have h1 : DataW.trod enc Tryz.prog W base (fun _ => true) held m 9 [c1] = some y1 := field_of hf 1 rfl cellsStry
      have h2 : DataW.trod enc Tryz.prog W base (fun _ => true) held m 3 [c2] = some y2 := field_of hf 2 rfl cellsInt
      have h3 : DataW.trod enc Tryz.prog W base (fun _ => true) held m 4 [c3] = some y3 := field_of hf 3 rfl cellsBoolw
      have h4 : DataW.trod enc Tryz.prog W base (fun _ => true) held m 2 [c4] = some y4 := field_of hf 4 rfl cellsI64y
      have h5 : DataW.trod enc Tryz.prog W base (fun _ => true) held m 2 [c5] = some y5 := field_of hf 5 rfl cellsI64y
      obtain ⟨s0, e0, f0⟩ := DataW.trod_string Tryz.underlying9 h0
      obtain ⟨s1, e1, f1⟩ := DataW.trod_string Tryz.underlying9 h1
      obtain ⟨n2, e2, f2, w2⟩ := DataW.trod_int Tryz.underlying3 h2
      obtain ⟨b3, e3, f3⟩ := DataW.trod_bool Tryz.underlying4 h3
      obtain ⟨n4, e4, f4, w4⟩ := DataW.trod_int Tryz.underlying2 h4
      obtain ⟨n5, e5, f5, w5⟩ := DataW.trod_int Tryz.underlying2 h5
      simp only [List.cons.injEq, and_true] at e0 e1 e2 e3 e4 e5
      subst e0; subst e1; subst e2; subst e3; subst e4; subst e5
      obtain rfl : d = .agg [y0.1, y1.1, y2.1, y3.1, y4.1, y5.1] := (Prod.mk.inj hx).1
      have pl := agg_parts (H := H) [y0.1, y1.1, y2.1, y3.1, y4.1, y5.1]
      have m0 := part_le (H := H) (d := y0.1) (l := [y0.1, y1.1, y2.1, y3.1, y4.1, y5.1]) (by simp)
      have m1 := part_le (H := H) (d := y1.1) (l := [y0.1, y1.1, y2.1, y3.1, y4.1, y5.1]) (by simp)
      have k0 : s0.data.toList.length ≤ Rows.uptoBulk y0.1 := by rw [f0.1, string_eq]; omega
      have k1 : s1.data.toList.length ≤ Rows.uptoBulk y1.1 := by rw [f1.1, string_eq]; omega
      exact ⟨⟨s0.data.toList, s1.data.toList, n2, b3, n4, n5⟩, rfl, Nat.le_trans k0 (Nat.le_trans m0 pl), Nat.le_trans k1 (Nat.le_trans m1 pl), i64_both w4⟩
end
end Go.Proofs.YtnbgcimalpdfoaaGreatDoor
/-
  Arguments of chapter 15 opened: a life, by value.
-/
namespace Go.Proofs.YtnbgcimalpdfoaaGreatDoor
open Go Go.RowKit Go.ChangeShapes Go.WideShapes Go.Deep
theorem cellsLife : Tryz.prog.cellsOf 76 = 4 := by kernel_rfl
section
variable {H : Type} {enc : TypeId × Value → H} {W : World} {base : Nat} {held : Bool}
set_option maxRecDepth 100000 in
theorem life_of {r : Reach} {b0 : Nat} {v : Value} {d : DataW H} {p : List MemPlace} (hv : Value.okWide Tryz.prog W r b0 76 v) (h : DataW.Trod enc Tryz.prog W base (fun _ => true) held 76 v d p) :
    ∃ (b : List UInt8) (x y : Int) (on : Bool), v = .agg #[strV b, .int .i64 x, .int .i64 y, .bool on] ∧ b.length ≤ Rows.uptoBulk d := by
  obtain ⟨⟨cl⟩, rfl, hsz⟩ := okWide_struct Tryz.underlying76 hv
  obtain ⟨fuel, hf⟩ := h
  have hf' : DataW.trod enc Tryz.prog W base (fun _ => true) held fuel 76 cl = some (d, p) := hf
  obtain ⟨xs, m, _, hx, hl, hxl, hf⟩ := DataW.trod_struct Tryz.underlying76 hf'
  rw [cellsLife] at hl
  match cl, hl with
  | [c0, c1, c2, c3], _ =>
    match xs, hxl with
    | [y0, y1, y2, y3], _ =>
      have h0 : DataW.trod enc Tryz.prog W base (fun _ => true) held m 9 [c0] = some y0 := field_of hf 0 rfl cellsStry
      have h1 : DataW.trod enc Tryz.prog W base (fun _ => true) held m 2 [c1] = some y1 := field_of hf 1 rfl cellsI64y
      have h2 : DataW.trod enc Tryz.prog W base (fun _ => true) held m 2 [c2] = some y2 := field_of hf 2 rfl cellsI64y
      have h3 : DataW.trod enc Tryz.prog W base (fun _ => true) held m 4 [c3] = some y3 := field_of hf 3 rfl cellsBoolw
      obtain ⟨s0, e0, f0⟩ := DataW.trod_string Tryz.underlying9 h0
      obtain ⟨n1, e1, f1, w1⟩ := DataW.trod_int Tryz.underlying2 h1
      obtain ⟨n2, e2, f2, w2⟩ := DataW.trod_int Tryz.underlying2 h2
      obtain ⟨b3, e3, f3⟩ := DataW.trod_bool Tryz.underlying4 h3
      simp only [List.cons.injEq, and_true] at e0 e1 e2 e3
      subst e0; subst e1; subst e2; subst e3
      obtain rfl : d = .agg [y0.1, y1.1, y2.1, y3.1] := (Prod.mk.inj hx).1
      have pl := agg_parts (H := H) [y0.1, y1.1, y2.1, y3.1]
      have m0 := part_le (H := H) (d := y0.1) (l := [y0.1, y1.1, y2.1, y3.1]) (by simp)
      have k0 : s0.data.toList.length ≤ Rows.uptoBulk y0.1 := by rw [f0.1, string_eq]; omega
      exact ⟨s0.data.toList, n1, n2, b3, rfl, Nat.le_trans k0 (Nat.le_trans m0 pl)⟩
end
end Go.Proofs.YtnbgcimalpdfoaaGreatDoor
