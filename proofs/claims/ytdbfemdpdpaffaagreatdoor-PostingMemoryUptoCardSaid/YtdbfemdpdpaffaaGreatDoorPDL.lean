/-
  Open16.
-/
import Derived.Test.YtdbfemdpdpaffaaGreatDoorPDK
import Derived.Test.YtdbfemdpdpaffaaGreatDoorPCQ
/-
  Arguments of chapter 16 opened: legs, a posting by value.
-/
namespace Go.Proofs.YtdbfemdpdpaffaaGreatDoor
open Go Go.RowKit Go.ChangeShapes Go.WideShapes Go.Deep
theorem cellsI64 : Tryz.prog.cellsOf 2 = 1 := by kernel_rfl
theorem cellsLeg : Tryz.prog.cellsOf 55 = 2 := by kernel_rfl
theorem cellsLegs : Tryz.prog.cellsOf 23 = 1 := by kernel_rfl
theorem cellsPst : Tryz.prog.cellsOf 25 = 4 := by kernel_rfl
theorem i64_of {n : Int} (h : (Lit.int .i64 n).wf = true) : -9223372036854775808 ≤ n ∧ n ≤ 9223372036854775807 := by
  have h' : (decide (-9223372036854775808 ≤ n) && decide (n ≤ 9223372036854775807)) = true := h
  simpa only [Bool.and_eq_true, decide_eq_true_eq] using h'
section
variable {H : Type} {enc : TypeId × Value → H} {W : World} {base : Nat} {held : Bool}
theorem str_bulk {s : List UInt8} {y : DataW H} (h : y = .lit (.string s)) : s.length ≤ Rows.uptoBulk y := by
  subst h
  rw [string_eq]
  omega
set_option maxRecDepth 100000 in
theorem legs_cells {n : Nat} {cs : List Value} {x : DataW H × List MemPlace} (h : DataW.trod enc Tryz.prog W base (fun _ => true) held n 23 cs = some x) :
    ∃ (l : List Leg) (ad : Option Addr) (c : Nat), cs = [.slice ad l.length c] ∧ LsAt W legC 2 (.slice ad l.length c) l ∧ l.length ≤ Rows.uptoBulk x.1 ∧ l.length ≤ c ∧
      ∀ o ∈ l, o.acc.length ≤ Rows.uptoBulk x.1 ∧ -9223372036854775808 ≤ o.amt ∧ o.amt ≤ 9223372036854775807 := by
  obtain ⟨l, ad, c, e, hb, hlc, -, -, hx, hz⟩ := elems_of (α := Leg) Tryz.underlying23 cellsLeg (by omega) (fun s cs D => cs = legC s ∧ s.acc.length ≤ Rows.uptoBulk D ∧ -9223372036854775808 ≤ s.amt ∧ s.amt ≤ 9223372036854775807) (fun n cs x hx => by
    obtain ⟨xs, m, _, rfl, hl, hxl, hf⟩ := DataW.trod_struct Tryz.underlying55 hx
    rw [cellsLeg] at hl
    match cs, hl with
    | [c0, c1], _ =>
      match xs, hxl with
      | [y0, y1], _ =>
        have h0 : DataW.trod enc Tryz.prog W base (fun _ => true) held m 9 [c0] = some y0 := field_of hf 0 rfl cellsStr
        have h1 : DataW.trod enc Tryz.prog W base (fun _ => true) held m 2 [c1] = some y1 := field_of hf 1 rfl cellsI64
        obtain ⟨s0, e0, f0⟩ := DataW.trod_string Tryz.underlying9 h0
        obtain ⟨n1, e1, f1, w1⟩ := DataW.trod_int Tryz.underlying2 h1
        simp only [List.cons.injEq, and_true] at e0 e1
        subst e0; subst e1
        have pl := agg_parts (H := H) [y0.1, y1.1]
        have m0 := part_le (H := H) (d := y0.1) (l := [y0.1, y1.1]) (by simp)
        have n0 : s0.data.toList.length ≤ Rows.uptoBulk y0.1 := by rw [f0.1]; exact str_bulk rfl
        exact ⟨⟨s0.data.toList, n1⟩, rfl, Nat.le_trans n0 (Nat.le_trans m0 pl), i64_of w1⟩) h
  refine ⟨l, ad, c, e, ⟨ad, c, rfl, fun hne => ?_⟩, hb, hlc, fun o ho => ?_⟩
  · obtain ⟨b, o, h1, h2, h3⟩ := hx hne
    refine ⟨b, o, h1, h2, fun i x hx => ?_⟩
    obtain ⟨cs, D, ⟨rfl, _, _⟩, _, _, h4⟩ := h3 i x hx
    exact h4
  · obtain ⟨i, hi, he⟩ := List.mem_iff_getElem.1 ho
    obtain ⟨b, o', h1, h2, h3⟩ := hx (by intro e; rw [e] at ho; cases ho)
    obtain ⟨cs, D, ⟨_, k1, k2⟩, k3, _, _⟩ := h3 i o (by rw [List.getElem?_eq_getElem hi, he])
    exact ⟨Nat.le_trans k1 k3, k2⟩
set_option maxRecDepth 100000 in
theorem pst_of {r : Reach} {b0 : Nat} {v : Value} {d : DataW H} {p : List MemPlace} (hv : Value.okWide Tryz.prog W r b0 25 v) (h : DataW.Trod enc Tryz.prog W base (fun _ => true) held 25 v d p) (hd : Rows.uptoBulk d ≤ 1048576) :
    ∃ (p : Pst) (ad : Option Addr) (c : Nat), v = .agg (pstC p ad c).toArray ∧ LsAt W legC 2 (.slice ad p.legs.length c) p.legs ∧ PstFit p ∧
      p.id.length ≤ Rows.uptoBulk d ∧ p.note.length ≤ Rows.uptoBulk d ∧ p.legs.length ≤ Rows.uptoBulk d ∧ p.legs.length ≤ c := by
  obtain ⟨⟨cl⟩, rfl, hsz⟩ := okWide_struct Tryz.underlying25 hv
  obtain ⟨fuel, hf⟩ := h
  have hf' : DataW.trod enc Tryz.prog W base (fun _ => true) held fuel 25 cl = some (d, p) := hf
  obtain ⟨xs, m, _, hx, hl, hxl, hf⟩ := DataW.trod_struct Tryz.underlying25 hf'
  rw [cellsPst] at hl
  match cl, hl with
  | [c0, c1, c2, c3], _ =>
    match xs, hxl with
    | [y0, y1, y2, y3], _ =>
      have h0 : DataW.trod enc Tryz.prog W base (fun _ => true) held m 9 [c0] = some y0 := field_of hf 0 rfl cellsStr
      have h1 : DataW.trod enc Tryz.prog W base (fun _ => true) held m 3 [c1] = some y1 := field_of hf 1 rfl cellsInt
      have h2 : DataW.trod enc Tryz.prog W base (fun _ => true) held m 9 [c2] = some y2 := field_of hf 2 rfl cellsStr
      have h3 : DataW.trod enc Tryz.prog W base (fun _ => true) held m 23 [c3] = some y3 := field_of hf 3 rfl cellsLegs
      obtain ⟨s0, e0, f0⟩ := DataW.trod_string Tryz.underlying9 h0
      obtain ⟨n1, e1, f1, w1⟩ := DataW.trod_int Tryz.underlying3 h1
      obtain ⟨s2, e2, f2⟩ := DataW.trod_string Tryz.underlying9 h2
      obtain ⟨l, ad, c, e3, hL, hlb, hlc, hlx⟩ := legs_cells h3
      simp only [List.cons.injEq, and_true] at e0 e1 e2 e3
      subst e0; subst e1; subst e2; subst e3
      obtain rfl : d = .agg [y0.1, y1.1, y2.1, y3.1] := (Prod.mk.inj hx).1
      have pl := agg_parts (H := H) [y0.1, y1.1, y2.1, y3.1]
      have m0 := part_le (H := H) (d := y0.1) (l := [y0.1, y1.1, y2.1, y3.1]) (by simp)
      have m2 := part_le (H := H) (d := y2.1) (l := [y0.1, y1.1, y2.1, y3.1]) (by simp)
      have m3 := part_le (H := H) (d := y3.1) (l := [y0.1, y1.1, y2.1, y3.1]) (by simp)
      have n0 : s0.data.toList.length ≤ Rows.uptoBulk y0.1 := by rw [f0.1]; exact str_bulk rfl
      have n2 : s2.data.toList.length ≤ Rows.uptoBulk y2.1 := by rw [f2.1]; exact str_bulk rfl
      have k0 := Nat.le_trans n0 (Nat.le_trans m0 pl)
      have k2 := Nat.le_trans n2 (Nat.le_trans m2 pl)
      have k3 := Nat.le_trans hlb (Nat.le_trans m3 pl)
      have k4 := Nat.le_trans m3 (Nat.le_trans pl hd)
      exact ⟨⟨s0.data.toList, n1, s2.data.toList, l⟩, ad, c, rfl, hL, ⟨Nat.le_trans k0 (by omega), i64_of w1, Nat.le_trans k2 (by omega), Nat.le_trans k3 (by omega), fun o ho => Nat.le_trans (hlx o ho).1 (by omega), fun o ho => (hlx o ho).2⟩, k0, k2, k3, hlc⟩
end
end Go.Proofs.YtdbfemdpdpaffaaGreatDoor
