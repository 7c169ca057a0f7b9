/-
  WiO2.
-/
import Derived.Test.YtnbgcimalpdfoaaGreatDoorPEM
import Derived.Test.YtnbgcimalpdfoaaGreatDoorPEP
/-
  Arguments of chapter 19 opened: a list of payments.
-/
namespace Go.Proofs.YtnbgcimalpdfoaaGreatDoor
open Go Go.RowKit Go.ChangeShapes Go.WideShapes Go.Deep
instance : Inhabited PayR := ⟨⟨[], 0, 0⟩⟩
theorem cellsPay : Tryz.prog.cellsOf 28 = 3 := by kernel_rfl
theorem cellsI64w : Tryz.prog.cellsOf 2 = 1 := by kernel_rfl
theorem cellsStrw : Tryz.prog.cellsOf 9 = 1 := by kernel_rfl
section
variable {H : Type} {enc : TypeId × Value → H} {W : World} {base : Nat} {held : Bool}
set_option maxRecDepth 100000 in
theorem pays_of {r : Reach} {b0 : Nat} {v : Value} {d : DataW H} {p : List MemPlace} (hv : Value.okWide Tryz.prog W r b0 22 v) (h : DataW.Trod enc Tryz.prog W base (fun _ => true) held 22 v d p) :
    ∃ (l : List PayR) (ad : Option Addr) (c : Nat), v = .slice ad l.length c ∧ LsAt W payC 3 (.slice ad l.length c) l ∧ l.length ≤ Rows.uptoBulk d ∧ l.length ≤ c ∧ ∀ o ∈ l, o.acc.length ≤ Rows.uptoBulk d := by
  obtain ⟨n, hf⟩ := param_slice Tryz.underlying22 hv h
  obtain ⟨l, ad, c, e, hb, hlc, -, -, hx, hz⟩ := elems_of (α := PayR) Tryz.underlying22 cellsPay (by omega) (fun s cs D => cs = payC s ∧ s.acc.length ≤ Rows.uptoBulk D) (fun n cs x hx => by
    obtain ⟨xs, m, _, rfl, hl, hxl, hf⟩ := DataW.trod_struct Tryz.underlying28 hx
    rw [cellsPay] at hl
    match cs, hl with
    | [c0, c1, c2], _ =>
      match xs, hxl with
      | [y0, y1, y2], _ =>
        have h0 : DataW.trod enc Tryz.prog W base (fun _ => true) held m 9 [c0] = some y0 := field_of hf 0 rfl cellsStrw
        have h1 : DataW.trod enc Tryz.prog W base (fun _ => true) held m 3 [c1] = some y1 := field_of hf 1 rfl cellsInt
        have h2 : DataW.trod enc Tryz.prog W base (fun _ => true) held m 2 [c2] = some y2 := field_of hf 2 rfl cellsI64w
        obtain ⟨s0, e0, f0⟩ := DataW.trod_string Tryz.underlying9 h0
        obtain ⟨n1, e1, f1, w1⟩ := DataW.trod_int Tryz.underlying3 h1
        obtain ⟨n2, e2, f2, w2⟩ := DataW.trod_int Tryz.underlying2 h2
        simp only [List.cons.injEq, and_true] at e0 e1 e2
        subst e0; subst e1; subst e2
        have pl := agg_parts (H := H) [y0.1, y1.1, y2.1]
        have m0 := part_le (H := H) (d := y0.1) (l := [y0.1, y1.1, y2.1]) (by simp)
        have n0 : s0.data.toList.length ≤ Rows.uptoBulk y0.1 := by rw [f0.1, string_eq]; omega
        exact ⟨⟨s0.data.toList, n1, n2⟩, rfl, Nat.le_trans n0 (Nat.le_trans m0 pl)⟩) hf
  simp only [List.cons.injEq, and_true] at e
  refine ⟨l, ad, c, e, ⟨ad, c, rfl, fun hne => ?_⟩, hb, hlc, fun o ho => ?_⟩
  · obtain ⟨b, o, h1, h2, h3⟩ := hx hne
    refine ⟨b, o, h1, h2, fun i x hx => ?_⟩
    obtain ⟨cs, D, ⟨rfl, _⟩, _, _, h4⟩ := h3 i x hx
    exact h4
  · obtain ⟨i, hi, he⟩ := List.mem_iff_getElem.1 ho
    obtain ⟨b, o', h1, h2, h3⟩ := hx (by intro e; rw [e] at ho; cases ho)
    obtain ⟨cs, D, ⟨_, k1⟩, k3, _, _⟩ := h3 i o (by rw [List.getElem?_eq_getElem hi, he])
    exact Nat.le_trans k1 k3
end
end Go.Proofs.YtnbgcimalpdfoaaGreatDoor
