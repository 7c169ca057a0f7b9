/-
  Open24.
-/
import Derived.Test.YtehheokalgmbgaaBBP
import Derived.Test.YtehheokalgmbgaaBBL
/-
  Arguments of chapter 24 opened: a script.
-/
namespace Go.Proofs.Ytehheokalgmbgaa
open Go Go.RowKit Go.ChangeShapes Go.WideShapes Go.Deep
theorem cellsMsg : Try.prog.cellsOf 31 = 7 := by kernel_rfl
theorem cellsI64 : Try.prog.cellsOf 2 = 1 := by kernel_rfl
theorem cellsBool : Try.prog.cellsOf 4 = 1 := by kernel_rfl
theorem cellsOp24 : Try.prog.cellsOf 33 = 9 := by kernel_rfl
section
variable {H : Type} {enc : TypeId × Value → H} {W : World} {base : Nat} {held : Bool}
set_option maxRecDepth 100000 in
theorem msg_cells {n : Nat} {cs : List Value} {x : DataW H × List MemPlace} (h : DataW.trod enc Try.prog W base (fun _ => true) held n 31 cs = some x) : ∃ m : RMsg, cs = m.cells := by
  obtain ⟨xs, m, _, rfl, hl, hxl, hf⟩ := DataW.trod_struct Try.underlying31 h
  rw [cellsMsg] at hl
  match cs, hl with
  | [c0, c1, c2, c3, c4, c5, c6], _ =>
    match xs, hxl with
    | [y0, y1, y2, y3, y4, y5, y6], _ =>
      have h0 : DataW.trod enc Try.prog W base (fun _ => true) held m 3 [c0] = some y0 := field_of hf 0 rfl cellsInt
      have h1 : DataW.trod enc Try.prog W base (fun _ => true) held m 3 [c1] = some y1 := field_of hf 1 rfl cellsInt
      have h2 : DataW.trod enc Try.prog W base (fun _ => true) held m 9 [c2] = some y2 := field_of hf 2 rfl cellsStr
      have h3 : DataW.trod enc Try.prog W base (fun _ => true) held m 3 [c3] = some y3 := field_of hf 3 rfl cellsInt
      have h4 : DataW.trod enc Try.prog W base (fun _ => true) held m 2 [c4] = some y4 := field_of hf 4 rfl cellsI64
      have h5 : DataW.trod enc Try.prog W base (fun _ => true) held m 9 [c5] = some y5 := field_of hf 5 rfl cellsStr
      have h6 : DataW.trod enc Try.prog W base (fun _ => true) held m 9 [c6] = some y6 := field_of hf 6 rfl cellsStr
      obtain ⟨n0, e0, -⟩ := DataW.trod_int Try.underlying3 h0
      obtain ⟨n1, e1, -⟩ := DataW.trod_int Try.underlying3 h1
      obtain ⟨s2, e2, -⟩ := DataW.trod_string Try.underlying9 h2
      obtain ⟨n3, e3, -⟩ := DataW.trod_int Try.underlying3 h3
      obtain ⟨n4, e4, -⟩ := DataW.trod_int Try.underlying2 h4
      obtain ⟨s5, e5, -⟩ := DataW.trod_string Try.underlying9 h5
      obtain ⟨s6, e6, -⟩ := DataW.trod_string Try.underlying9 h6
      simp only [List.cons.injEq, and_true] at e0 e1 e2 e3 e4 e5 e6
      subst e0; subst e1; subst e2; subst e3; subst e4; subst e5; subst e6
      exact ⟨⟨n0, n1, s2.data.toList, n3, n4, s5.data.toList, s6.data.toList⟩, rfl⟩
set_option maxRecDepth 100000 in
theorem script24_of {r : Reach} {b0 : Nat} {v : Value} {d : DataW H} {p : List MemPlace} (hv : Value.okWide Try.prog W r b0 22 v) (h : DataW.Trod enc Try.prog W base (fun _ => true) held 22 v d p) :
    ∃ l : List ROp, LsAt W ROp.cells 9 v l ∧ l.length ≤ Rows.uptoBulk d ∧ (l ≠ [] → ∃ es sp, d = .slice es sp ∧ es.length = l.length) := by
  obtain ⟨n, hf⟩ := param_slice Try.underlying22 hv h
  obtain ⟨l, ad, c, e, hb, -, -, -, hx, hz⟩ := elems_of (α := ROp) Try.underlying22 cellsOp24 (by omega) (fun s cs D => cs = s.cells) (fun n cs x hx => by
    obtain ⟨xs, m, _, rfl, hl, hxl, hf⟩ := DataW.trod_struct Try.underlying33 hx
    rw [cellsOp24] at hl
    match cs, hl with
    | [c0, c1, c2, c3, c4, c5, c6, c7, c8], _ =>
      match xs, hxl with
      | [y0, y1, y2], _ =>
        have h0 : DataW.trod enc Try.prog W base (fun _ => true) held m 31 [c0, c1, c2, c3, c4, c5, c6] = some y0 := field_of hf 0 rfl cellsMsg
        have h1 : DataW.trod enc Try.prog W base (fun _ => true) held m 3 [c7] = some y1 := field_of hf 1 rfl cellsInt
        have h2 : DataW.trod enc Try.prog W base (fun _ => true) held m 4 [c8] = some y2 := field_of hf 2 rfl cellsBool
        obtain ⟨ms, e0⟩ := msg_cells h0
        obtain ⟨n1, e1, -⟩ := DataW.trod_int Try.underlying3 h1
        obtain ⟨b2, e2, -⟩ := DataW.trod_bool Try.underlying4 h2
        simp only [RMsg.cells, List.cons.injEq, and_true] at e0 e1 e2
        obtain ⟨rfl, rfl, rfl, rfl, rfl, rfl, rfl⟩ := e0
        subst e1; subst e2
        exact ⟨⟨ms, n1, b2⟩, rfl⟩) hf
  simp only [List.cons.injEq, and_true] at e
  refine ⟨l, ⟨ad, c, e, fun hne => ?_⟩, hb, hz⟩
  obtain ⟨b, o, h1, h2, h3⟩ := hx hne
  refine ⟨b, o, h1, h2, fun i x hx => ?_⟩
  obtain ⟨cs, D, rfl, _, _, h4⟩ := h3 i x hx
  exact h4
end
end Go.Proofs.Ytehheokalgmbgaa
