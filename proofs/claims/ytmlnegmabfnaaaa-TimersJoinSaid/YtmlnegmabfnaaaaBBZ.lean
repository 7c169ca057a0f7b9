/-
  Open21.
-/
import Derived.Test.YtmlnegmabfnaaaaBBY
import Derived.Test.YtmlnegmabfnaaaaBBW
/-
  Arguments of chapter 21 opened: a script.
-/
namespace Go.Proofs.Ytmlnegmabfnaaaa
open Go Go.RowKit Go.ChangeShapes Go.WideShapes Go.Deep
theorem cellsOp21 : Try.prog.cellsOf 43 = 3 := by kernel_rfl
section
variable {H : Type} {enc : TypeId × Value → H} {W : World} {base : Nat} {held : Bool}
set_option maxRecDepth 100000 in
theorem script21_of {r : Reach} {b0 : Nat} {v : Value} {d : DataW H} {p : List MemPlace} (hv : Value.okWide Try.prog W r b0 22 v) (h : DataW.Trod enc Try.prog W base (fun _ => true) held 22 v d p) :
    ∃ l : List TOp, LsAt W TOp.cells 3 v l ∧ l.length ≤ Rows.uptoBulk d ∧ (l ≠ [] → ∃ es sp, d = .slice es sp ∧ es.length = l.length) := by
  obtain ⟨n, hf⟩ := param_slice Try.underlying22 hv h
  obtain ⟨l, ad, c, e, hb, -, -, -, hx, hz⟩ := elems_of (α := TOp) Try.underlying22 cellsOp21 (by omega) (fun s cs D => cs = s.cells) (fun n cs x hx => by
    obtain ⟨xs, m, _, rfl, hl, hxl, hf⟩ := DataW.trod_struct Try.underlying43 hx
    rw [cellsOp21] at hl
    match cs, hl with
    | [c0, c1, c2], _ =>
      match xs, hxl with
      | [y0, y1, y2], _ =>
        have h0 : DataW.trod enc Try.prog W base (fun _ => true) held m 3 [c0] = some y0 := field_of hf 0 rfl cellsInt
        have h1 : DataW.trod enc Try.prog W base (fun _ => true) held m 3 [c1] = some y1 := field_of hf 1 rfl cellsInt
        have h2 : DataW.trod enc Try.prog W base (fun _ => true) held m 3 [c2] = some y2 := field_of hf 2 rfl cellsInt
        obtain ⟨n0, e0, -⟩ := DataW.trod_int Try.underlying3 h0
        obtain ⟨n1, e1, -⟩ := DataW.trod_int Try.underlying3 h1
        obtain ⟨n2, e2, -⟩ := DataW.trod_int Try.underlying3 h2
        simp only [List.cons.injEq, and_true] at e0 e1 e2
        subst e0; subst e1; subst e2
        exact ⟨⟨n0, n1, n2⟩, rfl⟩) hf
  simp only [List.cons.injEq, and_true] at e
  refine ⟨l, ⟨ad, c, e, fun hne => ?_⟩, hb, hz⟩
  obtain ⟨b, o, h1, h2, h3⟩ := hx hne
  refine ⟨b, o, h1, h2, fun i x hx => ?_⟩
  obtain ⟨cs, D, rfl, _, _, h4⟩ := h3 i x hx
  exact h4
end
end Go.Proofs.Ytmlnegmabfnaaaa
