/-
  Open12.
-/
import Derived.Test.YtehheokalgmbgaaDoorDBR
import Derived.Test.YtehheokalgmbgaaDoorDBH
/-
  Arguments of chapter 12 opened: a list of ops.
-/
namespace Go.Proofs.YtehheokalgmbgaaDoor
open Go Go.RowKit Go.ChangeShapes Go.WideShapes Go.Deep
theorem cellsBool : Tryd.prog.cellsOf 4 = 1 := by kernel_rfl
theorem cellsOp12 : Tryd.prog.cellsOf 29 = 3 := by kernel_rfl
section
variable {H : Type} {enc : TypeId × Value → H} {W : World} {base : Nat} {held : Bool}
set_option maxRecDepth 100000 in
theorem ops12_of {r : Reach} {b0 : Nat} {v : Value} {d : DataW H} {p : List MemPlace} (hv : Value.okWide Tryd.prog W r b0 22 v) (h : DataW.Trod enc Tryd.prog W base (fun _ => true) held 22 v d p) :
    ∃ l : List BOp, LsAt W opC 3 v l ∧ l.length ≤ Rows.uptoBulk d ∧ (l ≠ [] → ∃ es sp, d = .slice es sp ∧ es.length = l.length) := by
  obtain ⟨n, hf⟩ := param_slice Tryd.underlying22 hv h
  obtain ⟨l, ad, c, e, hb, -, -, -, hx, hz⟩ := elems_of (α := BOp) Tryd.underlying22 cellsOp12 (by omega) (fun s cs D => cs = opC s) (fun n cs x hx => by
    obtain ⟨xs, m, _, rfl, hl, hxl, hf⟩ := DataW.trod_struct Tryd.underlying29 hx
    rw [cellsOp12] at hl
    match cs, hl with
    | [c0, c1, c2], _ =>
      match xs, hxl with
      | [y0, y1, y2], _ =>
        have h0 : DataW.trod enc Tryd.prog W base (fun _ => true) held m 4 [c0] = some y0 := field_of hf 0 rfl cellsBool
        have h1 : DataW.trod enc Tryd.prog W base (fun _ => true) held m 9 [c1] = some y1 := field_of hf 1 rfl cellsStr
        have h2 : DataW.trod enc Tryd.prog W base (fun _ => true) held m 9 [c2] = some y2 := field_of hf 2 rfl cellsStr
        obtain ⟨b0, e0, -⟩ := DataW.trod_bool Tryd.underlying4 h0
        obtain ⟨s1, e1, -⟩ := DataW.trod_string Tryd.underlying9 h1
        obtain ⟨s2, e2, -⟩ := DataW.trod_string Tryd.underlying9 h2
        simp only [List.cons.injEq, and_true] at e0 e1 e2
        subst e0; subst e1; subst e2
        exact ⟨⟨b0, s1.data.toList, s2.data.toList⟩, rfl⟩) hf
  simp only [List.cons.injEq, and_true] at e
  refine ⟨l, ⟨ad, c, e, fun hne => ?_⟩, hb, hz⟩
  obtain ⟨b, o, h1, h2, h3⟩ := hx hne
  refine ⟨b, o, h1, h2, fun i x hx => ?_⟩
  obtain ⟨cs, D, rfl, _, _, h4⟩ := h3 i x hx
  exact h4
end
end Go.Proofs.YtehheokalgmbgaaDoor
