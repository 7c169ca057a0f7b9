/-
  Open12r.
-/
import Derived.Test.YtehheokalgmbgaaDoorHCM
import Derived.Test.YtehheokalgmbgaaDoorHBK
/-
  Arguments of chapter 12 opened: a list of rows.
-/
namespace Go.Proofs.YtehheokalgmbgaaDoor
open Go Go.RowKit Go.ChangeShapes Go.WideShapes Go.Deep
theorem cellsRow12 : Tryd.prog.cellsOf 65 = 2 := by kernel_rfl
section
variable {H : Type} {enc : TypeId × Value → H} {W : World} {base : Nat} {held : Bool}
set_option maxRecDepth 100000 in
theorem rows12_of {r : Reach} {b0 : Nat} {v : Value} {d : DataW H} {p : List MemPlace} (hv : Value.okWide Tryd.prog W r b0 45 v) (h : DataW.Trod enc Tryd.prog W base (fun _ => true) held 45 v d p) :
    ∃ l : Rows, LsAt W rC 2 v l ∧ l.length ≤ Rows.uptoBulk d ∧ (l ≠ [] → ∃ es sp, d = .slice es sp ∧ es.length = l.length) := by
  obtain ⟨n, hf⟩ := param_slice Tryd.underlying45 hv h
  obtain ⟨l, ad, c, e, hb, -, -, -, hx, hz⟩ := elems_of (α := List UInt8 × List UInt8) Tryd.underlying45 cellsRow12 (by omega) (fun s cs _ => cs = rC s) (fun n cs x hx => by
    obtain ⟨xs, m, _, rfl, hl, hxl, hf⟩ := DataW.trod_struct Tryd.underlying65 hx
    rw [cellsRow12] at hl
    match cs, hl with
    | [c0, c1], _ =>
      match xs, hxl with
      | [y0, y1], _ =>
        have h0 : DataW.trod enc Tryd.prog W base (fun _ => true) held m 9 [c0] = some y0 := field_of hf 0 rfl cellsStr
        have h1 : DataW.trod enc Tryd.prog W base (fun _ => true) held m 9 [c1] = some y1 := field_of hf 1 rfl cellsStr
        obtain ⟨s0, e0, -⟩ := DataW.trod_string Tryd.underlying9 h0
        obtain ⟨s1, e1, -⟩ := DataW.trod_string Tryd.underlying9 h1
        simp only [List.cons.injEq, and_true] at e0 e1
        subst e0; subst e1
        exact ⟨(s0.data.toList, s1.data.toList), rfl⟩) hf
  simp only [List.cons.injEq, and_true] at e
  refine ⟨l, ⟨ad, c, e, fun hne => ?_⟩, hb, hz⟩
  obtain ⟨b, o, h1, h2, h3⟩ := hx hne
  refine ⟨b, o, h1, h2, fun i x hx => ?_⟩
  obtain ⟨cs, D, rfl, _, _, h4⟩ := h3 i x hx
  exact h4
end
end Go.Proofs.YtehheokalgmbgaaDoor
