/-
  Open12.
-/
import Derived.Test.YtehheokalgmbgaaDoorHCL
import Derived.Test.YtehheokalgmbgaaDoorHBH
/-
  Arguments of chapter 12 opened: a list of ops.
-/
namespace Go.Proofs.YtehheokalgmbgaaDoor
open Go Go.RowKit Go.ChangeShapes Go.WideShapes Go.Deep
theorem cellsBool : Tryd.prog.cellsOf 4 = 1 := by kernel_rfl
theorem cellsOp12 : Tryd.prog.cellsOf 29 = 3 := by kernel_rfl
section
variable {H : Type} {enc : TypeId × Value → H} {W : World} {base : Nat} {held : Bool}
set_option maxRecDepth 100000 in
theorem ops12_of {r : Reach} {b0 : Nat} {v : Value} {d : DataW H} {p : List MemPlace} (hv : Value.okWide Tryd.prog W r b0 22 v) (h : DataW.Trod enc Tryd.prog W base (fun _ => true) held 22 v d p) :
    ∃ l : List BOp, LsAt W opC 3 v l ∧ l.length ≤ Rows.uptoBulk d ∧ (l ≠ [] → ∃ es sp, d = .slice es sp ∧ es.length = l.length) ∧ ∀ (i : Nat) (o : BOp), l[i]? = some o → o.key.length ≤ Rows.uptoBulk d ∧ o.val.length ≤ Rows.uptoBulk d := by
  obtain ⟨n, hf⟩ := param_slice Tryd.underlying22 hv h
  obtain ⟨l, ad, c, e, hb, -, -, -, hx, hz⟩ := elems_of (α := BOp) Tryd.underlying22 cellsOp12 (by omega) (fun s cs D => cs = opC s ∧ s.key.length ≤ Rows.uptoBulk D ∧ s.val.length ≤ Rows.uptoBulk D) (fun n cs x hx => by
    obtain ⟨xs, m, _, rfl, hl, hxl, hf⟩ := DataW.trod_struct Tryd.underlying29 hx
    rw [cellsOp12] at hl
    match cs, hl with
    | [c0, c1, c2], _ =>
      match xs, hxl with
      | [y0, y1, y2], _ =>
        have h0 : DataW.trod enc Tryd.prog W base (fun _ => true) held m 4 [c0] = some y0 := field_of hf 0 rfl cellsBool
        have h1 : DataW.trod enc Tryd.prog W base (fun _ => true) held m 9 [c1] = some y1 := field_of hf 1 rfl cellsStr
        have h2 : DataW.trod enc Tryd.prog W base (fun _ => true) held m 9 [c2] = some y2 := field_of hf 2 rfl cellsStr
        obtain ⟨b0, e0, -⟩ := DataW.trod_bool Tryd.underlying4 h0
        obtain ⟨s1, e1, f1⟩ := DataW.trod_string Tryd.underlying9 h1
        obtain ⟨s2, e2, f2⟩ := DataW.trod_string Tryd.underlying9 h2
        simp only [List.cons.injEq, and_true] at e0 e1 e2
        subst e0; subst e1; subst e2
        have pl := agg_parts (H := H) [y0.1, y1.1, y2.1]
        have m1 := part_le (H := H) (d := y1.1) (l := [y0.1, y1.1, y2.1]) (by simp)
        have m2 := part_le (H := H) (d := y2.1) (l := [y0.1, y1.1, y2.1]) (by simp)
        have n1 : s1.data.toList.length ≤ Rows.uptoBulk y1.1 := by rw [f1.1]; show _ ≤ Rows.uptoBulk (DataW.lit (H := H) (.string s1.data.toList)); rw [string_eq]; omega
        have n2 : s2.data.toList.length ≤ Rows.uptoBulk y2.1 := by rw [f2.1]; show _ ≤ Rows.uptoBulk (DataW.lit (H := H) (.string s2.data.toList)); rw [string_eq]; omega
        exact ⟨⟨b0, s1.data.toList, s2.data.toList⟩, rfl, Nat.le_trans n1 (Nat.le_trans m1 pl), Nat.le_trans n2 (Nat.le_trans m2 pl)⟩) hf
  simp only [List.cons.injEq, and_true] at e
  refine ⟨l, ⟨ad, c, e, fun hne => ?_⟩, hb, hz, fun i o ho => ?_⟩
  · obtain ⟨b, o, h1, h2, h3⟩ := hx hne
    refine ⟨b, o, h1, h2, fun i x hx => ?_⟩
    obtain ⟨cs, D, ⟨rfl, _, _⟩, _, _, h4⟩ := h3 i x hx
    exact h4
  · obtain ⟨b, o', h1, h2, h3⟩ := hx (by intro e; rw [e] at ho; simp at ho)
    obtain ⟨cs, D, ⟨_, k1, k2⟩, k3, _, _⟩ := h3 i o ho
    exact ⟨Nat.le_trans k1 k3, Nat.le_trans k2 k3⟩
end
end Go.Proofs.YtehheokalgmbgaaDoor
