/-
  WpO.
-/
import Derived.Test.YtnbgcimalpdfoaaGreatDoorPEX
import Derived.Test.YtnbgcimalpdfoaaGreatDoorPEP
import Derived.Test.YtnbgcimalpdfoaaGreatDoorPER
/-
  Arguments of chapter 19 opened: a script of calls.
-/
namespace Go.Proofs.YtnbgcimalpdfoaaGreatDoor
open Go Go.RowKit Go.ChangeShapes Go.WideShapes Go.Deep
instance : Inhabited WOp := ⟨⟨0, [], 0, 0, 0, 0, []⟩⟩
theorem cellsI64v : Tryz.prog.cellsOf 2 = 1 := by kernel_rfl
theorem cellsStrv : Tryz.prog.cellsOf 9 = 1 := by kernel_rfl
theorem Ct.noPw {P : Program} {W : World} {f : FuncId} {args : List Value} {X : Type} {r : X → Value} (h : Ct P W f args [noP] r (fun _ => [noP])) : Ct P W f args [] r (fun _ => []) :=
  ⟨fun R w s => (h.go R w (s.mono noP_star)).mono fun _ _ ⟨x, he, hs⟩ => ⟨x, he, hs.right (A := [noP])⟩⟩
theorem cellsWop : Tryz.prog.cellsOf 39 = 7 := by kernel_rfl
theorem plays19_law {W : World} {F : Nat → Addr} (hE : ErrsAt W F) (hN : NibAt W) (hg : gB ≤ W.heap.size) (a : Option Addr) (c : Nat) (S : List WOp) (hS : Lv W wopC 7 noP a S) (hl : S.length ≤ 1048576) (hb : ∀ p ∈ S, p.acc.length ≤ 1099511627776 ∧ p.now ≤ 9223372036854775807 ∧ p.most ≤ 9223372036854775807) :
    Ct Tryz.prog W 4 [.slice a S.length c] [] (fun _ : Unit => .bool true) (fun _ => []) := (plays19_ct hE hN hg noP a c S hS hl hb).noPw
section
variable {H : Type} {enc : TypeId × Value → H} {W : World} {base : Nat} {held : Bool}
set_option maxRecDepth 100000 in
theorem wops_of {r : Reach} {b0 : Nat} {v : Value} {d : DataW H} {p : List MemPlace} (hv : Value.okWide Tryz.prog W r b0 36 v) (h : DataW.Trod enc Tryz.prog W base (fun _ => true) held 36 v d p) :
    ∃ (l : List WOp) (ad : Option Addr) (c : Nat), v = .slice ad l.length c ∧ LsAt W wopC 7 (.slice ad l.length c) l ∧ l.length ≤ Rows.uptoBulk d ∧ l.length ≤ c ∧ ∀ o ∈ l, o.acc.length ≤ Rows.uptoBulk d ∧ o.now ≤ 9223372036854775807 ∧ o.most ≤ 9223372036854775807 := by
  obtain ⟨n, hf⟩ := param_slice Tryz.underlying36 hv h
  obtain ⟨l, ad, c, e, hb, hlc, -, -, hx, hz⟩ := elems_of (α := WOp) Tryz.underlying36 cellsWop (by omega) (fun s cs D => cs = wopC s ∧ s.acc.length ≤ Rows.uptoBulk D ∧ s.now ≤ 9223372036854775807 ∧ s.most ≤ 9223372036854775807) (fun n cs x hx => by
    obtain ⟨xs, m, _, rfl, hl, hxl, hf⟩ := DataW.trod_struct Tryz.underlying39 hx
    rw [cellsWop] at hl
    match cs, hl with
    | [c0, c1, c2, c3, c4, c5, c6], _ =>
      match xs, hxl with
      | [y0, y1, y2, y3, y4, y5, y6], _ =>
        have h0 : DataW.trod enc Tryz.prog W base (fun _ => true) held m 3 [c0] = some y0 := field_of hf 0 rfl cellsInt
        have h1 : DataW.trod enc Tryz.prog W base (fun _ => true) held m 9 [c1] = some y1 := field_of hf 1 rfl cellsStrv
        have h2 : DataW.trod enc Tryz.prog W base (fun _ => true) held m 3 [c2] = some y2 := field_of hf 2 rfl cellsInt
        have h3 : DataW.trod enc Tryz.prog W base (fun _ => true) held m 3 [c3] = some y3 := field_of hf 3 rfl cellsInt
        have h4 : DataW.trod enc Tryz.prog W base (fun _ => true) held m 2 [c4] = some y4 := field_of hf 4 rfl cellsI64v
        have h5 : DataW.trod enc Tryz.prog W base (fun _ => true) held m 2 [c5] = some y5 := field_of hf 5 rfl cellsI64v
        have h6 : DataW.trod enc Tryz.prog W base (fun _ => true) held m 9 [c6] = some y6 := field_of hf 6 rfl cellsStrv
        obtain ⟨n0, e0, f0, w0⟩ := DataW.trod_int Tryz.underlying3 h0
        obtain ⟨s1, e1, f1⟩ := DataW.trod_string Tryz.underlying9 h1
        obtain ⟨n2, e2, f2, w2⟩ := DataW.trod_int Tryz.underlying3 h2
        obtain ⟨n3, e3, f3, w3⟩ := DataW.trod_int Tryz.underlying3 h3
        obtain ⟨n4, e4, f4, w4⟩ := DataW.trod_int Tryz.underlying2 h4
        obtain ⟨n5, e5, f5, w5⟩ := DataW.trod_int Tryz.underlying2 h5
        obtain ⟨s6, e6, f6⟩ := DataW.trod_string Tryz.underlying9 h6
        simp only [List.cons.injEq, and_true] at e0 e1 e2 e3 e4 e5 e6
        subst e0; subst e1; subst e2; subst e3; subst e4; subst e5; subst e6
        have pl := agg_parts (H := H) [y0.1, y1.1, y2.1, y3.1, y4.1, y5.1, y6.1]
        have m1 := part_le (H := H) (d := y1.1) (l := [y0.1, y1.1, y2.1, y3.1, y4.1, y5.1, y6.1]) (by simp)
        have n1 : s1.data.toList.length ≤ Rows.uptoBulk y1.1 := by rw [f1.1, string_eq]; omega
        exact ⟨⟨n0, s1.data.toList, n2, n3, n4, n5, s6.data.toList⟩, rfl, Nat.le_trans n1 (Nat.le_trans m1 pl), (i64_lit w2).2, (i64_lit w4).2⟩) hf
  simp only [List.cons.injEq, and_true] at e
  refine ⟨l, ad, c, e, ⟨ad, c, rfl, fun hne => ?_⟩, hb, hlc, fun o ho => ?_⟩
  · obtain ⟨b, o, h1, h2, h3⟩ := hx hne
    refine ⟨b, o, h1, h2, fun i x hx => ?_⟩
    obtain ⟨cs, D, ⟨rfl, _⟩, _, _, h4⟩ := h3 i x hx
    exact h4
  · obtain ⟨i, hi, he⟩ := List.mem_iff_getElem.1 ho
    obtain ⟨b, o', h1, h2, h3⟩ := hx (by intro e; rw [e] at ho; cases ho)
    obtain ⟨cs, D, ⟨_, k1, k5, k6⟩, k3, _, _⟩ := h3 i o (by rw [List.getElem?_eq_getElem hi, he])
    exact ⟨Nat.le_trans k1 k3, k5, k6⟩
end
end Go.Proofs.YtnbgcimalpdfoaaGreatDoor
