/-
  Open16, Open16b.
-/
import Derived.Test.YtdbfemdpdpaffaaGreatDoorPDH
import Derived.Test.YtdbfemdpdpaffaaGreatDoorPCQ
import Derived.Test.YtdbfemdpdpaffaaGreatDoorPDC
/-
  Arguments of chapter 16 opened: legs, a posting by value.
-/
namespace Go.Proofs.YtdbfemdpdpaffaaGreatDoor
open Go Go.RowKit Go.ChangeShapes Go.WideShapes Go.Deep
theorem cellsI64 : Tryz.prog.cellsOf 2 = 1 := by kernel_rfl
theorem cellsLeg : Tryz.prog.cellsOf 55 = 2 := by kernel_rfl
theorem cellsLegs : Tryz.prog.cellsOf 23 = 1 := by kernel_rfl
theorem i64_of {n : Int} (h : (Lit.int .i64 n).wf = true) : -9223372036854775808 ≤ n ∧ n ≤ 9223372036854775807 := by
  have h' : (decide (-9223372036854775808 ≤ n) && decide (n ≤ 9223372036854775807)) = true := h
  simpa only [Bool.and_eq_true, decide_eq_true_eq] using h'
section
variable {H : Type} {enc : TypeId × Value → H} {W : World} {base : Nat} {held : Bool}
theorem str_bulk {s : List UInt8} {y : DataW H} (h : y = .lit (.string s)) : s.length ≤ Rows.uptoBulk y := by
  subst h
  rw [string_eq]
  omega
set_option maxRecDepth 100000 in
theorem legs_cells {n : Nat} {cs : List Value} {x : DataW H × List MemPlace} (h : DataW.trod enc Tryz.prog W base (fun _ => true) held n 23 cs = some x) :
    ∃ (l : List Leg) (ad : Option Addr) (c : Nat), cs = [.slice ad l.length c] ∧ LsAt W legC 2 (.slice ad l.length c) l ∧ l.length ≤ Rows.uptoBulk x.1 ∧ l.length ≤ c ∧
      ∀ o ∈ l, o.acc.length ≤ Rows.uptoBulk x.1 ∧ -9223372036854775808 ≤ o.amt ∧ o.amt ≤ 9223372036854775807 := by
  obtain ⟨l, ad, c, e, hb, hlc, -, -, hx, hz⟩ := elems_of (α := Leg) Tryz.underlying23 cellsLeg (by omega) (fun s cs D => cs = legC s ∧ s.acc.length ≤ Rows.uptoBulk D ∧ -9223372036854775808 ≤ s.amt ∧ s.amt ≤ 9223372036854775807) (fun n cs x hx => by
    obtain ⟨xs, m, _, rfl, hl, hxl, hf⟩ := DataW.trod_struct Tryz.underlying55 hx
    rw [cellsLeg] at hl
    match cs, hl with
    | [c0, c1], _ =>
      match xs, hxl with
      | [y0, y1], _ =>
        have h0 : DataW.trod enc Tryz.prog W base (fun _ => true) held m 9 [c0] = some y0 := field_of hf 0 rfl cellsStr
        have h1 : DataW.trod enc Tryz.prog W base (fun _ => true) held m 2 [c1] = some y1 := field_of hf 1 rfl cellsI64
        obtain ⟨s0, e0, f0⟩ := DataW.trod_string Tryz.underlying9 h0
        obtain ⟨n1, e1, f1, w1⟩ := DataW.trod_int Tryz.underlying2 h1
        simp only [List.cons.injEq, and_true] at e0 e1
        subst e0; subst e1
        have pl := agg_parts (H := H) [y0.1, y1.1]
        have m0 := part_le (H := H) (d := y0.1) (l := [y0.1, y1.1]) (by simp)
        have n0 : s0.data.toList.length ≤ Rows.uptoBulk y0.1 := by rw [f0.1]; exact str_bulk rfl
        exact ⟨⟨s0.data.toList, n1⟩, rfl, Nat.le_trans n0 (Nat.le_trans m0 pl), i64_of w1⟩) h
  refine ⟨l, ad, c, e, ⟨ad, c, rfl, fun hne => ?_⟩, hb, hlc, fun o ho => ?_⟩
  · obtain ⟨b, o, h1, h2, h3⟩ := hx hne
    refine ⟨b, o, h1, h2, fun i x hx => ?_⟩
    obtain ⟨cs, D, ⟨rfl, _, _⟩, _, _, h4⟩ := h3 i x hx
    exact h4
  · obtain ⟨i, hi, he⟩ := List.mem_iff_getElem.1 ho
    obtain ⟨b, o', h1, h2, h3⟩ := hx (by intro e; rw [e] at ho; cases ho)
    obtain ⟨cs, D, ⟨_, k1, k2⟩, k3, _, _⟩ := h3 i o (by rw [List.getElem?_eq_getElem hi, he])
    exact ⟨Nat.le_trans k1 k3, k2⟩
end
end Go.Proofs.YtdbfemdpdpaffaaGreatDoor
/-
  Arguments of chapter 16 opened: lists of lists of legs, lists of postings.
-/
namespace Go.Proofs.YtdbfemdpdpaffaaGreatDoor
open Go Go.RowKit Go.ChangeShapes Go.WideShapes Go.Deep
instance : Inhabited Pst := ⟨⟨[], 0, [], []⟩⟩
section
variable {H : Type} {enc : TypeId × Value → H} {W : World} {base : Nat} {held : Bool}
set_option maxRecDepth 100000 in
theorem lists_of {r : Reach} {b0 : Nat} {v : Value} {d : DataW H} {p : List MemPlace} (hv : Value.okWide Tryz.prog W r b0 44 v) (h : DataW.Trod enc Tryz.prog W base (fun _ => true) held 44 v d p) :
    ∃ (ls : LL) (ad : Option Addr) (c : Nat), v = .slice ad ls.length c ∧ LsAt W lsC 1 (.slice ad ls.length c) ls ∧ ls.length ≤ Rows.uptoBulk d ∧ ls.length ≤ c ∧
      ∀ x ∈ ls, LsAt W legC 2 (.slice x.1 x.2.2.length x.2.1) x.2.2 ∧ x.2.2.length ≤ Rows.uptoBulk d ∧ ∀ o ∈ x.2.2, o.acc.length ≤ Rows.uptoBulk d ∧ -9223372036854775808 ≤ o.amt ∧ o.amt ≤ 9223372036854775807 := by
  obtain ⟨n, hf⟩ := param_slice Tryz.underlying44 hv h
  obtain ⟨l, ad, c, e, hb, hlc, -, -, hx, hz⟩ := elems_of (α := Option Addr × Nat × List Leg) Tryz.underlying44 cellsLegs (by omega) (fun s cs D => cs = lsC s ∧ LsAt W legC 2 (.slice s.1 s.2.2.length s.2.1) s.2.2 ∧ s.2.2.length ≤ Rows.uptoBulk D ∧ ∀ o ∈ s.2.2, o.acc.length ≤ Rows.uptoBulk D ∧ -9223372036854775808 ≤ o.amt ∧ o.amt ≤ 9223372036854775807) (fun n cs x hx => by
    obtain ⟨l, ad, c, e, h1, h2, -, h4⟩ := legs_cells hx
    exact ⟨(ad, c, l), e, h1, h2, h4⟩) hf
  simp only [List.cons.injEq, and_true] at e
  refine ⟨l, ad, c, e, ⟨ad, c, rfl, fun hne => ?_⟩, hb, hlc, fun o ho => ?_⟩
  · obtain ⟨b, o, h1, h2, h3⟩ := hx hne
    refine ⟨b, o, h1, h2, fun i x hx => ?_⟩
    obtain ⟨cs, D, ⟨rfl, _⟩, _, _, h4⟩ := h3 i x hx
    rw [Nat.one_mul] at h4
    rw [Nat.one_mul]
    exact h4
  · obtain ⟨i, hi, he⟩ := List.mem_iff_getElem.1 ho
    obtain ⟨b, o', h1, h2, h3⟩ := hx (by intro e; rw [e] at ho; cases ho)
    obtain ⟨cs, D, ⟨_, k1, k2, k4⟩, k3, _, _⟩ := h3 i o (by rw [List.getElem?_eq_getElem hi, he])
    exact ⟨k1, Nat.le_trans k2 k3, fun q hq => ⟨Nat.le_trans (k4 q hq).1 k3, (k4 q hq).2⟩⟩
end
/-- the bounds of a list of lists -/
theorem cat_bound {n k : Nat} {ls : LL} (h1 : ls.length ≤ n) (h2 : ∀ x ∈ ls, x.2.2.length ≤ k) : (catL ls).length ≤ n * k := by
  have h : ∀ ls : LL, (∀ x ∈ ls, x.2.2.length ≤ k) → (catL ls).length ≤ ls.length * k := by
    intro ls
    induction ls with
    | nil => intro _; simp [catL]
    | cons x r ih =>
      intro h
      have e : catL (x :: r) = x.2.2 ++ catL r := rfl
      have := ih fun y hy => h y (List.mem_cons_of_mem _ hy)
      have := h x (List.mem_cons_self ..)
      rw [e, List.length_append, List.length_cons, Nat.succ_mul]
      omega
  exact Nat.le_trans (h ls h2) (Nat.mul_le_mul_right k h1)
end Go.Proofs.YtdbfemdpdpaffaaGreatDoor
