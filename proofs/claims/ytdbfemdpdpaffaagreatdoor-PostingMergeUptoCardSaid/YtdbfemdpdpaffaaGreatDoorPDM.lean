/-
  Open16, Open16b, Open16c.
-/
import Derived.Test.YtdbfemdpdpaffaaGreatDoorPDL
import Derived.Test.YtdbfemdpdpaffaaGreatDoorPCQ
import Derived.Test.YtdbfemdpdpaffaaGreatDoorPDB
/-
  Arguments of chapter 16 opened: legs, a posting by value.
-/
namespace Go.Proofs.YtdbfemdpdpaffaaGreatDoor
open Go Go.RowKit Go.ChangeShapes Go.WideShapes Go.Deep
theorem cellsI64 : Tryz.prog.cellsOf 2 = 1 := by kernel_rfl
theorem cellsLeg : Tryz.prog.cellsOf 55 = 2 := by kernel_rfl
theorem cellsLegs : Tryz.prog.cellsOf 23 = 1 := by kernel_rfl
theorem cellsPst : Tryz.prog.cellsOf 25 = 4 := by kernel_rfl
theorem i64_of {n : Int} (h : (Lit.int .i64 n).wf = true) : -9223372036854775808 ≤ n ∧ n ≤ 9223372036854775807 := by
  have h' : (decide (-9223372036854775808 ≤ n) && decide (n ≤ 9223372036854775807)) = true := h
  simpa only [Bool.and_eq_true, decide_eq_true_eq] using h'
section
variable {H : Type} {enc : TypeId × Value → H} {W : World} {base : Nat} {held : Bool}
theorem str_bulk {s : List UInt8} {y : DataW H} (h : y = .lit (.string s)) : s.length ≤ Rows.uptoBulk y := by
  subst h
  rw [string_eq]
  omega
set_option maxRecDepth 100000 in
theorem legs_cells {n : Nat} {cs : List Value} {x : DataW H × List MemPlace} (h : DataW.trod enc Tryz.prog W base (fun _ => true) held n 23 cs = some x) :
    ∃ (l : List Leg) (ad : Option Addr) (c : Nat), cs = [.slice ad l.length c] ∧ LsAt W legC 2 (.slice ad l.length c) l ∧ l.length ≤ Rows.uptoBulk x.1 ∧ l.length ≤ c ∧
      ∀ o ∈ l, o.acc.length ≤ Rows.uptoBulk x.1 ∧ -9223372036854775808 ≤ o.amt ∧ o.amt ≤ 9223372036854775807 := by
  obtain ⟨l, ad, c, e, hb, hlc, -, -, hx, hz⟩ := elems_of (α := Leg) Tryz.underlying23 cellsLeg (by omega) (fun s cs D => cs = legC s ∧ s.acc.length ≤ Rows.uptoBulk D ∧ -9223372036854775808 ≤ s.amt ∧ s.amt ≤ 9223372036854775807) (fun n cs x hx => by
    obtain ⟨xs, m, _, rfl, hl, hxl, hf⟩ := DataW.trod_struct Tryz.underlying55 hx
    rw [cellsLeg] at hl
    match cs, hl with
    | [c0, c1], _ =>
      match xs, hxl with
      | [y0, y1], _ =>
        have h0 : DataW.trod enc Tryz.prog W base (fun _ => true) held m 9 [c0] = some y0 := field_of hf 0 rfl cellsStr
        have h1 : DataW.trod enc Tryz.prog W base (fun _ => true) held m 2 [c1] = some y1 := field_of hf 1 rfl cellsI64
        obtain ⟨s0, e0, f0⟩ := DataW.trod_string Tryz.underlying9 h0
        obtain ⟨n1, e1, f1, w1⟩ := DataW.trod_int Tryz.underlying2 h1
        simp only [List.cons.injEq, and_true] at e0 e1
        subst e0; subst e1
        have pl := agg_parts (H := H) [y0.1, y1.1]
        have m0 := part_le (H := H) (d := y0.1) (l := [y0.1, y1.1]) (by simp)
        have n0 : s0.data.toList.length ≤ Rows.uptoBulk y0.1 := by rw [f0.1]; exact str_bulk rfl
        exact ⟨⟨s0.data.toList, n1⟩, rfl, Nat.le_trans n0 (Nat.le_trans m0 pl), i64_of w1⟩) h
  refine ⟨l, ad, c, e, ⟨ad, c, rfl, fun hne => ?_⟩, hb, hlc, fun o ho => ?_⟩
  · obtain ⟨b, o, h1, h2, h3⟩ := hx hne
    refine ⟨b, o, h1, h2, fun i x hx => ?_⟩
    obtain ⟨cs, D, ⟨rfl, _, _⟩, _, _, h4⟩ := h3 i x hx
    exact h4
  · obtain ⟨i, hi, he⟩ := List.mem_iff_getElem.1 ho
    obtain ⟨b, o', h1, h2, h3⟩ := hx (by intro e; rw [e] at ho; cases ho)
    obtain ⟨cs, D, ⟨_, k1, k2⟩, k3, _, _⟩ := h3 i o (by rw [List.getElem?_eq_getElem hi, he])
    exact ⟨Nat.le_trans k1 k3, k2⟩
end
end Go.Proofs.YtdbfemdpdpaffaaGreatDoor
/-
  Arguments of chapter 16 opened: lists of lists of legs, lists of postings.
-/
namespace Go.Proofs.YtdbfemdpdpaffaaGreatDoor
open Go Go.RowKit Go.ChangeShapes Go.WideShapes Go.Deep
/-- a posting in memory: itself, where its legs lie -/
abbrev PP := Pst × Option Addr × Nat
def ppC (x : PP) : List Value := pstC x.1 x.2.1 x.2.2
theorem ppC_ok : EncOk ppC 4 := ⟨fun _ => rfl, fun x => by unfold ppC pstC; exact xO, by omega⟩
instance : Inhabited Pst := ⟨⟨[], 0, [], []⟩⟩
section
variable {H : Type} {enc : TypeId × Value → H} {W : World} {base : Nat} {held : Bool}
set_option maxRecDepth 100000 in
theorem psts_of {r : Reach} {b0 : Nat} {v : Value} {d : DataW H} {p : List MemPlace} (hv : Value.okWide Tryz.prog W r b0 51 v) (h : DataW.Trod enc Tryz.prog W base (fun _ => true) held 51 v d p) (hd : Rows.uptoBulk d ≤ 1048576) :
    ∃ (ls : List PP) (ad : Option Addr) (c : Nat), v = .slice ad ls.length c ∧ LsAt W ppC 4 (.slice ad ls.length c) ls ∧ ls.length ≤ Rows.uptoBulk d ∧ ls.length ≤ c ∧
      ∀ x ∈ ls, LsAt W legC 2 (.slice x.2.1 x.1.legs.length x.2.2) x.1.legs ∧ PstFit x.1 ∧ x.1.legs.length ≤ x.2.2 := by
  obtain ⟨n, hf⟩ := param_slice Tryz.underlying51 hv h
  obtain ⟨l, ad, c, e, hb, hlc, -, -, hx, hz⟩ := elems_of (α := PP) Tryz.underlying51 cellsPst (by omega) (fun s cs D => cs = ppC s ∧ LsAt W legC 2 (.slice s.2.1 s.1.legs.length s.2.2) s.1.legs ∧ (Rows.uptoBulk D ≤ 1048576 → PstFit s.1) ∧ s.1.legs.length ≤ s.2.2) (fun n cs x hx => by
    obtain ⟨xs, m, _, hxe, hl, hxl, hf⟩ := DataW.trod_struct Tryz.underlying25 hx
    rw [cellsPst] at hl
    match cs, hl with
    | [c0, c1, c2, c3], _ =>
      match xs, hxl with
      | [y0, y1, y2, y3], _ =>
        have h0 : DataW.trod enc Tryz.prog W base (fun _ => true) held m 9 [c0] = some y0 := field_of hf 0 rfl cellsStr
        have h1 : DataW.trod enc Tryz.prog W base (fun _ => true) held m 3 [c1] = some y1 := field_of hf 1 rfl cellsInt
        have h2 : DataW.trod enc Tryz.prog W base (fun _ => true) held m 9 [c2] = some y2 := field_of hf 2 rfl cellsStr
        have h3 : DataW.trod enc Tryz.prog W base (fun _ => true) held m 23 [c3] = some y3 := field_of hf 3 rfl cellsLegs
        obtain ⟨s0, e0, f0⟩ := DataW.trod_string Tryz.underlying9 h0
        obtain ⟨n1, e1, f1, w1⟩ := DataW.trod_int Tryz.underlying3 h1
        obtain ⟨s2, e2, f2⟩ := DataW.trod_string Tryz.underlying9 h2
        obtain ⟨l, ad, c, e3, hL, hlb, hlc, hlx⟩ := legs_cells h3
        simp only [List.cons.injEq, and_true] at e0 e1 e2 e3
        subst e0; subst e1; subst e2; subst e3
        subst hxe
        have pl := agg_parts (H := H) [y0.1, y1.1, y2.1, y3.1]
        have m0 := part_le (H := H) (d := y0.1) (l := [y0.1, y1.1, y2.1, y3.1]) (by simp)
        have m2 := part_le (H := H) (d := y2.1) (l := [y0.1, y1.1, y2.1, y3.1]) (by simp)
        have m3 := part_le (H := H) (d := y3.1) (l := [y0.1, y1.1, y2.1, y3.1]) (by simp)
        have n0 : s0.data.toList.length ≤ Rows.uptoBulk y0.1 := by rw [f0.1]; exact str_bulk rfl
        have n2 : s2.data.toList.length ≤ Rows.uptoBulk y2.1 := by rw [f2.1]; exact str_bulk rfl
        refine ⟨(⟨s0.data.toList, n1, s2.data.toList, l⟩, ad, c), rfl, hL, fun hd => ?_, hlc⟩
        have k0 := Nat.le_trans n0 (Nat.le_trans m0 pl)
        have k2 := Nat.le_trans n2 (Nat.le_trans m2 pl)
        have k3 := Nat.le_trans hlb (Nat.le_trans m3 pl)
        have k4 := Nat.le_trans m3 (Nat.le_trans pl hd)
        have kd : Rows.uptoBulk (DataW.agg [y0.1, y1.1, y2.1, y3.1]) ≤ 1048576 := hd
        exact ⟨Nat.le_trans k0 (by omega), i64_of w1, Nat.le_trans k2 (by omega), Nat.le_trans k3 (by omega), fun o ho => Nat.le_trans (hlx o ho).1 (by omega), fun o ho => (hlx o ho).2⟩) hf
  simp only [List.cons.injEq, and_true] at e
  refine ⟨l, ad, c, e, ⟨ad, c, rfl, fun hne => ?_⟩, hb, hlc, fun o ho => ?_⟩
  · obtain ⟨b, o, h1, h2, h3⟩ := hx hne
    refine ⟨b, o, h1, h2, fun i x hx => ?_⟩
    obtain ⟨cs, D, ⟨rfl, _⟩, _, _, h4⟩ := h3 i x hx
    exact h4
  · obtain ⟨i, hi, he⟩ := List.mem_iff_getElem.1 ho
    obtain ⟨b, o', h1, h2, h3⟩ := hx (by intro e; rw [e] at ho; cases ho)
    obtain ⟨cs, D, ⟨_, k1, k2, k4⟩, k3, _, _⟩ := h3 i o (by rw [List.getElem?_eq_getElem hi, he])
    exact ⟨k1, k2 (Nat.le_trans k3 hd), k4⟩
end
/-- the bounds of a list of lists -/
theorem cat_bound {n k : Nat} {ls : LL} (h1 : ls.length ≤ n) (h2 : ∀ x ∈ ls, x.2.2.length ≤ k) : (catL ls).length ≤ n * k := by
  have h : ∀ ls : LL, (∀ x ∈ ls, x.2.2.length ≤ k) → (catL ls).length ≤ ls.length * k := by
    intro ls
    induction ls with
    | nil => intro _; simp [catL]
    | cons x r ih =>
      intro h
      have e : catL (x :: r) = x.2.2 ++ catL r := rfl
      have := ih fun y hy => h y (List.mem_cons_of_mem _ hy)
      have := h x (List.mem_cons_self ..)
      rw [e, List.length_append, List.length_cons, Nat.succ_mul]
      omega
  exact Nat.le_trans (h ls h2) (Nat.mul_le_mul_right k h1)
end Go.Proofs.YtdbfemdpdpaffaaGreatDoor
/-
  Arguments of chapter 16 opened: a list of legs, where none lies nothing is.
-/
namespace Go.Proofs.YtdbfemdpdpaffaaGreatDoor
open Go Go.RowKit Go.ChangeShapes Go.WideShapes Go.Deep
section
variable {H : Type} {enc : TypeId × Value → H} {W : World} {base : Nat} {held : Bool}
set_option maxRecDepth 100000 in
theorem legs2_of {r : Reach} {b0 : Nat} {v : Value} {d : DataW H} {p : List MemPlace} (hv : Value.okWide Tryz.prog W r b0 23 v) (h : DataW.Trod enc Tryz.prog W base (fun _ => true) held 23 v d p) :
    ∃ (l : List Leg) (ad : Option Addr) (c : Nat), v = .slice ad l.length c ∧ LsAt W legC 2 (.slice ad l.length c) l ∧ l.length ≤ Rows.uptoBulk d ∧ l.length ≤ c ∧
      (∀ o ∈ l, o.acc.length ≤ Rows.uptoBulk d ∧ -9223372036854775808 ≤ o.amt ∧ o.amt ≤ 9223372036854775807) ∧ (ad = none → c = 0) := by
  obtain ⟨n, hf⟩ := param_slice Tryz.underlying23 hv h
  obtain ⟨l, ad, c, e, h1, h2, h3, h4⟩ := legs_cells hf
  simp only [List.cons.injEq, and_true] at e
  refine ⟨l, ad, c, e, h1, h2, h3, h4, fun hn => ?_⟩
  rcases open_slice Tryz.underlying23 hf with ⟨q, -⟩ | ⟨a, len, cap, m, n, D, Pl, q, _⟩
  · simp only [List.cons.injEq, and_true] at q
    rw [q] at e
    simp only [Value.slice.injEq] at e
    exact e.2.2.symm
  · simp only [List.cons.injEq, and_true] at q
    rw [q] at e
    simp only [Value.slice.injEq] at e
    rw [← e.1] at hn
    cases hn
end
end Go.Proofs.YtdbfemdpdpaffaaGreatDoor
