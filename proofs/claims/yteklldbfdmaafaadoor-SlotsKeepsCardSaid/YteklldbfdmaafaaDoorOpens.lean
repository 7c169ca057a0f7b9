/-
  The arguments of the laws of chapter 6, opened: a fate, a script; with what the bound gives of their sizes.
-/
import Derived.Test.YteklldbfdmaafaaDoorEnds
namespace Go.Proofs.YteklldbfdmaafaaDoor
open Go Go.RowKit Go.ChangeShapes Go.WideShapes Go.Deep

section
variable {H : Type} {enc : TypeId × Value → H} {W : World} {base : Nat} {held : Bool}
theorem cell_spot {a : Addr} {v : Value} (h : W.cell? a = some v) : a.spot = none ∧ a.block < W.heap.size := by
  unfold World.cell? at h
  split at h
  · rename_i c t fr hh
    refine ⟨?_, (Array.getElem?_eq_some_iff.1 hh).1⟩
    split at h
    · cases h
    · rename_i hs
      cases hq : a.spot with
      | none => rfl
      | some _ => rw [hq] at hs; simp at hs
  · cases h
theorem spot_add {a : Addr} {i : Nat} (hi : i = 0) {v : Value} (h : W.cell? (a.add i) = some v) : a.spot = none ∧ a.block < W.heap.size := by
  subst hi
  have h1 := cell_spot h
  simpa [Addr.add] using h1
instance : Inhabited POp := ⟨⟨0, 0, [], 0, [], 0, 0⟩⟩
theorem add_is {a : Addr} (h : a.spot = none) (i : Nat) : a.add i = ⟨a.block, a.off + i, none⟩ := by
  cases a; simp at h; subst h
  unfold Addr.add
  simp
theorem addr_is {a : Addr} (h : a.spot = none) : a = ⟨a.block, a.off, none⟩ := by
  cases a; simp at h; subst h; rfl
theorem cellsBool : Tryd.prog.cellsOf 4 = 1 := by kernel_rfl
theorem cellsFate : Tryd.prog.cellsOf 25 = 3 := by kernel_rfl
theorem cellsInt : Tryd.prog.cellsOf 3 = 1 := by kernel_rfl
theorem cellsU8 : Tryd.prog.cellsOf 5 = 1 := by kernel_rfl
theorem cellsBools : Tryd.prog.cellsOf 23 = 1 := by kernel_rfl
theorem cellsOp06 : Tryd.prog.cellsOf 43 = 7 := by kernel_rfl

/-- a slice of bools -/
theorem bools_of {n : Nat} {cs : List Value} {x : DataW H × List MemPlace} (h : DataW.trod enc Tryd.prog W base (fun _ => true) held n 23 cs = some x) :
    ∃ kv l, cs = [kv] ∧ BoolsAt W kv l ∧ l.length ≤ Rows.uptoBulk x.1 := by
  rcases open_bools Tryd.underlying23 Tryd.underlying4 cellsBool h with ⟨rfl, rfl⟩ | ⟨a, len, cap, B, rfl, _, hl, hm, rfl, hB⟩
  · exact ⟨_, [], rfl, ⟨none, 0, rfl, fun h => absurd rfl h, fun _ => rfl, by simp, by unfold maxLen; omega⟩, by simp⟩
  · refine ⟨_, (List.range len).map B, rfl, ⟨some a, cap, by simp, fun hne => ?_, fun h => (by cases h), by simpa using hl, hm⟩, ?_⟩
    · have h0 : 0 < len := by
        rcases Nat.eq_zero_or_pos len with h | h
        · subst h; simp at hne
        · exact h
      have hc := hB 0 (by omega)
      obtain ⟨hs, hb⟩ := spot_add rfl hc
      refine ⟨a.block, a.off, by rw [← addr_is hs], hb, fun j v hj => ?_⟩
      simp only [List.map_map, List.getElem?_map, Option.map_eq_some_iff] at hj
      obtain ⟨i, hi, rfl⟩ := hj
      have hij : i = j ∧ j < len := by
        rw [List.getElem?_eq_some_iff] at hi
        obtain ⟨h1, h2⟩ := hi
        simp at h1 h2
        exact ⟨h2.symm, h1⟩
      obtain ⟨rfl, hij⟩ := hij
      have := hB i (by omega)
      rw [add_is hs] at this
      exact this
    · have := slice_le (H := H) ((List.range len).map fun i => .lit (.bool (B i))) ((List.range (cap - len)).map fun j => .lit (.bool (B (len + j))))
      simp only [boolRow]
      simp only [List.length_map, List.length_range] at this ⊢
      omega

theorem field_of {P : Program} {fs : Array Field} {m : Nat} {cs : List Value} {xs : List (DataW H × List MemPlace)}
    (hf : ∀ (i : Nat) (f : Field), fs[i]? = some f → DataW.trod enc P W base (fun _ => true) held m f.type ((cs.drop f.offset).take (P.cellsOf f.type)) = xs[i]?)
    (i : Nat) {nm : String} {t o : Nat} {em : Bool} {tg pk : String} {bo : Nat} (h : fs[i]? = some ⟨nm, t, o, em, tg, pk, bo⟩) {k : Nat} (hk : P.cellsOf t = k) :
    DataW.trod enc P W base (fun _ => true) held m t ((cs.drop o).take k) = xs[i]? := by
  subst hk
  exact hf i _ h
set_option maxRecDepth 100000 in
/-- a fate's three cells -/
theorem fate_cells {n : Nat} {cs : List Value} {x : DataW H × List MemPlace} (h : DataW.trod enc Tryd.prog W base (fun _ => true) held n 25 cs = some x) :
    ∃ kv kept torn bytes, cs = [kv, .int .i64 torn, .int .i64 bytes] ∧ BoolsAt W kv kept ∧ kept.length ≤ Rows.uptoBulk x.1 ∧ (Lit.int .i64 torn).wf = true ∧ (Lit.int .i64 bytes).wf = true := by
  obtain ⟨xs, m, _, rfl, hl, hxl, hf⟩ := DataW.trod_struct Tryd.underlying25 h
  rw [cellsFate] at hl
  match cs, hl with
  | [c0, c1, c2], _ =>
    match xs, hxl with
    | [y0, y1, y2], _ =>
      have h0 : DataW.trod enc Tryd.prog W base (fun _ => true) held m 23 [c0] = some y0 := field_of hf 0 rfl cellsBools
      have h1 : DataW.trod enc Tryd.prog W base (fun _ => true) held m 3 [c1] = some y1 := field_of hf 1 rfl cellsInt
      have h2 : DataW.trod enc Tryd.prog W base (fun _ => true) held m 3 [c2] = some y2 := field_of hf 2 rfl cellsInt
      obtain ⟨kv, l, e0, hb, hbl⟩ := bools_of h0
      obtain ⟨n1, e1, _, w1⟩ := DataW.trod_int Tryd.underlying3 h1
      obtain ⟨n2, e2, _, w2⟩ := DataW.trod_int Tryd.underlying3 h2
      simp only [List.cons.injEq, and_true] at e0 e1 e2
      subst e0; subst e1; subst e2
      refine ⟨_, l, n1, n2, rfl, hb, ?_, w1, w2⟩
      have a1 := agg_parts (H := H) ([y0, y1, y2].map (·.1))
      have a2 := part_le (H := H) (d := y0.1) (l := [y0, y1, y2].map (·.1)) (by simp)
      show l.length ≤ Rows.uptoBulk (.agg ([y0, y1, y2].map (·.1)))
      omega
set_option maxRecDepth 100000 in
/-- a fate that is a parameter -/
theorem fate_of {r : Reach} {b0 : Nat} {v : Value} {d : DataW H} {p : List MemPlace} (hv : Value.okWide Tryd.prog W r b0 25 v) (h : DataW.Trod enc Tryd.prog W base (fun _ => true) held 25 v d p) :
    ∃ kv kept torn bytes, v = .agg #[kv, .int .i64 torn, .int .i64 bytes] ∧ BoolsAt W kv kept ∧ kept.length ≤ Rows.uptoBulk d ∧ (Lit.int .i64 torn).wf = true ∧ (Lit.int .i64 bytes).wf = true := by
  obtain ⟨cs, rfl, hsz⟩ := okWide_struct Tryd.underlying25 hv
  obtain ⟨fuel, hf⟩ := h
  obtain ⟨kv, kept, torn, bytes, e, h1, h2, h3, h4⟩ := fate_cells hf
  obtain ⟨l⟩ := cs
  have e' : l = [kv, .int .i64 torn, .int .i64 bytes] := e
  subst e'
  exact ⟨kv, kept, torn, bytes, rfl, h1, h2, h3, h4⟩
set_option maxRecDepth 100000 in
/-- a call's seven cells -/
theorem op06_cells {n : Nat} {cs : List Value} {x : DataW H × List MemPlace} (h : DataW.trod enc Tryd.prog W base (fun _ => true) held n 43 cs = some x) :
    ∃ (op : POp) (kv : Value), cs = op.cells kv ∧ BoolsAt W kv op.kept ∧ op.kept.length ≤ Rows.uptoBulk x.1 ∧ op.s.length ≤ Rows.uptoBulk x.1 ∧ (Lit.int .i64 op.kind).wf = true ∧ (Lit.int .i64 op.i).wf = true ∧ (Lit.int .i64 op.torn).wf = true ∧ (Lit.int .i64 op.bytes).wf = true := by
  obtain ⟨xs, m, _, rfl, hl, hxl, hf⟩ := DataW.trod_struct Tryd.underlying43 h
  rw [cellsOp06] at hl
  match cs, hl with
  | [c0, c1, c2, c3, c4, c5, c6], _ =>
    match xs, hxl with
    | [y0, y1, y2, y3, y4], _ =>
      have h0 : DataW.trod enc Tryd.prog W base (fun _ => true) held m 3 [c0] = some y0 := field_of hf 0 rfl cellsInt
      have h1 : DataW.trod enc Tryd.prog W base (fun _ => true) held m 3 [c1] = some y1 := field_of hf 1 rfl cellsInt
      have h2 : DataW.trod enc Tryd.prog W base (fun _ => true) held m 9 [c2] = some y2 := field_of hf 2 rfl cellsStr
      have h3 : DataW.trod enc Tryd.prog W base (fun _ => true) held m 5 [c3] = some y3 := field_of hf 3 rfl cellsU8
      have h4 : DataW.trod enc Tryd.prog W base (fun _ => true) held m 25 [c4, c5, c6] = some y4 := field_of hf 4 rfl cellsFate
      obtain ⟨n0, e0, _, w0⟩ := DataW.trod_int Tryd.underlying3 h0
      obtain ⟨n1, e1, _, w1⟩ := DataW.trod_int Tryd.underlying3 h1
      obtain ⟨s, e2, q2, _⟩ := DataW.trod_string Tryd.underlying9 h2
      obtain ⟨n3, e3, _, w3⟩ := DataW.trod_int Tryd.underlying5 h3
      obtain ⟨kv, kept, torn, bytes, e4, hb, hbl, w4, w5⟩ := fate_cells h4
      simp only [List.cons.injEq, and_true] at e0 e1 e2 e3 e4
      obtain ⟨rfl, rfl, rfl⟩ := e4
      subst e0; subst e1; subst e2; subst e3
      have hb3 := bounds_u8 w3
      have a1 := agg_parts (H := H) ([y0, y1, y2, y3, y4].map (·.1))
      have a2 := part_le (H := H) (d := y4.1) (l := [y0, y1, y2, y3, y4].map (·.1)) (by simp)
      have a3 := part_le (H := H) (d := y2.1) (l := [y0, y1, y2, y3, y4].map (·.1)) (by simp)
      have a4 : Rows.uptoBulk y2.1 = s.data.toList.length + 1 := by rw [q2]; exact string_eq _
      have hfill : ((UInt8.ofNat n3.toNat).toNat : Int) = n3 := by
        rw [UInt8.toNat_ofNat']
        omega
      refine ⟨⟨n0, n1, s.data.toList, UInt8.ofNat n3.toNat, kept, torn, bytes⟩, _, ?_, hb, ?_, ?_, w0, w1, w4, w5⟩
      · simp only [POp.cells, hfill]
      · show kept.length ≤ Rows.uptoBulk (.agg ([y0, y1, y2, y3, y4].map (·.1)))
        omega
      · show s.data.toList.length ≤ Rows.uptoBulk (.agg ([y0, y1, y2, y3, y4].map (·.1)))
        omega
set_option maxRecDepth 100000 in
/-- a script -/
theorem script_of {r : Reach} {b0 : Nat} {v : Value} {d : DataW H} {p : List MemPlace} (hv : Value.okWide Tryd.prog W r b0 22 v) (h : DataW.Trod enc Tryd.prog W base (fun _ => true) held 22 v d p) :
    ∃ ops : List POp, ScriptAt W v ops ∧ ops.length ≤ Rows.uptoBulk d ∧ (∀ o ∈ ops, o.kept.length ≤ Rows.uptoBulk d ∧ o.s.length ≤ Rows.uptoBulk d ∧ (Lit.int .i64 o.kind).wf = true ∧ (Lit.int .i64 o.i).wf = true ∧ (Lit.int .i64 o.torn).wf = true ∧ (Lit.int .i64 o.bytes).wf = true) := by
  obtain ⟨a', len', cap', rfl⟩ := okWide_slice Tryd.underlying22 hv
  obtain ⟨fuel, hf⟩ := h
  rcases open_slice Tryd.underlying22 hf with ⟨e, hx⟩ | ⟨a, len, cap, m, n, D, Pl, e, _, hl, hm, hmm, hx, hi⟩
  · have e' : [Value.slice a' len' cap'] = [.slice none 0 0] := e
    simp only [List.cons.injEq, Value.slice.injEq, and_true] at e'
    obtain ⟨rfl, rfl, rfl⟩ := e'
    exact ⟨[], ⟨none, 0, rfl, fun h => absurd rfl h⟩, by simp, fun o ho => by cases ho⟩
  · have e' : [Value.slice a' len' cap'] = [.slice (some a) len cap] := e
    simp only [List.cons.injEq, Value.slice.injEq, and_true] at e'
    obtain ⟨rfl, rfl, rfl⟩ := e'
    simp only [if_true] at hmm
    have hmm' := hmm.symm
    subst hmm'
    simp only [Prod.mk.injEq] at hx
    obtain ⟨rfl, -⟩ := hx
    obtain ⟨f, hfo⟩ := choose_lt (α := POp) (n := len') (p := fun i op => ∃ kv, (∀ j v, (op.cells kv)[j]? = some v → W.cell? (a.add (i * 7 + j)) = some v) ∧ BoolsAt W kv op.kept ∧ op.kept.length ≤ Rows.uptoBulk (D i) ∧ op.s.length ≤ Rows.uptoBulk (D i) ∧ (Lit.int .i64 op.kind).wf = true ∧ (Lit.int .i64 op.i).wf = true ∧ (Lit.int .i64 op.torn).wf = true ∧ (Lit.int .i64 op.bytes).wf = true) (fun i hil => by
      obtain ⟨cs', hc, ht⟩ := hi i (by omega)
      rw [cellsOp06] at hc
      obtain ⟨_, hcl, hat⟩ := World.cells?_some hc
      obtain ⟨op, kv, rfl, h1, h2, h3, h4⟩ := op06_cells ht
      refine ⟨op, kv, fun j v hj => ?_, h1, h2, h3, h4⟩
      have hjl : j < 7 := by
        have := (List.getElem?_eq_some_iff.1 hj).1
        simpa [POp.cells] using this
      rw [← Go.Deep.add_add, hat j hjl, hj])
    have hbulk : ∀ i, i < len' → Rows.uptoBulk (D i) ≤ Rows.uptoBulk (DataW.slice ((List.range len').map D) ((List.range (cap' - len')).map fun j => D (len' + j))) := fun i hil => by
      have h1 := part_le (H := H) (d := D i) (l := (List.range len').map D) (List.mem_map.2 ⟨i, List.mem_range.2 hil, rfl⟩)
      have h2 := slice_elems (H := H) ((List.range len').map D) ((List.range (cap' - len')).map fun j => D (len' + j))
      omega
    refine ⟨(List.range len').map f, ⟨some a, cap', by simp, fun hne => ?_⟩, ?_, fun o ho => ?_⟩
    · have h0 : 0 < len' := by
        rcases Nat.eq_zero_or_pos len' with h | h
        · subst h; simp at hne
        · exact h
      obtain ⟨kv0, hc0, _⟩ := hfo 0 h0
      obtain ⟨hs, hb⟩ := spot_add rfl (hc0 0 _ rfl)
      have ha : a = ⟨a.block, a.off, none⟩ := addr_is hs
      refine ⟨a.block, a.off, by rw [← ha], hb, fun k op hop => ?_⟩
      simp only [List.getElem?_map, Option.map_eq_some_iff] at hop
      obtain ⟨i, hi', rfl⟩ := hop
      have hij : i = k ∧ k < len' := by
        rw [List.getElem?_eq_some_iff] at hi'
        obtain ⟨h1, h2⟩ := hi'
        simp at h1 h2
        exact ⟨h2.symm, h1⟩
      obtain ⟨rfl, hij⟩ := hij
      obtain ⟨kv, hc, hB, _⟩ := hfo i hij
      refine ⟨kv, fun j v hj => ?_, hB⟩
      have := hc j v hj
      rw [add_is hs] at this
      rw [show a.off + 7 * i + j = a.off + (i * 7 + j) from by omega]
      exact this
    · have := slice_le (H := H) ((List.range len').map D) ((List.range (cap' - len')).map fun j => D (len' + j))
      simp only [List.length_map, List.length_range] at this ⊢
      omega
    · obtain ⟨i, hir, rfl⟩ := List.mem_map.1 ho
      have hil := List.mem_range.1 hir
      obtain ⟨kv, _, _, h1, h2, h3⟩ := hfo i hil
      have := hbulk i hil
      exact ⟨by omega, by omega, h3⟩
end
end Go.Proofs.YteklldbfdmaafaaDoor
