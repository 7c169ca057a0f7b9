/-
  Opens, Apart, Open8, Open10, JLe5, JLe6, Facts.
-/
import Derived.JoinedOf
import Derived.Test.YteklldbfdmaafaaDoorJD
/-
  The arguments of the laws of chapter 6, opened: a fate, a script; with what the bound gives of their sizes.
-/
namespace Go.Proofs.YteklldbfdmaafaaDoor
open Go Go.RowKit Go.ChangeShapes Go.WideShapes Go.Deep
section
variable {H : Type} {enc : TypeId × Value → H} {W : World} {base : Nat} {held : Bool}
theorem cell_spot {a : Addr} {v : Value} (h : W.cell? a = some v) : a.spot = none ∧ a.block < W.heap.size := by
  unfold World.cell? at h
  split at h
  · rename_i c t fr hh
    refine ⟨?_, (Array.getElem?_eq_some_iff.1 hh).1⟩
    split at h
    · cases h
    · rename_i hs
      cases hq : a.spot with
      | none => rfl
      | some _ => rw [hq] at hs; simp at hs
  · cases h
theorem spot_add {a : Addr} {i : Nat} (hi : i = 0) {v : Value} (h : W.cell? (a.add i) = some v) : a.spot = none ∧ a.block < W.heap.size := by
  subst hi
  have h1 := cell_spot h
  simpa [Addr.add] using h1
instance : Inhabited POp := ⟨⟨0, 0, [], 0, [], 0, 0⟩⟩
theorem add_is {a : Addr} (h : a.spot = none) (i : Nat) : a.add i = ⟨a.block, a.off + i, none⟩ := by
  cases a; simp at h; subst h
  unfold Addr.add
  simp
theorem addr_is {a : Addr} (h : a.spot = none) : a = ⟨a.block, a.off, none⟩ := by
  cases a; simp at h; subst h; rfl
theorem cellsBool : Tryd.prog.cellsOf 4 = 1 := by kernel_rfl
theorem cellsFate : Tryd.prog.cellsOf 25 = 3 := by kernel_rfl
theorem cellsInt : Tryd.prog.cellsOf 3 = 1 := by kernel_rfl
theorem cellsBools : Tryd.prog.cellsOf 23 = 1 := by kernel_rfl
/-- a slice of bools -/
theorem bools_of {n : Nat} {cs : List Value} {x : DataW H × List MemPlace} (h : DataW.trod enc Tryd.prog W base (fun _ => true) held n 23 cs = some x) :
    ∃ kv l, cs = [kv] ∧ BoolsAt W kv l ∧ l.length ≤ Rows.uptoBulk x.1 := by
  rcases open_bools Tryd.underlying23 Tryd.underlying4 cellsBool h with ⟨rfl, rfl⟩ | ⟨a, len, cap, B, rfl, _, hl, hm, rfl, hB⟩
  · exact ⟨_, [], rfl, ⟨none, 0, rfl, fun h => absurd rfl h, fun _ => rfl, by simp, by unfold maxLen; omega⟩, by simp⟩
  · refine ⟨_, (List.range len).map B, rfl, ⟨some a, cap, by simp, fun hne => ?_, fun h => (by cases h), by simpa using hl, hm⟩, ?_⟩
    · have h0 : 0 < len := by
        rcases Nat.eq_zero_or_pos len with h | h
        · subst h; simp at hne
        · exact h
      have hc := hB 0 (by omega)
      obtain ⟨hs, hb⟩ := spot_add rfl hc
      refine ⟨a.block, a.off, by rw [← addr_is hs], hb, fun j v hj => ?_⟩
      simp only [List.map_map, List.getElem?_map, Option.map_eq_some_iff] at hj
      obtain ⟨i, hi, rfl⟩ := hj
      have hij : i = j ∧ j < len := by
        rw [List.getElem?_eq_some_iff] at hi
        obtain ⟨h1, h2⟩ := hi
        simp at h1 h2
        exact ⟨h2.symm, h1⟩
      obtain ⟨rfl, hij⟩ := hij
      have := hB i (by omega)
      rw [add_is hs] at this
      exact this
    · have := slice_le (H := H) ((List.range len).map fun i => .lit (.bool (B i))) ((List.range (cap - len)).map fun j => .lit (.bool (B (len + j))))
      simp only [boolRow]
      simp only [List.length_map, List.length_range] at this ⊢
      omega

theorem field_of {P : Program} {fs : Array Field} {m : Nat} {cs : List Value} {xs : List (DataW H × List MemPlace)}
    (hf : ∀ (i : Nat) (f : Field), fs[i]? = some f → DataW.trod enc P W base (fun _ => true) held m f.type ((cs.drop f.offset).take (P.cellsOf f.type)) = xs[i]?)
    (i : Nat) {nm : String} {t o : Nat} {em : Bool} {tg pk : String} {bo : Nat} (h : fs[i]? = some ⟨nm, t, o, em, tg, pk, bo⟩) {k : Nat} (hk : P.cellsOf t = k) :
    DataW.trod enc P W base (fun _ => true) held m t ((cs.drop o).take k) = xs[i]? := by
  subst hk
  exact hf i _ h
set_option maxRecDepth 100000 in
/-- a fate's three cells -/
theorem fate_cells {n : Nat} {cs : List Value} {x : DataW H × List MemPlace} (h : DataW.trod enc Tryd.prog W base (fun _ => true) held n 25 cs = some x) :
    ∃ kv kept torn bytes, cs = [kv, .int .i64 torn, .int .i64 bytes] ∧ BoolsAt W kv kept ∧ kept.length ≤ Rows.uptoBulk x.1 ∧ (Lit.int .i64 torn).wf = true ∧ (Lit.int .i64 bytes).wf = true := by
  obtain ⟨xs, m, _, rfl, hl, hxl, hf⟩ := DataW.trod_struct Tryd.underlying25 h
  rw [cellsFate] at hl
  match cs, hl with
  | [c0, c1, c2], _ =>
    match xs, hxl with
    | [y0, y1, y2], _ =>
      have h0 : DataW.trod enc Tryd.prog W base (fun _ => true) held m 23 [c0] = some y0 := field_of hf 0 rfl cellsBools
      have h1 : DataW.trod enc Tryd.prog W base (fun _ => true) held m 3 [c1] = some y1 := field_of hf 1 rfl cellsInt
      have h2 : DataW.trod enc Tryd.prog W base (fun _ => true) held m 3 [c2] = some y2 := field_of hf 2 rfl cellsInt
      obtain ⟨kv, l, e0, hb, hbl⟩ := bools_of h0
      obtain ⟨n1, e1, _, w1⟩ := DataW.trod_int Tryd.underlying3 h1
      obtain ⟨n2, e2, _, w2⟩ := DataW.trod_int Tryd.underlying3 h2
      simp only [List.cons.injEq, and_true] at e0 e1 e2
      subst e0; subst e1; subst e2
      refine ⟨_, l, n1, n2, rfl, hb, ?_, w1, w2⟩
      have a1 := agg_parts (H := H) ([y0, y1, y2].map (·.1))
      have a2 := part_le (H := H) (d := y0.1) (l := [y0, y1, y2].map (·.1)) (by simp)
      show l.length ≤ Rows.uptoBulk (.agg ([y0, y1, y2].map (·.1)))
      omega
end
end Go.Proofs.YteklldbfdmaafaaDoor
/-
  SlotsApart (chapter 8): slots at two places do not see each other; no other sector is touched.
-/
namespace Go.Proofs.YteklldbfdmaafaaDoor
open Go Go.RowKit
/-- what stands behind the first values -/
structure ApSt (c0 c1 : Nat) (l0 l1 : List UInt8) (m : Nat) (D : Dsk) : Prop where
  rest : Rest D
  n : D.n = 6
  h0 : Holds D 1 c0 l0
  h1 : Holds D 3 c1 l1
  z0 : D.sec 0 = zs 256
  z5 : D.sec 5 = zs 256
  m0 : c0 ≤ m
  m1 : c1 ≤ m
theorem ApSt.start : ApSt 0 0 [] [] 0 (Dsk.blank 6) :=
  ⟨blank_rest 6 (by omega) (by omega), rfl, Holds.blank 6 1 (by omega), Holds.blank 6 3 (by omega), blank_sec _ _ (by omega), blank_sec _ _ (by omega), Nat.le_refl _, Nat.le_refl _⟩
theorem ApSt.step {c0 c1 m : Nat} {l0 l1 : List UInt8} {D : Dsk} (h : ApSt c0 c1 l0 l1 m D) : ApSt c0 c1 l0 l1 (m + 1) D :=
  ⟨h.rest, h.n, h.h0, h.h1, h.z0, h.z5, by have := h.m0; omega, by have := h.m1; omega⟩
end Go.Proofs.YteklldbfdmaafaaDoor
/-
  Arguments opened: slices of texts, of bools, of structs; with what the bound gives of their sizes.
-/
namespace Go.Proofs.YteklldbfdmaafaaDoor
open Go Go.RowKit Go.ChangeShapes Go.WideShapes Go.Deep
section
variable {H : Type} {enc : TypeId × Value → H} {W : World} {base : Nat} {held : Bool}
/-- A slice whose elements can be opened. -/
theorem elems_of {α : Type} [Inhabited α] {T eT k : Nat} (hu : Tryd.prog.underlying T = some (.slice eT)) (hk : Tryd.prog.cellsOf eT = k) (hk0 : 0 < k) (Q : α → List Value → DataW H → Prop)
    (hQ : ∀ n cs x, DataW.trod enc Tryd.prog W base (fun _ => true) held n eT cs = some x → ∃ a, Q a cs x.1) {n : Nat} {cs : List Value} {x : DataW H × List MemPlace} (h : DataW.trod enc Tryd.prog W base (fun _ => true) held n T cs = some x) :
    ∃ (l : List α) (ad : Option Addr) (c : Nat), cs = [.slice ad l.length c] ∧ l.length ≤ Rows.uptoBulk x.1 ∧ l.length ≤ c ∧ c ≤ maxLen ∧ (ad = none → c = 0) ∧ (l ≠ [] → ∃ b o, ad = some ⟨b, o, none⟩ ∧ b < W.heap.size ∧
      ∀ i a, l[i]? = some a → ∃ cs D, Q a cs D ∧ Rows.uptoBulk D ≤ Rows.uptoBulk x.1 ∧ cs.length = k ∧ W.rangeAt b (o + k * i) cs) := by
  rcases open_slice hu h with ⟨rfl, rfl⟩ | ⟨a, len, cap, m, n, D, Pl, rfl, _, hl, hm, hmm, rfl, hi⟩
  · exact ⟨[], none, 0, rfl, by simp, by simp, by unfold maxLen; omega, fun _ => rfl, fun h => absurd rfl h⟩
  · simp only [if_true] at hmm
    have hmm' := hmm.symm
    subst hmm'
    obtain ⟨f, hfo⟩ := choose_lt (α := α) (n := len) (p := fun i al => ∃ cs, Q al cs (D i) ∧ cs.length = k ∧ ∀ j v, cs[j]? = some v → W.cell? (a.add (i * k + j)) = some v) (fun i hil => by
      obtain ⟨cs', hc, ht⟩ := hi i (by omega)
      rw [hk] at hc
      obtain ⟨_, hcl, hat⟩ := World.cells?_some hc
      obtain ⟨al, hq⟩ := hQ _ _ _ ht
      refine ⟨al, cs', hq, hcl, fun j v hj => ?_⟩
      have hjl : j < k := by
        have := (List.getElem?_eq_some_iff.1 hj).1
        omega
      rw [← Go.Deep.add_add, hat j hjl, hj])
    have hbulk : ∀ i, i < len → Rows.uptoBulk (D i) ≤ Rows.uptoBulk (DataW.slice ((List.range len).map D) ((List.range (cap - len)).map fun j => D (len + j))) := fun i hil => by
      have h1 := part_le (H := H) (d := D i) (l := (List.range len).map D) (List.mem_map.2 ⟨i, List.mem_range.2 hil, rfl⟩)
      have h2 := slice_elems (H := H) ((List.range len).map D) ((List.range (cap - len)).map fun j => D (len + j))
      omega
    refine ⟨(List.range len).map f, some a, cap, by simp, ?_, by simpa using hl, hm, fun q => (by cases q), fun hne => ?_⟩
    · have := slice_le (H := H) ((List.range len).map D) ((List.range (cap - len)).map fun j => D (len + j))
      simp only [List.length_map, List.length_range] at this ⊢
      omega
    · have h0 : 0 < len := by
        rcases Nat.eq_zero_or_pos len with h | h
        · subst h; simp at hne
        · exact h
      obtain ⟨cs0, _, hl0, hc0⟩ := hfo 0 h0
      obtain ⟨v0, hv0⟩ : ∃ v, cs0[0]? = some v := ⟨_, List.getElem?_eq_getElem (by omega)⟩
      obtain ⟨hs, hb⟩ := spot_add (by simp) (hc0 0 v0 hv0)
      have ha : a = ⟨a.block, a.off, none⟩ := addr_is hs
      refine ⟨a.block, a.off, by rw [← ha], hb, fun i al hal => ?_⟩
      simp only [List.getElem?_map, Option.map_eq_some_iff] at hal
      obtain ⟨i', hi', rfl⟩ := hal
      have hij : i' = i ∧ i < len := by
        rw [List.getElem?_eq_some_iff] at hi'
        obtain ⟨h1, h2⟩ := hi'
        simp at h1 h2
        exact ⟨h2.symm, h1⟩
      obtain ⟨rfl, hij⟩ := hij
      obtain ⟨cs', hq, hcl, hc⟩ := hfo i' hij
      refine ⟨cs', D i', hq, hbulk i' hij, hcl, fun j v hj => ?_⟩
      have := hc j v hj
      rw [add_is hs] at this
      rw [Nat.mul_comm k i', Nat.add_assoc]
      exact this
set_option maxRecDepth 100000 in
/-- a parameter's cells are the value's own -/
theorem param_slice {r : Reach} {b0 T eT : Nat} {v : Value} {d : DataW H} {p : List MemPlace} (hu : Tryd.prog.underlying T = some (.slice eT)) (hv : Value.okWide Tryd.prog W r b0 T v) (h : DataW.Trod enc Tryd.prog W base (fun _ => true) held T v d p) :
    ∃ n, DataW.trod enc Tryd.prog W base (fun _ => true) held n T [v] = some (d, p) := by
  obtain ⟨a', len', cap', rfl⟩ := okWide_slice hu hv
  obtain ⟨fuel, hf⟩ := h
  exact ⟨fuel, hf⟩
/-- a step of SlotsKeeps -/
structure KStep where
  val : List UInt8
  arm : Int
  crash : Bool
  kept : List Bool
  torn : Int
  bytes : Int
instance : Inhabited KStep := ⟨⟨[], 0, false, [], 0, 0⟩⟩
def KStep.cells (o : KStep) (kv : Value) : List Value := [strV o.val, .int .i64 o.arm, .bool o.crash, kv, .int .i64 o.torn, .int .i64 o.bytes]
end
end Go.Proofs.YteklldbfdmaafaaDoor
/-
  Arguments of chapter 10 opened: lives.
-/
namespace Go.Proofs.YteklldbfdmaafaaDoor
open Go Go.RowKit Go.ChangeShapes Go.WideShapes Go.Deep
/-- a Life -/
structure LLife where
  more : Int
  sizes : List Int
  syncs : List Bool
  arm : Int
  kept : List Bool
  torn : Int
  fb : Int
instance : Inhabited LLife := ⟨⟨0, [], [], 0, [], 0, 0⟩⟩
def LLife.cells (o : LLife) (sv yv kv : Value) : List Value := [.int .i64 o.more, sv, yv, .int .i64 o.arm, kv, .int .i64 o.torn, .int .i64 o.fb]
def IntsAt (w : World) (v : Value) (l : List Int) : Prop :=
  ∃ a c, v = .slice a l.length c ∧ l.length ≤ 9223372036854775807 ∧ (l ≠ [] → ∃ b o, a = some ⟨b, o, none⟩ ∧ b < w.heap.size ∧ ∀ k i, l[k]? = some i → w.cell? ⟨b, o + k, none⟩ = some (.int .i64 i))
def LivesAt (w : World) (v : Value) (l : List LLife) : Prop :=
  ∃ a c, v = .slice a l.length c ∧ l.length ≤ 9223372036854775807 ∧ (l ≠ [] → ∃ b o, a = some ⟨b, o, none⟩ ∧ b < w.heap.size ∧ ∀ k op, l[k]? = some op → ∃ sv yv kv, w.rangeAt b (o + 7 * k) (op.cells sv yv kv) ∧ IntsAt w sv op.sizes ∧ BoolsAt w yv op.syncs ∧ BoolsAt w kv op.kept)
theorem cellsLife : Tryd.prog.cellsOf 118 = 7 := by kernel_rfl
theorem cellsInts : Tryd.prog.cellsOf 105 = 1 := by kernel_rfl
section
variable {H : Type} {enc : TypeId × Value → H} {W : World} {base : Nat} {held : Bool}
set_option maxRecDepth 100000 in
theorem ints_of {n : Nat} {cs : List Value} {x : DataW H × List MemPlace} (h : DataW.trod enc Tryd.prog W base (fun _ => true) held n 105 cs = some x) : ∃ sv l, cs = [sv] ∧ IntsAt W sv l := by
  obtain ⟨l, ad, c, e, hb, h1, h2, -, hx⟩ := elems_of (α := Int) Tryd.underlying105 cellsInt (by omega) (fun i cs D => cs = [.int .i64 i]) (fun n cs x hx => by
    obtain ⟨i, e2, _, _⟩ := DataW.trod_int Tryd.underlying3 hx
    exact ⟨i, e2⟩) h
  refine ⟨_, l, e, ad, c, rfl, by unfold maxLen at h2; omega, fun hne => ?_⟩
  obtain ⟨b, o, h1, h2, h3⟩ := hx hne
  refine ⟨b, o, h1, h2, fun k i hk => ?_⟩
  obtain ⟨cs, D, rfl, _, _, h4⟩ := h3 k i hk
  have := h4 0 _ rfl
  rwa [Nat.one_mul, Nat.add_zero] at this
set_option maxRecDepth 100000 in
theorem lives_of {r : Reach} {b0 : Nat} {v : Value} {d : DataW H} {p : List MemPlace} (hv : Value.okWide Tryd.prog W r b0 116 v) (h : DataW.Trod enc Tryd.prog W base (fun _ => true) held 116 v d p) :
    ∃ l : List LLife, LivesAt W v l ∧ ∀ o ∈ l, (Lit.int .i64 o.arm).wf = true := by
  obtain ⟨n, hf⟩ := param_slice Tryd.underlying116 hv h
  obtain ⟨l, ad, c, e, hb, hl1, hl2, -, hx⟩ := elems_of (α := LLife) Tryd.underlying116 cellsLife (by omega) (fun s cs D => ∃ sv yv kv, cs = s.cells sv yv kv ∧ IntsAt W sv s.sizes ∧ BoolsAt W yv s.syncs ∧ BoolsAt W kv s.kept ∧ (Lit.int .i64 s.arm).wf = true) (fun n cs x hx => by
    obtain ⟨xs, m, _, rfl, hl, hxl, hf⟩ := DataW.trod_struct Tryd.underlying118 hx
    rw [cellsLife] at hl
    match cs, hl with
    | [c0, c1, c2, c3, c4, c5, c6], _ =>
      match xs, hxl with
      | [y0, y1, y2, y3, y4], _ =>
        have h0 : DataW.trod enc Tryd.prog W base (fun _ => true) held m 3 [c0] = some y0 := field_of hf 0 rfl cellsInt
        have h1 : DataW.trod enc Tryd.prog W base (fun _ => true) held m 105 [c1] = some y1 := field_of hf 1 rfl cellsInts
        have h2 : DataW.trod enc Tryd.prog W base (fun _ => true) held m 23 [c2] = some y2 := field_of hf 2 rfl cellsBools
        have h3 : DataW.trod enc Tryd.prog W base (fun _ => true) held m 3 [c3] = some y3 := field_of hf 3 rfl cellsInt
        have h4 : DataW.trod enc Tryd.prog W base (fun _ => true) held m 25 [c4, c5, c6] = some y4 := field_of hf 4 rfl cellsFate
        obtain ⟨n0, e0, _, w0⟩ := DataW.trod_int Tryd.underlying3 h0
        obtain ⟨sv, sizes, e1, hs⟩ := ints_of h1
        obtain ⟨yv, syncs, e2, hy, _⟩ := bools_of h2
        obtain ⟨n3, e3, _, w3⟩ := DataW.trod_int Tryd.underlying3 h3
        obtain ⟨kv, kept, torn, bytes, e4, hb, hbl, w4, w5⟩ := fate_cells h4
        simp only [List.cons.injEq, and_true] at e0 e1 e2 e3 e4
        obtain ⟨rfl, rfl, rfl⟩ := e4
        subst e0; subst e1; subst e2; subst e3
        exact ⟨⟨n0, sizes, syncs, n3, kept, torn, bytes⟩, _, _, _, rfl, hs, hy, hb, w3⟩) hf
  simp only [List.cons.injEq, and_true] at e
  refine ⟨l, ⟨ad, c, e, by unfold maxLen at hl2; omega, fun hne => ?_⟩, fun o ho => ?_⟩
  · obtain ⟨b, o, h1, h2, h3⟩ := hx hne
    refine ⟨b, o, h1, h2, fun k op hop => ?_⟩
    obtain ⟨cs, D, ⟨sv, yv, kv', rfl, q1, q2, q3, _⟩, _, _, h4⟩ := h3 k op hop
    exact ⟨sv, yv, kv', h4, q1, q2, q3⟩
  · obtain ⟨i, hi⟩ := List.mem_iff_getElem?.1 ho
    obtain ⟨_, _, _, _, h3⟩ := hx (by intro q; subst q; simp at ho)
    obtain ⟨cs, D, ⟨_, _, _, _, _, _, _, hw⟩, _⟩ := h3 i o hi
    exact hw
end
end Go.Proofs.YteklldbfdmaafaaDoor
/-
  lives (chapter 10): the walk.
-/
namespace Go.Proofs.YteklldbfdmaafaaDoor
open Go Go.RowKit
theorem Ev_mul_w {P : Program} {W : World} {n : Nat} {E : Env} {H : List SP} {t u : TypeId} {x y : Operand} {kd : IntKind} {i j r : Int} (hx : Env.ev E x = some (.int kd i)) (hy : Env.ev E y = some (.int kd j)) (h : kd.wrap (i * j) = r) : Ev P W n E H (.binOp .mul t x y u) (.int kd r) := by subst h; exact Ev_mul hx hy
theorem JL.cnt {at_ n v : Nat} {lf : Int} {rs : List (List UInt8)} {sy : Nat} {D : Dsk} (h : JL at_ n v lf rs sy D) : rs.length ≤ n := by
  have h1 := h.fit
  have h2 : rs.length ≤ (rs.flatMap pcsJ).length := by
    clear h h1
    induction rs with
    | nil => simp
    | cons r rs ih =>
      rw [List.flatMap_cons, List.length_append, List.length_cons]
      have : 1 ≤ (pcsJ r).length := by unfold pcsJ; rw [List.length_cons]; omega
      omega
  omega
section
variable {W : World} {E : Nat → Addr} {p : Nat} {D0 : Dsk}
set_option maxHeartbeats 4000000 in
set_option maxRecDepth 100000 in
theorem lives10_ct (hE : ErrsAt W E) (hN : NibAt W) (hg : gB ≤ W.heap.size) (at_ n v : Nat) (kI : Int) (o : LLife) (sv yv kv : Value) (hs : IntsAt W sv o.sizes) (hy : BoolsAt W yv o.syncs) (hkv : BoolsAt W kv o.kept) (harm : o.arm ≤ 9223372036854775807)
    (hat : at_ ≤ 4) (hn : n ≤ 29) (hv : 1 ≤ v ∧ v ≤ 549755813888) (hok : D0.ok) (hn40 : D0.n = 40) (hoff : D0.off = false) (hund : D0.und = []) (ht : ∀ j, j < n → getB ((D0.sec (at_ + j)).drop 248) 8 < (stampN v j : Nat)) :
    Ct Tryd.prog W 74 [.pointer (some ⟨p, 0, none⟩), .int .i64 (at_ : Nat), .int .i64 (n : Nat), .int .i64 (v : Nat), .int .i64 kI, .agg ⟨o.cells sv yv kv⟩] [DiskP p D0] (fun _ : {D' : Dsk // D'.ok ∧ D'.n = 40 ∧ D'.off = false ∧ D'.und = [] ∧ (∀ j, j < n → getB ((D'.sec (at_ + j)).drop 248) 8 ≤ (stampN v j : Nat)) ∧ rpGo D' (at_ : Nat) (n : Nat) (v + 1) (((n : Nat) : Int).toNat + 1) 0 [] = []} => .bool true) (fun x => [DiskP p x.1]) := by
  have hE8 : ErrsOn L8 W E := hE.on
  have e17 : W.cell? ⟨6, 0, none⟩ = some (errV E 17) := hE.all.at_ 17 (by decide)
  obtain ⟨sa, sc, rfl, hsl, hsx⟩ := hs
  obtain ⟨ya, yc, rfl, hyx, hyn, hyl, hym⟩ := hy
  obtain ⟨ka, kc, rfl, -⟩ := id hkv
  have hyl2 : o.syncs.length ≤ 9223372036854775807 := by unfold maxLen at hym; omega
  obtain ⟨more, sizes, syncs, arm, kept, torn, fb⟩ := o
  dsimp only at hsl hsx hyx hyl hkv harm hyl2
  clear hyn hyl hym
  show Ct _ W _ [.pointer (some ⟨p, 0, none⟩), .int .i64 (at_ : Nat), .int .i64 (n : Nat), .int .i64 (v : Nat), .int .i64 kI, .agg #[.int .i64 more, .slice sa sizes.length sc, .slice ya syncs.length yc, .int .i64 arm, .slice ka kept.length kc, .int .i64 torn, .int .i64 fb]] _ _ _
  have hlog : ∀ D : Dsk, D.n = 40 → logOk D (at_ : Nat) (n : Nat) (v : Nat) := fun D h => ⟨by omega, by omega, by omega, by omega, by omega, by omega, by omega⟩
  have cb := begin_ct (W := W) (p := p) (D := D0) (by omega) hoff (at_ : Nat) (n : Nat) (v : Nat) (hlog D0 hn40)
  have ca0 := arm_ct (W := W) (p := p) (D := D0) arm harm
  have hJ0 : JL at_ n v D0.life [] 0 (D0.arm arm) := JL.start (D := D0.arm arm) (Dsk.arm_ok hok arm harm) hn40 hund ht
  have ho0 : (D0.arm arm).off = false := hoff
  obtain ⟨DA, hDA⟩ : ∃ D, D = D0.arm arm := ⟨_, rfl⟩
  rw [← hDA] at ca0 hJ0 ho0
  clear hDA ht hund hok
  obtain ⟨f1, hf1⟩ : ∃ x, IntKind.i64.wrap (11 * kI) = x := ⟨_, rfl⟩
  have c12 := num_ct hE hg 12 (by omega)
  have c0 : Ct Tryd.prog W 35 [.nilIface] [] (fun _ : Unit => .int .i64 0) (fun _ => []) := num_ct hE hg 0 (by omega)
  have c17 := num_ct hE hg 17 (by omega)
  refine Ct.enter Tryd.func74 rfl Tryd.ntmps74 (by simp) (fun R => ?_)
  apply KJ_rest (fun K => ∀ (g g5 : Nat) (rs : List (List UInt8)) (sy : Nat) (D : Dsk) (a : Option Addr) (c : Nat) (us : Int) (dead dn : Bool), JL at_ n v D0.life rs sy D → D.off = dn → KJ W 168 K [(0, .pointer (some ⟨p, 0, none⟩)), (1, .int .i64 (at_ : Nat)), (2, .int .i64 (n : Nat)), (3, .int .i64 (v : Nat)), (11, .pointer (some ⟨g5, 0, none⟩)), (13, .pointer (some ⟨g, 0, none⟩)), (15, .slice a rs.length c), (16, .int .i64 (sy : Nat)), (17, .bool dn)]
      ([DiskP p D, cellsP g [.pointer (some ⟨p, 0, none⟩), .int .i64 (at_ : Nat), .int .i64 (n : Nat), .int .i64 (v : Nat), .int .i64 us, .int .i64 D0.life, .bool dead] 165, rowP (.slice a rs.length c) 9 1 rs.length (rs.map strV), cellsP g5 [.int .i64 more, .slice sa sizes.length sc, .slice ya syncs.length yc, .int .i64 arm, .slice ka kept.length kc, .int .i64 torn, .int .i64 fb] 118] ++ R))
  · intro rest
    repeat' (first 
    | refine KJ_stp (by first | constructor | fail) ?_
    | (refine is_list ?_; first | (refine KJ_guard_dec_t rfl rfl rfl (fun _ => ?_) (fun _ => ?_) <;> first | (exfalso; omega) | skip) | (refine KJ_guard_dec_f rfl rfl rfl (fun _ => ?_) (fun _ => ?_) <;> first | (exfalso; omega) | skip) | (refine KJ_guard_yes rfl rfl ?_) | (refine KJ_guard_no rfl rfl rfl rfl ?_))
    | (refine is_oper ?_; first | (refine is_box ?_; first | (refine KJ_box rfl (by first | exact CellsOf.agg | exact CellsOf.one rfl) rfl (fun g5 => ?_)) | (refine KJ_box rfl (by first | exact CellsOf.agg | exact CellsOf.one rfl) rfl (fun _ => ?_))) | (refine is_call ?_; first | (refine KJ_call0 (by (repeat' (first | exact Evs.nil | refine Evs.cons rfl ?_)); first | done | fail) ca0 (by (repeat' (first | exact Pick.nil | apply Pick.cons | exact Sel.here | apply Sel.there)); first | done | fail) (fun _ => ?_)) | (refine KJ_call (by (repeat' (first | exact Evs.nil | refine Evs.cons rfl ?_)); first | done | fail) ca0 (by (repeat' (first | exact Pick.nil | apply Pick.cons | exact Sel.here | apply Sel.there)); first | done | fail) rfl (fun _ => ?_)) | (refine KJ_call (by (repeat' (first | exact Evs.nil | refine Evs.cons rfl ?_)); first | done | fail) cb (by (repeat' (first | exact Pick.nil | apply Pick.cons | exact Sel.here | apply Sel.there)); first | done | fail) rfl (fun g => ?_))) | (refine KJ_ek rfl ?_) | (refine KJ_ek0 ?_))
    | (refine is_ek ?_; first | (refine ek_move ?_; first | (refine EK_ev (Ev_move rfl) ?_)) | (refine ek_assign ?_; first | (refine EK_ev (Ev_assign rfl) ?_)) | (refine ek_pick ?_; first | (refine EK_ev (Ev_pick_t rfl rfl) ?_) | (refine EK_ev (Ev_pick_f rfl rfl) ?_)) | (refine ek_fieldAddr ?_; first | (refine EK_ev (Ev_field rfl) ?_)) | (refine ek_load ?_; first | (refine EK_ev (Ev_loadAgg rfl (by (repeat' (first | exact Sel.here | apply Sel.there)); first | done | fail) (by (repeat' (first | exact Cut.nil | apply Cut.cons | apply Cut.skip)); first | done | fail)) ?_) | (refine EK_ev (Ev_load rfl (by (repeat' (first | exact Sel.here | apply Sel.there)); first | done | fail) (by rfl)) ?_) | (refine EK_ev (Ev_load rfl (by (repeat' (first | exact Sel.here | apply Sel.there)); first | done | fail) (by rfl)) ?_) | (refine EK_ev (Ev_loadOld rfl (by assumption)) ?_) | (refine EK_ev (Ev_loadAgg rfl (by (repeat' (first | exact Sel.here | apply Sel.there)); first | done | fail) (by (repeat' (first | exact Cut.nil | apply Cut.cons | apply Cut.skip)); first | done | fail)) ?_)) | (refine ek_un ?_; first | (refine EK_ev (Ev_notD rfl) ?_) | (refine EK_ev (Ev_not rfl) ?_) | (refine EK_ev (Ev_neg rfl) ?_)) | (refine ek_extract ?_; first | (refine EK_ev (Ev_extract rfl rfl) ?_)) | (refine ek_indexAddr ?_; first | (refine EK_ev (Ev_indexSlice rfl rfl (by omega)) ?_) | (refine EK_ev (Ev_indexArr rfl rfl (by omega)) ?_)) | (refine ek_len ?_; first | (refine EK_ev (Ev_len_str rfl) ?_) | (refine EK_ev (Ev_len_slice rfl) ?_) | (refine EK_ev (Ev_len_arr rfl) ?_) | (refine EK_ev (Ev_len_map rfl (by (repeat' (first | exact Sel.here | apply Sel.there)); first | done | fail)) ?_)) | (refine ek_add ?_; first | (refine EK_ev (Ev_addI rfl rfl (by omega)) ?_) | (refine EK_ev (Ev_addS rfl rfl (by simp <;> omega)) ?_) | (refine EK_ev (Ev_add rfl rfl) ?_)) | (refine ek_mul ?_; first | (refine EK_ev (Ev_mulI rfl rfl (by omega)) ?_) | (refine EK_ev (Ev_mul rfl rfl) ?_)) | (refine ek_eql ?_; first | (refine EK_ev (Ev_eqlI rfl rfl) ?_) | (refine EK_ev (Ev_eqlS rfl rfl) ?_) | (refine EK_ev (Ev_eqlNil rfl rfl) ?_) | (refine EK_ev (Ev_eqlB rfl rfl) ?_) | (refine EK_ev (Ev_eqlO rfl rfl rfl (fun _ => rfl)) ?_)) | (refine ek_neq ?_; first | (refine EK_ev (Ev_neqI rfl rfl) ?_) | (refine EK_ev (Ev_neqS rfl rfl) ?_) | (refine EK_ev (Ev_neqNil rfl rfl) ?_) | (refine EK_ev (Ev_neqB rfl rfl) ?_) | (refine EK_ev (Ev_neqO rfl rfl rfl (fun _ => rfl)) ?_)) | (refine ek_lss ?_; first | (refine EK_ev (Ev_lssI rfl rfl) ?_) | (refine EK_ev (Ev_lssS rfl rfl) ?_)) | (refine ek_gtr ?_; first | (refine EK_ev (Ev_gtrI rfl rfl) ?_) | (refine EK_ev (Ev_gtrS rfl rfl) ?_)))
    | (refine is_ex ?_; first | (refine KJ_blk_exit' rfl ?_))
    | (refine is_code ?_; first | (refine KJ_cond_dec rfl (fun _ => ?_) (fun _ => ?_) <;> first | (exfalso; omega) | skip) | (refine KJ_cond_t rfl ?_) | (refine KJ_cond_f rfl ?_)))
    refine KJ.row0 (e := 9) (sz := 1) ?_
    refine KJ_loop (fun i : {s : Nat × List (List UInt8) × Nat × Dsk × Option Addr × Nat // s.1 ≤ sizes.length ∧ JL at_ n v D0.life s.2.1 s.2.2.1 s.2.2.2.1 ∧ s.2.2.2.1.off = false} => [(0, .pointer (some ⟨p, 0, none⟩)), (1, .int .i64 (at_ : Nat)), (2, .int .i64 (n : Nat)), (3, .int .i64 (v : Nat)), (4, .int .i64 kI), (11, .pointer (some ⟨g5, 0, none⟩)), (13, .pointer (some ⟨g, 0, none⟩)), (15, .slice i.1.2.2.2.2.1 i.1.2.1.length i.1.2.2.2.2.2), (16, .int .i64 (i.1.2.2.1 : Nat)), (17, .bool false), (44, .slice sa sizes.length sc), (45, .int .i64 (sizes.length : Nat)), (46, .int .i64 (i.1.1 : Nat))])
      (fun i => [DiskP p i.1.2.2.2.1, cellsP g [.pointer (some ⟨p, 0, none⟩), .int .i64 (at_ : Nat), .int .i64 (n : Nat), .int .i64 (v : Nat), .int .i64 ((i.1.2.1.flatMap pcsJ).length : Nat), .int .i64 D0.life, .bool false] 165, rowP (.slice i.1.2.2.2.2.1 i.1.2.1.length i.1.2.2.2.2.2) 9 1 i.1.2.1.length (i.1.2.1.map strV), cellsP g5 [.int .i64 more, .slice sa sizes.length sc, .slice ya syncs.length yc, .int .i64 arm, .slice ka kept.length kc, .int .i64 torn, .int .i64 fb] 118] ++ R) (fun i => sizes.length - i.1.1) ⟨(0, [], 0, DA, none, 0), Nat.zero_le _, hJ0, ho0⟩ (by (repeat' (first | exact Subs.nil | refine Subs.cons rfl ?_)); first | done | fail) (Ent.of (by (repeat' (first | exact Pick.nil | apply Pick.cons | exact Sel.here | apply Sel.there)); first | done | fail) (by (repeat' (first | exact DropTo.refl | apply DropTo.there)); first | done | fail)) (fun ⟨(i, rs, sy, D, a, c), hi, hJ, ho⟩ => ?_)
    dsimp only at hi hJ ho ⊢
    by_cases hlt : i < sizes.length
    rotate_left
    · have ql : decide ((i : Int) < (sizes.length : Nat)) = false := decide_eq_false (by omega)
      repeat' (first 
    | (refine at_seq_region (id := 27) ?_; exact KJ.weak (rest g g5 rs sy D a c _ false false hJ ho) (by (repeat' (first | exact Subs.nil | refine Subs.cons rfl ?_)); first | done | fail) (Ent.of (by (repeat' (first | exact Pick.nil | apply Pick.cons | exact Sel.here | apply Sel.there)); first | done | fail) (by (repeat' (first | exact DropTo.refl | apply DropTo.there)); first | done | fail)))
    | refine KJ_stp (by first | constructor | fail) ?_
    | (refine is_list ?_; first | (refine KJ_guard_dec_t rfl rfl rfl (fun _ => ?_) (fun _ => ?_) <;> first | (exfalso; omega) | skip) | (refine KJ_guard_dec_f rfl rfl rfl (fun _ => ?_) (fun _ => ?_) <;> first | (exfalso; omega) | skip) | (refine KJ_guard_yes rfl rfl ?_) | (refine KJ_guard_no rfl rfl rfl rfl ?_))
    | (refine is_oper ?_; first | (refine is_box ?_; first | (refine KJ_box rfl (by first | exact CellsOf.agg | exact CellsOf.one rfl) rfl (fun _ => ?_))) | (refine KJ_ek rfl ?_) | (refine KJ_ek0 ?_))
    | (refine is_ek ?_; first | (refine ek_move ?_; first | (refine EK_ev (Ev_move rfl) ?_)) | (refine ek_assign ?_; first | (refine EK_ev (Ev_assign rfl) ?_)) | (refine ek_pick ?_; first | (refine EK_ev (Ev_pick_t rfl rfl) ?_) | (refine EK_ev (Ev_pick_f rfl rfl) ?_)) | (refine ek_fieldAddr ?_; first | (refine EK_ev (Ev_field rfl) ?_)) | (refine ek_load ?_; first | (refine EK_ev (Ev_loadAgg rfl (by (repeat' (first | exact Sel.here | apply Sel.there)); first | done | fail) (by (repeat' (first | exact Cut.nil | apply Cut.cons | apply Cut.skip)); first | done | fail)) ?_) | (refine EK_ev (Ev_load rfl (by (repeat' (first | exact Sel.here | apply Sel.there)); first | done | fail) (by rfl)) ?_) | (refine EK_ev (Ev_load rfl (by (repeat' (first | exact Sel.here | apply Sel.there)); first | done | fail) (by rfl)) ?_) | (refine EK_ev (Ev_loadOld rfl (by assumption)) ?_) | (refine EK_ev (Ev_loadAgg rfl (by (repeat' (first | exact Sel.here | apply Sel.there)); first | done | fail) (by (repeat' (first | exact Cut.nil | apply Cut.cons | apply Cut.skip)); first | done | fail)) ?_)) | (refine ek_un ?_; first | (refine EK_ev (Ev_notD rfl) ?_) | (refine EK_ev (Ev_not rfl) ?_) | (refine EK_ev (Ev_neg rfl) ?_)) | (refine ek_extract ?_; first | (refine EK_ev (Ev_extract rfl rfl) ?_)) | (refine ek_indexAddr ?_; first | (refine EK_ev (Ev_indexSlice rfl rfl (by omega)) ?_) | (refine EK_ev (Ev_indexArr rfl rfl (by omega)) ?_)) | (refine ek_len ?_; first | (refine EK_ev (Ev_len_str rfl) ?_) | (refine EK_ev (Ev_len_slice rfl) ?_) | (refine EK_ev (Ev_len_arr rfl) ?_) | (refine EK_ev (Ev_len_map rfl (by (repeat' (first | exact Sel.here | apply Sel.there)); first | done | fail)) ?_)) | (refine ek_add ?_; first | (refine EK_ev (Ev_addI rfl rfl (by omega)) ?_) | (refine EK_ev (Ev_addS rfl rfl (by simp <;> omega)) ?_) | (refine EK_ev (Ev_add rfl rfl) ?_)) | (refine ek_mul ?_; first | (refine EK_ev (Ev_mulI rfl rfl (by omega)) ?_) | (refine EK_ev (Ev_mul rfl rfl) ?_)) | (refine ek_eql ?_; first | (refine EK_ev (Ev_eqlI rfl rfl) ?_) | (refine EK_ev (Ev_eqlS rfl rfl) ?_) | (refine EK_ev (Ev_eqlNil rfl rfl) ?_) | (refine EK_ev (Ev_eqlB rfl rfl) ?_) | (refine EK_ev (Ev_eqlO rfl rfl rfl (fun _ => rfl)) ?_)) | (refine ek_neq ?_; first | (refine EK_ev (Ev_neqI rfl rfl) ?_) | (refine EK_ev (Ev_neqS rfl rfl) ?_) | (refine EK_ev (Ev_neqNil rfl rfl) ?_) | (refine EK_ev (Ev_neqB rfl rfl) ?_) | (refine EK_ev (Ev_neqO rfl rfl rfl (fun _ => rfl)) ?_)) | (refine ek_lss ?_; first | (refine EK_ev (Ev_lssI_q rfl rfl ql) ?_) | (refine EK_ev (Ev_lssI rfl rfl) ?_) | (refine EK_ev (Ev_lssS rfl rfl) ?_)) | (refine ek_gtr ?_; first | (refine EK_ev (Ev_gtrI rfl rfl) ?_) | (refine EK_ev (Ev_gtrS rfl rfl) ?_)))
    | (refine is_ex ?_; first | (refine KJ_blk_exit' rfl ?_))
    | (refine is_code ?_; first | (refine KJ_cond_dec rfl (fun _ => ?_) (fun _ => ?_) <;> first | (exfalso; omega) | skip) | (refine KJ_cond_t rfl ?_) | (refine KJ_cond_f rfl ?_)))
    have ql : decide ((i : Int) < (sizes.length : Nat)) = true := decide_eq_true (by omega)
    obtain ⟨size, hsz⟩ : ∃ s, sizes[i]? = some s := ⟨_, List.getElem?_eq_getElem hlt⟩
    obtain ⟨sb, so, rfl, -, hsx⟩ := hsx (by intro e; rw [e] at hlt; simp at hlt)
    have Hs : W.cell? ⟨sb, so + (i : Int).toNat * 1, none⟩ = some (.int .i64 size) := by rw [Int.toNat_natCast, Nat.mul_one]; exact hsx i size hsz
    clear hsx hsz
    obtain ⟨f2, hf2⟩ : ∃ x, IntKind.i64.wrap (f1 + (i : Int)) = x := ⟨_, rfl⟩
    have cr := record10a_ct (W := W) size f2
    have hsl3 : (recL size f2).length ≤ 3000 := by unfold recL; rw [recB_length]; omega
    obtain ⟨s, hss⟩ : ∃ s, s = recL size f2 := ⟨_, rfl⟩
    rw [← hss] at cr hsl3
    clear hss
    have hfit0 := hJ.fit
    have hcnt := hJ.cnt
    have hul := (hJ.und_in hat (by omega)).2
    have hdn : downB D D0.life false = false := by unfold downB; rw [ho, hJ.life]; simp
    have hDn : D.n ≤ 65536 := by rw [hJ.n40]; omega
    have hpl := pcsJ_length s
    have hcat : (((rs ++ [s]).flatMap pcsJ).length : Int) = ((rs.flatMap pcsJ).length : Int) + costI s.length := by rw [← hpl, List.flatMap_append, List.length_append]; simp
    by_cases hfit : costI s.length ≤ ((n : Nat) : Int) - ((rs.flatMap pcsJ).length : Nat)
    rotate_left
    · have ca := append_full (W := W) (p := p) (g := g) (D := D) hE8 e17 hN (at_ : Nat) (n : Nat) D0.life v (rs.flatMap pcsJ).length s hDn hdn (by omega) (by omega) (by omega) hfit
      repeat' (first 
    | refine KJ_stp (by first | constructor | fail) ?_
    | (refine is_list ?_; first | (refine KJ_guard_dec_t rfl rfl rfl (fun _ => ?_) (fun _ => ?_) <;> first | (exfalso; omega) | skip) | (refine KJ_guard_dec_f rfl rfl rfl (fun _ => ?_) (fun _ => ?_) <;> first | (exfalso; omega) | skip) | (refine KJ_guard_yes rfl rfl ?_) | (refine KJ_guard_no rfl rfl rfl rfl ?_))
    | (refine is_oper ?_; first | (refine is_box ?_; first | (refine KJ_box rfl (by first | exact CellsOf.agg | exact CellsOf.one rfl) rfl (fun _ => ?_))) | (refine is_call ?_; first | (refine KJ_call (by (repeat' (first | exact Evs.nil | refine Evs.cons rfl ?_)); first | done | fail) c17 (by (repeat' (first | exact Pick.nil | apply Pick.cons | exact Sel.here | apply Sel.there)); first | done | fail) rfl (fun _ => ?_)) | (refine KJ_call (by (repeat' (first | exact Evs.nil | refine Evs.cons rfl ?_)); first | done | fail) ca (by (repeat' (first | exact Pick.nil | apply Pick.cons | exact Sel.here | apply Sel.there)); first | done | fail) rfl (fun _ => ?_)) | (refine KJ_call (by (repeat' (first | exact Evs.nil | refine Evs.cons rfl ?_)); first | done | fail) cr (by (repeat' (first | exact Pick.nil | apply Pick.cons | exact Sel.here | apply Sel.there)); first | done | fail) rfl (fun _ => ?_))) | (refine KJ_ek rfl ?_) | (refine KJ_ek0 ?_))
    | (refine is_ek ?_; first | (refine ek_move ?_; first | (refine EK_ev (Ev_move rfl) ?_)) | (refine ek_assign ?_; first | (refine EK_ev (Ev_assign rfl) ?_)) | (refine ek_pick ?_; first | (refine EK_ev (Ev_pick_t rfl rfl) ?_) | (refine EK_ev (Ev_pick_f rfl rfl) ?_)) | (refine ek_fieldAddr ?_; first | (refine EK_ev (Ev_field rfl) ?_)) | (refine ek_load ?_; first | (refine EK_ev (Ev_loadAgg rfl (by (repeat' (first | exact Sel.here | apply Sel.there)); first | done | fail) (by (repeat' (first | exact Cut.nil | apply Cut.cons | apply Cut.skip)); first | done | fail)) ?_) | (refine EK_ev (Ev_load rfl (by (repeat' (first | exact Sel.here | apply Sel.there)); first | done | fail) (by rfl)) ?_) | (refine EK_ev (Ev_loadOld rfl Hs) ?_) | (refine EK_ev (Ev_load rfl (by (repeat' (first | exact Sel.here | apply Sel.there)); first | done | fail) (by rfl)) ?_) | (refine EK_ev (Ev_loadOld rfl (by assumption)) ?_) | (refine EK_ev (Ev_loadAgg rfl (by (repeat' (first | exact Sel.here | apply Sel.there)); first | done | fail) (by (repeat' (first | exact Cut.nil | apply Cut.cons | apply Cut.skip)); first | done | fail)) ?_)) | (refine ek_un ?_; first | (refine EK_ev (Ev_notD rfl) ?_) | (refine EK_ev (Ev_not rfl) ?_) | (refine EK_ev (Ev_neg rfl) ?_)) | (refine ek_extract ?_; first | (refine EK_ev (Ev_extract rfl rfl) ?_)) | (refine ek_indexAddr ?_; first | (refine EK_ev (Ev_indexSlice rfl rfl (by omega)) ?_) | (refine EK_ev (Ev_indexArr rfl rfl (by omega)) ?_)) | (refine ek_len ?_; first | (refine EK_ev (Ev_len_str rfl) ?_) | (refine EK_ev (Ev_len_slice rfl) ?_) | (refine EK_ev (Ev_len_arr rfl) ?_) | (refine EK_ev (Ev_len_map rfl (by (repeat' (first | exact Sel.here | apply Sel.there)); first | done | fail)) ?_)) | (refine ek_add ?_; first | (refine EK_ev (Ev_addI_v (r := ((i + 1 : Nat) : Int)) rfl rfl (by omega) (by omega)) ?_) | (refine EK_ev (Ev_add_w rfl rfl hf2) ?_) | (refine EK_ev (Ev_addI rfl rfl (by omega)) ?_) | (refine EK_ev (Ev_addS rfl rfl (by simp <;> omega)) ?_) | (refine EK_ev (Ev_add rfl rfl) ?_)) | (refine ek_mul ?_; first | (refine EK_ev (Ev_mul_w rfl rfl hf1) ?_) | (refine EK_ev (Ev_mulI rfl rfl (by omega)) ?_) | (refine EK_ev (Ev_mul rfl rfl) ?_)) | (refine ek_eql ?_; first | (refine EK_ev (Ev_eqlI_t rfl rfl rfl) ?_) | (refine EK_ev (Ev_eqlI rfl rfl) ?_) | (refine EK_ev (Ev_eqlS rfl rfl) ?_) | (refine EK_ev (Ev_eqlNil rfl rfl) ?_) | (refine EK_ev (Ev_eqlB rfl rfl) ?_) | (refine EK_ev (Ev_eqlO rfl rfl rfl (fun _ => rfl)) ?_)) | (refine ek_neq ?_; first | (refine EK_ev (Ev_neqI rfl rfl) ?_) | (refine EK_ev (Ev_neqS rfl rfl) ?_) | (refine EK_ev (Ev_neqNil rfl rfl) ?_) | (refine EK_ev (Ev_neqB rfl rfl) ?_) | (refine EK_ev (Ev_neqO rfl rfl rfl (fun _ => rfl)) ?_)) | (refine ek_lss ?_; first | (refine EK_ev (Ev_lssI_q rfl rfl ql) ?_) | (refine EK_ev (Ev_lssI rfl rfl) ?_) | (refine EK_ev (Ev_lssS rfl rfl) ?_)) | (refine ek_gtr ?_; first | (refine EK_ev (Ev_gtrI rfl rfl) ?_) | (refine EK_ev (Ev_gtrS rfl rfl) ?_)))
    | (refine is_ex ?_; first | (refine KJ_blk_exit' rfl ?_))
    | (refine is_code ?_; first | (refine KJ_cond_dec rfl (fun _ => ?_) (fun _ => ?_) <;> first | (exfalso; omega) | skip) | (refine KJ_cond_t rfl ?_) | (refine KJ_cond_f rfl ?_)))
      all_goals refine KJ_again ⟨(i + 1, rs, sy, D, a, c), Nat.succ_le_of_lt hlt, hJ, ho⟩ (by show sizes.length - (i + 1) < sizes.length - i; omega) (by (repeat' (first | exact Subs.nil | refine Subs.cons rfl ?_)); first | done | fail) (Ent.of (by (repeat' (first | exact Pick.nil | apply Pick.cons | exact Sel.here | apply Sel.there)); first | done | fail) (by (repeat' (first | exact DropTo.refl | apply DropTo.there)); first | done | fail))
    obtain ⟨hA1, hA2⟩ := hJ.append ho hat (by omega) s hsl3 (by omega)
    have ca := append_ct (W := W) (p := p) (g := g) (D := D) hE8 e17 hN (at_ : Nat) (n : Nat) D0.life v (rs.flatMap pcsJ).length s hDn hdn (by omega) (by omega) (by omega) hfit (by omega) (by omega) (by omega)
    obtain ⟨A, hA⟩ : ∃ A, A = apGo (at_ : Nat) v (rs.flatMap pcsJ).length (pcsJ s) 0 D := ⟨_, rfl⟩
    rw [← hA] at ca hA1 hA2
    clear hA
    obtain ⟨A1, A2⟩ := A
    dsimp only at ca hA1 hA2
    have hcnt2 : rs.length ≤ 30 := by omega
    obtain ⟨rs2, hrs2⟩ : ∃ r, r = rs ++ [s] := ⟨_, rfl⟩
    have hrl : rs2.length = rs.length + 1 := by rw [hrs2, List.length_append]; rfl
    have hrm : rs2.map strV = rs.map strV ++ [strV s] := by rw [hrs2]; simp
    rw [← hrs2] at hA1 hcat
    clear hrs2
    cases A1 with
    | false =>
      have ca' : Ct Tryd.prog W 67 [.pointer (some ⟨g, 0, none⟩), strV s] [DiskP p D, cellsP g [.pointer (some ⟨p, 0, none⟩), .int .i64 (at_ : Nat), .int .i64 (n : Nat), .int .i64 (v : Nat), .int .i64 ((rs.flatMap pcsJ).length : Nat), .int .i64 D0.life, .bool false] 165] (fun _ : Unit => errV E 12) (fun _ => [DiskP p A2, cellsP g [.pointer (some ⟨p, 0, none⟩), .int .i64 (at_ : Nat), .int .i64 (n : Nat), .int .i64 (v : Nat), .int .i64 ((rs.flatMap pcsJ).length : Nat), .int .i64 D0.life, .bool true] 165]) := ca
      have co : Ct Tryd.prog W 30 [.pointer (some ⟨p, 0, none⟩)] [DiskP p A2] (fun _ : Unit => .bool true) (fun _ => [DiskP p A2]) := by
        have h := off_ct (W := W) (p := p) (D := A2)
        rw [hA2] at h
        exact h
      obtain ⟨ea, hea⟩ := errV_ne (E := E) (show (12 : Nat) ≠ 0 by omega)
      rw [hea] at ca' c12
      have hrest := fun c5 g6 => rest g g5 rs2 sy A2 (some ⟨g6, 0, none⟩) c5 ((rs.flatMap pcsJ).length : Nat) true true hA1 hA2
      rw [hrl, hrm] at hrest
      repeat' (first 
    | (refine at_seq_region (id := 27) ?_; exact KJ.weak (hrest _ _) (by (repeat' (first | exact Subs.nil | refine Subs.cons rfl ?_)); first | done | fail) (Ent.of (by (repeat' (first | exact Pick.nil | apply Pick.cons | exact Sel.here | apply Sel.there)); first | done | fail) (by (repeat' (first | exact DropTo.refl | apply DropTo.there)); first | done | fail)))
    | refine KJ_stp (by first | constructor | fail) ?_
    | (refine is_list ?_; first | (refine KJ_guard_dec_t rfl rfl rfl (fun _ => ?_) (fun _ => ?_) <;> first | (exfalso; omega) | skip) | (refine KJ_guard_dec_f rfl rfl rfl (fun _ => ?_) (fun _ => ?_) <;> first | (exfalso; omega) | skip) | (refine KJ_guard_yes rfl rfl ?_) | (refine KJ_guard_no rfl rfl rfl rfl ?_))
    | (refine is_oper ?_; first | (refine is_box ?_; first | (refine KJ_box rfl (by first | exact CellsOf.agg | exact CellsOf.one rfl) rfl (fun _ => ?_))) | (refine is_call ?_; first | (refine KJ_call (by (repeat' (first | exact Evs.nil | refine Evs.cons rfl ?_)); first | done | fail) co (by (repeat' (first | exact Pick.nil | apply Pick.cons | exact Sel.here | apply Sel.there)); first | done | fail) rfl (fun _ => ?_)) | (refine KJ_call (by (repeat' (first | exact Evs.nil | refine Evs.cons rfl ?_)); first | done | fail) c12 (by (repeat' (first | exact Pick.nil | apply Pick.cons | exact Sel.here | apply Sel.there)); first | done | fail) rfl (fun _ => ?_)) | (refine KJ_call (by (repeat' (first | exact Evs.nil | refine Evs.cons rfl ?_)); first | done | fail) ca' (by (repeat' (first | exact Pick.nil | apply Pick.cons | exact Sel.here | apply Sel.there)); first | done | fail) rfl (fun _ => ?_)) | (refine KJ_call (by (repeat' (first | exact Evs.nil | refine Evs.cons rfl ?_)); first | done | fail) cr (by (repeat' (first | exact Pick.nil | apply Pick.cons | exact Sel.here | apply Sel.there)); first | done | fail) rfl (fun _ => ?_))) | (refine is_append ?_; first | (refine KJ_append (a2 := 0) rfl rfl (by rfl) (by omega) (by (repeat' (first | exact Sel.here | apply Sel.there)); first | done | fail) (Src.cells (i := 1) (by (repeat' (first | exact Sel.here | apply Sel.there)); first | done | fail) (by (repeat' (first | exact Cut.nil | apply Cut.cons | apply Cut.skip)); first | done | fail)) (by rfl) (by omega) (by (repeat' (first | exact Ones.nil | exact Ones_bvs _ | refine Ones.cons rfl ?_)); first | done | fail) (by omega) (by omega) rfl rfl (fun g6 c6 => ?_))) | (refine is_bslice ?_; first | (refine KJ_bslice1 rfl (by first | exact CellsOf.agg | exact CellsOf.one rfl) (by rfl) (by omega) rfl (fun g7 => ?_))) | (refine KJ_ek rfl ?_) | (refine KJ_ek0 ?_))
    | (refine is_ek ?_; first | (refine ek_move ?_; first | (refine EK_ev (Ev_move rfl) ?_)) | (refine ek_assign ?_; first | (refine EK_ev (Ev_assign rfl) ?_)) | (refine ek_pick ?_; first | (refine EK_ev (Ev_pick_t rfl rfl) ?_) | (refine EK_ev (Ev_pick_f rfl rfl) ?_)) | (refine ek_fieldAddr ?_; first | (refine EK_ev (Ev_field rfl) ?_)) | (refine ek_load ?_; first | (refine EK_ev (Ev_loadAgg rfl (by (repeat' (first | exact Sel.here | apply Sel.there)); first | done | fail) (by (repeat' (first | exact Cut.nil | apply Cut.cons | apply Cut.skip)); first | done | fail)) ?_) | (refine EK_ev (Ev_load rfl (by (repeat' (first | exact Sel.here | apply Sel.there)); first | done | fail) (by rfl)) ?_) | (refine EK_ev (Ev_loadOld rfl Hs) ?_) | (refine EK_ev (Ev_load rfl (by (repeat' (first | exact Sel.here | apply Sel.there)); first | done | fail) (by rfl)) ?_) | (refine EK_ev (Ev_loadOld rfl (by assumption)) ?_) | (refine EK_ev (Ev_loadAgg rfl (by (repeat' (first | exact Sel.here | apply Sel.there)); first | done | fail) (by (repeat' (first | exact Cut.nil | apply Cut.cons | apply Cut.skip)); first | done | fail)) ?_)) | (refine ek_un ?_; first | (refine EK_ev (Ev_notD rfl) ?_) | (refine EK_ev (Ev_not rfl) ?_) | (refine EK_ev (Ev_neg rfl) ?_)) | (refine ek_extract ?_; first | (refine EK_ev (Ev_extract rfl rfl) ?_)) | (refine ek_indexAddr ?_; first | (refine EK_ev (Ev_indexSlice rfl rfl (by omega)) ?_) | (refine EK_ev (Ev_indexArr rfl rfl (by omega)) ?_)) | (refine ek_len ?_; first | (refine EK_ev (Ev_len_str rfl) ?_) | (refine EK_ev (Ev_len_slice rfl) ?_) | (refine EK_ev (Ev_len_arr rfl) ?_) | (refine EK_ev (Ev_len_map rfl (by (repeat' (first | exact Sel.here | apply Sel.there)); first | done | fail)) ?_)) | (refine ek_add ?_; first | (refine EK_ev (Ev_addI_v (r := ((i + 1 : Nat) : Int)) rfl rfl (by omega) (by omega)) ?_) | (refine EK_ev (Ev_add_w rfl rfl hf2) ?_) | (refine EK_ev (Ev_addI rfl rfl (by omega)) ?_) | (refine EK_ev (Ev_addS rfl rfl (by simp <;> omega)) ?_) | (refine EK_ev (Ev_add rfl rfl) ?_)) | (refine ek_mul ?_; first | (refine EK_ev (Ev_mul_w rfl rfl hf1) ?_) | (refine EK_ev (Ev_mulI rfl rfl (by omega)) ?_) | (refine EK_ev (Ev_mul rfl rfl) ?_)) | (refine ek_eql ?_; first | (refine EK_ev (Ev_eqlI_f rfl rfl (by omega)) ?_) | (refine EK_ev (Ev_eqlI rfl rfl) ?_) | (refine EK_ev (Ev_eqlS rfl rfl) ?_) | (refine EK_ev (Ev_eqlNil rfl rfl) ?_) | (refine EK_ev (Ev_eqlB rfl rfl) ?_) | (refine EK_ev (Ev_eqlO rfl rfl rfl (fun _ => rfl)) ?_)) | (refine ek_neq ?_; first | (refine EK_ev (Ev_neqI_f rfl rfl rfl) ?_) | (refine EK_ev (Ev_neqI rfl rfl) ?_) | (refine EK_ev (Ev_neqS rfl rfl) ?_) | (refine EK_ev (Ev_neqNil rfl rfl) ?_) | (refine EK_ev (Ev_neqB rfl rfl) ?_) | (refine EK_ev (Ev_neqO rfl rfl rfl (fun _ => rfl)) ?_)) | (refine ek_lss ?_; first | (refine EK_ev (Ev_lssI_q rfl rfl ql) ?_) | (refine EK_ev (Ev_lssI rfl rfl) ?_) | (refine EK_ev (Ev_lssS rfl rfl) ?_)) | (refine ek_gtr ?_; first | (refine EK_ev (Ev_gtrI rfl rfl) ?_) | (refine EK_ev (Ev_gtrS rfl rfl) ?_)))
    | (refine is_ex ?_; first | (refine KJ_blk_exit' rfl ?_))
    | (refine is_code ?_; first | (refine KJ_cond_dec rfl (fun _ => ?_) (fun _ => ?_) <;> first | (exfalso; omega) | skip) | (refine KJ_cond_t rfl ?_) | (refine KJ_cond_f rfl ?_)))
    | true =>
      have ho2 : A2.off = false := hA2
      have ca' : Ct Tryd.prog W 67 [.pointer (some ⟨g, 0, none⟩), strV s] [DiskP p D, cellsP g [.pointer (some ⟨p, 0, none⟩), .int .i64 (at_ : Nat), .int .i64 (n : Nat), .int .i64 (v : Nat), .int .i64 ((rs.flatMap pcsJ).length : Nat), .int .i64 D0.life, .bool false] 165] (fun _ : Unit => .nilIface) (fun _ => [DiskP p A2, cellsP g [.pointer (some ⟨p, 0, none⟩), .int .i64 (at_ : Nat), .int .i64 (n : Nat), .int .i64 (v : Nat), .int .i64 ((rs2.flatMap pcsJ).length : Nat), .int .i64 D0.life, .bool false] 165]) := by
        rw [if_pos rfl, if_pos rfl, ← hcat] at ca
        exact ca
      by_cases hyi : i < syncs.length
      rotate_left
      · have qy : decide ((i : Int) < (syncs.length : Nat)) = false := decide_eq_false (by omega)
        repeat' (first 
    | refine KJ_stp (by first | constructor | fail) ?_
    | (refine is_list ?_; first | (refine KJ_guard_dec_t rfl rfl rfl (fun _ => ?_) (fun _ => ?_) <;> first | (exfalso; omega) | skip) | (refine KJ_guard_dec_f rfl rfl rfl (fun _ => ?_) (fun _ => ?_) <;> first | (exfalso; omega) | skip) | (refine KJ_guard_yes rfl rfl ?_) | (refine KJ_guard_no rfl rfl rfl rfl ?_))
    | (refine is_oper ?_; first | (refine is_box ?_; first | (refine KJ_box rfl (by first | exact CellsOf.agg | exact CellsOf.one rfl) rfl (fun _ => ?_))) | (refine is_call ?_; first | (refine KJ_call (by (repeat' (first | exact Evs.nil | refine Evs.cons rfl ?_)); first | done | fail) c0 (by (repeat' (first | exact Pick.nil | apply Pick.cons | exact Sel.here | apply Sel.there)); first | done | fail) rfl (fun _ => ?_)) | (refine KJ_call (by (repeat' (first | exact Evs.nil | refine Evs.cons rfl ?_)); first | done | fail) ca' (by (repeat' (first | exact Pick.nil | apply Pick.cons | exact Sel.here | apply Sel.there)); first | done | fail) rfl (fun _ => ?_)) | (refine KJ_call (by (repeat' (first | exact Evs.nil | refine Evs.cons rfl ?_)); first | done | fail) cr (by (repeat' (first | exact Pick.nil | apply Pick.cons | exact Sel.here | apply Sel.there)); first | done | fail) rfl (fun _ => ?_))) | (refine is_append ?_; first | (refine KJ_append (a2 := 0) rfl rfl (by rfl) (by omega) (by (repeat' (first | exact Sel.here | apply Sel.there)); first | done | fail) (Src.cells (i := 1) (by (repeat' (first | exact Sel.here | apply Sel.there)); first | done | fail) (by (repeat' (first | exact Cut.nil | apply Cut.cons | apply Cut.skip)); first | done | fail)) (by rfl) (by omega) (by (repeat' (first | exact Ones.nil | exact Ones_bvs _ | refine Ones.cons rfl ?_)); first | done | fail) (by omega) (by omega) rfl rfl (fun g6 c6 => ?_))) | (refine is_bslice ?_; first | (refine KJ_bslice1 rfl (by first | exact CellsOf.agg | exact CellsOf.one rfl) (by rfl) (by omega) rfl (fun g7 => ?_))) | (refine KJ_ek rfl ?_) | (refine KJ_ek0 ?_))
    | (refine is_ek ?_; first | (refine ek_move ?_; first | (refine EK_ev (Ev_move rfl) ?_)) | (refine ek_assign ?_; first | (refine EK_ev (Ev_assign rfl) ?_)) | (refine ek_pick ?_; first | (refine EK_ev (Ev_pick_t rfl rfl) ?_) | (refine EK_ev (Ev_pick_f rfl rfl) ?_)) | (refine ek_fieldAddr ?_; first | (refine EK_ev (Ev_field rfl) ?_)) | (refine ek_load ?_; first | (refine EK_ev (Ev_loadAgg rfl (by (repeat' (first | exact Sel.here | apply Sel.there)); first | done | fail) (by (repeat' (first | exact Cut.nil | apply Cut.cons | apply Cut.skip)); first | done | fail)) ?_) | (refine EK_ev (Ev_load rfl (by (repeat' (first | exact Sel.here | apply Sel.there)); first | done | fail) (by rfl)) ?_) | (refine EK_ev (Ev_loadOld rfl Hs) ?_) | (refine EK_ev (Ev_load rfl (by (repeat' (first | exact Sel.here | apply Sel.there)); first | done | fail) (by rfl)) ?_) | (refine EK_ev (Ev_loadOld rfl (by assumption)) ?_) | (refine EK_ev (Ev_loadAgg rfl (by (repeat' (first | exact Sel.here | apply Sel.there)); first | done | fail) (by (repeat' (first | exact Cut.nil | apply Cut.cons | apply Cut.skip)); first | done | fail)) ?_)) | (refine ek_un ?_; first | (refine EK_ev (Ev_notD rfl) ?_) | (refine EK_ev (Ev_not rfl) ?_) | (refine EK_ev (Ev_neg rfl) ?_)) | (refine ek_extract ?_; first | (refine EK_ev (Ev_extract rfl rfl) ?_)) | (refine ek_indexAddr ?_; first | (refine EK_ev (Ev_indexSlice rfl rfl (by omega)) ?_) | (refine EK_ev (Ev_indexArr rfl rfl (by omega)) ?_)) | (refine ek_len ?_; first | (refine EK_ev (Ev_len_str rfl) ?_) | (refine EK_ev (Ev_len_slice rfl) ?_) | (refine EK_ev (Ev_len_arr rfl) ?_) | (refine EK_ev (Ev_len_map rfl (by (repeat' (first | exact Sel.here | apply Sel.there)); first | done | fail)) ?_)) | (refine ek_add ?_; first | (refine EK_ev (Ev_addI_v (r := ((i + 1 : Nat) : Int)) rfl rfl (by omega) (by omega)) ?_) | (refine EK_ev (Ev_add_w rfl rfl hf2) ?_) | (refine EK_ev (Ev_addI rfl rfl (by omega)) ?_) | (refine EK_ev (Ev_addS rfl rfl (by simp <;> omega)) ?_) | (refine EK_ev (Ev_add rfl rfl) ?_)) | (refine ek_mul ?_; first | (refine EK_ev (Ev_mul_w rfl rfl hf1) ?_) | (refine EK_ev (Ev_mulI rfl rfl (by omega)) ?_) | (refine EK_ev (Ev_mul rfl rfl) ?_)) | (refine ek_eql ?_; first | (refine EK_ev (Ev_eqlI_f rfl rfl (by omega)) ?_) | (refine EK_ev (Ev_eqlI rfl rfl) ?_) | (refine EK_ev (Ev_eqlS rfl rfl) ?_) | (refine EK_ev (Ev_eqlNil rfl rfl) ?_) | (refine EK_ev (Ev_eqlB rfl rfl) ?_) | (refine EK_ev (Ev_eqlO rfl rfl rfl (fun _ => rfl)) ?_)) | (refine ek_neq ?_; first | (refine EK_ev (Ev_neqI rfl rfl) ?_) | (refine EK_ev (Ev_neqS rfl rfl) ?_) | (refine EK_ev (Ev_neqNil rfl rfl) ?_) | (refine EK_ev (Ev_neqB rfl rfl) ?_) | (refine EK_ev (Ev_neqO rfl rfl rfl (fun _ => rfl)) ?_)) | (refine ek_lss ?_; first | (refine EK_ev (Ev_lssI_q rfl rfl qy) ?_) | (refine EK_ev (Ev_lssI_q rfl rfl ql) ?_) | (refine EK_ev (Ev_lssI rfl rfl) ?_) | (refine EK_ev (Ev_lssS rfl rfl) ?_)) | (refine ek_gtr ?_; first | (refine EK_ev (Ev_gtrI rfl rfl) ?_) | (refine EK_ev (Ev_gtrS rfl rfl) ?_)))
    | (refine is_ex ?_; first | (refine KJ_blk_exit' rfl ?_))
    | (refine is_code ?_; first | (refine KJ_cond_dec rfl (fun _ => ?_) (fun _ => ?_) <;> first | (exfalso; omega) | skip) | (refine KJ_cond_t rfl ?_) | (refine KJ_cond_f rfl ?_)))
        refine KJ_again ⟨(i + 1, rs2, sy, A2, some ⟨g6, 0, none⟩, c6), Nat.succ_le_of_lt hlt, hA1, ho2⟩ (by show sizes.length - (i + 1) < sizes.length - i; omega) ?_ ?_
        · dsimp only
          rw [hrl]
          exact (by (repeat' (first | exact Subs.nil | refine Subs.cons rfl ?_)); first | done | fail)
        · dsimp only
          rw [hrl, hrm]
          exact (Ent.of (by (repeat' (first | exact Pick.nil | apply Pick.cons | exact Sel.here | apply Sel.there)); first | done | fail) (by (repeat' (first | exact DropTo.refl | apply DropTo.there)); first | done | fail))
      have qy : decide ((i : Int) < (syncs.length : Nat)) = true := decide_eq_true (by omega)
      obtain ⟨yb, hyb⟩ : ∃ s, syncs[i]? = some s := ⟨_, List.getElem?_eq_getElem hyi⟩
      obtain ⟨bb, bo, rfl, -, hyx⟩ := hyx (by intro e; rw [e] at hyi; simp at hyi)
      have Hy : W.cell? ⟨bb, bo + (i : Int).toNat * 1, none⟩ = some (.bool yb) := by rw [Int.toNat_natCast, Nat.mul_one]; exact hyx i _ (by simp [hyb])
      clear hyx hyb
      cases yb with
      | false =>
        repeat' (first 
    | refine KJ_stp (by first | constructor | fail) ?_
    | (refine is_list ?_; first | (refine KJ_guard_dec_t rfl rfl rfl (fun _ => ?_) (fun _ => ?_) <;> first | (exfalso; omega) | skip) | (refine KJ_guard_dec_f rfl rfl rfl (fun _ => ?_) (fun _ => ?_) <;> first | (exfalso; omega) | skip) | (refine KJ_guard_yes rfl rfl ?_) | (refine KJ_guard_no rfl rfl rfl rfl ?_))
    | (refine is_oper ?_; first | (refine is_box ?_; first | (refine KJ_box rfl (by first | exact CellsOf.agg | exact CellsOf.one rfl) rfl (fun _ => ?_))) | (refine is_call ?_; first | (refine KJ_call (by (repeat' (first | exact Evs.nil | refine Evs.cons rfl ?_)); first | done | fail) c0 (by (repeat' (first | exact Pick.nil | apply Pick.cons | exact Sel.here | apply Sel.there)); first | done | fail) rfl (fun _ => ?_)) | (refine KJ_call (by (repeat' (first | exact Evs.nil | refine Evs.cons rfl ?_)); first | done | fail) ca' (by (repeat' (first | exact Pick.nil | apply Pick.cons | exact Sel.here | apply Sel.there)); first | done | fail) rfl (fun _ => ?_)) | (refine KJ_call (by (repeat' (first | exact Evs.nil | refine Evs.cons rfl ?_)); first | done | fail) cr (by (repeat' (first | exact Pick.nil | apply Pick.cons | exact Sel.here | apply Sel.there)); first | done | fail) rfl (fun _ => ?_))) | (refine is_append ?_; first | (refine KJ_append (a2 := 0) rfl rfl (by rfl) (by omega) (by (repeat' (first | exact Sel.here | apply Sel.there)); first | done | fail) (Src.cells (i := 1) (by (repeat' (first | exact Sel.here | apply Sel.there)); first | done | fail) (by (repeat' (first | exact Cut.nil | apply Cut.cons | apply Cut.skip)); first | done | fail)) (by rfl) (by omega) (by (repeat' (first | exact Ones.nil | exact Ones_bvs _ | refine Ones.cons rfl ?_)); first | done | fail) (by omega) (by omega) rfl rfl (fun g6 c6 => ?_))) | (refine is_bslice ?_; first | (refine KJ_bslice1 rfl (by first | exact CellsOf.agg | exact CellsOf.one rfl) (by rfl) (by omega) rfl (fun g7 => ?_))) | (refine KJ_ek rfl ?_) | (refine KJ_ek0 ?_))
    | (refine is_ek ?_; first | (refine ek_move ?_; first | (refine EK_ev (Ev_move rfl) ?_)) | (refine ek_assign ?_; first | (refine EK_ev (Ev_assign rfl) ?_)) | (refine ek_pick ?_; first | (refine EK_ev (Ev_pick_t rfl rfl) ?_) | (refine EK_ev (Ev_pick_f rfl rfl) ?_)) | (refine ek_fieldAddr ?_; first | (refine EK_ev (Ev_field rfl) ?_)) | (refine ek_load ?_; first | (refine EK_ev (Ev_loadAgg rfl (by (repeat' (first | exact Sel.here | apply Sel.there)); first | done | fail) (by (repeat' (first | exact Cut.nil | apply Cut.cons | apply Cut.skip)); first | done | fail)) ?_) | (refine EK_ev (Ev_load rfl (by (repeat' (first | exact Sel.here | apply Sel.there)); first | done | fail) (by rfl)) ?_) | (refine EK_ev (Ev_loadOld rfl Hy) ?_) | (refine EK_ev (Ev_loadOld rfl Hs) ?_) | (refine EK_ev (Ev_load rfl (by (repeat' (first | exact Sel.here | apply Sel.there)); first | done | fail) (by rfl)) ?_) | (refine EK_ev (Ev_loadOld rfl (by assumption)) ?_) | (refine EK_ev (Ev_loadAgg rfl (by (repeat' (first | exact Sel.here | apply Sel.there)); first | done | fail) (by (repeat' (first | exact Cut.nil | apply Cut.cons | apply Cut.skip)); first | done | fail)) ?_)) | (refine ek_un ?_; first | (refine EK_ev (Ev_notD rfl) ?_) | (refine EK_ev (Ev_not rfl) ?_) | (refine EK_ev (Ev_neg rfl) ?_)) | (refine ek_extract ?_; first | (refine EK_ev (Ev_extract rfl rfl) ?_)) | (refine ek_indexAddr ?_; first | (refine EK_ev (Ev_indexSlice rfl rfl (by omega)) ?_) | (refine EK_ev (Ev_indexArr rfl rfl (by omega)) ?_)) | (refine ek_len ?_; first | (refine EK_ev (Ev_len_str rfl) ?_) | (refine EK_ev (Ev_len_slice rfl) ?_) | (refine EK_ev (Ev_len_arr rfl) ?_) | (refine EK_ev (Ev_len_map rfl (by (repeat' (first | exact Sel.here | apply Sel.there)); first | done | fail)) ?_)) | (refine ek_add ?_; first | (refine EK_ev (Ev_addI_v (r := ((i + 1 : Nat) : Int)) rfl rfl (by omega) (by omega)) ?_) | (refine EK_ev (Ev_add_w rfl rfl hf2) ?_) | (refine EK_ev (Ev_addI rfl rfl (by omega)) ?_) | (refine EK_ev (Ev_addS rfl rfl (by simp <;> omega)) ?_) | (refine EK_ev (Ev_add rfl rfl) ?_)) | (refine ek_mul ?_; first | (refine EK_ev (Ev_mul_w rfl rfl hf1) ?_) | (refine EK_ev (Ev_mulI rfl rfl (by omega)) ?_) | (refine EK_ev (Ev_mul rfl rfl) ?_)) | (refine ek_eql ?_; first | (refine EK_ev (Ev_eqlI_f rfl rfl (by omega)) ?_) | (refine EK_ev (Ev_eqlI rfl rfl) ?_) | (refine EK_ev (Ev_eqlS rfl rfl) ?_) | (refine EK_ev (Ev_eqlNil rfl rfl) ?_) | (refine EK_ev (Ev_eqlB rfl rfl) ?_) | (refine EK_ev (Ev_eqlO rfl rfl rfl (fun _ => rfl)) ?_)) | (refine ek_neq ?_; first | (refine EK_ev (Ev_neqI rfl rfl) ?_) | (refine EK_ev (Ev_neqS rfl rfl) ?_) | (refine EK_ev (Ev_neqNil rfl rfl) ?_) | (refine EK_ev (Ev_neqB rfl rfl) ?_) | (refine EK_ev (Ev_neqO rfl rfl rfl (fun _ => rfl)) ?_)) | (refine ek_lss ?_; first | (refine EK_ev (Ev_lssI_q rfl rfl qy) ?_) | (refine EK_ev (Ev_lssI_q rfl rfl ql) ?_) | (refine EK_ev (Ev_lssI rfl rfl) ?_) | (refine EK_ev (Ev_lssS rfl rfl) ?_)) | (refine ek_gtr ?_; first | (refine EK_ev (Ev_gtrI rfl rfl) ?_) | (refine EK_ev (Ev_gtrS rfl rfl) ?_)))
    | (refine is_ex ?_; first | (refine KJ_blk_exit' rfl ?_))
    | (refine is_code ?_; first | (refine KJ_cond_dec rfl (fun _ => ?_) (fun _ => ?_) <;> first | (exfalso; omega) | skip) | (refine KJ_cond_t rfl ?_) | (refine KJ_cond_f rfl ?_)))
        refine KJ_again ⟨(i + 1, rs2, sy, A2, some ⟨g6, 0, none⟩, c6), Nat.succ_le_of_lt hlt, hA1, ho2⟩ (by show sizes.length - (i + 1) < sizes.length - i; omega) ?_ ?_
        · dsimp only
          rw [hrl]
          exact (by (repeat' (first | exact Subs.nil | refine Subs.cons rfl ?_)); first | done | fail)
        · dsimp only
          rw [hrl, hrm]
          exact (Ent.of (by (repeat' (first | exact Pick.nil | apply Pick.cons | exact Sel.here | apply Sel.there)); first | done | fail) (by (repeat' (first | exact DropTo.refl | apply DropTo.there)); first | done | fail))
      | true =>
        have hul2 := (hA1.und_in hat (by omega)).2
        have hdn2 : downB A2 D0.life false = false := by unfold downB; rw [ho2, hA1.life]; simp
        have csy := sync_ct (W := W) (p := p) (g := g) (D := A2) hE8 (at_ : Nat) (n : Nat) (v : Nat) ((rs2.flatMap pcsJ).length : Nat) D0.life hdn2 (by omega)
        have hsy := hA1.sync ho2 (by omega) hat (by omega)
        obtain ⟨F, hF⟩ : ∃ F, F = A2.flushD := ⟨_, rfl⟩
        obtain ⟨e, he⟩ : ∃ e, e = A2.flushE := ⟨_, rfl⟩
        rw [← hF, ← he] at csy hsy
        clear hF he
        rcases hsy with ⟨h1, h2, h3⟩ | ⟨h1, h2, h3⟩
        · subst h1
          have csy' : Ct Tryd.prog W 106 [.pointer (some ⟨g, 0, none⟩)] [DiskP p A2, cellsP g [.pointer (some ⟨p, 0, none⟩), .int .i64 (at_ : Nat), .int .i64 (n : Nat), .int .i64 (v : Nat), .int .i64 ((rs2.flatMap pcsJ).length : Nat), .int .i64 D0.life, .bool false] 165] (fun _ : Unit => .nilIface) (fun _ => [DiskP p F, cellsP g [.pointer (some ⟨p, 0, none⟩), .int .i64 (at_ : Nat), .int .i64 (n : Nat), .int .i64 (v : Nat), .int .i64 ((rs2.flatMap pcsJ).length : Nat), .int .i64 D0.life, .bool false] 165]) := csy
          rw [hrl] at h3
          repeat' (first 
    | refine KJ_stp (by first | constructor | fail) ?_
    | (refine is_list ?_; first | (refine KJ_guard_dec_t rfl rfl rfl (fun _ => ?_) (fun _ => ?_) <;> first | (exfalso; omega) | skip) | (refine KJ_guard_dec_f rfl rfl rfl (fun _ => ?_) (fun _ => ?_) <;> first | (exfalso; omega) | skip) | (refine KJ_guard_yes rfl rfl ?_) | (refine KJ_guard_no rfl rfl rfl rfl ?_))
    | (refine is_oper ?_; first | (refine is_box ?_; first | (refine KJ_box rfl (by first | exact CellsOf.agg | exact CellsOf.one rfl) rfl (fun _ => ?_))) | (refine is_call ?_; first | (refine KJ_call (by (repeat' (first | exact Evs.nil | refine Evs.cons rfl ?_)); first | done | fail) csy' (by (repeat' (first | exact Pick.nil | apply Pick.cons | exact Sel.here | apply Sel.there)); first | done | fail) rfl (fun _ => ?_)) | (refine KJ_call (by (repeat' (first | exact Evs.nil | refine Evs.cons rfl ?_)); first | done | fail) c0 (by (repeat' (first | exact Pick.nil | apply Pick.cons | exact Sel.here | apply Sel.there)); first | done | fail) rfl (fun _ => ?_)) | (refine KJ_call (by (repeat' (first | exact Evs.nil | refine Evs.cons rfl ?_)); first | done | fail) ca' (by (repeat' (first | exact Pick.nil | apply Pick.cons | exact Sel.here | apply Sel.there)); first | done | fail) rfl (fun _ => ?_)) | (refine KJ_call (by (repeat' (first | exact Evs.nil | refine Evs.cons rfl ?_)); first | done | fail) cr (by (repeat' (first | exact Pick.nil | apply Pick.cons | exact Sel.here | apply Sel.there)); first | done | fail) rfl (fun _ => ?_))) | (refine is_append ?_; first | (refine KJ_append (a2 := 0) rfl rfl (by rfl) (by omega) (by (repeat' (first | exact Sel.here | apply Sel.there)); first | done | fail) (Src.cells (i := 1) (by (repeat' (first | exact Sel.here | apply Sel.there)); first | done | fail) (by (repeat' (first | exact Cut.nil | apply Cut.cons | apply Cut.skip)); first | done | fail)) (by rfl) (by omega) (by (repeat' (first | exact Ones.nil | exact Ones_bvs _ | refine Ones.cons rfl ?_)); first | done | fail) (by omega) (by omega) rfl rfl (fun g6 c6 => ?_))) | (refine is_bslice ?_; first | (refine KJ_bslice1 rfl (by first | exact CellsOf.agg | exact CellsOf.one rfl) (by rfl) (by omega) rfl (fun g7 => ?_))) | (refine KJ_ek rfl ?_) | (refine KJ_ek0 ?_))
    | (refine is_ek ?_; first | (refine ek_move ?_; first | (refine EK_ev (Ev_move rfl) ?_)) | (refine ek_assign ?_; first | (refine EK_ev (Ev_assign rfl) ?_)) | (refine ek_pick ?_; first | (refine EK_ev (Ev_pick_t rfl rfl) ?_) | (refine EK_ev (Ev_pick_f rfl rfl) ?_)) | (refine ek_fieldAddr ?_; first | (refine EK_ev (Ev_field rfl) ?_)) | (refine ek_load ?_; first | (refine EK_ev (Ev_loadAgg rfl (by (repeat' (first | exact Sel.here | apply Sel.there)); first | done | fail) (by (repeat' (first | exact Cut.nil | apply Cut.cons | apply Cut.skip)); first | done | fail)) ?_) | (refine EK_ev (Ev_load rfl (by (repeat' (first | exact Sel.here | apply Sel.there)); first | done | fail) (by rfl)) ?_) | (refine EK_ev (Ev_loadOld rfl Hy) ?_) | (refine EK_ev (Ev_loadOld rfl Hs) ?_) | (refine EK_ev (Ev_load rfl (by (repeat' (first | exact Sel.here | apply Sel.there)); first | done | fail) (by rfl)) ?_) | (refine EK_ev (Ev_loadOld rfl (by assumption)) ?_) | (refine EK_ev (Ev_loadAgg rfl (by (repeat' (first | exact Sel.here | apply Sel.there)); first | done | fail) (by (repeat' (first | exact Cut.nil | apply Cut.cons | apply Cut.skip)); first | done | fail)) ?_)) | (refine ek_un ?_; first | (refine EK_ev (Ev_notD rfl) ?_) | (refine EK_ev (Ev_not rfl) ?_) | (refine EK_ev (Ev_neg rfl) ?_)) | (refine ek_extract ?_; first | (refine EK_ev (Ev_extract rfl rfl) ?_)) | (refine ek_indexAddr ?_; first | (refine EK_ev (Ev_indexSlice rfl rfl (by omega)) ?_) | (refine EK_ev (Ev_indexArr rfl rfl (by omega)) ?_)) | (refine ek_len ?_; first | (refine EK_ev (Ev_len_str rfl) ?_) | (refine EK_ev (Ev_len_slice rfl) ?_) | (refine EK_ev (Ev_len_arr rfl) ?_) | (refine EK_ev (Ev_len_map rfl (by (repeat' (first | exact Sel.here | apply Sel.there)); first | done | fail)) ?_)) | (refine ek_add ?_; first | (refine EK_ev (Ev_addI_v (r := ((i + 1 : Nat) : Int)) rfl rfl (by omega) (by omega)) ?_) | (refine EK_ev (Ev_add_w rfl rfl hf2) ?_) | (refine EK_ev (Ev_addI rfl rfl (by omega)) ?_) | (refine EK_ev (Ev_addS rfl rfl (by simp <;> omega)) ?_) | (refine EK_ev (Ev_add rfl rfl) ?_)) | (refine ek_mul ?_; first | (refine EK_ev (Ev_mul_w rfl rfl hf1) ?_) | (refine EK_ev (Ev_mulI rfl rfl (by omega)) ?_) | (refine EK_ev (Ev_mul rfl rfl) ?_)) | (refine ek_eql ?_; first | (refine EK_ev (Ev_eqlI_f rfl rfl (by omega)) ?_) | (refine EK_ev (Ev_eqlI rfl rfl) ?_) | (refine EK_ev (Ev_eqlS rfl rfl) ?_) | (refine EK_ev (Ev_eqlNil rfl rfl) ?_) | (refine EK_ev (Ev_eqlB rfl rfl) ?_) | (refine EK_ev (Ev_eqlO rfl rfl rfl (fun _ => rfl)) ?_)) | (refine ek_neq ?_; first | (refine EK_ev (Ev_neqI rfl rfl) ?_) | (refine EK_ev (Ev_neqS rfl rfl) ?_) | (refine EK_ev (Ev_neqNil rfl rfl) ?_) | (refine EK_ev (Ev_neqB rfl rfl) ?_) | (refine EK_ev (Ev_neqO rfl rfl rfl (fun _ => rfl)) ?_)) | (refine ek_lss ?_; first | (refine EK_ev (Ev_lssI_q rfl rfl qy) ?_) | (refine EK_ev (Ev_lssI_q rfl rfl ql) ?_) | (refine EK_ev (Ev_lssI rfl rfl) ?_) | (refine EK_ev (Ev_lssS rfl rfl) ?_)) | (refine ek_gtr ?_; first | (refine EK_ev (Ev_gtrI rfl rfl) ?_) | (refine EK_ev (Ev_gtrS rfl rfl) ?_)))
    | (refine is_ex ?_; first | (refine KJ_blk_exit' rfl ?_))
    | (refine is_code ?_; first | (refine KJ_cond_dec rfl (fun _ => ?_) (fun _ => ?_) <;> first | (exfalso; omega) | skip) | (refine KJ_cond_t rfl ?_) | (refine KJ_cond_f rfl ?_)))
          refine KJ_again ⟨(i + 1, rs2, rs.length + 1, F, some ⟨g6, 0, none⟩, c6), Nat.succ_le_of_lt hlt, h3, h2⟩ (by show sizes.length - (i + 1) < sizes.length - i; omega) ?_ ?_
          · dsimp only
            rw [hrl]
            exact (by (repeat' (first | exact Subs.nil | refine Subs.cons rfl ?_)); first | done | fail)
          · dsimp only
            rw [hrl, hrm]
            exact (Ent.of (by (repeat' (first | exact Pick.nil | apply Pick.cons | exact Sel.here | apply Sel.there)); first | done | fail) (by (repeat' (first | exact DropTo.refl | apply DropTo.there)); first | done | fail))
        · subst h1
          have csy' : Ct Tryd.prog W 106 [.pointer (some ⟨g, 0, none⟩)] [DiskP p A2, cellsP g [.pointer (some ⟨p, 0, none⟩), .int .i64 (at_ : Nat), .int .i64 (n : Nat), .int .i64 (v : Nat), .int .i64 ((rs2.flatMap pcsJ).length : Nat), .int .i64 D0.life, .bool false] 165] (fun _ : Unit => errV E 12) (fun _ => [DiskP p F, cellsP g [.pointer (some ⟨p, 0, none⟩), .int .i64 (at_ : Nat), .int .i64 (n : Nat), .int .i64 (v : Nat), .int .i64 ((rs2.flatMap pcsJ).length : Nat), .int .i64 D0.life, .bool true] 165]) := csy
          have co : Ct Tryd.prog W 30 [.pointer (some ⟨p, 0, none⟩)] [DiskP p F] (fun _ : Unit => .bool true) (fun _ => [DiskP p F]) := by
            have h := off_ct (W := W) (p := p) (D := F)
            rw [h2] at h
            exact h
          obtain ⟨ea, hea⟩ := errV_ne (E := E) (show (12 : Nat) ≠ 0 by omega)
          rw [hea] at csy' c12
          have hrest := fun c5 g6 => rest g g5 rs2 sy F (some ⟨g6, 0, none⟩) c5 ((rs2.flatMap pcsJ).length : Nat) true true h3 h2
          rw [hrl, hrm] at hrest
          repeat' (first 
    | (refine at_seq_region (id := 27) ?_; exact KJ.weak (hrest _ _) (by (repeat' (first | exact Subs.nil | refine Subs.cons rfl ?_)); first | done | fail) (Ent.of (by (repeat' (first | exact Pick.nil | apply Pick.cons | exact Sel.here | apply Sel.there)); first | done | fail) (by (repeat' (first | exact DropTo.refl | apply DropTo.there)); first | done | fail)))
    | refine KJ_stp (by first | constructor | fail) ?_
    | (refine is_list ?_; first | (refine KJ_guard_dec_t rfl rfl rfl (fun _ => ?_) (fun _ => ?_) <;> first | (exfalso; omega) | skip) | (refine KJ_guard_dec_f rfl rfl rfl (fun _ => ?_) (fun _ => ?_) <;> first | (exfalso; omega) | skip) | (refine KJ_guard_yes rfl rfl ?_) | (refine KJ_guard_no rfl rfl rfl rfl ?_))
    | (refine is_oper ?_; first | (refine is_box ?_; first | (refine KJ_box rfl (by first | exact CellsOf.agg | exact CellsOf.one rfl) rfl (fun _ => ?_))) | (refine is_call ?_; first | (refine KJ_call (by (repeat' (first | exact Evs.nil | refine Evs.cons rfl ?_)); first | done | fail) csy' (by (repeat' (first | exact Pick.nil | apply Pick.cons | exact Sel.here | apply Sel.there)); first | done | fail) rfl (fun _ => ?_)) | (refine KJ_call (by (repeat' (first | exact Evs.nil | refine Evs.cons rfl ?_)); first | done | fail) co (by (repeat' (first | exact Pick.nil | apply Pick.cons | exact Sel.here | apply Sel.there)); first | done | fail) rfl (fun _ => ?_)) | (refine KJ_call (by (repeat' (first | exact Evs.nil | refine Evs.cons rfl ?_)); first | done | fail) c12 (by (repeat' (first | exact Pick.nil | apply Pick.cons | exact Sel.here | apply Sel.there)); first | done | fail) rfl (fun _ => ?_)) | (refine KJ_call (by (repeat' (first | exact Evs.nil | refine Evs.cons rfl ?_)); first | done | fail) c0 (by (repeat' (first | exact Pick.nil | apply Pick.cons | exact Sel.here | apply Sel.there)); first | done | fail) rfl (fun _ => ?_)) | (refine KJ_call (by (repeat' (first | exact Evs.nil | refine Evs.cons rfl ?_)); first | done | fail) ca' (by (repeat' (first | exact Pick.nil | apply Pick.cons | exact Sel.here | apply Sel.there)); first | done | fail) rfl (fun _ => ?_)) | (refine KJ_call (by (repeat' (first | exact Evs.nil | refine Evs.cons rfl ?_)); first | done | fail) cr (by (repeat' (first | exact Pick.nil | apply Pick.cons | exact Sel.here | apply Sel.there)); first | done | fail) rfl (fun _ => ?_))) | (refine is_append ?_; first | (refine KJ_append (a2 := 0) rfl rfl (by rfl) (by omega) (by (repeat' (first | exact Sel.here | apply Sel.there)); first | done | fail) (Src.cells (i := 1) (by (repeat' (first | exact Sel.here | apply Sel.there)); first | done | fail) (by (repeat' (first | exact Cut.nil | apply Cut.cons | apply Cut.skip)); first | done | fail)) (by rfl) (by omega) (by (repeat' (first | exact Ones.nil | exact Ones_bvs _ | refine Ones.cons rfl ?_)); first | done | fail) (by omega) (by omega) rfl rfl (fun g6 c6 => ?_))) | (refine is_bslice ?_; first | (refine KJ_bslice1 rfl (by first | exact CellsOf.agg | exact CellsOf.one rfl) (by rfl) (by omega) rfl (fun g7 => ?_))) | (refine KJ_ek rfl ?_) | (refine KJ_ek0 ?_))
    | (refine is_ek ?_; first | (refine ek_move ?_; first | (refine EK_ev (Ev_move rfl) ?_)) | (refine ek_assign ?_; first | (refine EK_ev (Ev_assign rfl) ?_)) | (refine ek_pick ?_; first | (refine EK_ev (Ev_pick_t rfl rfl) ?_) | (refine EK_ev (Ev_pick_f rfl rfl) ?_)) | (refine ek_fieldAddr ?_; first | (refine EK_ev (Ev_field rfl) ?_)) | (refine ek_load ?_; first | (refine EK_ev (Ev_loadAgg rfl (by (repeat' (first | exact Sel.here | apply Sel.there)); first | done | fail) (by (repeat' (first | exact Cut.nil | apply Cut.cons | apply Cut.skip)); first | done | fail)) ?_) | (refine EK_ev (Ev_load rfl (by (repeat' (first | exact Sel.here | apply Sel.there)); first | done | fail) (by rfl)) ?_) | (refine EK_ev (Ev_loadOld rfl Hy) ?_) | (refine EK_ev (Ev_loadOld rfl Hs) ?_) | (refine EK_ev (Ev_load rfl (by (repeat' (first | exact Sel.here | apply Sel.there)); first | done | fail) (by rfl)) ?_) | (refine EK_ev (Ev_loadOld rfl (by assumption)) ?_) | (refine EK_ev (Ev_loadAgg rfl (by (repeat' (first | exact Sel.here | apply Sel.there)); first | done | fail) (by (repeat' (first | exact Cut.nil | apply Cut.cons | apply Cut.skip)); first | done | fail)) ?_)) | (refine ek_un ?_; first | (refine EK_ev (Ev_notD rfl) ?_) | (refine EK_ev (Ev_not rfl) ?_) | (refine EK_ev (Ev_neg rfl) ?_)) | (refine ek_extract ?_; first | (refine EK_ev (Ev_extract rfl rfl) ?_)) | (refine ek_indexAddr ?_; first | (refine EK_ev (Ev_indexSlice rfl rfl (by omega)) ?_) | (refine EK_ev (Ev_indexArr rfl rfl (by omega)) ?_)) | (refine ek_len ?_; first | (refine EK_ev (Ev_len_str rfl) ?_) | (refine EK_ev (Ev_len_slice rfl) ?_) | (refine EK_ev (Ev_len_arr rfl) ?_) | (refine EK_ev (Ev_len_map rfl (by (repeat' (first | exact Sel.here | apply Sel.there)); first | done | fail)) ?_)) | (refine ek_add ?_; first | (refine EK_ev (Ev_addI_v (r := ((i + 1 : Nat) : Int)) rfl rfl (by omega) (by omega)) ?_) | (refine EK_ev (Ev_add_w rfl rfl hf2) ?_) | (refine EK_ev (Ev_addI rfl rfl (by omega)) ?_) | (refine EK_ev (Ev_addS rfl rfl (by simp <;> omega)) ?_) | (refine EK_ev (Ev_add rfl rfl) ?_)) | (refine ek_mul ?_; first | (refine EK_ev (Ev_mul_w rfl rfl hf1) ?_) | (refine EK_ev (Ev_mulI rfl rfl (by omega)) ?_) | (refine EK_ev (Ev_mul rfl rfl) ?_)) | (refine ek_eql ?_; first | (refine EK_ev (Ev_eqlI_f rfl rfl (by omega)) ?_) | (refine EK_ev (Ev_eqlI rfl rfl) ?_) | (refine EK_ev (Ev_eqlS rfl rfl) ?_) | (refine EK_ev (Ev_eqlNil rfl rfl) ?_) | (refine EK_ev (Ev_eqlB rfl rfl) ?_) | (refine EK_ev (Ev_eqlO rfl rfl rfl (fun _ => rfl)) ?_)) | (refine ek_neq ?_; first | (refine EK_ev (Ev_neqI_f rfl rfl rfl) ?_) | (refine EK_ev (Ev_neqI rfl rfl) ?_) | (refine EK_ev (Ev_neqS rfl rfl) ?_) | (refine EK_ev (Ev_neqNil rfl rfl) ?_) | (refine EK_ev (Ev_neqB rfl rfl) ?_) | (refine EK_ev (Ev_neqO rfl rfl rfl (fun _ => rfl)) ?_)) | (refine ek_lss ?_; first | (refine EK_ev (Ev_lssI_q rfl rfl qy) ?_) | (refine EK_ev (Ev_lssI_q rfl rfl ql) ?_) | (refine EK_ev (Ev_lssI rfl rfl) ?_) | (refine EK_ev (Ev_lssS rfl rfl) ?_)) | (refine ek_gtr ?_; first | (refine EK_ev (Ev_gtrI rfl rfl) ?_) | (refine EK_ev (Ev_gtrS rfl rfl) ?_)))
    | (refine is_ex ?_; first | (refine KJ_blk_exit' rfl ?_))
    | (refine is_code ?_; first | (refine KJ_cond_dec rfl (fun _ => ?_) (fun _ => ?_) <;> first | (exfalso; omega) | skip) | (refine KJ_cond_t rfl ?_) | (refine KJ_cond_f rfl ?_)))
  intro g g5 rs sy D a c us dead dn hJ ho
  clear hJ0 ho0 ca0 cb
  have hcnt := hJ.cnt
  have hul := (hJ.und_in hat (by omega)).2
  apply KJ_rest (fun K => KJ W 168 K [(0, .pointer (some ⟨p, 0, none⟩)), (1, .int .i64 (at_ : Nat)), (2, .int .i64 (n : Nat)), (3, .int .i64 (v : Nat)), (11, .pointer (some ⟨g5, 0, none⟩)), (13, .pointer (some ⟨g, 0, none⟩)), (15, .slice a rs.length c), (16, .int .i64 (sy : Nat))] ([DiskP p D, cellsP g [.pointer (some ⟨p, 0, none⟩), .int .i64 (at_ : Nat), .int .i64 (n : Nat), .int .i64 (v : Nat), .int .i64 us, .int .i64 D0.life, .bool dead] 165, rowP (.slice a rs.length c) 9 1 rs.length (rs.map strV), cellsP g5 [.int .i64 more, .slice sa sizes.length sc, .slice ya syncs.length yc, .int .i64 arm, .slice ka kept.length kc, .int .i64 torn, .int .i64 fb] 118] ++ R))
  · intro rest
    rcases Bool.eq_false_or_eq_true dn with hd | hd
    · have hdv : Value.bool dn = .bool true := by rw [hd]
      repeat' (first 
    | (refine at_seq_region (id := 31) ?_; exact KJ.weak rest (by (repeat' (first | exact Subs.nil | refine Subs.cons rfl ?_)); first | done | fail) (Ent.of (by (repeat' (first | exact Pick.nil | apply Pick.cons | exact Sel.here | apply Sel.there)); first | done | fail) (by (repeat' (first | exact DropTo.refl | apply DropTo.there)); first | done | fail)))
    | refine KJ_stp (by first | constructor | fail) ?_
    | (refine is_list ?_; first | (refine KJ_guard_dec_t rfl rfl rfl (fun _ => ?_) (fun _ => ?_) <;> first | (exfalso; omega) | skip) | (refine KJ_guard_dec_f rfl rfl rfl (fun _ => ?_) (fun _ => ?_) <;> first | (exfalso; omega) | skip) | (refine KJ_guard_yes rfl rfl ?_) | (refine KJ_guard_no rfl rfl rfl rfl ?_))
    | (refine is_oper ?_; first | (refine is_box ?_; first | (refine KJ_box rfl (by first | exact CellsOf.agg | exact CellsOf.one rfl) rfl (fun _ => ?_))) | (refine KJ_ek rfl ?_) | (refine KJ_ek0 ?_))
    | (refine is_ek ?_; first | (refine ek_move ?_; first | (refine EK_ev (Ev_move_v rfl hdv) ?_) | (refine EK_ev (Ev_move rfl) ?_)) | (refine ek_assign ?_; first | (refine EK_ev (Ev_assign rfl) ?_)) | (refine ek_pick ?_; first | (refine EK_ev (Ev_pick_t rfl rfl) ?_) | (refine EK_ev (Ev_pick_f rfl rfl) ?_)) | (refine ek_fieldAddr ?_; first | (refine EK_ev (Ev_field rfl) ?_)) | (refine ek_load ?_; first | (refine EK_ev (Ev_loadAgg rfl (by (repeat' (first | exact Sel.here | apply Sel.there)); first | done | fail) (by (repeat' (first | exact Cut.nil | apply Cut.cons | apply Cut.skip)); first | done | fail)) ?_) | (refine EK_ev (Ev_load rfl (by (repeat' (first | exact Sel.here | apply Sel.there)); first | done | fail) (by rfl)) ?_) | (refine EK_ev (Ev_load rfl (by (repeat' (first | exact Sel.here | apply Sel.there)); first | done | fail) (by rfl)) ?_) | (refine EK_ev (Ev_loadOld rfl (by assumption)) ?_) | (refine EK_ev (Ev_loadAgg rfl (by (repeat' (first | exact Sel.here | apply Sel.there)); first | done | fail) (by (repeat' (first | exact Cut.nil | apply Cut.cons | apply Cut.skip)); first | done | fail)) ?_)) | (refine ek_un ?_; first | (refine EK_ev (Ev_notD rfl) ?_) | (refine EK_ev (Ev_not rfl) ?_) | (refine EK_ev (Ev_neg rfl) ?_)) | (refine ek_extract ?_; first | (refine EK_ev (Ev_extract rfl rfl) ?_)) | (refine ek_indexAddr ?_; first | (refine EK_ev (Ev_indexSlice rfl rfl (by omega)) ?_) | (refine EK_ev (Ev_indexArr rfl rfl (by omega)) ?_)) | (refine ek_len ?_; first | (refine EK_ev (Ev_len_str rfl) ?_) | (refine EK_ev (Ev_len_slice rfl) ?_) | (refine EK_ev (Ev_len_arr rfl) ?_) | (refine EK_ev (Ev_len_map rfl (by (repeat' (first | exact Sel.here | apply Sel.there)); first | done | fail)) ?_)) | (refine ek_add ?_; first | (refine EK_ev (Ev_addI rfl rfl (by omega)) ?_) | (refine EK_ev (Ev_addS rfl rfl (by simp <;> omega)) ?_) | (refine EK_ev (Ev_add rfl rfl) ?_)) | (refine ek_mul ?_; first | (refine EK_ev (Ev_mulI rfl rfl (by omega)) ?_) | (refine EK_ev (Ev_mul rfl rfl) ?_)) | (refine ek_eql ?_; first | (refine EK_ev (Ev_eqlI rfl rfl) ?_) | (refine EK_ev (Ev_eqlS rfl rfl) ?_) | (refine EK_ev (Ev_eqlNil rfl rfl) ?_) | (refine EK_ev (Ev_eqlB rfl rfl) ?_) | (refine EK_ev (Ev_eqlO rfl rfl rfl (fun _ => rfl)) ?_)) | (refine ek_neq ?_; first | (refine EK_ev (Ev_neqI rfl rfl) ?_) | (refine EK_ev (Ev_neqS rfl rfl) ?_) | (refine EK_ev (Ev_neqNil rfl rfl) ?_) | (refine EK_ev (Ev_neqB rfl rfl) ?_) | (refine EK_ev (Ev_neqO rfl rfl rfl (fun _ => rfl)) ?_)) | (refine ek_lss ?_; first | (refine EK_ev (Ev_lssI rfl rfl) ?_) | (refine EK_ev (Ev_lssS rfl rfl) ?_)) | (refine ek_gtr ?_; first | (refine EK_ev (Ev_gtrI rfl rfl) ?_) | (refine EK_ev (Ev_gtrS rfl rfl) ?_)))
    | (refine is_ex ?_; first | (refine KJ_blk_exit' rfl ?_))
    | (refine is_code ?_; first | (refine KJ_cond_dec rfl (fun _ => ?_) (fun _ => ?_) <;> first | (exfalso; omega) | skip) | (refine KJ_cond_t rfl ?_) | (refine KJ_cond_f rfl ?_)))
    · have hdv : Value.bool dn = .bool false := by rw [hd]
      have hnow := hJ.now (ho.trans hd) (by omega) hat (by omega)
      have crp : Ct Tryd.prog W 70 [.pointer (some ⟨p, 0, none⟩), .int .i64 (at_ : Nat), .int .i64 (n : Nat), .int .i64 (v : Nat)] [DiskP p D] (fun x : Option Addr × Nat => .tuple #[.slice x.1 rs.length x.2, .nilIface]) (fun x => [DiskP p D, rowP (.slice x.1 rs.length x.2) 9 1 rs.length (rs.map strV)]) := by
        have h := replay_ct (W := W) (p := p) (D := D) hE8 hN (at_ : Nat) (n : Nat) v (by rw [hJ.n40]; omega) (ho.trans hd) (hlog D hJ.n40)
        rw [hnow] at h
        exact Ct.rowSl h
      have csm := fun (x : Option Addr × Nat) => same_ct (W := W) rs rs x.1 a x.2 c (Nat.le_refl _) List.take_length (by omega)
      repeat' (first 
    | (refine at_seq_region (id := 31) ?_; exact KJ.weak rest (by (repeat' (first | exact Subs.nil | refine Subs.cons rfl ?_)); first | done | fail) (Ent.of (by (repeat' (first | exact Pick.nil | apply Pick.cons | exact Sel.here | apply Sel.there)); first | done | fail) (by (repeat' (first | exact DropTo.refl | apply DropTo.there)); first | done | fail)))
    | refine KJ_stp (by first | constructor | fail) ?_
    | (refine is_list ?_; first | (refine KJ_guard_dec_t rfl rfl rfl (fun _ => ?_) (fun _ => ?_) <;> first | (exfalso; omega) | skip) | (refine KJ_guard_dec_f rfl rfl rfl (fun _ => ?_) (fun _ => ?_) <;> first | (exfalso; omega) | skip) | (refine KJ_guard_yes rfl rfl ?_) | (refine KJ_guard_no rfl rfl rfl rfl ?_))
    | (refine is_oper ?_; first | (refine is_box ?_; first | (refine KJ_box rfl (by first | exact CellsOf.agg | exact CellsOf.one rfl) rfl (fun _ => ?_))) | (refine is_call ?_; first | (refine KJ_call (by (repeat' (first | exact Evs.nil | refine Evs.cons rfl ?_)); first | done | fail) (csm _) (by (repeat' (first | exact Pick.nil | apply Pick.cons | exact Sel.here | apply Sel.there)); first | done | fail) rfl (fun _ => ?_)) | (refine KJ_call (by (repeat' (first | exact Evs.nil | refine Evs.cons rfl ?_)); first | done | fail) crp (by (repeat' (first | exact Pick.nil | apply Pick.cons | exact Sel.here | apply Sel.there)); first | done | fail) rfl (fun x => ?_))) | (refine KJ_ek rfl ?_) | (refine KJ_ek0 ?_))
    | (refine is_ek ?_; first | (refine ek_move ?_; first | (refine EK_ev (Ev_move_v rfl hdv) ?_) | (refine EK_ev (Ev_move rfl) ?_)) | (refine ek_assign ?_; first | (refine EK_ev (Ev_assign rfl) ?_)) | (refine ek_pick ?_; first | (refine EK_ev (Ev_pick_t rfl rfl) ?_) | (refine EK_ev (Ev_pick_f rfl rfl) ?_)) | (refine ek_fieldAddr ?_; first | (refine EK_ev (Ev_field rfl) ?_)) | (refine ek_load ?_; first | (refine EK_ev (Ev_loadAgg rfl (by (repeat' (first | exact Sel.here | apply Sel.there)); first | done | fail) (by (repeat' (first | exact Cut.nil | apply Cut.cons | apply Cut.skip)); first | done | fail)) ?_) | (refine EK_ev (Ev_load rfl (by (repeat' (first | exact Sel.here | apply Sel.there)); first | done | fail) (by rfl)) ?_) | (refine EK_ev (Ev_load rfl (by (repeat' (first | exact Sel.here | apply Sel.there)); first | done | fail) (by rfl)) ?_) | (refine EK_ev (Ev_loadOld rfl (by assumption)) ?_) | (refine EK_ev (Ev_loadAgg rfl (by (repeat' (first | exact Sel.here | apply Sel.there)); first | done | fail) (by (repeat' (first | exact Cut.nil | apply Cut.cons | apply Cut.skip)); first | done | fail)) ?_)) | (refine ek_un ?_; first | (refine EK_ev (Ev_notD rfl) ?_) | (refine EK_ev (Ev_not rfl) ?_) | (refine EK_ev (Ev_neg rfl) ?_)) | (refine ek_extract ?_; first | (refine EK_ev (Ev_extract rfl rfl) ?_)) | (refine ek_indexAddr ?_; first | (refine EK_ev (Ev_indexSlice rfl rfl (by omega)) ?_) | (refine EK_ev (Ev_indexArr rfl rfl (by omega)) ?_)) | (refine ek_len ?_; first | (refine EK_ev (Ev_len_str rfl) ?_) | (refine EK_ev (Ev_len_slice rfl) ?_) | (refine EK_ev (Ev_len_arr rfl) ?_) | (refine EK_ev (Ev_len_map rfl (by (repeat' (first | exact Sel.here | apply Sel.there)); first | done | fail)) ?_)) | (refine ek_add ?_; first | (refine EK_ev (Ev_addI rfl rfl (by omega)) ?_) | (refine EK_ev (Ev_addS rfl rfl (by simp <;> omega)) ?_) | (refine EK_ev (Ev_add rfl rfl) ?_)) | (refine ek_mul ?_; first | (refine EK_ev (Ev_mulI rfl rfl (by omega)) ?_) | (refine EK_ev (Ev_mul rfl rfl) ?_)) | (refine ek_eql ?_; first | (refine EK_ev (Ev_eqlI rfl rfl) ?_) | (refine EK_ev (Ev_eqlS rfl rfl) ?_) | (refine EK_ev (Ev_eqlNil rfl rfl) ?_) | (refine EK_ev (Ev_eqlB rfl rfl) ?_) | (refine EK_ev (Ev_eqlO rfl rfl rfl (fun _ => rfl)) ?_)) | (refine ek_neq ?_; first | (refine EK_ev (Ev_neqI rfl rfl) ?_) | (refine EK_ev (Ev_neqS rfl rfl) ?_) | (refine EK_ev (Ev_neqNil rfl rfl) ?_) | (refine EK_ev (Ev_neqB rfl rfl) ?_) | (refine EK_ev (Ev_neqO rfl rfl rfl (fun _ => rfl)) ?_)) | (refine ek_lss ?_; first | (refine EK_ev (Ev_lssI rfl rfl) ?_) | (refine EK_ev (Ev_lssS rfl rfl) ?_)) | (refine ek_gtr ?_; first | (refine EK_ev (Ev_gtrI rfl rfl) ?_) | (refine EK_ev (Ev_gtrS rfl rfl) ?_)))
    | (refine is_ex ?_; first | (refine KJ_blk_exit' rfl ?_))
    | (refine is_code ?_; first | (refine KJ_cond_dec rfl (fun _ => ?_) (fun _ => ?_) <;> first | (exfalso; omega) | skip) | (refine KJ_cond_t rfl ?_) | (refine KJ_cond_f rfl ?_)))
  obtain ⟨⟨m, hm1, hm2, hm3⟩, htl, hlater, hok2, hn2⟩ := hJ.crash (by omega) hat (by omega) kept torn fb
  have cc := crash_old (W := W) (p := p) (D := D) torn fb hkv (by omega)
  have hlife : (D.crash kept torn fb).life ≠ D0.life := by
    show w64 (D.life + 1) ≠ D0.life
    rw [hJ.life]
    exact w64_ne _
  have hoff2 : (D.crash kept torn fb).off = false := rfl
  have hund2 : (D.crash kept torn fb).und = [] := rfl
  obtain ⟨D2, hD2⟩ : ∃ D2, D2 = D.crash kept torn fb := ⟨_, rfl⟩
  rw [← hD2] at hm3 htl hlater hok2 hn2 cc hlife hoff2 hund2
  clear hD2
  obtain ⟨lm, hlm⟩ : ∃ l, l = rs.take m := ⟨_, rfl⟩
  have hlml : lm.length = m := by rw [hlm, List.length_take]; omega
  have hlmt : rs.take lm.length = lm := by rw [hlml, hlm]
  rw [← hlm] at hm3
  clear hlm
  have crp : Ct Tryd.prog W 70 [.pointer (some ⟨p, 0, none⟩), .int .i64 (at_ : Nat), .int .i64 (n : Nat), .int .i64 (v : Nat)] [DiskP p D2] (fun x : Option Addr × Nat => .tuple #[.slice x.1 lm.length x.2, .nilIface]) (fun x => [DiskP p D2, rowP (.slice x.1 lm.length x.2) 9 1 lm.length (lm.map strV)]) := by
    have h := replay_ct (W := W) (p := p) (D := D2) hE8 hN (at_ : Nat) (n : Nat) v (by rw [hn2]; omega) hoff2 (hlog D2 hn2)
    rw [hm3] at h
    exact Ct.rowSl h
  have csm := fun (x : Option Addr × Nat) => same_ct (W := W) lm rs x.1 a x.2 c (by omega) hlmt (by omega)
  have hdn2 : ∀ d, downB D2 D0.life d = true := fun d => by unfold downB; rw [decide_eq_true hlife]; simp
  have cad := append_down (W := W) (p := p) (g := g) (D := D2) hE8 (at_ : Nat) (n : Nat) (v : Nat) us D0.life dead [120] (hdn2 _)
  have csd := sync_down (W := W) (p := p) (g := g) (D := D2) hE8 (at_ : Nat) (n : Nat) (v : Nat) us D0.life true (hdn2 _)
  have q1 : decide ((lm.length : Int) < (sy : Nat)) = false := decide_eq_false (by omega)
  have q2 : decide ((rs.length : Int) < (lm.length : Nat)) = false := decide_eq_false (by omega)
  obtain ⟨X, hX⟩ : ∃ X : {D' : Dsk // D'.ok ∧ D'.n = 40 ∧ D'.off = false ∧ D'.und = [] ∧ (∀ j, j < n → getB ((D'.sec (at_ + j)).drop 248) 8 ≤ (stampN v j : Nat)) ∧ rpGo D' (at_ : Nat) (n : Nat) (v + 1) (((n : Nat) : Int).toNat + 1) 0 [] = []}, X.1 = D2 := ⟨⟨D2, hok2, hn2, hoff2, hund2, htl, hlater⟩, rfl⟩
  subst hX
  repeat' (first 
    | refine KJ_stp (by first | constructor | fail) ?_
    | (refine is_list ?_; first | (refine KJ_guard_dec_t rfl rfl rfl (fun _ => ?_) (fun _ => ?_) <;> first | (exfalso; omega) | skip) | (refine KJ_guard_dec_f rfl rfl rfl (fun _ => ?_) (fun _ => ?_) <;> first | (exfalso; omega) | skip) | (refine KJ_guard_yes rfl rfl ?_) | (refine KJ_guard_no rfl rfl rfl rfl ?_))
    | (refine is_oper ?_; first | (refine is_box ?_; first | (refine KJ_box rfl (by first | exact CellsOf.agg | exact CellsOf.one rfl) rfl (fun _ => ?_))) | (refine is_call ?_; first | (refine KJ_call (by (repeat' (first | exact Evs.nil | refine Evs.cons rfl ?_)); first | done | fail) c12 (by (repeat' (first | exact Pick.nil | apply Pick.cons | exact Sel.here | apply Sel.there)); first | done | fail) rfl (fun _ => ?_)) | (refine KJ_call (by (repeat' (first | exact Evs.nil | refine Evs.cons rfl ?_)); first | done | fail) csd (by (repeat' (first | exact Pick.nil | apply Pick.cons | exact Sel.here | apply Sel.there)); first | done | fail) rfl (fun _ => ?_)) | (refine KJ_call (by (repeat' (first | exact Evs.nil | refine Evs.cons rfl ?_)); first | done | fail) cad (by (repeat' (first | exact Pick.nil | apply Pick.cons | exact Sel.here | apply Sel.there)); first | done | fail) rfl (fun _ => ?_)) | (refine KJ_call (by (repeat' (first | exact Evs.nil | refine Evs.cons rfl ?_)); first | done | fail) (csm _) (by (repeat' (first | exact Pick.nil | apply Pick.cons | exact Sel.here | apply Sel.there)); first | done | fail) rfl (fun _ => ?_)) | (refine KJ_call (by (repeat' (first | exact Evs.nil | refine Evs.cons rfl ?_)); first | done | fail) crp (by (repeat' (first | exact Pick.nil | apply Pick.cons | exact Sel.here | apply Sel.there)); first | done | fail) rfl (fun x => ?_)) | (refine KJ_call0 (by (repeat' (first | exact Evs.nil | refine Evs.cons rfl ?_)); first | done | fail) cc (by (repeat' (first | exact Pick.nil | apply Pick.cons | exact Sel.here | apply Sel.there)); first | done | fail) (fun _ => ?_)) | (refine KJ_call (by (repeat' (first | exact Evs.nil | refine Evs.cons rfl ?_)); first | done | fail) cc (by (repeat' (first | exact Pick.nil | apply Pick.cons | exact Sel.here | apply Sel.there)); first | done | fail) rfl (fun _ => ?_))) | (refine KJ_ek rfl ?_) | (refine KJ_ek0 ?_))
    | (refine is_ek ?_; first | (refine ek_move ?_; first | (refine EK_ev (Ev_move rfl) ?_)) | (refine ek_assign ?_; first | (refine EK_ev (Ev_assign rfl) ?_)) | (refine ek_pick ?_; first | (refine EK_ev (Ev_pick_t rfl rfl) ?_) | (refine EK_ev (Ev_pick_f rfl rfl) ?_)) | (refine ek_fieldAddr ?_; first | (refine EK_ev (Ev_field rfl) ?_)) | (refine ek_load ?_; first | (refine EK_ev (Ev_loadAgg rfl (by (repeat' (first | exact Sel.here | apply Sel.there)); first | done | fail) (by (repeat' (first | exact Cut.nil | apply Cut.cons | apply Cut.skip)); first | done | fail)) ?_) | (refine EK_ev (Ev_load rfl (by (repeat' (first | exact Sel.here | apply Sel.there)); first | done | fail) (by rfl)) ?_) | (refine EK_ev (Ev_loadAgg rfl (by (repeat' (first | exact Sel.here | apply Sel.there)); first | done | fail) (by (repeat' (first | exact Cut.nil | apply Cut.cons | apply Cut.skip)); first | done | fail)) ?_) | (refine EK_ev (Ev_load rfl (by (repeat' (first | exact Sel.here | apply Sel.there)); first | done | fail) (by rfl)) ?_) | (refine EK_ev (Ev_loadOld rfl (by assumption)) ?_) | (refine EK_ev (Ev_loadAgg rfl (by (repeat' (first | exact Sel.here | apply Sel.there)); first | done | fail) (by (repeat' (first | exact Cut.nil | apply Cut.cons | apply Cut.skip)); first | done | fail)) ?_)) | (refine ek_un ?_; first | (refine EK_ev (Ev_notD rfl) ?_) | (refine EK_ev (Ev_not rfl) ?_) | (refine EK_ev (Ev_neg rfl) ?_)) | (refine ek_extract ?_; first | (refine EK_ev (Ev_extract rfl rfl) ?_)) | (refine ek_indexAddr ?_; first | (refine EK_ev (Ev_indexSlice rfl rfl (by omega)) ?_) | (refine EK_ev (Ev_indexArr rfl rfl (by omega)) ?_)) | (refine ek_slice ?_; first | (refine EK_ev (Ev_sliceRow rfl rfl (by (repeat' (first | exact Sel.here | apply Sel.there)); first | done | fail) (by omega)) ?_)) | (refine ek_len ?_; first | (refine EK_ev (Ev_len_str rfl) ?_) | (refine EK_ev (Ev_len_slice rfl) ?_) | (refine EK_ev (Ev_len_arr rfl) ?_) | (refine EK_ev (Ev_len_map rfl (by (repeat' (first | exact Sel.here | apply Sel.there)); first | done | fail)) ?_)) | (refine ek_add ?_; first | (refine EK_ev (Ev_addI rfl rfl (by omega)) ?_) | (refine EK_ev (Ev_addS rfl rfl (by simp <;> omega)) ?_) | (refine EK_ev (Ev_add rfl rfl) ?_)) | (refine ek_mul ?_; first | (refine EK_ev (Ev_mulI rfl rfl (by omega)) ?_) | (refine EK_ev (Ev_mul rfl rfl) ?_)) | (refine ek_eql ?_; first | (refine EK_ev (Ev_eqlI_t rfl rfl rfl) ?_) | (refine EK_ev (Ev_eqlI rfl rfl) ?_) | (refine EK_ev (Ev_eqlS rfl rfl) ?_) | (refine EK_ev (Ev_eqlNil rfl rfl) ?_) | (refine EK_ev (Ev_eqlB rfl rfl) ?_) | (refine EK_ev (Ev_eqlO rfl rfl rfl (fun _ => rfl)) ?_)) | (refine ek_neq ?_; first | (refine EK_ev (Ev_neqI rfl rfl) ?_) | (refine EK_ev (Ev_neqS rfl rfl) ?_) | (refine EK_ev (Ev_neqNil rfl rfl) ?_) | (refine EK_ev (Ev_neqB rfl rfl) ?_) | (refine EK_ev (Ev_neqO rfl rfl rfl (fun _ => rfl)) ?_)) | (refine ek_lss ?_; first | (refine EK_ev (Ev_lssI_q rfl rfl q1) ?_) | (refine EK_ev (Ev_lssI rfl rfl) ?_) | (refine EK_ev (Ev_lssS rfl rfl) ?_)) | (refine ek_gtr ?_; first | (refine EK_ev (Ev_gtrI_q rfl rfl q2) ?_) | (refine EK_ev (Ev_gtrI rfl rfl) ?_) | (refine EK_ev (Ev_gtrS rfl rfl) ?_)))
    | (refine is_ex ?_; first | (refine KJ_blk_exit' rfl ?_))
    | (refine is_code ?_; first | (refine KJ_cond_dec rfl (fun _ => ?_) (fun _ => ?_) <;> first | (exfalso; omega) | skip) | (refine KJ_cond_t rfl ?_) | (refine KJ_cond_f rfl ?_)))
  all_goals (refine is_ex ?_; exact KJ_done (by first | exact Or.inl rfl | exact Or.inr rfl) rfl (by (repeat' (first | exact Rvs.nil | (apply Rvs.tmp; exact rfl))); first | done | fail) X (by rfl) (Ent.of (by (repeat' (first | exact Pick.nil | apply Pick.cons | exact Sel.here | apply Sel.there)); first | done | fail) (by (repeat' (first | exact DropTo.refl | apply DropTo.there)); first | done | fail)))
end
end Go.Proofs.YteklldbfdmaafaaDoor
/-
  JournalLeaves (chapter 10): the walk.
-/
namespace Go.Proofs.YteklldbfdmaafaaDoor
open Go Go.RowKit
section
variable {W : World} {E : Nat → Addr}
set_option maxHeartbeats 4000000 in
set_option maxRecDepth 100000 in
theorem leaves10_ct (hE : ErrsAt W E) (hN : NibAt W) (hg : gB ≤ W.heap.size) (aI nI : Int) (sv : Value) (l : List LLife) (hs : LivesAt W sv l) (harm : ∀ o ∈ l, o.arm ≤ 9223372036854775807) : Ct Tryd.prog W 20 [.int .i64 aI, .int .i64 nI, sv] [] (fun _ : Unit => .bool true) (fun _ => []) := by
  have hE8 : ErrsOn L8 W E := hE.on
  obtain ⟨a, c0, rfl, hll, hx⟩ := hs
  have cl := fixed10_ct hE hN hg
  have c1 : Ct Tryd.prog W 33 [.int .i64 40] [] (fun p : Nat => .tuple #[.pointer (some ⟨p, 0, none⟩), .nilIface]) (fun p => [DiskP p (Dsk.blank 40)]) := new_ct 40 (by omega) (by omega) hg
  obtain ⟨B1, hB1⟩ : ∃ B, IntKind.u64.wrap aI = B := ⟨_, rfl⟩
  have hb1 : 0 ≤ B1 ∧ B1 < 18446744073709551616 := by
    have e : IntKind.u64.wrap aI = aI % 18446744073709551616 := rfl
    omega
  obtain ⟨at_, ha⟩ : ∃ k : Nat, B1 % 5 = (k : Int) := ⟨(B1 % 5).toNat, by omega⟩
  obtain ⟨B2, hB2⟩ : ∃ B, IntKind.u64.wrap nI = B := ⟨_, rfl⟩
  have hb2 : 0 ≤ B2 ∧ B2 < 18446744073709551616 := by
    have e : IntKind.u64.wrap nI = nI % 18446744073709551616 := rfl
    omega
  obtain ⟨n, hn⟩ : ∃ k : Nat, B2 % 30 = (k : Int) := ⟨(B2 % 30).toNat, by omega⟩
  have hat4 : at_ ≤ 4 := by omega
  have hn29 : n ≤ 29 := by omega
  have hok0 := Dsk.blank_ok 40 (by omega) (by omega)
  have ht0 : ∀ j, j < n → getB (((Dsk.blank 40).sec (at_ + j)).drop 248) 8 ≤ (stampN 0 j : Nat) := fun j hj => by
    rw [blank_sec 40 _ (by omega), zs_tail0]; omega
  have hf0 : (Dsk.blank 40).n = 40 ∧ (Dsk.blank 40).off = false ∧ (Dsk.blank 40).und = [] := ⟨rfl, rfl, rfl⟩
  obtain ⟨D0, hD0⟩ : ∃ D0, D0 = Dsk.blank 40 := ⟨_, rfl⟩
  rw [← hD0] at c1 hok0 hf0
  simp only [← hD0] at ht0
  clear hD0
  refine Ct.enter Tryd.func20 rfl Tryd.ntmps20 (by simp) (fun R => ?_)
  repeat' (first 
    | refine KJ_stp (by first | constructor | fail) ?_
    | (refine is_list ?_; first | (refine KJ_guard_dec_t rfl rfl rfl (fun _ => ?_) (fun _ => ?_) <;> first | (exfalso; omega) | skip) | (refine KJ_guard_dec_f rfl rfl rfl (fun _ => ?_) (fun _ => ?_) <;> first | (exfalso; omega) | skip) | (refine KJ_guard_yes rfl rfl ?_) | (refine KJ_guard_no rfl rfl rfl rfl ?_))
    | (refine is_oper ?_; first | (refine is_store ?_; first | (refine KJ_store rfl rfl (by (repeat' (first | exact Sel.here | apply Sel.there)); first | done | fail) (by first | exact CellsOf.agg | exact CellsOf.one rfl) (by rfl) (by (repeat' (first | exact Ones.nil | exact Ones_bvs _ | refine Ones.cons rfl ?_)); first | done | fail) (by (repeat' (first | exact Laid.nil | apply Laid.cons | apply Laid.skip)); first | done | fail) (by (repeat' (first | exact Rep.here | apply Rep.there)); first | done | fail) ?_)) | (refine is_alloc ?_; first | (refine KJ_alloc rfl (fun _ => ?_))) | (refine is_call ?_; first | (refine KJ_call (by (repeat' (first | exact Evs.nil | refine Evs.cons rfl ?_)); first | done | fail) c1 (by (repeat' (first | exact Pick.nil | apply Pick.cons | exact Sel.here | apply Sel.there)); first | done | fail) rfl (fun p => ?_)) | (refine KJ_call (by (repeat' (first | exact Evs.nil | refine Evs.cons rfl ?_)); first | done | fail) cl (by (repeat' (first | exact Pick.nil | apply Pick.cons | exact Sel.here | apply Sel.there)); first | done | fail) rfl (fun _ => ?_))) | (refine KJ_ek rfl ?_) | (refine KJ_ek0 ?_))
    | (refine is_ek ?_; first | (refine ek_move ?_; first | (refine EK_ev (Ev_move rfl) ?_)) | (refine ek_assign ?_; first | (refine EK_ev (Ev_assign rfl) ?_)) | (refine ek_pick ?_; first | (refine EK_ev (Ev_pick_t rfl rfl) ?_) | (refine EK_ev (Ev_pick_f rfl rfl) ?_)) | (refine ek_fieldAddr ?_; first | (refine EK_ev (Ev_field rfl) ?_)) | (refine ek_load ?_; first | (refine EK_ev (Ev_loadAgg rfl (by (repeat' (first | exact Sel.here | apply Sel.there)); first | done | fail) (by (repeat' (first | exact Cut.nil | apply Cut.cons | apply Cut.skip)); first | done | fail)) ?_) | (refine EK_ev (Ev_load rfl (by (repeat' (first | exact Sel.here | apply Sel.there)); first | done | fail) (by rfl)) ?_) | (refine EK_ev (Ev_load rfl (by (repeat' (first | exact Sel.here | apply Sel.there)); first | done | fail) (by rfl)) ?_) | (refine EK_ev (Ev_loadOld rfl (by assumption)) ?_) | (refine EK_ev (Ev_loadAgg rfl (by (repeat' (first | exact Sel.here | apply Sel.there)); first | done | fail) (by (repeat' (first | exact Cut.nil | apply Cut.cons | apply Cut.skip)); first | done | fail)) ?_)) | (refine ek_un ?_; first | (refine EK_ev (Ev_notD rfl) ?_) | (refine EK_ev (Ev_not rfl) ?_) | (refine EK_ev (Ev_neg rfl) ?_)) | (refine ek_conv ?_; first | (refine EK_ev (Ev_convI_v rfl hB2) ?_) | (refine EK_ev (Ev_convI_v rfl hB1) ?_) | (refine EK_ev (Ev_convI64 rfl (by omega)) ?_) | (refine EK_ev (Ev_convI rfl) ?_) | (refine EK_ev (Ev_convS rfl) ?_)) | (refine ek_extract ?_; first | (refine EK_ev (Ev_extract rfl rfl) ?_)) | (refine ek_indexAddr ?_; first | (refine EK_ev (Ev_indexSlice rfl rfl (by omega)) ?_) | (refine EK_ev (Ev_indexArr rfl rfl (by omega)) ?_)) | (refine ek_len ?_; first | (refine EK_ev (Ev_len_str rfl) ?_) | (refine EK_ev (Ev_len_slice rfl) ?_) | (refine EK_ev (Ev_len_arr rfl) ?_) | (refine EK_ev (Ev_len_map rfl (by (repeat' (first | exact Sel.here | apply Sel.there)); first | done | fail)) ?_)) | (refine ek_add ?_; first | (refine EK_ev (Ev_addI rfl rfl (by omega)) ?_) | (refine EK_ev (Ev_addS rfl rfl (by simp <;> omega)) ?_) | (refine EK_ev (Ev_add rfl rfl) ?_)) | (refine ek_rem ?_; first | (refine EK_ev (Ev_rem_w rfl rfl (by omega) hn) ?_) | (refine EK_ev (Ev_rem_w rfl rfl (by omega) ha) ?_) | (refine EK_ev (Ev_remI rfl rfl (by omega)) ?_) | (refine EK_ev (Ev_rem rfl rfl (by omega)) ?_)) | (refine ek_eql ?_; first | (refine EK_ev (Ev_eqlI rfl rfl) ?_) | (refine EK_ev (Ev_eqlS rfl rfl) ?_) | (refine EK_ev (Ev_eqlNil rfl rfl) ?_) | (refine EK_ev (Ev_eqlB rfl rfl) ?_) | (refine EK_ev (Ev_eqlO rfl rfl rfl (fun _ => rfl)) ?_)) | (refine ek_neq ?_; first | (refine EK_ev (Ev_neqI rfl rfl) ?_) | (refine EK_ev (Ev_neqS rfl rfl) ?_) | (refine EK_ev (Ev_neqNil rfl rfl) ?_) | (refine EK_ev (Ev_neqB rfl rfl) ?_) | (refine EK_ev (Ev_neqO rfl rfl rfl (fun _ => rfl)) ?_)) | (refine ek_lss ?_; first | (refine EK_ev (Ev_lssI rfl rfl) ?_) | (refine EK_ev (Ev_lssS rfl rfl) ?_)) | (refine ek_gtr ?_; first | (refine EK_ev (Ev_gtrI rfl rfl) ?_) | (refine EK_ev (Ev_gtrS rfl rfl) ?_)))
    | (refine is_ex ?_; first | (refine KJ_blk_exit' rfl ?_))
    | (refine is_code ?_; first | (refine KJ_cond_dec rfl (fun _ => ?_) (fun _ => ?_) <;> first | (exfalso; omega) | skip) | (refine KJ_cond_t rfl ?_) | (refine KJ_cond_f rfl ?_)))
  refine KJ_loop (fun i : {s : Nat × Nat × Dsk // s.1 ≤ l.length ∧ s.2.1 ≤ 549755813888 ∧ s.2.2.ok ∧ s.2.2.n = 40 ∧ s.2.2.off = false ∧ s.2.2.und = [] ∧ (∀ j, j < n → getB ((s.2.2.sec (at_ + j)).drop 248) 8 ≤ (stampN s.2.1 j : Nat))} => [(0, .int .i64 (at_ : Nat)), (1, .int .i64 (n : Nat)), (7, .pointer (some ⟨p, 0, none⟩)), (9, .int .i64 (i.1.2.1 : Nat)), (34, .slice a l.length c0), (35, .int .i64 (l.length : Nat)), (36, .int .i64 (i.1.1 : Nat))]) (fun i => [DiskP p i.1.2.2] ++ R) (fun i => l.length - i.1.1) ⟨(0, 0, D0), Nat.zero_le _, Nat.zero_le _, hok0, hf0.1, hf0.2.1, hf0.2.2, ht0⟩ (by (repeat' (first | exact Subs.nil | refine Subs.cons rfl ?_)); first | done | fail) (Ent.of (by (repeat' (first | exact Pick.nil | apply Pick.cons | exact Sel.here | apply Sel.there)); first | done | fail) (by (repeat' (first | exact DropTo.refl | apply DropTo.there)); first | done | fail)) (fun ⟨(m, v, D), hm, hv, hok, hn40, hoff, hund, ht⟩ => ?_)
  dsimp only at hm hv hok hn40 hoff hund ht ⊢
  by_cases hlt : m < l.length
  rotate_left
  · have ql : decide ((m : Int) < (l.length : Nat)) = false := decide_eq_false (by omega)
    repeat' (first 
    | refine KJ_stp (by first | constructor | fail) ?_
    | (refine is_list ?_; first | (refine KJ_guard_dec_t rfl rfl rfl (fun _ => ?_) (fun _ => ?_) <;> first | (exfalso; omega) | skip) | (refine KJ_guard_dec_f rfl rfl rfl (fun _ => ?_) (fun _ => ?_) <;> first | (exfalso; omega) | skip) | (refine KJ_guard_yes rfl rfl ?_) | (refine KJ_guard_no rfl rfl rfl rfl ?_))
    | (refine is_oper ?_; first | (refine is_store ?_; first | (refine KJ_store rfl rfl (by (repeat' (first | exact Sel.here | apply Sel.there)); first | done | fail) (by first | exact CellsOf.agg | exact CellsOf.one rfl) (by rfl) (by (repeat' (first | exact Ones.nil | exact Ones_bvs _ | refine Ones.cons rfl ?_)); first | done | fail) (by (repeat' (first | exact Laid.nil | apply Laid.cons | apply Laid.skip)); first | done | fail) (by (repeat' (first | exact Rep.here | apply Rep.there)); first | done | fail) ?_)) | (refine is_alloc ?_; first | (refine KJ_alloc rfl (fun _ => ?_))) | (refine KJ_ek rfl ?_) | (refine KJ_ek0 ?_))
    | (refine is_ek ?_; first | (refine ek_move ?_; first | (refine EK_ev (Ev_move rfl) ?_)) | (refine ek_assign ?_; first | (refine EK_ev (Ev_assign rfl) ?_)) | (refine ek_pick ?_; first | (refine EK_ev (Ev_pick_t rfl rfl) ?_) | (refine EK_ev (Ev_pick_f rfl rfl) ?_)) | (refine ek_fieldAddr ?_; first | (refine EK_ev (Ev_field rfl) ?_)) | (refine ek_load ?_; first | (refine EK_ev (Ev_loadAgg rfl (by (repeat' (first | exact Sel.here | apply Sel.there)); first | done | fail) (by (repeat' (first | exact Cut.nil | apply Cut.cons | apply Cut.skip)); first | done | fail)) ?_) | (refine EK_ev (Ev_load rfl (by (repeat' (first | exact Sel.here | apply Sel.there)); first | done | fail) (by rfl)) ?_) | (refine EK_ev (Ev_load rfl (by (repeat' (first | exact Sel.here | apply Sel.there)); first | done | fail) (by rfl)) ?_) | (refine EK_ev (Ev_loadOld rfl (by assumption)) ?_) | (refine EK_ev (Ev_loadAgg rfl (by (repeat' (first | exact Sel.here | apply Sel.there)); first | done | fail) (by (repeat' (first | exact Cut.nil | apply Cut.cons | apply Cut.skip)); first | done | fail)) ?_)) | (refine ek_un ?_; first | (refine EK_ev (Ev_notD rfl) ?_) | (refine EK_ev (Ev_not rfl) ?_) | (refine EK_ev (Ev_neg rfl) ?_)) | (refine ek_conv ?_; first | (refine EK_ev (Ev_convI64 rfl (by omega)) ?_) | (refine EK_ev (Ev_convI rfl) ?_) | (refine EK_ev (Ev_convS rfl) ?_)) | (refine ek_extract ?_; first | (refine EK_ev (Ev_extract rfl rfl) ?_)) | (refine ek_indexAddr ?_; first | (refine EK_ev (Ev_indexSlice rfl rfl (by omega)) ?_) | (refine EK_ev (Ev_indexArr rfl rfl (by omega)) ?_)) | (refine ek_len ?_; first | (refine EK_ev (Ev_len_str rfl) ?_) | (refine EK_ev (Ev_len_slice rfl) ?_) | (refine EK_ev (Ev_len_arr rfl) ?_) | (refine EK_ev (Ev_len_map rfl (by (repeat' (first | exact Sel.here | apply Sel.there)); first | done | fail)) ?_)) | (refine ek_add ?_; first | (refine EK_ev (Ev_addI rfl rfl (by omega)) ?_) | (refine EK_ev (Ev_addS rfl rfl (by simp <;> omega)) ?_) | (refine EK_ev (Ev_add rfl rfl) ?_)) | (refine ek_rem ?_; first | (refine EK_ev (Ev_remI rfl rfl (by omega)) ?_) | (refine EK_ev (Ev_rem rfl rfl (by omega)) ?_)) | (refine ek_eql ?_; first | (refine EK_ev (Ev_eqlI rfl rfl) ?_) | (refine EK_ev (Ev_eqlS rfl rfl) ?_) | (refine EK_ev (Ev_eqlNil rfl rfl) ?_) | (refine EK_ev (Ev_eqlB rfl rfl) ?_) | (refine EK_ev (Ev_eqlO rfl rfl rfl (fun _ => rfl)) ?_)) | (refine ek_neq ?_; first | (refine EK_ev (Ev_neqI rfl rfl) ?_) | (refine EK_ev (Ev_neqS rfl rfl) ?_) | (refine EK_ev (Ev_neqNil rfl rfl) ?_) | (refine EK_ev (Ev_neqB rfl rfl) ?_) | (refine EK_ev (Ev_neqO rfl rfl rfl (fun _ => rfl)) ?_)) | (refine ek_lss ?_; first | (refine EK_ev (Ev_lssI_q rfl rfl ql) ?_) | (refine EK_ev (Ev_lssI rfl rfl) ?_) | (refine EK_ev (Ev_lssS rfl rfl) ?_)) | (refine ek_gtr ?_; first | (refine EK_ev (Ev_gtrI rfl rfl) ?_) | (refine EK_ev (Ev_gtrS rfl rfl) ?_)))
    | (refine is_ex ?_; first | (refine KJ_blk_exit' rfl ?_))
    | (refine is_code ?_; first | (refine KJ_cond_dec rfl (fun _ => ?_) (fun _ => ?_) <;> first | (exfalso; omega) | skip) | (refine KJ_cond_t rfl ?_) | (refine KJ_cond_f rfl ?_)))
    all_goals (refine is_ex ?_; exact KJ_done (by first | exact Or.inl rfl | exact Or.inr rfl) rfl (by (repeat' (first | exact Rvs.nil | (apply Rvs.tmp; exact rfl))); first | done | fail) () (by rfl) (Ent.of (by (repeat' (first | exact Pick.nil | apply Pick.cons | exact Sel.here | apply Sel.there)); first | done | fail) (by (repeat' (first | exact DropTo.refl | apply DropTo.there)); first | done | fail)))
  have ql : decide ((m : Int) < (l.length : Nat)) = true := decide_eq_true (by omega)
  obtain ⟨st, hst⟩ : ∃ s, l[m]? = some s := ⟨_, List.getElem?_eq_getElem hlt⟩
  obtain ⟨b, o, rfl, hb, hr⟩ := hx (by intro e; rw [e] at hlt; simp at hlt)
  obtain ⟨s1, s2, s3, hr, q1, q2, q3⟩ := hr m st hst
  have harm2 := harm st (List.mem_of_getElem? hst)
  obtain ⟨B3, hB3⟩ : ∃ B, IntKind.u64.wrap st.more = B := ⟨_, rfl⟩
  have hb3 : 0 ≤ B3 ∧ B3 < 18446744073709551616 := by
    have e : IntKind.u64.wrap st.more = st.more % 18446744073709551616 := rfl
    omega
  obtain ⟨k, hk⟩ : ∃ k : Nat, B3 % 1000 = (k : Int) := ⟨(B3 % 1000).toNat, by omega⟩
  obtain ⟨v2, hv2⟩ : ∃ v2 : Nat, v2 = v + (1 + k) := ⟨_, rfl⟩
  have clv : v2 ≤ 549755813888 → _ := fun h => lives10_ct (W := W) (p := p) (D0 := D) hE hN hg at_ n v2 (m : Nat) st s1 s2 s3 q1 q2 q3 harm2 hat4 hn29 (by omega) hok hn40 hoff hund (fun j hj => by
    have := ht j hj
    have h2 : stampN v j < stampN v2 j := by unfold stampN; omega
    omega)
  have hs7 := q1
  obtain ⟨sa, sc, rfl, -⟩ := q1
  obtain ⟨ya, yc, rfl, -⟩ := q2
  obtain ⟨ka, kc, rfl, -⟩ := q3
  clear hst hs7 harm2
  obtain ⟨more, sizes, syncs, arm, kept, torn, fb⟩ := st
  dsimp only at hB3 clv hr
  have Hr : W.rangeAt b (o + Int.toNat (m : Int) * 7) [.int .i64 more, .slice sa sizes.length sc, .slice ya syncs.length yc, .int .i64 arm, .slice ka kept.length kc, .int .i64 torn, .int .i64 fb] := by
    rw [Int.toNat_natCast, Nat.mul_comm m 7]; exact hr
  clear hr
  by_cases hbig : v2 ≤ 549755813888
  rotate_left
  · have qb : decide ((549755813888 : Int) < (v2 : Nat)) = true := decide_eq_true (by omega)
    repeat' (first 
    | refine KJ_stp (by first | constructor | fail) ?_
    | (refine is_list ?_; first | (refine KJ_guard_dec_t rfl rfl rfl (fun _ => ?_) (fun _ => ?_) <;> first | (exfalso; omega) | skip) | (refine KJ_guard_dec_f rfl rfl rfl (fun _ => ?_) (fun _ => ?_) <;> first | (exfalso; omega) | skip) | (refine KJ_guard_yes rfl rfl ?_) | (refine KJ_guard_no rfl rfl rfl rfl ?_))
    | (refine is_oper ?_; first | (refine is_store ?_; first | (refine KJ_store rfl rfl (by (repeat' (first | exact Sel.here | apply Sel.there)); first | done | fail) (by first | exact CellsOf.agg | exact CellsOf.one rfl) (by rfl) (by (repeat' (first | exact Ones.nil | exact Ones_bvs _ | refine Ones.cons rfl ?_)); first | done | fail) (by (repeat' (first | exact Laid.nil | apply Laid.cons | apply Laid.skip)); first | done | fail) (by (repeat' (first | exact Rep.here | apply Rep.there)); first | done | fail) ?_)) | (refine is_alloc ?_; first | (refine KJ_alloc rfl (fun _ => ?_))) | (refine KJ_ek rfl ?_) | (refine KJ_ek0 ?_))
    | (refine is_ek ?_; first | (refine ek_move ?_; first | (refine EK_ev (Ev_move rfl) ?_)) | (refine ek_assign ?_; first | (refine EK_ev (Ev_assign rfl) ?_)) | (refine ek_pick ?_; first | (refine EK_ev (Ev_pick_t rfl rfl) ?_) | (refine EK_ev (Ev_pick_f rfl rfl) ?_)) | (refine ek_fieldAddr ?_; first | (refine EK_ev (Ev_field rfl) ?_)) | (refine ek_load ?_; first | (refine EK_ev (Ev_loadAgg rfl (by (repeat' (first | exact Sel.here | apply Sel.there)); first | done | fail) (by (repeat' (first | exact Cut.nil | apply Cut.cons | apply Cut.skip)); first | done | fail)) ?_) | (refine EK_ev (Ev_load rfl (by (repeat' (first | exact Sel.here | apply Sel.there)); first | done | fail) (by rfl)) ?_) | (refine EK_ev (Ev_loadAggOld rfl Hr) ?_) | (refine EK_ev (Ev_load rfl (by (repeat' (first | exact Sel.here | apply Sel.there)); first | done | fail) (by rfl)) ?_) | (refine EK_ev (Ev_loadOld rfl (by assumption)) ?_) | (refine EK_ev (Ev_loadAgg rfl (by (repeat' (first | exact Sel.here | apply Sel.there)); first | done | fail) (by (repeat' (first | exact Cut.nil | apply Cut.cons | apply Cut.skip)); first | done | fail)) ?_)) | (refine ek_un ?_; first | (refine EK_ev (Ev_notD rfl) ?_) | (refine EK_ev (Ev_not rfl) ?_) | (refine EK_ev (Ev_neg rfl) ?_)) | (refine ek_conv ?_; first | (refine EK_ev (Ev_convI_v rfl hB3) ?_) | (refine EK_ev (Ev_convI64 rfl (by omega)) ?_) | (refine EK_ev (Ev_convI rfl) ?_) | (refine EK_ev (Ev_convS rfl) ?_)) | (refine ek_extract ?_; first | (refine EK_ev (Ev_extract rfl rfl) ?_)) | (refine ek_indexAddr ?_; first | (refine EK_ev (Ev_indexSlice rfl rfl (by omega)) ?_) | (refine EK_ev (Ev_indexArr rfl rfl (by omega)) ?_)) | (refine ek_len ?_; first | (refine EK_ev (Ev_len_str rfl) ?_) | (refine EK_ev (Ev_len_slice rfl) ?_) | (refine EK_ev (Ev_len_arr rfl) ?_) | (refine EK_ev (Ev_len_map rfl (by (repeat' (first | exact Sel.here | apply Sel.there)); first | done | fail)) ?_)) | (refine ek_add ?_; first | (refine EK_ev (Ev_addI_v (r := (v2 : Nat)) rfl rfl (by omega) (by omega)) ?_) | (refine EK_ev (Ev_addI rfl rfl (by omega)) ?_) | (refine EK_ev (Ev_addS rfl rfl (by simp <;> omega)) ?_) | (refine EK_ev (Ev_add rfl rfl) ?_)) | (refine ek_rem ?_; first | (refine EK_ev (Ev_rem_w rfl rfl (by omega) hk) ?_) | (refine EK_ev (Ev_remI rfl rfl (by omega)) ?_) | (refine EK_ev (Ev_rem rfl rfl (by omega)) ?_)) | (refine ek_eql ?_; first | (refine EK_ev (Ev_eqlI rfl rfl) ?_) | (refine EK_ev (Ev_eqlS rfl rfl) ?_) | (refine EK_ev (Ev_eqlNil rfl rfl) ?_) | (refine EK_ev (Ev_eqlB rfl rfl) ?_) | (refine EK_ev (Ev_eqlO rfl rfl rfl (fun _ => rfl)) ?_)) | (refine ek_neq ?_; first | (refine EK_ev (Ev_neqI rfl rfl) ?_) | (refine EK_ev (Ev_neqS rfl rfl) ?_) | (refine EK_ev (Ev_neqNil rfl rfl) ?_) | (refine EK_ev (Ev_neqB rfl rfl) ?_) | (refine EK_ev (Ev_neqO rfl rfl rfl (fun _ => rfl)) ?_)) | (refine ek_lss ?_; first | (refine EK_ev (Ev_lssI_q rfl rfl ql) ?_) | (refine EK_ev (Ev_lssI rfl rfl) ?_) | (refine EK_ev (Ev_lssS rfl rfl) ?_)) | (refine ek_gtr ?_; first | (refine EK_ev (Ev_gtrI_q rfl rfl qb) ?_) | (refine EK_ev (Ev_gtrI rfl rfl) ?_) | (refine EK_ev (Ev_gtrS rfl rfl) ?_)))
    | (refine is_ex ?_; first | (refine KJ_blk_exit' rfl ?_))
    | (refine is_code ?_; first | (refine KJ_cond_dec rfl (fun _ => ?_) (fun _ => ?_) <;> first | (exfalso; omega) | skip) | (refine KJ_cond_t rfl ?_) | (refine KJ_cond_f rfl ?_)))
    all_goals (refine is_ex ?_; exact KJ_done (by first | exact Or.inl rfl | exact Or.inr rfl) rfl (by (repeat' (first | exact Rvs.nil | (apply Rvs.tmp; exact rfl))); first | done | fail) () (by rfl) (Ent.of (by (repeat' (first | exact Pick.nil | apply Pick.cons | exact Sel.here | apply Sel.there)); first | done | fail) (by (repeat' (first | exact DropTo.refl | apply DropTo.there)); first | done | fail)))
  have qb : decide ((549755813888 : Int) < (v2 : Nat)) = false := decide_eq_false (by omega)
  have clv2 := clv hbig
  clear clv
  have crp : ∀ D' : Dsk, D'.n = 40 → D'.off = false → rpGo D' (at_ : Nat) (n : Nat) (v2 + 1) (((n : Nat) : Int).toNat + 1) 0 [] = [] → Ct Tryd.prog W 70 [.pointer (some ⟨p, 0, none⟩), .int .i64 (at_ : Nat), .int .i64 (n : Nat), .int .i64 ((v2 + 1 : Nat) : Int)] [DiskP p D'] (fun x : Option Addr × Nat => .tuple #[.slice x.1 0 x.2, .nilIface]) (fun x => [DiskP p D', rowP (.slice x.1 0 x.2) 9 1 0 []]) := fun D' h1 h2 h3 => by
    have h := replay_ct (W := W) (p := p) (D := D') hE8 hN (at_ : Nat) (n : Nat) (v2 + 1) (by omega) h2 ⟨by omega, by omega, by omega, by omega, by omega, by omega, by omega⟩
    rw [h3] at h
    exact Ct.rowSl h
  repeat' (first 
    | refine KJ_stp (by first | constructor | fail) ?_
    | (refine is_list ?_; first | (refine KJ_guard_dec_t rfl rfl rfl (fun _ => ?_) (fun _ => ?_) <;> first | (exfalso; omega) | skip) | (refine KJ_guard_dec_f rfl rfl rfl (fun _ => ?_) (fun _ => ?_) <;> first | (exfalso; omega) | skip) | (refine KJ_guard_yes rfl rfl ?_) | (refine KJ_guard_no rfl rfl rfl rfl ?_))
    | (refine is_oper ?_; first | (refine is_store ?_; first | (refine KJ_store rfl rfl (by (repeat' (first | exact Sel.here | apply Sel.there)); first | done | fail) (by first | exact CellsOf.agg | exact CellsOf.one rfl) (by rfl) (by (repeat' (first | exact Ones.nil | exact Ones_bvs _ | refine Ones.cons rfl ?_)); first | done | fail) (by (repeat' (first | exact Laid.nil | apply Laid.cons | apply Laid.skip)); first | done | fail) (by (repeat' (first | exact Rep.here | apply Rep.there)); first | done | fail) ?_)) | (refine is_alloc ?_; first | (refine KJ_alloc rfl (fun _ => ?_))) | (refine is_call ?_; first | (refine KJ_call (by (repeat' (first | exact Evs.nil | refine Evs.cons rfl ?_)); first | done | fail) (crp X.1 X.2.2.1 X.2.2.2.1 X.2.2.2.2.2.2) (by (repeat' (first | exact Pick.nil | apply Pick.cons | exact Sel.here | apply Sel.there)); first | done | fail) rfl (fun _ => ?_)) | (refine KJ_call (by (repeat' (first | exact Evs.nil | refine Evs.cons rfl ?_)); first | done | fail) clv2 (by (repeat' (first | exact Pick.nil | apply Pick.cons | exact Sel.here | apply Sel.there)); first | done | fail) rfl (fun X => ?_))) | (refine KJ_ek rfl ?_) | (refine KJ_ek0 ?_))
    | (refine is_ek ?_; first | (refine ek_move ?_; first | (refine EK_ev (Ev_move rfl) ?_)) | (refine ek_assign ?_; first | (refine EK_ev (Ev_assign rfl) ?_)) | (refine ek_pick ?_; first | (refine EK_ev (Ev_pick_t rfl rfl) ?_) | (refine EK_ev (Ev_pick_f rfl rfl) ?_)) | (refine ek_fieldAddr ?_; first | (refine EK_ev (Ev_field rfl) ?_)) | (refine ek_load ?_; first | (refine EK_ev (Ev_loadAgg rfl (by (repeat' (first | exact Sel.here | apply Sel.there)); first | done | fail) (by (repeat' (first | exact Cut.nil | apply Cut.cons | apply Cut.skip)); first | done | fail)) ?_) | (refine EK_ev (Ev_load rfl (by (repeat' (first | exact Sel.here | apply Sel.there)); first | done | fail) (by rfl)) ?_) | (refine EK_ev (Ev_loadAggOld rfl Hr) ?_) | (refine EK_ev (Ev_load rfl (by (repeat' (first | exact Sel.here | apply Sel.there)); first | done | fail) (by rfl)) ?_) | (refine EK_ev (Ev_loadOld rfl (by assumption)) ?_) | (refine EK_ev (Ev_loadAgg rfl (by (repeat' (first | exact Sel.here | apply Sel.there)); first | done | fail) (by (repeat' (first | exact Cut.nil | apply Cut.cons | apply Cut.skip)); first | done | fail)) ?_)) | (refine ek_un ?_; first | (refine EK_ev (Ev_notD rfl) ?_) | (refine EK_ev (Ev_not rfl) ?_) | (refine EK_ev (Ev_neg rfl) ?_)) | (refine ek_conv ?_; first | (refine EK_ev (Ev_convI_v rfl hB3) ?_) | (refine EK_ev (Ev_convI64 rfl (by omega)) ?_) | (refine EK_ev (Ev_convI rfl) ?_) | (refine EK_ev (Ev_convS rfl) ?_)) | (refine ek_extract ?_; first | (refine EK_ev (Ev_extract rfl rfl) ?_)) | (refine ek_indexAddr ?_; first | (refine EK_ev (Ev_indexSlice rfl rfl (by omega)) ?_) | (refine EK_ev (Ev_indexArr rfl rfl (by omega)) ?_)) | (refine ek_len ?_; first | (refine EK_ev (Ev_len_str rfl) ?_) | (refine EK_ev (Ev_len_slice rfl) ?_) | (refine EK_ev (Ev_len_arr rfl) ?_) | (refine EK_ev (Ev_len_map rfl (by (repeat' (first | exact Sel.here | apply Sel.there)); first | done | fail)) ?_)) | (refine ek_add ?_; first | (refine EK_ev (Ev_addI_v (r := ((v2 + 1 : Nat) : Int)) rfl rfl (by omega) (by omega)) ?_) | (refine EK_ev (Ev_addI_v (r := ((m + 1 : Nat) : Int)) rfl rfl (by omega) (by omega)) ?_) | (refine EK_ev (Ev_addI_v (r := (v2 : Nat)) rfl rfl (by omega) (by omega)) ?_) | (refine EK_ev (Ev_addI rfl rfl (by omega)) ?_) | (refine EK_ev (Ev_addS rfl rfl (by simp <;> omega)) ?_) | (refine EK_ev (Ev_add rfl rfl) ?_)) | (refine ek_rem ?_; first | (refine EK_ev (Ev_rem_w rfl rfl (by omega) hk) ?_) | (refine EK_ev (Ev_remI rfl rfl (by omega)) ?_) | (refine EK_ev (Ev_rem rfl rfl (by omega)) ?_)) | (refine ek_eql ?_; first | (refine EK_ev (Ev_eqlI rfl rfl) ?_) | (refine EK_ev (Ev_eqlS rfl rfl) ?_) | (refine EK_ev (Ev_eqlNil rfl rfl) ?_) | (refine EK_ev (Ev_eqlB rfl rfl) ?_) | (refine EK_ev (Ev_eqlO rfl rfl rfl (fun _ => rfl)) ?_)) | (refine ek_neq ?_; first | (refine EK_ev (Ev_neqI_f rfl rfl rfl) ?_) | (refine EK_ev (Ev_neqI rfl rfl) ?_) | (refine EK_ev (Ev_neqS rfl rfl) ?_) | (refine EK_ev (Ev_neqNil rfl rfl) ?_) | (refine EK_ev (Ev_neqB rfl rfl) ?_) | (refine EK_ev (Ev_neqO rfl rfl rfl (fun _ => rfl)) ?_)) | (refine ek_lss ?_; first | (refine EK_ev (Ev_lssI_q rfl rfl ql) ?_) | (refine EK_ev (Ev_lssI rfl rfl) ?_) | (refine EK_ev (Ev_lssS rfl rfl) ?_)) | (refine ek_gtr ?_; first | (refine EK_ev (Ev_gtrI_q rfl rfl qb) ?_) | (refine EK_ev (Ev_gtrI rfl rfl) ?_) | (refine EK_ev (Ev_gtrS rfl rfl) ?_)))
    | (refine is_ex ?_; first | (refine KJ_blk_exit' rfl ?_))
    | (refine is_code ?_; first | (refine KJ_cond_dec rfl (fun _ => ?_) (fun _ => ?_) <;> first | (exfalso; omega) | skip) | (refine KJ_cond_t rfl ?_) | (refine KJ_cond_f rfl ?_)))
  all_goals exact KJ_again ⟨(m + 1, v2, X.1), Nat.succ_le_of_lt hlt, hbig, X.2.1, X.2.2.1, X.2.2.2.1, X.2.2.2.2.1, X.2.2.2.2.2.1⟩ (by show l.length - (m + 1) < l.length - m; omega) (by (repeat' (first | exact Subs.nil | refine Subs.cons rfl ?_)); first | done | fail) (Ent.of (by (repeat' (first | exact Pick.nil | apply Pick.cons | exact Sel.here | apply Sel.there)); first | done | fail) (by (repeat' (first | exact DropTo.refl | apply DropTo.there)); first | done | fail))
end
end Go.Proofs.YteklldbfdmaafaaDoor
/-
  The closed facts of the whole program that every row of this seat asks, each asked once.
-/
namespace Go.Proofs.YteklldbfdmaafaaDoor
open Go Go.RowKit
theorem band {a b : Bool} (h : a = true) (k : b = true) : (a && b) = true := by rw [h, k]; rfl
theorem mapsRowedF : mapsRowed Tryd.prog = true := by kernel_rfl
theorem stopsF : (Tryd.prog.stops == []) = true := by kernel_rfl
theorem stopKnobsF : (Tryd.prog.stopKnobs == []) = true := by kernel_rfl
theorem plainKeysF : (Rows.diskFlushesUptoRow.plainKeys == Tryd.prog.plainKeys) = true := by kernel_rfl
theorem stopsHeardF : Tryd.prog.stopsHeard = true := by kernel_rfl
theorem mayEnterF : Tryd.prog.mayEnter = true := by kernel_rfl
theorem liftsF : (Rows.diskFlushesUptoRow.lifted == Tryd.prog.liftsFinal) = true := by kernel_rfl
theorem makeF : (Tryd.prog.make == some Rows.diskFlushesUptoRow.make) = true := by kernel_rfl
end Go.Proofs.YteklldbfdmaafaaDoor
