/-
  OpenG.
-/
import Derived.Test.YtmlnegmabfnaaaaBBX
/-
  Arguments opened: slices whose elements can be opened, fields of structs.
-/
namespace Go.Proofs.Ytmlnegmabfnaaaa
open Go Go.RowKit Go.ChangeShapes Go.WideShapes Go.Deep
section
variable {H : Type} {enc : TypeId × Value → H} {W : World} {base : Nat} {held : Bool}
theorem cell_spot {a : Addr} {v : Value} (h : W.cell? a = some v) : a.spot = none ∧ a.block < W.heap.size := by
  unfold World.cell? at h
  split at h
  · rename_i c t fr hh
    refine ⟨?_, (Array.getElem?_eq_some_iff.1 hh).1⟩
    split at h
    · cases h
    · rename_i hs
      cases hq : a.spot with
      | none => rfl
      | some _ => rw [hq] at hs; simp at hs
  · cases h
theorem spot_add {a : Addr} {i : Nat} (hi : i = 0) {v : Value} (h : W.cell? (a.add i) = some v) : a.spot = none ∧ a.block < W.heap.size := by
  subst hi
  have h1 := cell_spot h
  simpa [Addr.add] using h1
theorem add_is {a : Addr} (h : a.spot = none) (i : Nat) : a.add i = ⟨a.block, a.off + i, none⟩ := by
  cases a; simp at h; subst h
  unfold Addr.add
  simp
theorem addr_is {a : Addr} (h : a.spot = none) : a = ⟨a.block, a.off, none⟩ := by
  cases a; simp at h; subst h; rfl
theorem cellsInt : Try.prog.cellsOf 3 = 1 := by kernel_rfl
theorem field_of {P : Program} {fs : Array Field} {m : Nat} {cs : List Value} {xs : List (DataW H × List MemPlace)}
    (hf : ∀ (i : Nat) (f : Field), fs[i]? = some f → DataW.trod enc P W base (fun _ => true) held m f.type ((cs.drop f.offset).take (P.cellsOf f.type)) = xs[i]?)
    (i : Nat) {nm : String} {t o : Nat} {em : Bool} {tg pk : String} {bo : Nat} (h : fs[i]? = some ⟨nm, t, o, em, tg, pk, bo⟩) {k : Nat} (hk : P.cellsOf t = k) :
    DataW.trod enc P W base (fun _ => true) held m t ((cs.drop o).take k) = xs[i]? := by
  subst hk
  exact hf i _ h
/-- A slice whose elements can be opened. -/
theorem elems_of {α : Type} [Inhabited α] {T eT k : Nat} (hu : Try.prog.underlying T = some (.slice eT)) (hk : Try.prog.cellsOf eT = k) (hk0 : 0 < k) (Q : α → List Value → DataW H → Prop)
    (hQ : ∀ n cs x, DataW.trod enc Try.prog W base (fun _ => true) held n eT cs = some x → ∃ a, Q a cs x.1) {n : Nat} {cs : List Value} {x : DataW H × List MemPlace} (h : DataW.trod enc Try.prog W base (fun _ => true) held n T cs = some x) :
    ∃ (l : List α) (ad : Option Addr) (c : Nat), cs = [.slice ad l.length c] ∧ l.length ≤ Rows.uptoBulk x.1 ∧ l.length ≤ c ∧ c ≤ maxLen ∧ (ad = none → c = 0) ∧ (l ≠ [] → ∃ b o, ad = some ⟨b, o, none⟩ ∧ b < W.heap.size ∧
      ∀ i a, l[i]? = some a → ∃ cs D, Q a cs D ∧ Rows.uptoBulk D ≤ Rows.uptoBulk x.1 ∧ cs.length = k ∧ W.rangeAt b (o + k * i) cs) ∧ (l ≠ [] → ∃ es sp, x.1 = .slice es sp ∧ es.length = l.length) := by
  rcases open_slice hu h with ⟨rfl, rfl⟩ | ⟨a, len, cap, m, n, D, Pl, rfl, _, hl, hm, hmm, rfl, hi⟩
  · exact ⟨[], none, 0, rfl, by simp, by simp, by unfold maxLen; omega, fun _ => rfl, fun h => absurd rfl h, fun h => absurd rfl h⟩
  · simp only [if_true] at hmm
    have hmm' := hmm.symm
    subst hmm'
    obtain ⟨f, hfo⟩ := choose_lt (α := α) (n := len) (p := fun i al => ∃ cs, Q al cs (D i) ∧ cs.length = k ∧ ∀ j v, cs[j]? = some v → W.cell? (a.add (i * k + j)) = some v) (fun i hil => by
      obtain ⟨cs', hc, ht⟩ := hi i (by omega)
      rw [hk] at hc
      obtain ⟨_, hcl, hat⟩ := World.cells?_some hc
      obtain ⟨al, hq⟩ := hQ _ _ _ ht
      refine ⟨al, cs', hq, hcl, fun j v hj => ?_⟩
      have hjl : j < k := by
        have := (List.getElem?_eq_some_iff.1 hj).1
        omega
      rw [← Go.Deep.add_add, hat j hjl, hj])
    have hbulk : ∀ i, i < len → Rows.uptoBulk (D i) ≤ Rows.uptoBulk (DataW.slice ((List.range len).map D) ((List.range (cap - len)).map fun j => D (len + j))) := fun i hil => by
      have h1 := part_le (H := H) (d := D i) (l := (List.range len).map D) (List.mem_map.2 ⟨i, List.mem_range.2 hil, rfl⟩)
      have h2 := slice_elems (H := H) ((List.range len).map D) ((List.range (cap - len)).map fun j => D (len + j))
      omega
    refine ⟨(List.range len).map f, some a, cap, by simp, ?_, by simpa using hl, hm, fun q => (by cases q), fun hne => ?_, fun _ => ⟨_, _, rfl, by simp⟩⟩
    · have := slice_le (H := H) ((List.range len).map D) ((List.range (cap - len)).map fun j => D (len + j))
      simp only [List.length_map, List.length_range] at this ⊢
      omega
    · have h0 : 0 < len := by
        rcases Nat.eq_zero_or_pos len with h | h
        · subst h; simp at hne
        · exact h
      obtain ⟨cs0, _, hl0, hc0⟩ := hfo 0 h0
      obtain ⟨v0, hv0⟩ : ∃ v, cs0[0]? = some v := ⟨_, List.getElem?_eq_getElem (by omega)⟩
      obtain ⟨hs, hb⟩ := spot_add (by simp) (hc0 0 v0 hv0)
      have ha : a = ⟨a.block, a.off, none⟩ := addr_is hs
      refine ⟨a.block, a.off, by rw [← ha], hb, fun i al hal => ?_⟩
      simp only [List.getElem?_map, Option.map_eq_some_iff] at hal
      obtain ⟨i', hi', rfl⟩ := hal
      have hij : i' = i ∧ i < len := by
        rw [List.getElem?_eq_some_iff] at hi'
        obtain ⟨h1, h2⟩ := hi'
        simp at h1 h2
        exact ⟨h2.symm, h1⟩
      obtain ⟨rfl, hij⟩ := hij
      obtain ⟨cs', hq, hcl, hc⟩ := hfo i' hij
      refine ⟨cs', D i', hq, hbulk i' hij, hcl, fun j v hj => ?_⟩
      have := hc j v hj
      rw [add_is hs] at this
      rw [Nat.mul_comm k i', Nat.add_assoc]
      exact this
set_option maxRecDepth 100000 in
/-- a parameter's cells are the value's own -/
theorem param_slice {r : Reach} {b0 T eT : Nat} {v : Value} {d : DataW H} {p : List MemPlace} (hu : Try.prog.underlying T = some (.slice eT)) (hv : Value.okWide Try.prog W r b0 T v) (h : DataW.Trod enc Try.prog W base (fun _ => true) held T v d p) :
    ∃ n, DataW.trod enc Try.prog W base (fun _ => true) held n T [v] = some (d, p) := by
  obtain ⟨a', len', cap', rfl⟩ := okWide_slice hu hv
  obtain ⟨fuel, hf⟩ := h
  exact ⟨fuel, hf⟩
end
end Go.Proofs.Ytmlnegmabfnaaaa
