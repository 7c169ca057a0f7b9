/-
  EndE.
-/
import Derived.Test.YtdbfemdpdpaffaaDoorTie
import Derived.Test.YtdbfemdpdpaffaaDoorCards
import Derived.Test.YtdbfemdpdpaffaaDoorPCR
import Derived.Test.YtdbfemdpdpaffaaDoorPBK
/-
  The listed errors out of a row's list (as in Ends, for any seat).
-/
namespace Go.Proofs.YtdbfemdpdpaffaaDoor
open Go Go.RowKit Go.ChangeShapes Go.WideShapes Go.Deep
/-- a listed error: a pointer to a text -/
def errIn (x : DataW Unit) : Bool := match x with | .iface "*errors.errorString" (.ptr (.agg [.lit (.string _)])) => true | _ => false
theorem errIn_is {x : DataW Unit} (h : errIn x = true) : ∃ s, x = .iface "*errors.errorString" (.ptr (.agg [.lit (.string s)])) := by
  unfold errIn at h
  split at h
  · exact ⟨_, rfl⟩
  · cases h
theorem rowErr (u : TypeId) (h : Tryd.prog.typeName? 3 u = some "*errors.errorString") : u = 118 :=
  typeName_ptr_named (nm := "errors.errorString") (by rw [show "*" ++ "errors.errorString" = "*errors.errorString" from by decide]; kernel_rfl) (by kernel_rfl) (by decide) u (by rw [show "*" ++ "errors.errorString" = "*errors.errorString" from by decide]; exact h)
theorem cellsErr : Tryd.prog.cellsOf 136 = 1 := by kernel_rfl
/-- the row's list opens with these errors, in their order -/
noncomputable def opensOn (S : List Nat) (laid : List (String × DataW Unit)) : Bool := (List.range S.length).all fun i => match laid[i]? with
  | some (n, d) => (Tryd.prog.globalNamed n == some (errG (S.getD i 0))) && ((Tryd.prog.globals[errG (S.getD i 0)]?).map (·.type) == some 27) && errIn d
  | none => false
set_option maxRecDepth 100000 in
/-- WHAT THE ROW's LIST GIVES: the listed errors lie in their variables, each its own -/
theorem errs_on_laid (S : List Nat) (hS : ∀ k, k ∈ S → 1 ≤ k) {laid : List (String × DataW Unit)} {W : World} (hp : (laid.all fun x => x.2.handleName?.isNone) = true) (ho : opensOn S laid = true) (h : laidMetH Tryd.prog laid W) : ∃ E, ErrsOn S W E := by
  rw [MakeChecks.laidMetH_plain _ _ _ hp] at h
  obtain ⟨ps, hL, hnd, hrows⟩ := h
  obtain ⟨pl, h1, h2⟩ := laidVars_at hL hnd
  have hin : ∀ k, k ∈ S → ∃ i, i < S.length ∧ S.getD i 0 = k := fun k hk => by
    obtain ⟨i, hi, e⟩ := List.mem_iff_getElem.1 hk
    exact ⟨i, hi, by rw [List.getD, List.getElem?_eq_getElem hi]; exact e⟩
  have hlen : ∀ i, i < S.length → i < laid.length := fun i hi => by
    have := List.all_eq_true.1 ho i (by simpa using hi)
    cases hx : laid[i]? with
    | none => rw [hx] at this; cases this
    | some y => exact (List.getElem?_eq_some_iff.1 hx).1
  have key : ∀ k : Nat, ∃ a : Addr × Nat, k ∈ S → a.2 < S.length ∧ S.getD a.2 0 = k ∧ W.cell? ⟨errG k, 0, none⟩ = some (.iface 118 (.pointer (some a.1))) ∧ (∃ c t, W.heap[a.1.block]? = some (.cells c t (0, 0))) ∧ pl a.2 = MemPlace.row a.1 1 := by
    intro k
    by_cases hk : k ∈ S
    · obtain ⟨i, hiS, rfl⟩ := hin k hk
      have hi := List.all_eq_true.1 ho i (by simpa using hiS)
      cases hx : laid[i]? with
      | none => rw [hx] at hi; cases hi
      | some y =>
        obtain ⟨n, d⟩ := y
        rw [hx] at hi
        simp only [Bool.and_eq_true, beq_iff_eq] at hi
        obtain ⟨⟨e1, e2⟩, e3⟩ := hi
        obtain ⟨text, rfl⟩ := errIn_is e3
        obtain ⟨g, t, cs, fuel, a1, a2, a3, a4, a5, a6⟩ := h1 _ _ _ hx
        obtain rfl := Option.some.inj (e1.symm.trans a1)
        obtain rfl := Option.some.inj (e2.symm.trans a2)
        obtain ⟨l⟩ := cs
        have ok : ∀ u v, l = [.iface u v] → Value.okWide Tryd.prog W .any 0 u v := fun u v e => by
          subst e
          exact (hrows (errG (S.getD i 0)) 0 (a5 _ (by simp [MemPlace.row]))).2 u v (by simpa using World.var?_cell a1 a3 0)
        obtain ⟨a, s, rfl, hc0, hs0, hz0, hpl⟩ := errorString_of_trod Tryd.underlying27 rowErr Tryd.underlying118 Tryd.underlying136 rfl rfl Tryd.underlying9 cellsErr cellsStr a4 ok
        exact ⟨(a, i), fun _ => ⟨hiS, rfl, by simpa using World.var?_cell a1 a3 0, (hrows a.block a.off (a6 _ (by rw [hpl]; simp [MemPlace.row]))).1, hpl⟩⟩
    · exact ⟨(⟨0, 0, none⟩, 0), fun h => absurd h hk⟩
  obtain ⟨F, hE⟩ : ∃ F : Nat → Addr × Nat, ∀ k, k ∈ S → (F k).2 < S.length ∧ S.getD (F k).2 0 = k ∧ W.cell? ⟨errG k, 0, none⟩ = some (.iface 118 (.pointer (some (F k).1))) ∧ (∃ c t, W.heap[(F k).1.block]? = some (.cells c t (0, 0))) ∧ pl (F k).2 = MemPlace.row (F k).1 1 :=
    ⟨fun k => Classical.choose (key k), fun k => Classical.choose_spec (key k)⟩
  refine ⟨fun k => (F k).1, fun k hk => ?_, fun k hk => (hE k hk).2.2.2.1, fun j k hjS hkS e => ?_, hS⟩
  · have := (hE k hk).2.2.1
    unfold ErrAt
    rw [errV_pos _ _ (hS k hk)]
    exact this
  · obtain ⟨j1, j2, _, _, hj⟩ := hE j hjS
    obtain ⟨k1, k2, _, _, hk⟩ := hE k hkS
    have e : (F j).1 = (F k).1 := e
    rw [e] at hj
    have hmem : (MemPlace.cell (F k).1.block (F k).1.off) ∈ MemPlace.row (F k).1 1 := by simp [MemPlace.row]
    rcases Nat.lt_trichotomy (F j).2 (F k).2 with hlt | heq | hlt
    · exact absurd (by rw [hk]; exact hmem) (h2 _ _ hlt (hlen _ k1) _ (by rw [hj]; exact hmem))
    · rw [← j2, ← k2, heq]
    · exact absurd (by rw [hj]; exact hmem) (h2 _ _ hlt (hlen _ j1) _ (by rw [hk]; exact hmem))
/-- the order in which chapter 12 lists them -/
abbrev S12 : List Nat := List.range' 1 37
theorem ErrsOn.sub {S T : List Nat} {W : World} {F : Nat → Addr} (h : ErrsOn S W F) (hs : ∀ k, k ∈ T → k ∈ S) : ErrsOn T W F :=
  ⟨fun k hk => h.at_ k (hs k hk), fun k hk => h.obj k (hs k hk), fun j k hj hk => h.inj j k (hs j hj) (hs k hk), fun k hk => h.pos k (hs k hk)⟩
theorem errs12_of {laid : List (String × DataW Unit)} {W : World} (hp : (laid.all fun x => x.2.handleName?.isNone) = true) (ho : opensOn S12 laid = true) (h : laidMetH Tryd.prog laid W) : ∃ F, ErrsOn L37 W F := by
  obtain ⟨F, hF⟩ := errs_on_laid S12 (by decide) hp ho h
  exact ⟨F, hF.sub (by decide)⟩
end Go.Proofs.YtdbfemdpdpaffaaDoor
