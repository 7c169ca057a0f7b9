/-
  PoR4.
-/
import Derived.Test.YtdbfemdpdpaffaaGreatDoorPCV
import Derived.Test.YtdbfemdpdpaffaaGreatDoorPDC
import Derived.Test.YtdbfemdpdpaffaaGreatDoorPBI
import Derived.Test.YtdbfemdpdpaffaaGreatDoorPCK
import Derived.Test.YtdbfemdpdpaffaaGreatDoorPBX
import Derived.Test.YtdbfemdpdpaffaaGreatDoorPCS
/-
  PostingMerges: the walk.
-/
namespace Go.Proofs.YtdbfemdpdpaffaaGreatDoor
open Go Go.RowKit Go.MapKept
/-- rows of one's own that a list of lists tells of, as one claim -/
def lrowP (x : Option Addr × Nat × List Leg) : SP := lsP legC 55 2 (.slice x.1 x.2.2.length x.2.1) x.2.2
def rowsP (In : LL) : SP := bagP 72 (In.map lrowP)
theorem Sel.of {A : SP} : ∀ {L : List SP}, A ∈ L → ∃ R, Sel A L R
  | B :: L, h => by
    by_cases e : A = B
    · subst e; exact ⟨L, Sel.here⟩
    · rcases List.mem_cons.1 h with h | h
      · exact absurd h e
      · obtain ⟨R, hR⟩ := Sel.of h
        exact ⟨B :: R, Sel.there hR⟩
theorem rows_push {In : LL} {x : Option Addr × Nat × List Leg} {M : List SP} {g : Hl} (q : starL (lrowP x :: rowsP In :: M) g) : starL (rowsP (In ++ [x]) :: M) g := by
  have q2 := bag_open (L := In.map lrowP) (starL_swap g q)
  refine bag_shut (L := (In ++ [x]).map lrowP) ?_
  rw [List.map_append, List.append_assoc]
  exact q2
section
variable {P : Program} {W : World} {n : Nat} {E : Env} {H R : List SP} {k : KK}
theorem KJ.rowsPush {In : LL} {x : Option Addr × Nat × List Leg} {y : SP} (hy : y = lrowP x) (h1 : Pick [y, rowsP In] H R) (h : KJ W n k E (rowsP (In ++ [x]) :: R)) : KJ W n k E H := by
  subst hy
  exact ⟨fun ac w q s => h.go ac w q ((s.perm (h1.perm.append_right _)).mono fun _ x => rows_push x)⟩
theorem KJ.rowsNone (h : KJ W n k E (rowsP [] :: H)) : KJ W n k E H :=
  ⟨fun ac w q s => h.go ac w q (s.mono fun _ x => bag_shut (key := 72) (L := []) x)⟩
theorem rows_lv {In : LL} {x : Option Addr × Nat × List Leg} (hx : x ∈ In) : Lv W legC 2 (rowsP In) x.1 x.2.2 := by
  obtain ⟨R, hR⟩ := Sel.of (List.mem_map.2 ⟨x, hx, rfl⟩ : lrowP x ∈ In.map lrowP)
  exact (Lv.own (e := 55) (c := x.2.1) enc_leg rfl).bag hR
end
/-- the lists alone -/
def lgs (l : LL) : List (List Leg) := l.map fun x => x.2.2
theorem lgs_len {l r : LL} (h : lgs l = lgs r) : l.length = r.length := by have := congrArg List.length h; unfold lgs at this; simpa using this
theorem lgs_next {In ls : LL} {i : Nat} {x : Option Addr × Nat × List Leg} (h : ls[i]? = some x) (hI : lgs In = lgs (ls.take i)) (a : Option Addr) (c : Nat) : lgs (In ++ [(a, c, x.2.2)]) = lgs (ls.take (i + 1)) := by
  unfold lgs at hI ⊢
  rw [List.take_add_one, h, List.map_append, List.map_append, hI]
  rfl
theorem lgs_get {In ls : LL} {i : Nat} {x : Option Addr × Nat × List Leg} (h : ls[i]? = some x) (hI : lgs In = lgs ls) : ∃ a c, In[i]? = some (a, c, x.2.2) := by
  have h1 := congrArg (fun l => l[i]?) hI
  unfold lgs at h1
  simp only [List.getElem?_map, h, Option.map_some] at h1
  obtain ⟨⟨a, c, l⟩, h2, h3⟩ := Option.map_eq_some_iff.1 h1
  dsimp only at h3
  subst h3
  exact ⟨a, c, h2⟩
theorem heads_len : ∀ (n : Nat) (l : List Leg), l.length ≤ n → (heads l).length ≤ l.length
  | _, [], _ => by unfold heads; simp
  | 0, x :: r, h => by simp at h
  | n + 1, x :: r, h => by
    have h1 : (r.dropWhile fun y => decide (y.acc = x.acc)).length ≤ r.length := (List.dropWhile_sublist _).length_le
    simp only [List.length_cons] at h
    have h2 := heads_len n (r.dropWhile fun y => decide (y.acc = x.acc)) (by omega)
    rw [heads_cons, List.length_cons, List.length_cons]
    omega
theorem mrgO_len (l : List Leg) : (mrgO l).length ≤ l.length := by
  unfold mrgO
  cases h : mergeP l with
  | none => simp
  | some w =>
    have h1 : mergeK (sumA (srtL l)) (heads (srtL l)) = some w := by rw [← mergeG_heads _ (srt_pair l)]; exact h
    have h2 := (mergeK_out h1).1.length_le
    have h3 := heads_len _ (srtL l) (Nat.le_refl _)
    rw [List.length_map] at h2
    rw [srt_len] at h3
    show w.length ≤ _
    omega
theorem mrgE_le (l : List Leg) : mrgE l ≤ 37 := by unfold mrgE; split <;> omega
end Go.Proofs.YtdbfemdpdpaffaaGreatDoor
