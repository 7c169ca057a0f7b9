/-
  PoR4.
-/
import Derived.Test.YtdbfemdpdpaffaaGreatDoorPCQ
import Derived.Test.YtdbfemdpdpaffaaGreatDoorPBX
import Derived.Test.YtdbfemdpdpaffaaGreatDoorPCK
import Derived.Test.YtdbfemdpdpaffaaGreatDoorPBZ
import Derived.Test.YtdbfemdpdpaffaaGreatDoorPBI
import Derived.Test.YtdbfemdpdpaffaaGreatDoorPCT
import Derived.Test.YtdbfemdpdpaffaaGreatDoorPBP
import Derived.Test.YtdbfemdpdpaffaaGreatDoorPCO
import Derived.Test.YtdbfemdpdpaffaaGreatDoorPCU
import Derived.Test.YtdbfemdpdpaffaaGreatDoorPDB
/-
  PostingMerges: the walk.
-/
namespace Go.Proofs.YtdbfemdpdpaffaaGreatDoor
open Go Go.RowKit Go.MapKept
theorem Sel.of {A : SP} : ∀ {L : List SP}, A ∈ L → ∃ R, Sel A L R
  | B :: L, h => by
    by_cases e : A = B
    · subst e; exact ⟨L, Sel.here⟩
    · rcases List.mem_cons.1 h with h | h
      · exact absurd h e
      · obtain ⟨R, hR⟩ := Sel.of h
        exact ⟨B :: R, Sel.there hR⟩
theorem heads_len : ∀ (n : Nat) (l : List Leg), l.length ≤ n → (heads l).length ≤ l.length
  | _, [], _ => by unfold heads; simp
  | 0, x :: r, h => by simp at h
  | n + 1, x :: r, h => by
    have h1 : (r.dropWhile fun y => decide (y.acc = x.acc)).length ≤ r.length := (List.dropWhile_sublist _).length_le
    simp only [List.length_cons] at h
    have h2 := heads_len n (r.dropWhile fun y => decide (y.acc = x.acc)) (by omega)
    rw [heads_cons, List.length_cons, List.length_cons]
    omega
theorem mrgO_len (l : List Leg) : (mrgO l).length ≤ l.length := by
  unfold mrgO
  cases h : mergeP l with
  | none => simp
  | some w =>
    have h1 : mergeK (sumA (srtL l)) (heads (srtL l)) = some w := by rw [← mergeG_heads _ (srt_pair l)]; exact h
    have h2 := (mergeK_out h1).1.length_le
    have h3 := heads_len _ (srtL l) (Nat.le_refl _)
    rw [List.length_map] at h2
    rw [srt_len] at h3
    show w.length ≤ _
    omega
end Go.Proofs.YtdbfemdpdpaffaaGreatDoor
