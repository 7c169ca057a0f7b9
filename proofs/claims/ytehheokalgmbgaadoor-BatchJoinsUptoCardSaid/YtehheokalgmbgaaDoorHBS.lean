/-
  ErN.
-/
import Derived.Test.YtehheokalgmbgaaDoorHBJ
import Derived.Test.YtehheokalgmbgaaDoorHAY
import Derived.LaidEql
/-
  The errors' numbers: remitnum.Num over all 37 errors. (errG, ErrsOn, the compare of errors: as in the texts Disk1, DiskC, Num, Errq.)
-/
namespace Go.Proofs.YtehheokalgmbgaaDoor
open Go Go.RowKit
/-- the global variable in which error number k lies -/
def errG : Nat → Nat
  | 1 => 2 | 2 => 3 | 3 => 4 | 4 => 0 | 5 => 5 | 6 => 6 | 7 => 1
  | 8 => 7 | 9 => 8 | 10 => 9 | 11 => 10 | 12 => 11 | 13 => 12 | 14 => 13
  | 15 => 14 | 16 => 15 | 17 => 16 | 18 => 17 | 19 => 18 | 20 => 19 | 21 => 20
  | 22 => 21 | 23 => 22 | 24 => 23 | 25 => 24 | 26 => 25 | 27 => 26 | 28 => 27
  | 29 => 28 | 30 => 29 | 31 => 30 | 32 => 31 | 33 => 32 | 34 => 33 | 35 => 34
  | 36 => 35 | 37 => 36 | _ => 1000000
/-- error number k lies in its variable -/
def ErrAt (w : World) (E : Nat → Addr) (k : Nat) : Prop := w.cell? ⟨errG k, 0, none⟩ = some (errV E k)
/-- some of the errors lie in their variables, each its own -/
structure ErrsOn (S : List Nat) (w : World) (E : Nat → Addr) : Prop where
  at_ : ∀ k, k ∈ S → ErrAt w E k
  obj : ∀ k, k ∈ S → ∃ ca ta, w.heap[(E k).block]? = some (.cells ca ta (0, 0))
  inj : ∀ j k, j ∈ S → k ∈ S → E j = E k → j = k
  pos : ∀ k, k ∈ S → 1 ≤ k
theorem ErrAt.keepB {w w' : World} {E : Nat → Addr} {k : Nat} (h : ErrAt w E k) (hk : ∀ g, g < w.heap.size → w'.heap[g]? = w.heap[g]?) : ErrAt w' E k := by
  unfold ErrAt at h ⊢
  have hb := World.block_lt_of_cell? w _ h
  rw [World.cell?_of_block (w := w) (hk _ hb)]
  exact h
theorem ErrsOn.later {S : List Nat} {W w : World} {E : Nat → Addr} (h : ErrsOn S W E) (b : Below W.heap.size W w) : ErrsOn S w E :=
  ⟨fun k hk => (h.at_ k hk).keepB b.block, fun k hk => by
    obtain ⟨ca, ta, q⟩ := h.obj k hk
    exact ⟨ca, ta, (b.block _ (Array.getElem?_eq_some_iff.1 q).1).trans q⟩, h.inj, h.pos⟩

end Go.Proofs.YtehheokalgmbgaaDoor
