/-
  Region.
-/
import Derived.WalkKit
import Derived.OrdersHeld
import Derived.StillTailTactics
import Derived.Deep.MidRow
import Derived.Test.YtmlnegmabfnaaaaBAA
/-
  A region that draws its order, walked once in the text's order: its loads come first, each yielding its value in every world that meets S; then its writes, of which those that may come ahead of a load keep S. After Derived/OrdersHeld.lean's theorem, with S asked only behind what may come ahead of a load.
-/
namespace Go.Proofs.Ytmlnegmabfnaaaa
open Go
section
variable {P : Program} {ops : Array Oper} {Q : Exit → Act → World → Prop} {md : Region.Mode} {S : World → Prop} {late : Nat → Bool}
/-- what is listed has all it waits for listed -/
def Closed (md : Region.Mode) (ops : Array Oper) (listed : Array Bool) : Prop :=
  ∀ k o, ops[k]? = some o → listed.getD k false = true → ∀ e ∈ o.after, Region.binds md e = true → listed.getD e.on false = true
theorem Closed.set {listed : Array Bool} (h : Closed md ops listed) {i : Nat} (hi : i ∈ Region.ready md ops listed) : Closed md ops (listed.setIfInBounds i true) := by
  intro k o ho hk e he hb
  obtain ⟨_, oi, hoi, hall⟩ := mem_ready.1 hi
  by_cases hki : k = i
  · subst hki
    rw [hoi] at ho; cases ho
    exact getD_set_true (hall e he hb)
  · have : listed.getD k false = true := by rw [← hk]; exact (getD_set_ne false (Ne.symm hki)).symm
    exact getD_set_true (h k o ho this e he hb)
theorem not_both {listed : Array Bool} {i : Nat} (h0 : listed.getD i true = false) (h1 : listed.getD i false = true) : False := by
  rcases Nat.lt_or_ge i listed.size with h' | h'
  · simp [h'] at h0 h1; rw [h0] at h1; cases h1
  · simp [Array.getElem?_eq_none h'] at h1

end
end Go.Proofs.Ytmlnegmabfnaaaa
