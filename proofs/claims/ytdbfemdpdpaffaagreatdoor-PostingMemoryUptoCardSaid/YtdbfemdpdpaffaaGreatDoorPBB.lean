/-
  Srt.
-/
import Derived.Test.YtdbfemdpdpaffaaGreatDoorPAX
/-
  Lists of elements of several cells, flat.
-/
namespace Go.Proofs.YtdbfemdpdpaffaaGreatDoor
open Go Go.RowKit
section
variable {α : Type} {enc : α → List Value} {k : Nat}
theorem flatE_length (hk : ∀ x, (enc x).length = k) : ∀ l : List α, (l.flatMap enc).length = l.length * k
  | [] => by simp
  | x :: l => by rw [List.flatMap_cons, List.length_append, hk, flatE_length hk l, List.length_cons, Nat.add_mul]; omega
theorem flatE_get (hk : ∀ x, (enc x).length = k) : ∀ (l : List α) (i c : Nat), c < k → (l.flatMap enc)[i * k + c]? = (l[i]?).bind (fun x => (enc x)[c]?)
  | [], _, _, _ => by simp
  | x :: l, 0, c, h => by rw [List.flatMap_cons, List.getElem?_append_left (by rw [hk]; omega)]; simp
  | x :: l, i + 1, c, h => by
    rw [List.flatMap_cons, List.getElem?_append_right (by rw [hk, Nat.add_mul]; omega), hk, show (i + 1) * k + c - k = i * k + c by rw [Nat.add_mul]; omega]
    simpa using flatE_get hk l i c h
end
end Go.Proofs.YtdbfemdpdpaffaaGreatDoor
