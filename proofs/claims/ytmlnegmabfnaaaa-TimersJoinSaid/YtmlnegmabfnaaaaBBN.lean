/-
  Gnl5.
-/
import Derived.Test.YtmlnegmabfnaaaaBBM
import Derived.Laws.OwnMore
/-
  An element is taken out of a row in place: append(v[:i], v[i+1:]...).
-/
namespace Go.Proofs.Ytmlnegmabfnaaaa
open Go Go.RowKit
section
variable {P : Program} {W : World} {n d : Nat} {E : Env} {H R : List SP} {k : KK} {t e : TypeId} {x y : Operand} {α : Type} {enc : α → List Value} {sz : Nat}
theorem EncOk.take_flat (K : EncOk enc sz) (l : List α) (i : Nat) (hi : i ≤ l.length) : (l.flatMap enc).take (i * sz) = (l.take i).flatMap enc := by
  have e : l.flatMap enc = (l.take i).flatMap enc ++ (l.drop i).flatMap enc := by rw [← List.flatMap_append, List.take_append_drop]
  have hl : ((l.take i).flatMap enc).length = i * sz := by rw [K.flat, List.length_take, Nat.min_eq_left hi]
  rw [e, List.take_left' hl]
end
end Go.Proofs.Ytmlnegmabfnaaaa
