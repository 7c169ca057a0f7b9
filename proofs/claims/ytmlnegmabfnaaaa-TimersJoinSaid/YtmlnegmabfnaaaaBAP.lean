/-
  Gen.
-/
import Derived.Test.YtmlnegmabfnaaaaBAO
/-
  Laid bytes, and more rules of the walk on bytes.
-/
namespace Go.Proofs.Ytmlnegmabfnaaaa
open Go Go.RowKit
section
variable {P : Program} {W : World} {n : Nat} {E : Env} {H : List SP} {x : Operand}
theorem Ev_convI_v {s d : TypeId} {ks kd : IntKind} {k : IntKind} {i j : Int} (hx : Env.ev E x = some (.int k i)) [hs : UIs P s (.int ks)] [hd : UIs P d (.int kd)] (h : kd.wrap i = j) : Ev P W n E H (.convert s d x) (.int kd j) := by
  subst h; exact Ev_convI hx
end
end Go.Proofs.Ytmlnegmabfnaaaa
