/-
  RrB.
-/
import Derived.Test.YtnbgcimalpdfoaaGreatDoorUEB
import Derived.Test.YtnbgcimalpdfoaaGreatDoorUDG
import Derived.Laws.OwnMore
import Derived.Test.YtnbgcimalpdfoaaGreatDoorUBH
import Derived.Test.YtnbgcimalpdfoaaGreatDoorUBP
set_option maxHeartbeats 64000000
namespace Go.Proofs.YtnbgcimalpdfoaaGreatDoor
open Go Go.RowKit
theorem ofR_ris (l:Rows):RisR (ofR l):=by
 unfold ofR
 have key:∀ (l r:Rows),RisR r→RisR (l.foldl (fun r p=>putR r p.1 p.2) r):=fun l=>by
  induction l with
  |nil=>intro r h;exact h
  |cons p l ih=>intro r h;exact ih _ (putR_ris h _ _)
 exact key l [] List.Pairwise.nil
end Go.Proofs.YtnbgcimalpdfoaaGreatDoor
