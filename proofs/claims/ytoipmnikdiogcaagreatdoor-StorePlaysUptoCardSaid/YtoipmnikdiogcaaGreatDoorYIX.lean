/-
  Facts.
-/
import Derived.Test.YtoipmnikdiogcaaGreatDoorYBG
import Derived.SizedLaws
import Derived.JoinedOf
set_option maxHeartbeats 64000000
namespace Go.Proofs.YtoipmnikdiogcaaGreatDoor
open Go Go.RowKit
open Go.Proofs.Tryz
theorem yHv {a b:Bool} (h:a=true) (k:b=true):(a && b)=true:=by rw [h,k];rfl
theorem yTk:mapsRowed prog=true:=zK
theorem xCq:(prog.stops == [])=true:=zK
theorem yTl:(prog.stopKnobs == [])=true:=zK
theorem yTm:(Rows.storePlaysRow.plainKeys == prog.plainKeys)=true:=zK
theorem yQm:prog.stopsHeard=true:=zK
theorem yWu:prog.mayEnter=true:=zK
theorem xCr:(Rows.storePlaysRow.lifted == prog.liftsFinal)=true:=zK
theorem xDh:(prog.make == some Rows.storePlaysRow.make)=true:=zK
end Go.Proofs.YtoipmnikdiogcaaGreatDoor
