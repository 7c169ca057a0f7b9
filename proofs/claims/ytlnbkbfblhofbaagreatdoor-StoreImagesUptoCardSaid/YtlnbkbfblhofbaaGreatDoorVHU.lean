/-
  Facts.
-/
import Derived.Test.YtlnbkbfblhofbaaGreatDoorVFL
import Derived.SizedLaws
import Derived.JoinedOf
set_option maxHeartbeats 64000000
namespace Go.Proofs.YtlnbkbfblhofbaaGreatDoor
open Go Go.RowKit
open Go.Proofs.Tryz
theorem yGw {a b:Bool} (h:a=true) (k:b=true):(a && b)=true:=by rw [h,k];rfl
theorem yRe:mapsRowed prog=true:=zK
theorem yZZ:(prog.stops == [])=true:=zK
theorem yRf:(prog.stopKnobs == [])=true:=zK
theorem yRg:(Rows.storeImagesRow.plainKeys == prog.plainKeys)=true:=zK
theorem yOI:prog.stopsHeard=true:=zK
theorem yUj:prog.mayEnter=true:=zK
theorem yZ0:(Rows.storeImagesRow.lifted == prog.liftsFinal)=true:=zK
theorem xAH:(prog.make == some Rows.storeImagesRow.make)=true:=zK
end Go.Proofs.YtlnbkbfblhofbaaGreatDoor
