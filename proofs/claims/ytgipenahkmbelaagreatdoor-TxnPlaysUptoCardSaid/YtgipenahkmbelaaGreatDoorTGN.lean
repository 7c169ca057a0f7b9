/-
  Facts.
-/
import Derived.Test.YtgipenahkmbelaaGreatDoorTFN
import Derived.SizedLaws
import Derived.JoinedOf
set_option maxHeartbeats 64000000
namespace Go.Proofs.YtgipenahkmbelaaGreatDoor
open Go Go.RowKit
theorem band {a b:Bool} (h:a=true) (k:b=true):(a && b)=true:=by rw [h,k];rfl
theorem mapsRowedF:mapsRowed Tryz.prog=true:=by kernel_rfl
theorem stopsF:(Tryz.prog.stops == [])=true:=by kernel_rfl
theorem stopKnobsF:(Tryz.prog.stopKnobs == [])=true:=by kernel_rfl
theorem plainKeysF:(Rows.txnPlaysRow.plainKeys == Tryz.prog.plainKeys)=true:=by kernel_rfl
theorem stopsHeardF:Tryz.prog.stopsHeard=true:=by kernel_rfl
theorem mayEnterF:Tryz.prog.mayEnter=true:=by kernel_rfl
theorem liftsF:(Rows.txnPlaysRow.lifted == Tryz.prog.liftsFinal)=true:=by kernel_rfl
theorem makeF:(Tryz.prog.make == some Rows.txnPlaysRow.make)=true:=by kernel_rfl
end Go.Proofs.YtgipenahkmbelaaGreatDoor
