/-
  Facts.
-/
import Derived.Test.YtdbfemdpdpaffaaDoorPCR
import Derived.JoinedOf
/-
  The closed facts of the whole program that every row of this seat asks, each asked once.
-/
namespace Go.Proofs.YtdbfemdpdpaffaaDoor
open Go Go.RowKit
theorem band {a b : Bool} (h : a = true) (k : b = true) : (a && b) = true := by rw [h, k]; rfl
theorem mapsRowedF : mapsRowed Tryd.prog = true := by kernel_rfl
theorem stopsF : (Tryd.prog.stops == []) = true := by kernel_rfl
theorem stopKnobsF : (Tryd.prog.stopKnobs == []) = true := by kernel_rfl
theorem plainKeysF : (Rows.postingBackRow.plainKeys == Tryd.prog.plainKeys) = true := by kernel_rfl
theorem stopsHeardF : Tryd.prog.stopsHeard = true := by kernel_rfl
theorem mayEnterF : Tryd.prog.mayEnter = true := by kernel_rfl
theorem liftsF : (Rows.postingBackRow.lifted == Tryd.prog.liftsFinal) = true := by kernel_rfl
theorem makeF : (Tryd.prog.make == some Rows.postingBackRow.make) = true := by kernel_rfl
end Go.Proofs.YtdbfemdpdpaffaaDoor
