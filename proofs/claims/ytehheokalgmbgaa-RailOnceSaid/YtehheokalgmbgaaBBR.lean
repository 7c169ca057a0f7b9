/-
  Facts.
-/
import Derived.Test.YtehheokalgmbgaaBBO
import Derived.JoinedOf
/-
  The closed facts of the whole program that every row of this seat asks, each asked once.
-/
namespace Go.Proofs.Ytehheokalgmbgaa
open Go Go.RowKit
theorem band {a b : Bool} (h : a = true) (k : b = true) : (a && b) = true := by rw [h, k]; rfl
theorem mapsRowedF : mapsRowed Try.prog = true := by kernel_rfl
theorem stopsF : (Try.prog.stops == []) = true := by kernel_rfl
theorem stopKnobsF : (Try.prog.stopKnobs == []) = true := by kernel_rfl
theorem plainKeysF : (Rows.railPlaysRow.plainKeys == Try.prog.plainKeys) = true := by kernel_rfl
theorem stopsHeardF : Try.prog.stopsHeard = true := by kernel_rfl
theorem mayEnterF : Try.prog.mayEnter = true := by kernel_rfl
theorem liftsF : (Rows.railPlaysRow.lifted == Try.prog.liftsFinal) = true := by kernel_rfl
theorem makeF : (Try.prog.make == some Rows.railPlaysRow.make) = true := by kernel_rfl
end Go.Proofs.Ytehheokalgmbgaa
