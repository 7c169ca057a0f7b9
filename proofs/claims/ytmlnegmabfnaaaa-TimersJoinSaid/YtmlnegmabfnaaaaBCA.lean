/-
  Facts.
-/
import Derived.Test.YtmlnegmabfnaaaaBBX
import Derived.JoinedOf
/-
  The closed facts of the whole program that every row of this seat asks, each asked once.
-/
namespace Go.Proofs.Ytmlnegmabfnaaaa
open Go Go.RowKit
theorem band {a b : Bool} (h : a = true) (k : b = true) : (a && b) = true := by rw [h, k]; rfl
theorem mapsRowedF : mapsRowed Try.prog = true := by kernel_rfl
theorem stopsF : (Try.prog.stops == []) = true := by kernel_rfl
theorem stopKnobsF : (Try.prog.stopKnobs == []) = true := by kernel_rfl
theorem plainKeysF : (Rows.timersJoinRow.plainKeys == Try.prog.plainKeys) = true := by kernel_rfl
theorem stopsHeardF : Try.prog.stopsHeard = true := by kernel_rfl
theorem mayEnterF : Try.prog.mayEnter = true := by kernel_rfl
theorem liftsF : (Rows.timersJoinRow.lifted == Try.prog.liftsFinal) = true := by kernel_rfl
theorem makeF : (Try.prog.make == some Rows.timersJoinRow.make) = true := by kernel_rfl
end Go.Proofs.Ytmlnegmabfnaaaa
