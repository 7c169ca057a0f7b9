/-
  BaR1.
-/
import Derived.Test.YtehheokalgmbgaaDoorFBJ
import Derived.Test.YtehheokalgmbgaaDoorFBK
/-
  The document's answer for chapter 12: place, number.
-/
namespace Go.Proofs.YtehheokalgmbgaaDoor
open Go Go.RowKit
def rC (r : List UInt8 × List UInt8) : List Value := [strV r.1, strV r.2]
instance : ZvIs Tryd.prog 65 (.agg (rC ([], [])).toArray) := ⟨by kernel_rfl⟩
end Go.Proofs.YtehheokalgmbgaaDoor
