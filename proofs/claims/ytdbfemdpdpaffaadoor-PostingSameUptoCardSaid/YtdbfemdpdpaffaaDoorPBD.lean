/-
  BaP.
-/
import Derived.Test.YtdbfemdpdpaffaaDoorPAM
/-
  Chapter 12 (batch) as plain data: the normal form, rows, the least batch between; bytes.
-/
namespace Go.Proofs.YtdbfemdpdpaffaaDoor
open Go Go.RowKit
structure BOp where
  del : Bool
  key : List UInt8
  val : List UInt8
deriving DecidableEq
def BOp.nrm (o : BOp) : BOp := ⟨o.del, o.key, if o.del then [] else o.val⟩
/-- what is said last of a key -/
def lastOf : List BOp → List UInt8 → Option BOp
  | [], _ => none
  | o :: r, k => (lastOf r k).or (if o.key = k then some o.nrm else none)
end Go.Proofs.YtdbfemdpdpaffaaDoor
