/-
  BaQ.
-/
import Derived.Test.YtdbfemdpdpaffaaDoorPBD
/-
  Chapter 12 (batch) as plain data: rows and ops; what makes one table of another.
-/
namespace Go.Proofs.YtdbfemdpdpaffaaDoor
open Go Go.RowKit
abbrev Rows := List (List UInt8 × List UInt8)
/-- what a list of ops says of a key -/
def says (r : Rows) (ops : List BOp) (k : List UInt8) : Option (List UInt8) := match lastOf ops k with
  | some o => if o.del then none else some o.val
  | none => lk r k
/-- the document's: the two lists of rows gone over together -/
def btw : Nat → Rows → Rows → List BOp
  | 0, _, _ => []
  | _ + 1, [], [] => []
  | n + 1, p :: a, [] => ⟨true, p.1, []⟩ :: btw n a []
  | n + 1, [], q :: b => ⟨false, q.1, q.2⟩ :: btw n [] b
  | n + 1, p :: a, q :: b => if Op.bytesLess p.1 q.1 = true then ⟨true, p.1, []⟩ :: btw n a (q :: b) else if Op.bytesLess q.1 p.1 = true then ⟨false, q.1, q.2⟩ :: btw n (p :: a) b
      else if p.2 = q.2 then btw n a b else ⟨false, q.1, q.2⟩ :: btw n a b
def between (a b : Rows) : List BOp := btw (a.length + b.length) a b
/-- the program's: what is to go, then what is to be put, in normal form -/
def goes (a b : Rows) : List BOp := (a.filter fun p => (lk b p.1).isNone).map fun p => ⟨true, p.1, []⟩
def comes (a b : Rows) : List BOp := (b.filter fun p => decide (lk a p.1 ≠ some p.2)).map fun p => ⟨false, p.1, p.2⟩
end Go.Proofs.YtdbfemdpdpaffaaDoor
