/-
  BaP, BaQ, BaE.
-/
import Derived.Test.YtdbfemdpdpaffaaGreatDoorPAN
/-
  Chapter 12 (batch) as plain data: the normal form, rows, the least batch between; bytes.
-/
namespace Go.Proofs.YtdbfemdpdpaffaaGreatDoor
open Go Go.RowKit
structure BOp where
  del : Bool
  key : List UInt8
  val : List UInt8
deriving DecidableEq
def BOp.nrm (o : BOp) : BOp := ⟨o.del, o.key, if o.del then [] else o.val⟩
/-- what is said last of a key -/
def lastOf : List BOp → List UInt8 → Option BOp
  | [], _ => none
  | o :: r, k => (lastOf r k).or (if o.key = k then some o.nrm else none)
end Go.Proofs.YtdbfemdpdpaffaaGreatDoor
/-
  Chapter 12 (batch) as plain data: rows and ops; what makes one table of another.
-/
namespace Go.Proofs.YtdbfemdpdpaffaaGreatDoor
open Go Go.RowKit
abbrev Rows := List (List UInt8 × List UInt8)
def RisR (r : Rows) : Prop := Rising Prod.fst r
theorem RisR.nodup {r : Rows} (h : RisR r) : (r.map (·.1)).Nodup := List.pairwise_map.2 (h.imp fun {a b} q e => by rw [e, tl_irr] at q; cases q)
/-- what a list of ops says of a key -/
def says (r : Rows) (ops : List BOp) (k : List UInt8) : Option (List UInt8) := match lastOf ops k with
  | some o => if o.del then none else some o.val
  | none => lk r k
/-- the document's: the two lists of rows gone over together -/
def btw : Nat → Rows → Rows → List BOp
  | 0, _, _ => []
  | _ + 1, [], [] => []
  | n + 1, p :: a, [] => ⟨true, p.1, []⟩ :: btw n a []
  | n + 1, [], q :: b => ⟨false, q.1, q.2⟩ :: btw n [] b
  | n + 1, p :: a, q :: b => if Op.bytesLess p.1 q.1 = true then ⟨true, p.1, []⟩ :: btw n a (q :: b) else if Op.bytesLess q.1 p.1 = true then ⟨false, q.1, q.2⟩ :: btw n (p :: a) b
      else if p.2 = q.2 then btw n a b else ⟨false, q.1, q.2⟩ :: btw n a b
def between (a b : Rows) : List BOp := btw (a.length + b.length) a b
/-- the program's: what is to go, then what is to be put, in normal form -/
def goes (a b : Rows) : List BOp := (a.filter fun p => (lk b p.1).isNone).map fun p => ⟨true, p.1, []⟩
def comes (a b : Rows) : List BOp := (b.filter fun p => decide (lk a p.1 ≠ some p.2)).map fun p => ⟨false, p.1, p.2⟩
end Go.Proofs.YtdbfemdpdpaffaaGreatDoor
/-
  Chapter 12 (batch) as plain data: the bytes of a batch, written and read.
-/
namespace Go.Proofs.YtdbfemdpdpaffaaGreatDoor
open Go Go.RowKit
/-- do the keys rise? -/
def risesB : List BOp → Bool
  | [] => true
  | [_] => true
  | a :: b :: r => Op.bytesLess a.key b.key && risesB (b :: r)
def Fit (o : BOp) : Prop := o.key.length ≤ 2147483647 ∧ o.val.length ≤ 2147483647
/-- the errors of reads are never 0 -/
theorem ruG_bad : ∀ (l : List UInt8) (i acc e : Nat), ruG l i acc = .bad e → e ≠ 0
  | [], _, _, _, h => by cases h; decide
  | b :: l, i, acc, e, h => by
    unfold ruG at h
    split at h
    · cases h; decide
    split at h
    · split at h
      · cases h; decide
      · cases h
    · exact ruG_bad l _ _ _ h
theorem rtx_bad {most : Nat} {l : List UInt8} {e : Nat} (h : rtx most l = .bad e) : e ≠ 0 := by
  unfold rtx at h
  cases hr : ru l with
  | bad e' => rw [hr] at h; cases h; exact ruG_bad l 0 0 _ hr
  | ok n t =>
    rw [hr] at h
    dsimp only at h
    split at h
    · cases h; decide
    split at h
    · cases h; decide
    · cases h
end Go.Proofs.YtdbfemdpdpaffaaGreatDoor
