/-
  Model.
-/
import Derived.WalkKit
import Derived.Test.YtmlnegmabfnaaaaBAA
/-
  The disk as plain data: sectors, writes under way, power. No program in sight.
-/
namespace Go.Proofs.Ytmlnegmabfnaaaa
open Go Go.RowKit
/-- the disk's state: durable bytes, the writes under way in their order, the power, the counters -/
structure Dsk where
  n : Nat
  img : List UInt8
  und : List (Nat × List UInt8)
  off : Bool
  armed : Int
  writes : Int
  flushes : Int
  life : Int

structure Dsk.ok (D : Dsk) : Prop where
  n1 : 1 ≤ D.n
  n2 : D.n ≤ 65536
  len : D.img.length = 256 * D.n
  und : ∀ x ∈ D.und, x.1 < D.n ∧ x.2.length = 256
  arm1 : -1 ≤ D.armed
  arm2 : D.armed ≤ 9223372036854775807

/-- n bytes of nought -/
def zs (n : Nat) : List UInt8 := List.replicate n 0
/-- b laid over l from o on -/
def lay {α : Type} (l : List α) (o : Nat) (b : List α) : List α := l.take o ++ (b ++ l.drop (o + b.length))
theorem lay_length {α : Type} (l : List α) (o : Nat) (b : List α) (h : o + b.length ≤ l.length) : (lay l o b).length = l.length := by
  simp [lay]; omega
/-- Read: the bytes and the error's number -/
def Dsk.has (D : Dsk) (i : Int) : Bool := decide (0 ≤ i ∧ i < D.n)
def Dsk.gone (D : Dsk) : Dsk := if D.armed = 0 then { D with off := true } else if 0 < D.armed then { D with armed := D.armed - 1 } else D
/-- how many bytes of write number k are done -/
def done (kept : List Bool) (torn bytes : Int) (k : Nat) : Nat :=
  if (k : Int) = torn then (min (max bytes 0) 256).toNat else if kept.getD k false then 256 else 0
def Dsk.of (img : List UInt8) : Dsk := { n := img.length / 256, img := img, und := [], off := false, armed := -1, writes := 0, flushes := 0, life := 0 }

end Go.Proofs.Ytmlnegmabfnaaaa
