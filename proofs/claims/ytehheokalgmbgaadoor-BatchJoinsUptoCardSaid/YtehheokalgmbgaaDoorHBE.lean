/-
  BaE.
-/
import Derived.Test.YtehheokalgmbgaaDoorHBD
/-
  Chapter 12 (batch) as plain data: the bytes of a batch, written and read.
-/
namespace Go.Proofs.YtehheokalgmbgaaDoor
open Go Go.RowKit
def encOp (o : BOp) : List UInt8 := if o.del then 1 :: tx o.key else 0 :: (tx o.key ++ tx o.val)
def encOps (ops : List BOp) : List UInt8 := ops.flatMap encOp
def encAll (ops : List BOp) : List UInt8 := vu ops.length ++ encOps ops
/-- do the keys rise? -/
def risesB : List BOp → Bool
  | [] => true
  | [_] => true
  | a :: b :: r => Op.bytesLess a.key b.key && risesB (b :: r)
/-- a delete has no value -/
def formB (o : BOp) : Bool := !o.del || decide (o.val = [])
/-- the bytes, the error's number -/
def encode (ops : List BOp) : List UInt8 × Nat := if risesB ops = false then ([], 4) else if ops.all formB = false then ([], 7) else (encAll ops, 0)
theorem risesB_iff : ∀ {l : List BOp}, risesB l = true ↔ Rising BOp.key l
  | [] => ⟨fun _ => List.Pairwise.nil, fun _ => rfl⟩
  | [a] => ⟨fun _ => List.pairwise_cons.2 ⟨fun _ h => absurd h (by simp), List.Pairwise.nil⟩, fun _ => rfl⟩
  | a :: b :: r => by
    unfold risesB
    rw [Bool.and_eq_true, risesB_iff (l := b :: r)]
    constructor
    · rintro ⟨h1, h2⟩
      refine List.pairwise_cons.2 ⟨fun y hy => ?_, h2⟩
      rcases List.mem_cons.1 hy with e | e
      · rw [e]; exact h1
      · exact tl_tr h1 ((List.pairwise_cons.1 h2).1 y e)
    · intro h
      obtain ⟨h1, h2⟩ := List.pairwise_cons.1 h
      exact ⟨h1 b (List.mem_cons_self ..), h2⟩
end Go.Proofs.YtehheokalgmbgaaDoor
