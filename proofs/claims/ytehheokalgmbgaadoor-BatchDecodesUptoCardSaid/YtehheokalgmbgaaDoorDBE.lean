/-
  BaE.
-/
import Derived.Test.YtehheokalgmbgaaDoorDBD
/-
  Chapter 12 (batch) as plain data: the bytes of a batch, written and read.
-/
namespace Go.Proofs.YtehheokalgmbgaaDoor
open Go Go.RowKit
def encOp (o : BOp) : List UInt8 := if o.del then 1 :: tx o.key else 0 :: (tx o.key ++ tx o.val)
def encOps (ops : List BOp) : List UInt8 := ops.flatMap encOp
def encAll (ops : List BOp) : List UInt8 := vu ops.length ++ encOps ops
/-- do the keys rise? -/
def risesB : List BOp → Bool
  | [] => true
  | [_] => true
  | a :: b :: r => Op.bytesLess a.key b.key && risesB (b :: r)
/-- a delete has no value -/
def formB (o : BOp) : Bool := !o.del || decide (o.val = [])
/-- the bytes, the error's number -/
def encode (ops : List BOp) : List UInt8 × Nat := if risesB ops = false then ([], 4) else if ops.all formB = false then ([], 7) else (encAll ops, 0)
theorem risesB_iff : ∀ {l : List BOp}, risesB l = true ↔ Rising BOp.key l
  | [] => ⟨fun _ => List.Pairwise.nil, fun _ => rfl⟩
  | [a] => ⟨fun _ => List.pairwise_cons.2 ⟨fun _ h => absurd h (by simp), List.Pairwise.nil⟩, fun _ => rfl⟩
  | a :: b :: r => by
    unfold risesB
    rw [Bool.and_eq_true, risesB_iff (l := b :: r)]
    constructor
    · rintro ⟨h1, h2⟩
      refine List.pairwise_cons.2 ⟨fun y hy => ?_, h2⟩
      rcases List.mem_cons.1 hy with e | e
      · rw [e]; exact h1
      · exact tl_tr h1 ((List.pairwise_cons.1 h2).1 y e)
    · intro h
      obtain ⟨h1, h2⟩ := List.pairwise_cons.1 h
      exact ⟨h1 b (List.mem_cons_self ..), h2⟩
/-- one op read, behind the key before -/
def rdOp (first : Bool) (last : List UInt8) : List UInt8 → Rd BOp
  | [] => .bad 1
  | b :: t => if 1 < b.toNat then .bad 7 else match rtx 2147483647 t with
    | .bad e => .bad e
    | .ok k t => if first = false ∧ Op.bytesLess last k = false then .bad 4 else if b.toNat = 1 then .ok ⟨true, k, []⟩ t else match rtx 2147483647 t with
      | .bad e => .bad e
      | .ok v t => .ok ⟨false, k, v⟩ t
def rdOps : Nat → Bool → List UInt8 → List UInt8 → Rd (List BOp)
  | 0, _, _, l => .ok [] l
  | n + 1, first, last, l => match rdOp first last l with
    | .bad e => .bad e
    | .ok o t => match rdOps n false o.key t with
      | .bad e => .bad e
      | .ok os t => .ok (o :: os) t
/-- the batch of bytes, the error's number -/
def decode (s : List UInt8) : List BOp × Nat := match ru s with
  | .bad e => ([], e)
  | .ok n t => match rdOps n true [] t with
    | .bad e => ([], e)
    | .ok os t => if t = [] then (os, 0) else ([], 5)
/-- the errors of reads are never 0 -/
theorem ruG_bad : ∀ (l : List UInt8) (i acc e : Nat), ruG l i acc = .bad e → e ≠ 0
  | [], _, _, _, h => by cases h; decide
  | b :: l, i, acc, e, h => by
    unfold ruG at h
    split at h
    · cases h; decide
    split at h
    · split at h
      · cases h; decide
      · cases h
    · exact ruG_bad l _ _ _ h
theorem rtx_bad {most : Nat} {l : List UInt8} {e : Nat} (h : rtx most l = .bad e) : e ≠ 0 := by
  unfold rtx at h
  cases hr : ru l with
  | bad e' => rw [hr] at h; cases h; exact ruG_bad l 0 0 _ hr
  | ok n t =>
    rw [hr] at h
    dsimp only at h
    split at h
    · cases h; decide
    split at h
    · cases h; decide
    · cases h
theorem rdOp_bad {f : Bool} {last l : List UInt8} {e : Nat} (h : rdOp f last l = .bad e) : e ≠ 0 := by
  cases l with
  | nil => cases h; decide
  | cons b l =>
    unfold rdOp at h
    dsimp only at h
    split at h
    · cases h; decide
    · cases hk : rtx 2147483647 l with
      | bad e' => rw [hk] at h; cases h; exact rtx_bad hk
      | ok k t =>
        rw [hk] at h
        dsimp only at h
        split at h
        · cases h; decide
        split at h
        · cases h
        · cases hv : rtx 2147483647 t with
          | bad e' => rw [hv] at h; cases h; exact rtx_bad hv
          | ok v t => rw [hv] at h; cases h
theorem rdOps_bad : ∀ (n : Nat) {f : Bool} {last l : List UInt8} {e : Nat}, rdOps n f last l = .bad e → e ≠ 0
  | 0, _, _, _, _, h => by cases h
  | n + 1, f, last, l, e, h => by
    unfold rdOps at h
    cases ho : rdOp f last l with
    | bad e' => rw [ho] at h; cases h; exact rdOp_bad ho
    | ok o t =>
      rw [ho] at h
      dsimp only at h
      cases hr : rdOps n false o.key t with
      | bad e' => rw [hr] at h; cases h; exact rdOps_bad n hr
      | ok os t2 => rw [hr] at h; cases h
/-- what is refused has no ops -/
theorem decode_cases (s : List UInt8) : ((decode s).2 ≠ 0 ∧ (decode s).1 = []) ∨ ∃ n t os, ru s = .ok n t ∧ rdOps n true [] t = .ok os [] ∧ decode s = (os, 0) := by
  unfold decode
  cases hr : ru s with
  | bad e => exact .inl ⟨ruG_bad s 0 0 _ hr, rfl⟩
  | ok n t =>
    dsimp only
    cases ho : rdOps n true [] t with
    | bad e => exact .inl ⟨rdOps_bad n ho, rfl⟩
    | ok os t2 =>
      dsimp only
      split
      · rename_i e; subst e; exact .inr ⟨n, t, os, rfl, ho, rfl⟩
      · exact .inl ⟨by decide, rfl⟩
theorem rdOp_back {f : Bool} {last l t : List UInt8} {o : BOp} (h : rdOp f last l = .ok o t) : l = encOp o ++ t ∧ o.nrm = o ∧ (f = false → Op.bytesLess last o.key = true) := by
  cases l with
  | nil => cases h
  | cons b l =>
    unfold rdOp at h
    dsimp only at h
    split at h
    · cases h
    · rename_i c
      cases hk : rtx 2147483647 l with
      | bad e' => rw [hk] at h; cases h
      | ok k t1 =>
        rw [hk] at h
        dsimp only at h
        split at h
        · cases h
        · rename_i c2
          have hlt : f = false → Op.bytesLess last k = true := fun q => by
            cases e : Op.bytesLess last k with
            | true => rfl
            | false => exact absurd ⟨q, e⟩ c2
          obtain ⟨k1, -⟩ := tx_rtx hk
          split at h
          · rename_i c3
            cases h
            refine ⟨?_, rfl, hlt⟩
            show _ = (1 :: tx k) ++ t
            rw [List.cons_append, ← k1]
            congr 1
            exact UInt8.toNat.inj c3
          · rename_i c3
            cases hv : rtx 2147483647 t1 with
            | bad e' => rw [hv] at h; cases h
            | ok v t2 =>
              rw [hv] at h
              cases h
              obtain ⟨v1, -⟩ := tx_rtx hv
              refine ⟨?_, rfl, hlt⟩
              show _ = (0 :: (tx k ++ tx v)) ++ t
              rw [List.cons_append, List.append_assoc, ← v1, ← k1]
              congr 1
              exact UInt8.toNat.inj (show b.toNat = (0 : UInt8).toNat by show b.toNat = 0; omega)
theorem rdOps_back : ∀ (n : Nat) {f : Bool} {last l t : List UInt8} {os : List BOp}, rdOps n f last l = .ok os t → l = encOps os ++ t ∧ os.length = n ∧ Rising BOp.key os ∧ (∀ o ∈ os, o.nrm = o) ∧ (f = false → ∀ o ∈ os, Op.bytesLess last o.key = true)
  | 0, _, _, _, _, _, h => by cases h; exact ⟨rfl, rfl, List.Pairwise.nil, fun _ q => absurd q (by simp), fun _ _ q => absurd q (by simp)⟩
  | n + 1, f, last, l, t, os, h => by
    unfold rdOps at h
    cases ho : rdOp f last l with
    | bad e' => rw [ho] at h; cases h
    | ok o t1 =>
      rw [ho] at h
      dsimp only at h
      cases hr : rdOps n false o.key t1 with
      | bad e' => rw [hr] at h; cases h
      | ok os' t2 =>
        rw [hr] at h
        cases h
        obtain ⟨a1, a2, a3⟩ := rdOp_back ho
        obtain ⟨b1, b2, b3, b4, b5⟩ := rdOps_back n hr
        refine ⟨?_, by rw [List.length_cons, b2], List.pairwise_cons.2 ⟨b5 rfl, b3⟩, fun p hp => ?_, fun q p hp => ?_⟩
        · unfold encOps; rw [List.flatMap_cons, List.append_assoc, a1, b1]; rfl
        · rcases List.mem_cons.1 hp with e | e
          · rw [e]; exact a2
          · exact b4 p e
        · rcases List.mem_cons.1 hp with e | e
          · rw [e]; exact a3 q
          · exact tl_tr (a3 q) (b5 rfl p e)
end Go.Proofs.YtehheokalgmbgaaDoor
