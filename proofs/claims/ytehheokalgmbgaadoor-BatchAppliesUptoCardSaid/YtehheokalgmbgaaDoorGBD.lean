/-
  BaQ.
-/
import Derived.Test.YtehheokalgmbgaaDoorGBC
/-
  Chapter 12 (batch) as plain data: rows and ops; what makes one table of another.
-/
namespace Go.Proofs.YtehheokalgmbgaaDoor
open Go Go.RowKit
abbrev Rows := List (List UInt8 × List UInt8)
def RisR (r : Rows) : Prop := Rising Prod.fst r
theorem RisR.nodup {r : Rows} (h : RisR r) : (r.map (·.1)).Nodup := List.pairwise_map.2 (h.imp fun {a b} q e => by rw [e, tl_irr] at q; cases q)
theorem rows_mem {r : Rows} (h : RisR r) (k v : List UInt8) : (k, v) ∈ r ↔ lk r k = some v := ⟨fun q => lk_of h.nodup q, lk_mem⟩
theorem rows_ext {a b : Rows} (ha : RisR a) (hb : RisR b) (h : ∀ k, lk a k = lk b k) : a = b := rising_eq ha hb fun ⟨k, v⟩ => by rw [rows_mem ha, rows_mem hb, h]
def putR (r : Rows) (k v : List UInt8) : Rows := if hasB Prod.fst r k = true then r.map (fun p => if p.1 = k then (k, v) else p) else insB Prod.fst r (k, v)
def apply1 (r : Rows) (o : BOp) : Rows := if o.del then mdel r o.key else putR r o.key o.val
def applyB (r : Rows) (ops : List BOp) : Rows := ops.foldl apply1 r
theorem has_lk {r : Rows} {k : List UInt8} : hasB Prod.fst r k = (lk r k).isSome := by
  cases e : lk r k with
  | none => exact hasB_false.2 (lk_none.1 e)
  | some v => exact hasB_true.2 ⟨(k, v), lk_mem e, rfl⟩
theorem putR_ris {r : Rows} (h : RisR r) (k v : List UInt8) : RisR (putR r k v) := by
  unfold putR
  split
  · unfold RisR Rising
    rw [List.pairwise_map]
    refine h.imp fun {a b} q => ?_
    have e : ∀ p : List UInt8 × List UInt8, (if p.1 = k then (k, v) else p).1 = p.1 := fun p => by
      split
      · rename_i e; exact e.symm
      · rfl
    rw [e, e]; exact q
  · rename_i hh
    exact insB_rising h fun y hy => hasB_false.1 (by simpa using hh) y hy
theorem mdel_ris {r : Rows} (h : RisR r) (k : List UInt8) : RisR (mdel r k) := List.Pairwise.sublist List.filter_sublist h
theorem apply1_ris {r : Rows} (h : RisR r) (o : BOp) : RisR (apply1 r o) := by
  unfold apply1
  split
  · exact mdel_ris h _
  · exact putR_ris h _ _
theorem applyB_ris {r : Rows} (h : RisR r) (ops : List BOp) : RisR (applyB r ops) := by
  induction ops generalizing r with
  | nil => exact h
  | cons o ops ih => exact ih (apply1_ris h o)
theorem lk_putR {r : Rows} (h : RisR r) (k v b : List UInt8) : lk (putR r k v) b = if b = k then some v else lk r b := by
  have hp := putR_ris h k v
  have hm : ∀ u, lk (putR r k v) b = some u ↔ (if b = k then some v else lk r b) = some u := fun u => by
    rw [← rows_mem hp]
    unfold putR
    split
    · rename_i hh
      rw [List.mem_map]
      obtain ⟨p, hpm, hpk⟩ := hasB_true.1 hh
      constructor
      · rintro ⟨q, hq, e⟩
        split at e
        · cases e; rw [if_pos rfl]
        · rename_i hne
          subst e
          rw [if_neg hne]
          exact (rows_mem h _ _).1 hq
      · intro e
        split at e
        · rename_i hb
          cases e
          exact ⟨p, hpm, by rw [if_pos hpk, hb]⟩
        · rename_i hb
          exact ⟨(b, u), (rows_mem h _ _).2 e, by rw [if_neg hb]⟩
    · rename_i hh
      rw [mem_insB, rows_mem h]
      have hn : lk r k = none := by
        have : hasB Prod.fst r k = false := by simpa using hh
        rw [has_lk] at this
        cases e : lk r k with
        | none => rfl
        | some _ => rw [e] at this; cases this
      by_cases hb : b = k
      · subst hb
        rw [if_pos rfl, hn]
        simp [eq_comm]
      · rw [if_neg hb]
        simp [hb]
  cases e : lk (putR r k v) b with
  | some u => exact ((hm u).1 e).symm
  | none =>
    cases e' : (if b = k then some v else lk r b) with
    | none => rfl
    | some u => rw [(hm u).2 e'] at e; cases e
theorem lk_apply1 {r : Rows} (h : RisR r) (o : BOp) (k : List UInt8) : lk (apply1 r o) k = if o.key = k then (if o.del then none else some o.val) else lk r k := by
  unfold apply1
  cases hd : o.del with
  | true =>
    rw [if_pos rfl, lk_del]
    by_cases e : k = o.key
    · rw [if_pos e, if_pos e.symm]; rfl
    · rw [if_neg e, if_neg fun q => e q.symm]
  | false =>
    rw [if_neg (by decide), lk_putR h]
    by_cases e : k = o.key
    · rw [if_pos e, if_pos e.symm]; rfl
    · rw [if_neg e, if_neg fun q => e q.symm]
/-- what a list of ops says of a key -/
def says (r : Rows) (ops : List BOp) (k : List UInt8) : Option (List UInt8) := match lastOf ops k with
  | some o => if o.del then none else some o.val
  | none => lk r k
theorem lk_applyB {r : Rows} (h : RisR r) (ops : List BOp) (k : List UInt8) : lk (applyB r ops) k = says r ops k := by
  induction ops generalizing r with
  | nil => rfl
  | cons o ops ih =>
    show lk (applyB (apply1 r o) ops) k = _
    rw [ih (apply1_ris h o)]
    unfold says
    rw [lastOf]
    cases e : lastOf ops k with
    | some x => rfl
    | none =>
      rw [Option.none_or]
      dsimp only
      rw [lk_apply1 h]
      by_cases c : o.key = k
      · rw [if_pos c, if_pos c]
        unfold BOp.nrm
        cases o.del <;> rfl
      · rw [if_neg c, if_neg c]
theorem lastOf_normD (l : List BOp) (k : List UInt8) : lastOf (normD l) k = lastOf l k := by
  have hm : ∀ x, lastOf (normD l) k = some x ↔ lastOf l k = some x := fun x => by
    rw [lastOf_rising (normD_rising l) (fun _ q => normD_nrm q), normD_mem]
    constructor
    · rintro ⟨a, b⟩; rw [← b]; exact a
    · intro a; have := (lastOf_some a).1; rw [this]; exact ⟨a, rfl⟩
  cases e : lastOf (normD l) k with
  | some x => exact ((hm x).1 e).symm
  | none =>
    cases e' : lastOf l k with
    | none => rfl
    | some x => rw [(hm x).2 e'] at e; cases e
theorem apply_normD {r : Rows} (h : RisR r) (ops : List BOp) : applyB r (normD ops) = applyB r ops :=
  rows_ext (applyB_ris h _) (applyB_ris h _) fun k => by rw [lk_applyB h, lk_applyB h]; unfold says; rw [lastOf_normD]
/-- the document's: the two lists of rows gone over together -/
def btw : Nat → Rows → Rows → List BOp
  | 0, _, _ => []
  | _ + 1, [], [] => []
  | n + 1, p :: a, [] => ⟨true, p.1, []⟩ :: btw n a []
  | n + 1, [], q :: b => ⟨false, q.1, q.2⟩ :: btw n [] b
  | n + 1, p :: a, q :: b => if Op.bytesLess p.1 q.1 = true then ⟨true, p.1, []⟩ :: btw n a (q :: b) else if Op.bytesLess q.1 p.1 = true then ⟨false, q.1, q.2⟩ :: btw n (p :: a) b
      else if p.2 = q.2 then btw n a b else ⟨false, q.1, q.2⟩ :: btw n a b
theorem lk_cons (p : List UInt8 × List UInt8) (r : Rows) (k : List UInt8) : lk (p :: r) k = if p.1 = k then some p.2 else lk r k := rfl
theorem ris_cons {p : List UInt8 × List UInt8} {r : Rows} (h : RisR (p :: r)) : RisR r ∧ (∀ q ∈ r, Op.bytesLess p.1 q.1 = true) := ⟨(List.pairwise_cons.1 h).2, (List.pairwise_cons.1 h).1⟩
/-- below the first row there is none -/
theorem lk_below {r : Rows} {k : List UInt8} (h : ∀ q ∈ r, Op.bytesLess k q.1 = true) : lk r k = none := lk_none.2 fun p hp e => by have := h p hp; rw [e, tl_irr] at this; cases this
def between (a b : Rows) : List BOp := btw (a.length + b.length) a b
/-- the program's: what is to go, then what is to be put, in normal form -/
def goes (a b : Rows) : List BOp := (a.filter fun p => (lk b p.1).isNone).map fun p => ⟨true, p.1, []⟩
def comes (a b : Rows) : List BOp := (b.filter fun p => decide (lk a p.1 ≠ some p.2)).map fun p => ⟨false, p.1, p.2⟩
end Go.Proofs.YtehheokalgmbgaaDoor
