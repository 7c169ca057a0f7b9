/-
  Cells.
-/
import Derived.Test.YtmlnegmabfnaaaaBAD
import Derived.Test.YtmlnegmabfnaaaaBAF
/-
  The operations' rules: loads, stores, new blocks, addresses, slices.
-/
namespace Go.Proofs.Ytmlnegmabfnaaaa
open Go Go.RowKit
/-- the m cells of cs from k on -/
inductive Cut : List Value → Nat → Nat → List Value → Prop
  | nil {cs : List Value} : Cut cs 0 0 []
  | cons {c : Value} {cs vs : List Value} {m : Nat} : Cut cs 0 m vs → Cut (c :: cs) 0 (m + 1) (c :: vs)
  | skip {c : Value} {cs vs : List Value} {k m : Nat} : Cut cs k m vs → Cut (c :: cs) (k + 1) m vs
theorem Cut.spec {cs vs : List Value} {k m : Nat} (h : Cut cs k m vs) : vs.length = m ∧ ∀ j v, vs[j]? = some v → cs[k + j]? = some v := by
  induction h with
  | nil => exact ⟨rfl, fun j v h => by simp at h⟩
  | cons _ ih =>
    refine ⟨by simp [ih.1], fun j v h => ?_⟩
    cases j with
    | zero => simpa using h
    | succ j => have := ih.2 j v (by simpa using h); rw [← this]; simp
  | skip _ ih =>
    refine ⟨ih.1, fun j v h => ?_⟩
    have := ih.2 j v h
    rw [← this, Nat.add_right_comm]; simp
theorem Cut.of {cs : List Value} {k m : Nat} (h : k + m ≤ cs.length) : Cut cs k m ((cs.drop k).take m) := by
  induction cs generalizing k m with
  | nil => simp at h; obtain ⟨rfl, rfl⟩ := h; exact .nil
  | cons c cs ih =>
    cases k with
    | zero =>
      cases m with
      | zero => simpa using Cut.nil
      | succ m => simpa using Cut.cons (ih (k := 0) (m := m) (by simp at h ⊢; omega))
    | succ k => simpa using Cut.skip (ih (k := k) (m := m) (by simp at h ⊢; omega))
/-- cs with vs laid over it from k on -/
inductive Laid : List Value → Nat → List Value → List Value → Prop
  | nil {cs : List Value} : Laid cs 0 [] cs
  | cons {c v : Value} {cs vs cs' : List Value} : Laid cs 0 vs cs' → Laid (c :: cs) 0 (v :: vs) (v :: cs')
  | skip {c : Value} {cs vs cs' : List Value} {k : Nat} : Laid cs k vs cs' → Laid (c :: cs) (k + 1) vs (c :: cs')
theorem Laid.spec {cs vs cs' : List Value} {k : Nat} (h : Laid cs k vs cs') : k + vs.length ≤ cs.length ∧ cs' = lay cs k vs := by
  induction h with
  | nil => simp [lay]
  | cons _ ih => obtain ⟨a, rfl⟩ := ih; simp at a ⊢; exact ⟨a, by simp [lay]⟩
  | skip _ ih => obtain ⟨a, rfl⟩ := ih; simp at a ⊢; exact ⟨by omega, by simp [lay, Nat.add_right_comm]⟩
theorem Laid.of {cs vs : List Value} {k : Nat} (h : k + vs.length ≤ cs.length) : Laid cs k vs (lay cs k vs) := by
  induction cs generalizing k vs with
  | nil => simp at h; obtain ⟨rfl, rfl⟩ := h; simpa [lay] using Laid.nil
  | cons c cs ih =>
    cases k with
    | zero =>
      cases vs with
      | nil => simpa [lay] using Laid.nil
      | cons v vs => simpa [lay] using Laid.cons (c := c) (v := v) (ih (k := 0) (vs := vs) (by simp at h ⊢; omega))
    | succ k =>
      have := Laid.skip (c := c) (ih (k := k) (vs := vs) (by simp at h ⊢; omega))
      simpa [lay, Nat.add_right_comm] using this
inductive Ones : List Value → Prop
  | nil : Ones []
  | cons {v : Value} {vs : List Value} : v.oneCell' = true → Ones vs → Ones (v :: vs)
theorem Ones.all {vs : List Value} (h : Ones vs) : ∀ v ∈ vs, v.oneCell' = true := by
  induction h with
  | nil => intro v h; cases h
  | cons a _ ih => intro v h; rcases List.mem_cons.1 h with h | h; subst h; exact a; exact ih v h
theorem Ones.of {vs : List Value} (h : ∀ v ∈ vs, v.oneCell' = true) : Ones vs := by
  induction vs with
  | nil => exact .nil
  | cons v vs ih => exact .cons (h v (by simp)) (ih fun u hu => h u (by simp [hu]))
theorem Ones_bvs (l : List UInt8) : Ones (bvs l) := .of (bvs_one l)
theorem xC {cs vs : List Value} {k m : Nat} (h : Cut cs k m vs := by (repeat' (first | exact Cut.nil | apply Cut.cons | apply Cut.skip)); first | done | fail) : Cut cs k m vs := h
theorem xL {cs vs cs' : List Value} {k : Nat} (h : Laid cs k vs cs' := by (repeat' (first | exact Laid.nil | apply Laid.cons | apply Laid.skip)); first | done | fail) : Laid cs k vs cs' := h
theorem xO {vs : List Value} (h : Ones vs := by (repeat' (first | exact Ones.nil | exact Ones_bvs _ | refine Ones.cons rfl ?_)); first | done | fail) : Ones vs := h
/-- a value's cells as a list -/
inductive CellsOf : Value → List Value → Prop
  | agg {vs : List Value} : CellsOf (.agg vs.toArray) vs
  | one {v : Value} : v.oneCell' = true → CellsOf v [v]
theorem xF {v : Value} {vs : List Value} (h : CellsOf v vs := by first | exact CellsOf.agg | exact CellsOf.one rfl) : CellsOf v vs := h
theorem CellsOf.spec {v : Value} {vs : List Value} (h : CellsOf v vs) : v.cells = vs.toArray := by
  cases h with
  | agg => rfl
  | one h => cases v <;> first | rfl | (simp [Value.oneCell'] at h)

section
variable {P : Program} {W : World} {n : Nat} {E : Env} {H H' R : List SP} {x y z : Operand} {t u T : TypeId} {d : TypeDesc} {b off : Nat}
theorem run_isAgg_of (hu : P.underlying t = some d) (w : World) : (isAgg t).run P w = .ok (isAggD d) w := by
  unfold isAgg isAggD
  cases d <;> simp [run_underlying hu]
theorem run_loadAt_one (w : World) {v : Value} (hc : w.cell? ⟨b, off, none⟩ = some v) (hu : P.underlying t = some d) (hd : isAggD d = false) : (Instr.loadAt t (.pointer (some ⟨b, off, none⟩))).run P w = .ok v w := by
  simp [Instr.loadAt, Instr.sureAddr, loadVar, run_isAgg_of hu, hd, Go.load, Sem.run, hc, Result.andThen]
theorem isRow_of (hd : isAggD d = true) : d.isRow = true := by cases d <;> simp_all [isAggD, TypeDesc.isRow]
theorem Ev_load {cs : List Value} {v : Value} (hx : Env.ev E x = some (.pointer (some ⟨b, off, none⟩))) [hu : ScIs P t] (hs : Sel (cellsP b cs T) H R) (hv : cs[off]? = some v) : Ev P W n E H (.load t x) v :=
  Ev.mk fun o ho a w p q => by
    have hc : w.cell? ⟨b, off, none⟩ = some v := by rw [(q.blk hs).2.cell]; exact hv
    obtain ⟨d, hu, hd⟩ := hu.h
    simp [execOp, ho, p.ev hx, run_loadAt_one w hc hu hd, Result.andThen]
theorem Ev_loadOld {v : Value} (hx : Env.ev E x = some (.pointer (some ⟨b, off, none⟩))) [hu : ScIs P t] (hc : W.cell? ⟨b, off, none⟩ = some v) : Ev P W n E H (.load t x) v :=
  Ev.mk fun o ho a w p q => by
    obtain ⟨d, hu, hd⟩ := hu.h
    simp [execOp, ho, p.ev hx, run_loadAt_one w (q.old hc) hu hd, Result.andThen]
theorem Ev_loadAgg {cs vs : List Value} {m : Nat} (hx : Env.ev E x = some (.pointer (some ⟨b, off, none⟩))) [hu : AgIs P t] [hi : SzIs P t m] (hs : Sel (cellsP b cs T) H R) (hv : Cut cs off m vs) : Ev P W n E H (.load t x) (.agg vs.toArray) :=
  Ev.mk fun o ho a w p q => by
    have hc : w.rangeAt b off vs := fun j v hj => by rw [(q.blk hs).2.cell]; exact hv.spec.2 j v hj
    obtain ⟨d, hu, hd⟩ := hu.h
    have := run_loadAt_mid (P := P) w b off t vs d hc hu (isRow_of hd) (by rw [hv.spec.1]; exact hi.h)
    simp [execOp, ho, p.ev hx, this, Result.andThen]
theorem St.oldRange {w : World} (q : St W H w) {vs : List Value} (hc : W.rangeAt b off vs) : w.rangeAt b off vs := fun j v hj => q.old (hc j v hj)
/-- addresses -/
theorem Ev_field {f ft off' s : Nat} (hx : Env.ev E x = some (.pointer (some ⟨b, off, none⟩))) [hu : FldIs P t f ft off'] [hi : SzIs P ft (s + 1)] : Ev P W n E H (.fieldAddr t x f) (.pointer (some ⟨b, off + off', none⟩)) :=
  Ev.mk fun o ho a w p _ => by
    obtain ⟨fs, fd, hq1, hf, rfl, rfl⟩ := hu.h
    have hi := hi.h
    cases hq : P.info? fd.type with
    | none => simp [hq] at hi
    | some i =>
      have hi : i.size = s + 1 := by simpa [hq] using hi
      simp [execOp, ho, p.ev hx, Instr.fieldAt, run_underlying hq1, hf, Instr.sureAddr, fieldPlace, sizeOf, typeInfo, hq, hi, Addr.add_mid]
theorem Ev_fieldVal {f ft off' : Nat} {vs : List Value} {v : Value} (hx : Env.ev E x = some (.agg vs.toArray)) [hu : FldIs P t f ft off'] [hs : ScIs P ft] (hv : vs[off']? = some v) : Ev P W n E H (.field t x f) v :=
  Ev.mk fun o ho a w p _ => by
    obtain ⟨fs, fd, hq1, hf, rfl, rfl⟩ := hu.h
    obtain ⟨d, hu', hd⟩ := hs.h
    simp [execOp, ho, p.ev hx, Instr.field, run_underlying hq1, hf, asAgg, part, run_isAgg_of hu', hd, hv, Result.andThen]
theorem Ev_indexSlice {e : TypeId} {i : Int} {k : IntKind} {m c s : Nat} (hx : Env.ev E x = some (.slice (some ⟨b, off, none⟩) m c)) (hy : Env.ev E y = some (.int k i)) [hu : UIs P t (.slice e)] [hi : SzIs P e s] (hb : 0 ≤ i ∧ i < m) : Ev P W n E H (.indexAddr t x y) (.pointer (some ⟨b, off + i.toNat * s, none⟩)) :=
  Ev.mk fun o ho a w p _ => by
    have hi := hi.h
    cases hq : P.info? e with
    | none => simp [hq] at hi
    | some j =>
      have hi : j.size = s := by simpa [hq] using hi
      simp [execOp, ho, p.ev hx, p.ev hy, Instr.indexAt, asIntOf, run_underlying hu.h, sizeOf, typeInfo, hq, hi, hb, Addr.add_mid]
theorem Ev_indexArr {e : TypeId} {i : Int} {k : IntKind} {m s : Nat} (hx : Env.ev E x = some (.pointer (some ⟨b, off, none⟩))) (hy : Env.ev E y = some (.int k i)) [hu : UIs P t (.array m e)] [hi : SzIs P e s] (hb : 0 ≤ i ∧ i < m) : Ev P W n E H (.indexAddr t x y) (.pointer (some ⟨b, off + i.toNat * s, none⟩)) :=
  Ev.mk fun o ho a w p _ => by
    have hi := hi.h
    cases hq : P.info? e with
    | none => simp [hq] at hi
    | some j =>
      have hi : j.size = s := by simpa [hq] using hi
      simp [execOp, ho, p.ev hx, p.ev hy, Instr.indexAt, asIntOf, run_underlying hu.h, sizeOf, typeInfo, hq, hi, hb, Addr.add_mid, Instr.sureAddr]
end
end Go.Proofs.Ytmlnegmabfnaaaa
