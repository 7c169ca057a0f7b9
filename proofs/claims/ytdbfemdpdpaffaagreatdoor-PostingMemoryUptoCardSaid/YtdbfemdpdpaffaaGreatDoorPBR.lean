/-
  Gnl3.
-/
import Derived.Test.YtdbfemdpdpaffaaGreatDoorPBD
import Derived.Great.BuildSlice
/-
  Slices of several elements written out; a field of a list's thing stored; a list in a block.
-/
namespace Go.Proofs.YtdbfemdpdpaffaaGreatDoor
open Go Go.RowKit
theorem fill_congr {p q : Nat → Option (Nat × Nat)} : ∀ (ps : List (Nat × Value)) (cells : Array Value), (∀ x ∈ ps, p x.1 = q x.1) → Instr.fill p cells ps = Instr.fill q cells ps
  | [], _, _ => rfl
  | (i, v) :: ps, cells, h => by
    unfold Instr.fill
    rw [h (i, v) (by simp)]
    cases hq : q i with
    | none => rfl
    | some x =>
      obtain ⟨off, m⟩ := x
      dsimp only
      split
      · rfl
      · exact fill_congr ps _ fun x hx => h x (by simp [hx])
section
variable {P : Program} {W : World} {n d : Nat} {E : Env} {H H' R R' : List SP} {k : KK} {t u e T : TypeId} {x y z : Operand} {b off c m : Nat} {α : Type} {enc : α → List Value} {sz : Nat}
/-- []T{v, w, ..} -/
theorem KJ_bsliceN {len : Nat} {ps : List (Nat × Operand)} {pv : List (Nat × Value)} {zs base vs : List Value} {places : List (Nat × Nat)} (hp : EvP E ps pv) [hu : UIs P t (.slice e)] [hs : SzIs P e m] [hz : ZcIs P e zs]
    (hb : (List.range (len * m)).map (fun x => zs[x % zs.length]!) = base) (hpl : (pv.all fun x => decide (places[x.1]? = some (x.1 * m, m))) = true) (hf : Fills places base pv vs) (hm : 0 < len * m ∧ len * m ≤ 16777216) (hn : Nat.blt d n = true)
    (h : ∀ g, KJ W n k ((d, .slice (some ⟨g, 0, none⟩) len len) :: E) (cellsP g vs e :: H)) : KJ W n (.oper P (.buildSlice t len ps.toArray) (some d) k) E H := by
  refine ⟨fun a w p s o ho hd => ?_⟩
  have hz := hz.h
  have hs := hs.h
  cases hq : P.info? e with
  | none => simp [hq] at hz
  | some it =>
    simp [hq] at hz hs
    obtain ⟨zv, hz1, hz2⟩ := hz
    subst hs
    have e1 : (ps.toArray.map fun (i, x) => (i, a.eval x)).toList = pv := by
      rw [← hp.map p]; simp
    have hfill : Instr.fill (fun i => some (i * it.size, it.size)) ((Array.range (len * it.size)).map (zv.cells[· % zv.cells.size]!)) (ps.toArray.map fun (i, x) => (i, a.eval x)).toList = some vs.toArray := by
      have hb2 : (Array.range (len * it.size)).map (zs.toArray[· % zs.toArray.size]!) = base.toArray := by
        rw [← hb, ← Array.toList_inj]
        simp
      rw [e1, hz2, hb2, ← hf.fill]
      refine fill_congr _ _ fun x hx => ?_
      have := List.all_eq_true.1 hpl x hx
      simp only [decide_eq_true_eq] at this
      rw [List.getElem?_toArray, this]
    have hr := run_buildSlice (P := P) w t e len (ps.toArray.map fun (i, x) => (i, a.eval x)) vs.toArray it zv hu.h hq hz1 (by omega) (by omega) hfill
    show uponP P o a _ ((execOp a.eval o).run P w)
    have hr2 : (execOp a.eval o).run P w = .ok (.value (.slice (some ⟨w.heap.size, 0, none⟩) len len)) (w.alloc (.cells vs.toArray e)) := by
      simp only [execOp, ho, Sem.run_bind, Sem.run_pure, hr, Result.andThen_ok]
    rw [hr2]
    have := (h w.heap.size).go _ _ (p.put (d := some d) hn _) s.new
    rw [← hd] at this
    exact this
/-- a list that a block holds -/
theorem Lv.cells {g : Nat} {cs : List Value} {l : List α} (hc : l.flatMap enc = cs) : Lv W enc sz (cellsP g cs T) (some ⟨g, 0, none⟩) l :=
  ⟨fun w H R hs q _ => ⟨g, 0, rfl, fun j v hj => by
    subst hc
    rw [(q.blk hs).2.cell, Nat.zero_add]
    exact hj⟩⟩
end
end Go.Proofs.YtdbfemdpdpaffaaGreatDoor
