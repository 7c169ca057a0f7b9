/-
  Gnl5.
-/
import Derived.Test.YtehheokalgmbgaaDoorHBN
import Derived.Laws.OwnMore
/-
  An element is taken out of a row in place: append(v[:i], v[i+1:]...).
-/
namespace Go.Proofs.YtehheokalgmbgaaDoor
open Go Go.RowKit
section
variable {P : Program} {W : World} {n d : Nat} {E : Env} {H R : List SP} {k : KK} {t e : TypeId} {x y : Operand} {α : Type} {enc : α → List Value} {sz : Nat}
theorem EncOk.take_flat (K : EncOk enc sz) (l : List α) (i : Nat) (hi : i ≤ l.length) : (l.flatMap enc).take (i * sz) = (l.take i).flatMap enc := by
  have e : l.flatMap enc = (l.take i).flatMap enc ++ (l.drop i).flatMap enc := by rw [← List.flatMap_append, List.take_append_drop]
  have hl : ((l.take i).flatMap enc).length = i * sz := by rw [K.flat, List.length_take, Nat.min_eq_left hi]
  rw [e, List.take_left' hl]
theorem KJ_cutRow {g i c m c2 : Nat} {l : List α} (K : EncOk enc sz) (hx : Env.ev E x = some (.slice (some ⟨g, 0, none⟩) i c)) (hy : Env.ev E y = some (.slice (some (sliceA g 0 (i + 1) c sz)) m c2)) (hm : m = l.length - (i + 1)) [hu : UIs P t (.slice e)] [hs : SzIs P e sz]
    (hsel : Sel (lsP enc e sz (.slice (some ⟨g, 0, none⟩) l.length c) l) H R) (hi : i < l.length) (hc : l.length ≤ c) (hn : Nat.blt d n = true)
    (h : KJ W n k ((d, .slice (some ⟨g, 0, none⟩) (l.eraseIdx i).length c) :: E) (lsP enc e sz (.slice (some ⟨g, 0, none⟩) (l.eraseIdx i).length c) (l.eraseIdx i) :: R)) : KJ W n (.oper P (.call { callee := .builtin .append, args := #[x, y], argTypes := #[t, t] }) (some d) k) E H := by
  subst hm
  refine ⟨fun a w p s o ho hd => ?_⟩
  have hs := hs.h
  replace hsel := hsel.app (dm a.defers)
  have hrow := s.row hsel
  cases hq : P.info? e with
  | none => simp [hq] at hs
  | some it =>
    simp [hq] at hs
    have hlen : (l.eraseIdx i).length = i + (l.length - (i + 1)) := by rw [List.length_eraseIdx, if_pos hi]; omega
    have hflat : (l.eraseIdx i).flatMap enc = (l.take i).flatMap enc ++ (l.drop (i + 1)).flatMap enc := by rw [List.eraseIdx_eq_take_drop_succ, List.flatMap_append]
    rcases hrow.2 with ⟨q, _⟩ | ⟨g', cap, cur, hv, hbg, hh, hle, hml, hsz, htk⟩
    · cases q
    cases hv
    have hpre : w.ownsRow W.heap.size e sz (.slice (some ⟨g, 0, none⟩) i c) i ((l.take i).flatMap enc) := by
      refine ⟨by rw [K.flat, List.length_take, Nat.min_eq_left (by omega)], .inr ⟨g, c, cur, rfl, hbg, hh, by omega, hml, hsz, ?_⟩⟩
      have h2 := congrArg (List.take (i * sz)) htk
      rw [K.take_flat l i (by omega), List.take_take, Nat.min_eq_left (Nat.mul_le_mul_right _ (by omega))] at h2
      exact h2
    obtain ⟨w', hrun, hown, hgrow⟩ := run_append_fits (P := P) w W.heap.size t o.type e it sz hu.h hq hs g i c _ hpre (sliceA g 0 (i + 1) c sz) (l.length - (i + 1)) c2 ((l.drop (i + 1)).flatMap enc) (by rw [K.flat, List.length_drop]) (fun j u hj => by
      have hlt : i + 1 < l.length := by
        rcases Nat.lt_or_ge (i + 1) l.length with h | h
        · exact h
        · rw [List.drop_of_length_le h] at hj; simp at hj
      have := hrow.cells (g := g) rfl _ u (K.drop_at (by omega) hj)
      unfold sliceA
      rw [if_neg (by omega), Addr.add_mid]
      rw [Addr.add_mid] at this
      rwa [Nat.zero_add] at this ⊢) (K.all _).all (by omega)
    rw [← hlen, ← hflat] at hown
    rw [← hlen] at hrun
    show uponP P o a _ ((execOp a.eval o).run P w)
    have hr2 : (execOp a.eval o).run P w = .ok (.value (.slice (some ⟨g, 0, none⟩) (l.eraseIdx i).length c)) w' := by
      simp only [execOp, ho, resolve, invoke, builtin, Sem.run_bind, Sem.run_pure, Result.andThen_ok, List.map_toArray, List.map_cons, List.map_nil, p.ev hx, p.ev hy, hrun]
    rw [hr2]
    have st : St W (lsP enc e sz (.slice (some ⟨g, 0, none⟩) (l.eraseIdx i).length c) (l.eraseIdx i) :: (R ++ dm a.defers)) w' := by
      obtain ⟨g1, g2, dj, hA, hH, l1, l2⟩ := (show St W ([lsP enc e sz (.slice (some ⟨g, 0, none⟩) l.length c) l] ++ (R ++ dm a.defers)) w from s.perm hsel.perm).split
      have hold : ∃ o, g1 g = some o := by
        obtain ⟨ha, _, _, le, _, ⟨_, hd⟩, _⟩ := hA
        rcases hd with ⟨hv0, _⟩ | ⟨g'', cap', cur', hv0, hh0, _⟩
        · cases hv0
        · cases hv0; exact ⟨_, le _ _ hh0⟩
      rcases hown.2 with ⟨q, _⟩ | ⟨g', cap, cur', hv, hbase, hh', hrest⟩
      · cases q
      · cases hv
        refine St.join (B := [lsP enc e sz (.slice (some ⟨g, 0, none⟩) (l.eraseIdx i).length c) (l.eraseIdx i)]) (g := Hl.one g (.cells cur' e (0, 0))) s.below dj hH l1 l2 (starL_one ⟨hown.1, .inr ⟨g, c, cur', rfl, Hl.one_self _ _, hrest⟩⟩) hgrow.os hgrow.tape hgrow.output hgrow.size ?_ ?_ ?_
        · intro kk o q; obtain ⟨rfl, rfl⟩ := Hl.one_some q; exact hh'
        · intro kk o q; obtain ⟨rfl, rfl⟩ := Hl.one_some q; exact .inl hold
        · intro kk hk hn
          refine hgrow.block kk hk (fun e => ?_)
          cases e
          obtain ⟨o, ho⟩ := hold
          rw [hn] at ho; cases ho
    have := h.go _ w' (p.put (d := some d) hn _) st
    rw [← hd] at this
    exact this
end
end Go.Proofs.YtehheokalgmbgaaDoor
