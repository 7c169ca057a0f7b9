/-
  PoO1.
-/
import Derived.Test.YtdbfemdpdpaffaaGreatDoorPDD
import Derived.Test.YtdbfemdpdpaffaaGreatDoorPBY
import Derived.Laws.MakeOwn
import Derived.ArgAppend
/-
  Rows of one's own that a list of lists tells of: one is laid open and put back; a row that is grown while its old head stays.
-/
namespace Go.Proofs.YtdbfemdpdpaffaaGreatDoor
open Go Go.RowKit Go.MapKept
theorem idx_permL {α : Type} : ∀ {l : List α} {j : Nat} {x : α}, l[j]? = some x → l.Perm (x :: l.eraseIdx j)
  | [], j, x, h => by simp at h
  | y :: l, 0, x, h => by simp at h; subst h; exact .refl _
  | y :: l, j + 1, x, h => by
    have ih := idx_permL (l := l) (j := j) (x := x) (by simpa using h)
    rw [List.eraseIdx_cons_succ]
    exact (ih.cons y).trans (.swap x y _)
theorem rows_open {In : LL} {j : Nat} {x : Option Addr × Nat × List Leg} {M : List SP} {g : Hl} (h : In[j]? = some x) (q : starL (rowsP In :: M) g) : starL (lrowP x :: rowsP (In.eraseIdx j) :: M) g := by
  have q1 := bag_open (L := In.map lrowP) q
  have p : (In.map lrowP ++ M).Perm ((In.eraseIdx j).map lrowP ++ (lrowP x :: M)) := by
    refine (((idx_permL h).map lrowP).append_right M).trans ?_
    exact List.perm_middle.symm
  have q2 := bag_shut (key := 72) (L := (In.eraseIdx j).map lrowP) (H := lrowP x :: M) (starL_perm p _ q1)
  exact starL_swap _ q2
theorem rows_put {In : LL} {j : Nat} {x y : Option Addr × Nat × List Leg} {M : List SP} {g : Hl} (h : In[j]? = some x) (q : starL (lrowP y :: rowsP (In.eraseIdx j) :: M) g) : starL (rowsP (In.set j y) :: M) g := by
  have h1 := (List.getElem?_eq_some_iff.1 h).1
  have p := idx_permL (l := In.set j y) (j := j) (x := y) (by rw [List.getElem?_set_self h1])
  rw [List.eraseIdx_set_eq] at p
  have q1 := bag_open (L := (In.eraseIdx j).map lrowP) (starL_swap _ q)
  refine bag_shut (key := 72) (L := (In.set j y).map lrowP) (starL_perm ?_ _ q1)
  exact List.perm_middle.trans ((p.map lrowP).symm.append_right M)
section
variable {P : Program} {W : World} {n d : Nat} {E : Env} {H R R' : List SP} {k : KK} {t e : TypeId} {x y : Operand} {α : Type} {enc : α → List Value} {sz : Nat}
theorem KJ.rowsOpen {In : LL} {j : Nat} {x : Option Addr × Nat × List Leg} (hx : In[j]? = some x) (h1 : Sel (rowsP In) H R) (h : KJ W n k E (lsP legC 55 2 (.slice x.1 x.2.2.length x.2.1) x.2.2 :: rowsP (In.eraseIdx j) :: R)) : KJ W n k E H :=
  ⟨fun ac w q s => h.go ac w q ((s.perm (h1.app _).perm).mono fun _ z => rows_open hx z)⟩
theorem KJ.rowsPut {In : LL} {j : Nat} {x y : Option Addr × Nat × List Leg} {z : SP} (hx : In[j]? = some x) (hy : z = lrowP y) (h1 : Pick [z, rowsP (In.eraseIdx j)] H R) (h : KJ W n k E (rowsP (In.set j y) :: R)) : KJ W n k E H := by
  subst hy
  exact ⟨fun ac w q s => h.go ac w q ((s.perm (h1.perm.append_right _)).mono fun _ z => rows_put hx z)⟩
theorem St.newRow {w w' : World} {v' : Value} {size j : Nat} {ys : List Value} (s : St W H w) (hown : w'.ownsRow w.heap.size e size v' j ys) (hg : w.grownBy w' none) : St W (rowP v' e size j ys :: H) w' := by
  refine St.act (A := []) (B := [rowP v' e size j ys]) (H := H) s hg.os hg.tape hg.output hg.size ?_
  intro h1 _ _
  obtain ⟨hl, hd⟩ := hown
  rcases hd with ⟨hv, h0⟩ | ⟨g, cap, cur, hv, hb, hh, hr⟩
  · exact ⟨fun _ => none, starL_one ⟨hl, .inl ⟨hv, h0⟩⟩, fun k o q => (by cases q), fun k o q => (by cases q), fun k hk _ => hg.block k hk (by simp)⟩
  · refine ⟨Hl.one g (.cells cur e (0, 0)), starL_one ⟨hl, .inr ⟨g, cap, cur, hv, Hl.one_self _ _, hr⟩⟩, fun k o q => ?_, fun k o q => ?_, fun k hk _ => hg.block k hk (by simp)⟩
    · obtain ⟨rfl, rfl⟩ := Hl.one_some q; exact hh
    · obtain ⟨rfl, rfl⟩ := Hl.one_some q; exact .inr hb
/-- append(v, x): in place, or in a new row with the old one as it was -/
theorem KJ_appTwo {l : List α} {b : α} {bytes g i c : Nat} {a : Option Addr} {T : TypeId} (K : EncOk enc sz) (hx : Env.ev E x = some (.slice a i c)) (hy : Env.ev E y = some (.slice (some ⟨g, 0, none⟩) 1 1)) [hu : UIs P t (.slice e)] [hs : SzIs P e sz] [hb : ByIs P e bytes] {zs : List Value} [hz : ZcIs P e zs] (hzs : zs.length = sz)
    (hi : i = l.length) (hsel : Sel (lsP enc e sz (.slice a i c) l) H R) (hsrc : Sel (cellsP g (enc b) T) H R') (hbd : (l.length + 1) * bytes ≤ 140737488355328) (hbl : l.length + 1 ≤ 9223372036854775807) (hn : Nat.blt d n = true)
    (h1 : KJ W n k ((d, .slice a (i + 1) c) :: E) (lsP enc e sz (.slice a (i + 1) c) (l ++ [b]) :: R))
    (h2 : ∀ g' c', KJ W n k ((d, .slice (some ⟨g', 0, none⟩) (i + 1) c') :: E) (lsP enc e sz (.slice (some ⟨g', 0, none⟩) (i + 1) c') (l ++ [b]) :: lsP enc e sz (.slice a i c) l :: R)) : KJ W n (.oper P (.call { callee := .builtin .append, args := #[x, y], argTypes := #[t, t] }) (some d) k) E H := by
  subst hi
  have el : (l ++ [b]).length = l.length + 1 := by simp
  have ef : (l ++ [b]).flatMap enc = l.flatMap enc ++ enc b := by simp
  refine ⟨fun ac w p s o ho hd => ?_⟩
  have hz := hz.h
  have hs := hs.h
  have hb := hb.h
  replace hsel := hsel.app (dm ac.defers)
  have hrow := s.row hsel
  have hcell : ∀ j u, (enc b)[j]? = some u → w.cell? (Addr.add ⟨g, 0, none⟩ j) = some u := fun j u hj => by
    rw [Addr.add_mid, Nat.zero_add, (s.blk (hsrc.app _)).2.cell]
    exact hj
  have hone : ∀ u ∈ enc b, u.oneCell' = true := (K.ones b).all
  cases hq : P.info? e with
  | none => simp [hq] at hz
  | some it =>
    simp [hq] at hz hs hb
    obtain ⟨zv, hz1, hz2⟩ := hz
    by_cases hroom : l.length + 1 ≤ c
    · obtain ⟨v', w', hrun, hown, hgrow, -, hloc⟩ := run_append_own_at (P := P) w W.heap.size t o.type e it zv sz bytes hu.h hq hz1 hs hb (by rw [hz2]; simpa using hzs) K.pos _ _ _ hrow ⟨g, 0, none⟩ 1 1 (enc b) (by rw [K.len]; omega) hcell hone (by unfold maxLen; omega) hbd s.size
      have hv : v' = .slice a (l.length + 1) c := by
        rcases hrow.2 with ⟨q, _⟩ | ⟨g', cap, cur, hv, hbg, hg, hnc, hcm, hcs, htake⟩
        · simp only [Value.slice.injEq] at q; omega
        · cases hv
          have hfit : l.length * it.size + (enc b).length ≤ cur.size := by
            rw [K.len, hcs, hs]
            have := Nat.mul_le_mul_right sz hroom
            rwa [Nat.add_mul, Nat.one_mul] at this
          have hr := run_append_room (P := P) w t o.type e it hu.h hq g' l.length c cur hg ⟨g, 0, none⟩ 1 1 (enc b) (by rw [K.len, hs]; omega) hcell hone hroom hfit
          rw [hrun] at hr
          simp only [Result.ok.injEq] at hr
          exact hr.1
      subst hv
      have st := s.rowStep hsel hown hgrow (fun g' hg' => by
        rcases hloc with q | q
        · left; rw [← q]; exact hg'
        · right; rw [hg'] at q; cases q; rfl)
      show uponP P o ac _ ((execOp ac.eval o).run P w)
      have hr2 : (execOp ac.eval o).run P w = .ok (.value (.slice a (l.length + 1) c)) w' := by
        simp only [execOp, ho, resolve, invoke, builtin, Sem.run_bind, Sem.run_pure, Result.andThen_ok, List.map_toArray, List.map_cons, List.map_nil, p.ev hx, p.ev hy, hrun]
      rw [hr2]
      have := h1.go _ w' (p.put (d := some d) hn _) (by unfold lsP; rw [el, ef]; exact st)
      rw [← hd] at this
      exact this
    · obtain ⟨v', w', hrun, hown, hgrow⟩ : ∃ v' w', (Builtin.append_ #[t, t] o.type #[.slice a l.length c, .slice (some ⟨g, 0, none⟩) 1 1]).run P w = .ok v' w' ∧ w'.ownsRow w.heap.size e sz v' (l.length + 1) (l.flatMap enc ++ enc b) ∧ w.grownBy w' none := by
        rcases hrow.2 with ⟨q, _⟩ | ⟨g', cap, cur, hv, hbg, hg, hnc, hcm, hcs, htake⟩
        · have hown0 : w.ownsRow w.heap.size e sz (.slice a l.length c) l.length (l.flatMap enc) := ⟨hrow.1, .inl ⟨q, by simp only [Value.slice.injEq] at q; exact q.2.1⟩⟩
          obtain ⟨v', w', r1, r2, r3, -, -⟩ := run_append_own_at (P := P) w w.heap.size t o.type e it zv sz bytes hu.h hq hz1 hs hb (by rw [hz2]; simpa using hzs) K.pos _ _ _ hown0 ⟨g, 0, none⟩ 1 1 (enc b) (by rw [K.len]; omega) hcell hone (by unfold maxLen; omega) hbd (Nat.le_refl _)
          rw [q] at r3
          exact ⟨v', w', r1, r2, r3⟩
        · cases hv
          obtain ⟨v', w', r1, r2, r3⟩ := run_append_arg_grows (P := P) w t o.type e it zv sz bytes hu.h hq hz1 hs hb (by rw [hz2]; simpa using hzs) K.pos ⟨g', 0, none⟩ l.length c (l.flatMap enc) hrow.1 (fun j u hj => hrow.cells (g := g') rfl j u hj) ⟨g, 0, none⟩ 1 1 (enc b) (by rw [K.len]; omega) hcell (by omega) (by unfold maxLen; omega) hbd
          exact ⟨v', w', r1, r2, r3⟩
      have hshape : ∃ g' c', v' = .slice (some ⟨g', 0, none⟩) (l.length + 1) c' := by
        rcases hown.2 with ⟨_, q⟩ | ⟨g', cap, cur, hv, _⟩
        · omega
        · exact ⟨g', cap, hv⟩
      obtain ⟨g', c', rfl⟩ := hshape
      have st := (s.perm hsel.perm).newRow hown hgrow
      show uponP P o ac _ ((execOp ac.eval o).run P w)
      have hr2 : (execOp ac.eval o).run P w = .ok (.value (.slice (some ⟨g', 0, none⟩) (l.length + 1) c')) w' := by
        simp only [execOp, ho, resolve, invoke, builtin, Sem.run_bind, Sem.run_pure, Result.andThen_ok, List.map_toArray, List.map_cons, List.map_nil, p.ev hx, p.ev hy, hrun]
      rw [hr2]
      have := (h2 g' c').go _ w' (p.put (d := some d) hn _) (by unfold lsP; rw [el, ef]; exact st)
      rw [← hd] at this
      exact this
/-- a row whose old head tells L, its new head m things -/
def keepF (enc : α → List Value) (e sz : Nat) (a0 : Option Addr) (n0 c0 : Nat) (L : List α) (a : Option Addr) (m c : Nat) : List α × Bool → List SP
  | (M, true) => [factP (M.length = m), lsP enc e sz (.slice a0 n0 c0) L, lsP enc e sz (.slice a m c) M]
  | (M, false) => [factP (M.length = m ∧ a = a0 ∧ c = c0 ∧ n0 = L.length ∧ n0 ≤ m ∧ M.take n0 = L), lsP enc e sz (.slice a m c) M]
def keepP (enc : α → List Value) (e sz : Nat) (a0 : Option Addr) (n0 c0 : Nat) (L : List α) (a : Option Addr) (m c : Nat) : SP := packP 74 m (keepF enc e sz a0 n0 c0 L a m c)
theorem KJ.factOpen {p : Prop} (h : p → KJ W n k E H) : KJ W n k E (factP p :: H) :=
  ⟨fun ac w q s => (h (s.fact (Sel.here.app _))).go ac w q (St.right (A := [factP p]) s)⟩
theorem fact_star {p : Prop} (hp : p) : ∀ g, starL H g → starL (factP p :: H) g := fun g q => ⟨fun _ => none, g, (fun _ _ q => by cases q), (fun _ _ q => by cases q), .rfl, hp, q⟩
theorem KJ.factPut {p : Prop} (hp : p) (h : KJ W n k E (factP p :: H)) : KJ W n k E H := ⟨fun ac w q s => h.go ac w q (s.mono (fact_star hp))⟩
theorem KJ.keepNew {a : Option Addr} {i c : Nat} {L : List α} (hi : i = L.length) (hsel : Sel (lsP enc e sz (.slice a i c) L) H R) (h : KJ W n k E (keepP enc e sz a i c L a i c :: R)) : KJ W n k E H := by
  refine KJ.perm ?_ hsel.perm
  refine KJ.factPut (p := L.length = i ∧ a = a ∧ c = c ∧ i = L.length ∧ i ≤ i ∧ L.take i = L) ⟨hi.symm, rfl, rfl, hi, Nat.le_refl _, by rw [hi, List.take_length]⟩ ?_
  exact KJ.packs (F := keepF enc e sz a i c L a i c) (L, false) (Pick.cons Sel.here (Pick.cons Sel.here Pick.nil)) h
theorem row_pre (K : EncOk enc sz) {a : Option Addr} {n0 c : Nat} {M : List α} {p : Hl} (hn : n0 ≤ M.length) (hA : (lsP enc e sz (.slice a M.length c) M).ok p) : (lsP enc e sz (.slice a n0 c) (M.take n0)).ok p := by
  have hlen : (M.take n0).length = n0 := by rw [List.length_take]; omega
  have hL : (M.take n0).flatMap enc = (M.flatMap enc).take (n0 * sz) := by
    have h : M.flatMap enc = (M.take n0).flatMap enc ++ (M.drop n0).flatMap enc := by rw [← List.flatMap_append, List.take_append_drop]
    rw [h, List.take_left' (by rw [K.flat, hlen])]
  obtain ⟨hl, hd⟩ := hA
  refine ⟨K.flat _, ?_⟩
  rcases hd with ⟨q, q2⟩ | ⟨g1, cap, cur, hv, hh, hle, hcm, hcs, htk⟩
  · simp only [Value.slice.injEq] at q
    obtain ⟨q3, q4, q5⟩ := q
    subst q3 q5
    have h0 : n0 = 0 := by omega
    subst h0
    exact .inl ⟨rfl, hlen⟩
  · simp only [Value.slice.injEq] at hv
    obtain ⟨q3, q4, q5⟩ := hv
    subst q3 q5
    rw [hlen]
    refine .inr ⟨g1, c, cur, rfl, hh, by omega, hcm, hcs, ?_⟩
    rw [hL, ← htk, List.take_take, Nat.min_eq_left (Nat.mul_le_mul_right _ (by omega))]
theorem KJ.rowPre (K : EncOk enc sz) {a : Option Addr} {n0 m c : Nat} {M : List α} (hm : m = M.length) (hn : n0 ≤ M.length) (hsel : Sel (lsP enc e sz (.slice a m c) M) H R) (h : KJ W n k E (lsP enc e sz (.slice a n0 c) (M.take n0) :: R)) : KJ W n k E H := by
  subst hm
  exact ⟨fun ac w q s => h.go ac w q ((s.perm (hsel.app _).perm).mono fun g' qq => by
    obtain ⟨p1, p2, dj, l1, l2, hA, hR⟩ := qq
    exact ⟨p1, p2, dj, l1, l2, row_pre K hn hA, hR⟩)⟩
/-- the new head is let go -/
theorem KJ.keepEnd (K : EncOk enc sz) {a0 a : Option Addr} {n0 c0 m c : Nat} {L : List α} (hsel : Sel (keepP enc e sz a0 n0 c0 L a m c) H R) (h : KJ W n k E (lsP enc e sz (.slice a0 n0 c0) L :: R)) : KJ W n k E H := by
  refine KJ.unpack_at hsel (fun ⟨M, mv⟩ => ?_)
  cases mv with
  | true =>
    refine KJ.factOpen (fun _ => ?_)
    exact ⟨fun ac w q s => h.go ac w q (by
      have s2 : St W (lsP enc e sz (.slice a m c) M :: (lsP enc e sz (.slice a0 n0 c0) L :: R ++ dm ac.defers)) w := s.perm (.swap ..)
      exact St.right (A := [lsP enc e sz (.slice a m c) M]) s2)⟩
  | false =>
    refine KJ.factOpen (fun hf => ?_)
    obtain ⟨h1, h2, h3, h4, h5, h6⟩ := hf
    subst h2 h3
    refine KJ.rowPre (n0 := n0) K h1.symm (by omega) Sel.here ?_
    rw [h6]
    exact h
/-- append under a kept head -/
theorem KJ_appKeep {L : List α} {b : α} {bytes g n0 c0 m c : Nat} {a0 a : Option Addr} {T : TypeId} (K : EncOk enc sz) (hx : Env.ev E x = some (.slice a m c)) (hy : Env.ev E y = some (.slice (some ⟨g, 0, none⟩) 1 1)) [hu : UIs P t (.slice e)] [hs : SzIs P e sz] [hb : ByIs P e bytes] {zs : List Value} [hz : ZcIs P e zs] (hzs : zs.length = sz)
    (hsel : Sel (keepP enc e sz a0 n0 c0 L a m c) H R) (hsrc : Sel (cellsP g (enc b) T) R R') (hbd : (m + 1) * bytes ≤ 140737488355328) (hbl : m + 1 ≤ 9223372036854775807) (hn : Nat.blt d n = true)
    (h : ∀ a' c', KJ W n k ((d, .slice a' (m + 1) c') :: E) (keepP enc e sz a0 n0 c0 L a' (m + 1) c' :: R)) : KJ W n (.oper P (.call { callee := .builtin .append, args := #[x, y], argTypes := #[t, t] }) (some d) k) E H := by
  refine KJ.unpack_at hsel (fun ⟨M, mv⟩ => ?_)
  cases mv with
  | true =>
    refine KJ.factOpen (fun hM => ?_)
    subst hM
    have el : (M ++ [b]).length = M.length + 1 := by simp
    refine KJ_appOne (hs := hs) (hb := hb) (hz := hz) (l := M) (a := b) K hx hy hzs (Sel.there Sel.here) (Sel.there (Sel.there hsrc)) hbd hbl hn (fun g' c' => ?_)
    rw [el]
    refine KJ.factPut (p := (M ++ [b]).length = M.length + 1) el ?_
    exact KJ.packs (F := keepF enc e sz a0 n0 c0 L (some ⟨g', 0, none⟩) (M.length + 1) c') (M ++ [b], true) (Pick.cons Sel.here (Pick.cons (Sel.there Sel.here) (Pick.cons Sel.here Pick.nil))) (h _ _)
  | false =>
    refine KJ.factOpen (fun hf => ?_)
    obtain ⟨h1, h2, h3, h4, h5, h6⟩ := hf
    subst h1 h2 h3
    have el : (M ++ [b]).length = M.length + 1 := by simp
    refine KJ_appTwo (hs := hs) (hb := hb) (hz := hz) (l := M) (b := b) K hx hy hzs rfl Sel.here (Sel.there hsrc) hbd hbl hn ?_ (fun g' c' => ?_)
    · refine KJ.factPut (p := (M ++ [b]).length = M.length + 1 ∧ a = a ∧ c = c ∧ n0 = L.length ∧ n0 ≤ M.length + 1 ∧ (M ++ [b]).take n0 = L) ⟨el, rfl, rfl, h4, by omega, by rw [List.take_append_of_le_length h5]; exact h6⟩ ?_
      exact KJ.packs (F := keepF enc e sz a n0 c L a (M.length + 1) c) (M ++ [b], false) (Pick.cons Sel.here (Pick.cons Sel.here Pick.nil)) (h _ _)
    · refine KJ.rowPre (n0 := n0) K rfl (by omega) (Sel.there Sel.here) ?_
      rw [h6]
      refine KJ.factPut (p := (M ++ [b]).length = M.length + 1) el ?_
      exact KJ.packs (F := keepF enc e sz a n0 c L (some ⟨g', 0, none⟩) (M.length + 1) c') (M ++ [b], true) (Pick.cons Sel.here (Pick.cons Sel.here (Pick.cons Sel.here Pick.nil))) (h _ _)
end
end Go.Proofs.YtdbfemdpdpaffaaGreatDoor
