/-
  Jou0.
-/
import Derived.Test.YtnbgcimalpdfoaaGreatDoorQBQ
import Derived.Deep.Upon
import Derived.Great.BuildSlice
/-
  Rules for buffers of bytes whose row may be marked, for literals of bytes, for rows.
-/
namespace Go.Proofs.YtnbgcimalpdfoaaGreatDoor
open Go Go.RowKit
/-- a buffer of bytes of one's own -/
def bufOk (o : Option Obj) (n c : Nat) (l : List UInt8) (e : TypeId) : Prop :=
  ∃ cur lo hi, o = some (.cells cur e (lo, hi)) ∧ (hi ≤ lo ∨ cur.size ≤ lo) ∧ l.length = n ∧ n ≤ c ∧ cur.size = c ∧ cur.toList.take n = bvs l
def bufP (g n c : Nat) (l : List UInt8) (e : TypeId) : SP := ⟨9, g, fun h => bufOk (h g) n c l e⟩
theorem bufP_up {g n c : Nat} {l : List UInt8} {e : TypeId} : ∀ h k, Hl.le h k → (bufP g n c l e).ok h → (bufP g n c l e).ok k := fun _ _ le ⟨cur, lo, hi, q, r⟩ => ⟨cur, lo, hi, le _ _ q, r⟩
theorem lay_cons (cs : List Value) (o : Nat) (v : Value) (vs : List Value) (h : o < cs.length) : lay (cs.set o v) (o + 1) vs = lay cs o (v :: vs) := by
  have e := List.set_eq_take_append_cons_drop (l := cs) (i := o) (a := v)
  rw [if_pos h] at e
  have hl : (cs.take o).length = o := by rw [List.length_take]; omega
  have t1 : (cs.set o v).take (o + 1) = cs.take o ++ [v] := by
    rw [e, List.take_append, List.take_of_length_le (by omega), hl, show o + 1 - o = 1 by omega]
    rfl
  have t2 : (cs.set o v).drop (o + 1 + vs.length) = cs.drop (o + (vs.length + 1)) := by
    rw [List.drop_set_of_lt (by omega)]
    congr 1
    omega
  unfold lay
  rw [t1, t2]
  simp
theorem setCells_heap (b : Nat) (T : TypeId) (fz : Nat × Nat) : ∀ (vs : List Value) (o : Nat) (cs : List Value) (w : World), w.heap[b]? = some (.cells cs.toArray T fz) → o + vs.length ≤ cs.length →
    (w.setCells b o vs).heap[b]? = some (.cells (lay cs o vs).toArray T fz) ∧ (∀ k, k ≠ b → (w.setCells b o vs).heap[k]? = w.heap[k]?) ∧ (w.setCells b o vs).os = w.os ∧ (w.setCells b o vs).tape = w.tape ∧ (w.setCells b o vs).output = w.output ∧ (w.setCells b o vs).heap.size = w.heap.size := by
  intro vs
  induction vs with
  | nil => intro o cs w h _; rw [lay_nil]; exact ⟨h, fun _ _ => rfl, rfl, rfl, rfl, rfl⟩
  | cons v vs ih =>
    intro o cs w h hl
    rw [List.length_cons] at hl
    have hh : (w.setCell ⟨b, o, none⟩ v).heap[b]? = some (.cells (cs.set o v).toArray T fz) := by
      rw [setCell_eq_setRow w b o _ _ _ v h, setRow_heap w b _ _ _ _ h]
      simp
    obtain ⟨i1, i2, i3, i4, i5, i6⟩ := ih (o + 1) (cs.set o v) (w.setCell ⟨b, o, none⟩ v) hh (by rw [List.length_set]; omega)
    rw [lay_cons _ _ _ _ (by omega)] at i1
    exact ⟨i1, fun k hk => (i2 k hk).trans (heap_setCell_other w ⟨b, o, none⟩ k v hk), i3, i4, i5, i6.trans (by simp [World.setCell])⟩
section
variable {P : Program} {W : World} {n d : Nat} {E : Env} {H H' R : List SP} {s t u e : TypeId} {x y : Operand} {k : KK} {T : TypeId} {b off : Nat}
theorem Ev_shl_w {kd yk : IntKind} {i j r : Int} (hx : Env.ev E x = some (.int kd i)) (hy : Env.ev E y = some (.int yk j)) (hj : 0 ≤ j) (h : kd.wrap (i * 2 ^ (min j.toNat kd.bits)) = r) : Ev P W n E H (.binOp .shl t x y u) (.int kd r) := by subst h; exact Ev_shl hx hy hj
/-- []byte(s), as a buffer -/
theorem KJ_bufOf {l : List UInt8} (hx : Env.ev E x = some (strV l)) [hs : UIs P s .string] [ht : UIs P t (.slice e)] [he : UIs P e (.int .u8)] (hn : Nat.blt d n = true)
    (h : ∀ g c, KJ W n k ((d, .slice (some ⟨g, 0, none⟩) l.length c) :: E) (bufP g l.length c l e :: H)) : KJ W n (.oper P (.convert s t x) (some d) k) E H := by
  refine ⟨fun a w p q o ho hd => ?_⟩
  have hr := run_bytes_of_string w s t e ⟨l.toArray⟩ hs.h ht.h he.h
  obtain ⟨c, hc⟩ : ∃ c, c = grownCap w (⟨l.toArray⟩ : ByteArray).size 0 e := ⟨_, rfl⟩
  have hge : l.length ≤ c := by rw [hc]; exact grownCap_ge w _ 0 e
  rw [← hc] at hr
  obtain ⟨cs, hcs⟩ : ∃ cs : List Value, cs = bvs l ++ List.replicate (c - l.length) (.int .u8 0) := ⟨_, rfl⟩
  have hrow : bytesRow ⟨l.toArray⟩ c = cs.toArray := by
    rw [hcs]
    unfold bytesRow
    apply Array.ext'
    simp [bvs, bv, ByteArray.size]
  have hcl : cs.length = c := by rw [hcs]; simp [bvs]; omega
  rw [hrow] at hr
  show uponP P o a _ ((execOp a.eval o).run P w)
  have e2 : (execOp a.eval o).run P w = .ok (.value (.slice (some ⟨w.heap.size, 0, none⟩) l.length c)) (w.drew.alloc (.cells cs.toArray e (cs.length, cs.length + 1))) := by
    have e3 : (convert s t (strV l)).run P w = .ok (.slice (some ⟨w.heap.size, 0, none⟩) l.length c) (w.drew.alloc (.cells cs.toArray e (cs.length, cs.length + 1))) := by
      have := hr
      simpa [strV, ByteArray.size] using this
    simp only [execOp, ho, p.ev hx, Sem.run_bind, e3, Result.andThen_ok, Sem.run_pure]
  rw [e2]
  have st : St W (bufP w.heap.size l.length c l e :: (H ++ dm a.defers)) (w.drew.alloc (.cells cs.toArray e (cs.length, cs.length + 1))) := by
    refine St.act (A := []) (B := [bufP w.heap.size l.length c l e]) (H := H ++ dm a.defers) q rfl rfl rfl (by show w.heap.size ≤ (w.heap.push _).size; simp) ?_
    intro h1 _ _
    refine ⟨Hl.one w.heap.size (.cells cs.toArray e (cs.length, cs.length + 1)), starL_one ⟨cs.toArray, cs.length, cs.length + 1, Hl.one_self _ _, .inr (by simp), rfl, hge, by simpa using hcl, ?_⟩, fun k x hx => ?_, fun k x hx => ?_, fun k hk _ => Below.heap_alloc _ _ _ hk⟩
    · rw [hcs]
      show (bvs l ++ _).take l.length = _
      rw [List.take_left' (bvs_length' l)]
    · obtain ⟨rfl, rfl⟩ := Hl.one_some hx; exact heap_alloc_new w.drew _
    · obtain ⟨rfl, rfl⟩ := Hl.one_some hx; exact .inr (Nat.le_refl _)
  have := (h w.heap.size c).go _ _ (p.put (d := some d) hn _) st
  rw [← hd] at this
  exact this
theorem St.buf {w : World} {g m c : Nat} {l : List UInt8} (q : St W H w) (hs : Sel (bufP g m c l e) H R) : bufOk w.heap[g]? m c l e := by
  obtain ⟨h, ⟨cur, lo, hi, q1, r⟩, ls⟩ := q.sel hs bufP_up
  exact ⟨cur, lo, hi, (ls _ _ q1).2, r⟩
/-- string(b) of it -/
theorem Ev_bytesBuf {g m c : Nat} {l : List UInt8} (hx : Env.ev E x = some (.slice (some ⟨g, 0, none⟩) m c)) [hs : UIs P s (.slice e)] [he : UIs P e (.int .u8)] [hd : UIs P u .string] (hsel : Sel (bufP g m c l e) H R) : Ev P W n E H (.convert s u x) (strV l) :=
  Ev.mk fun o ho a w p q => by
    obtain ⟨cur, lo, hi, hh, _, hm, hmc, hsz, htk⟩ := q.buf hsel
    subst hm
    have hr := run_convert_bytes_back (P := P) w s u e ⟨g, 0, none⟩ c l hs.h he.h hd.h (fun j hj => by
      rw [Addr.add_mid, Nat.zero_add, cell_of_row w g j _ _ _ hh]
      have h2 : (cur.toList.take l.length)[j]? = some (bv l[j]) := by rw [htk]; simp [bvs, hj]
      rw [List.getElem?_take, if_pos hj] at h2
      simpa [bv] using h2)
    simp only [execOp, ho, p.ev hx, Sem.run_bind, hr, Result.andThen_ok, Sem.run_pure]
/-- append(b, s...) to it -/
theorem KJ_appendBuf {g m c : Nat} {l r : List UInt8} (hx : Env.ev E x = some (.slice (some ⟨g, 0, none⟩) m c)) (hy : Env.ev E y = some (strV r)) [hu : UIs P t (.slice e)] [hstr : UIs P u .string] [hs : SzIs P e 1] [hb : ByIs P e 1] [hz : ZcIs P e [.int .u8 0]] (hsel : Sel (bufP g m c l e) H R)
    (hbd : m + r.length ≤ 140737488355328) (hn : Nat.blt d n = true)
    (h : ∀ g' c', KJ W n k ((d, .slice (some ⟨g', 0, none⟩) (m + r.length) c') :: E) (bufP g' (m + r.length) c' (l ++ r) e :: R)) : KJ W n (.oper P (.call { callee := .builtin .append, args := #[x, y], argTypes := #[t, u] }) (some d) k) E H := by
  refine ⟨fun a w p q o ho hd => ?_⟩
  replace hsel := hsel.app (dm a.defers)
  have hz := hz.h
  have hs := hs.h
  have hb := hb.h
  cases hq : P.info? e with
  | none => simp [hq] at hz
  | some it =>
    simp [hq] at hz hs hb
    obtain ⟨zv, hz1, hz2⟩ := hz
    obtain ⟨cur, lo, hi, hh, hfz, hm, hmc, hsz, htk⟩ := q.buf hsel
    have hcell : ∀ j, w.cell? ⟨g, j, none⟩ = cur[j]? := fun j => cell_of_row w g j _ _ _ hh
    have hsrc : Go.Src P it.size u (strV r) r.length (bvs r) w := by
      have := Go.Src.ofString w hstr.h ⟨r.toArray⟩
      rw [hs]
      have e1 : byteCells ⟨r.toArray⟩ = bvs r := by simp [byteCells, bvs, bv]
      rw [e1] at this
      exact this
    have hbl := bvs_length' r
    suffices hw : ∃ g' c' w', (Builtin.append_ #[t, u] o.type #[.slice (some ⟨g, 0, none⟩) m c, strV r]).run P w = .ok (.slice (some ⟨g', 0, none⟩) (m + r.length) c') w' ∧ St W (bufP g' (m + r.length) c' (l ++ r) e :: (R ++ dm a.defers)) w' by
      obtain ⟨g', c', w', hrun, st⟩ := hw
      show uponP P o a _ ((execOp a.eval o).run P w)
      have hr2 : (execOp a.eval o).run P w = .ok (.value (.slice (some ⟨g', 0, none⟩) (m + r.length) c')) w' := by
        simp only [execOp, ho, resolve, invoke, builtin, Sem.run_bind, Sem.run_pure, Result.andThen_ok, List.map_toArray, List.map_cons, List.map_nil, p.ev hx, p.ev hy, hrun]
      rw [hr2]
      have := (h g' c').go _ w' (p.put (d := some d) hn _) st
      rw [← hd] at this
      exact this
    have q1 : St W ([bufP g m c l e] ++ (R ++ dm a.defers)) w := q.perm hsel.perm
    by_cases hroom : m + r.length ≤ c
    · have hrun := run_append_room_src (P := P) w t u o.type e it hu.h hq g 0 m c (strV r) r.length (bvs r) hsrc hroom
        (fun j hj => by rw [hcell, Array.getElem?_eq_getElem (by rw [hs]; omega)]; rfl)
        (fun j hj => by simp [World.frozen?, hh]; rw [hs]; omega)
      rw [hs, Nat.mul_one, Nat.zero_add] at hrun
      obtain ⟨i1, i2, i3, i4, i5, i6⟩ := setCells_heap g e (lo, hi) (bvs r) m cur.toList w (by simpa using hh) (by rw [hbl]; simp; omega)
      refine ⟨g, c, _, hrun, ?_⟩
      refine St.act (A := [bufP g m c l e]) (B := [bufP g (m + r.length) c (l ++ r) e]) (H := R ++ dm a.defers) q1 i3 i4 i5 (by omega) ?_
      intro h1 ⟨h, _, _, le, _, ⟨cur2, lo2, hi2, hg2, _⟩, _⟩ ls
      have hlen : (lay cur.toList m (bvs r)).length = cur.size := by rw [lay_length _ _ _ (by rw [hbl]; simp; omega)]; simp
      refine ⟨Hl.one g (.cells (lay cur.toList m (bvs r)).toArray e (lo, hi)), starL_one ⟨_, lo, hi, Hl.one_self _ _, ?_, ?_, hroom, ?_, ?_⟩, fun k x hx => ?_, fun k x hx => ?_, fun k _ hn => i2 k ?_⟩
      · rcases hfz with q | q
        · exact .inl q
        · right; simp [hlen]; exact q
      · rw [List.length_append, hm]
      · simp [hlen]; exact hsz
      · show (lay cur.toList m (bvs r)).take (m + r.length) = _
        unfold lay
        rw [← List.append_assoc, List.take_left' (by rw [List.length_append, List.length_take, hbl]; simp; omega), htk]
        simp [bvs]
      · obtain ⟨rfl, rfl⟩ := Hl.one_some hx; exact i1
      · obtain ⟨rfl, rfl⟩ := Hl.one_some hx; exact .inl ⟨_, le _ _ hg2⟩
      · intro e1; subst e1; rw [le _ _ hg2] at hn; cases hn
    · have hold : (Builtin.firstCells it.size m (.slice (some ⟨g, 0, none⟩) m c)).run P w.drew = .ok (bvs l).toArray w.drew :=
        run_firstCells_some w.drew it.size m ⟨g, 0, none⟩ m c (bvs l) (by rw [bvs_length', hs]; omega) (fun j u hj => by
          have hj2 : j < l.length := by have := (List.getElem?_eq_some_iff.1 hj).1; rwa [bvs_length'] at this
          show w.cell? (Addr.add ⟨g, 0, none⟩ j) = some u
          rw [Addr.add_mid, Nat.zero_add, hcell]
          rw [← htk, List.getElem?_take, if_pos (by omega)] at hj
          simpa using hj)
      have hrun := run_append_grow_src (P := P) w t u o.type e it zv hu.h hq hz1 (some ⟨g, 0, none⟩) m c (bvs l) hold (strV r) r.length (bvs r) hsrc (by omega) (by omega) (by rw [hb]; exact growslice_fits (by omega) (by omega))
      have hge := grownCap_ge w (m + r.length) c e
      refine ⟨_, _, _, hrun, ?_⟩
      obtain ⟨cs, hcs⟩ : ∃ cs : List Value, cs = (bvs l ++ bvs r) ++ (Builtin.zeroCells zv.cells (grownCap w (m + r.length) c e - (m + r.length))).toList := ⟨_, rfl⟩
      have hzc : (Builtin.zeroCells zv.cells (grownCap w (m + r.length) c e - (m + r.length))).size = grownCap w (m + r.length) c e - (m + r.length) := by
        unfold Builtin.zeroCells
        simp [hz2]
      have hca : (bvs l ++ bvs r).toArray ++ Builtin.zeroCells zv.cells (grownCap w (m + r.length) c e - (m + r.length)) = cs.toArray := by
        rw [hcs]; apply Array.ext'; simp
      rw [hca]
      have hcl : cs.length = grownCap w (m + r.length) c e := by rw [hcs]; simp [bvs, hzc]; omega
      refine St.act (A := [bufP g m c l e]) (B := [bufP w.heap.size (m + r.length) (grownCap w (m + r.length) c e) (l ++ r) e]) (H := R ++ dm a.defers) q1 rfl rfl rfl (by show w.heap.size ≤ (w.heap.push _).size; simp) ?_
      intro h1 _ ls
      refine ⟨Hl.one w.heap.size (.cells cs.toArray e), starL_one ⟨_, 0, 0, Hl.one_self _ _, .inl (Nat.le_refl _), by rw [List.length_append, hm], hge, by simpa using hcl, ?_⟩, fun k x hx => ?_, fun k x hx => ?_, fun k hk _ => Below.heap_alloc _ _ _ hk⟩
      · show cs.take (m + r.length) = _
        rw [hcs, List.take_left' (by rw [List.length_append, bvs_length', bvs_length']; omega)]
        simp [bvs]
      · obtain ⟨rfl, rfl⟩ := Hl.one_some hx; exact heap_alloc_new w.drew _
      · obtain ⟨rfl, rfl⟩ := Hl.one_some hx; exact .inr (Nat.le_refl _)
end
end Go.Proofs.YtnbgcimalpdfoaaGreatDoor
