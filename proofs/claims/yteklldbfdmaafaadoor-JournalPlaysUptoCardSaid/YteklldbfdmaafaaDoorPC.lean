/-
  Jou0, Bld, Sec, Sec2, Sec3, Sec4, Slo, Slo3, Rt, Ends, Errq, Are, Are2, Jou1, Jou2, Jou3, Calm, Calm8, Keep, AreL, AreT, JLe1, JRf0, JRf1, Jou4, JLe2.
-/
import Derived.Deep.Upon
import Derived.Great.BuildSlice
import Derived.Lib.Builder
import Derived.Lib.UnsafeStr
import Derived.Laws.Externs
import Derived.Test.YteklldbfdmaafaaDoorTie
import Derived.Test.YteklldbfdmaafaaDoorCards
import Derived.WalkKit
import Derived.ProofKit
import Derived.OpenShut
import Derived.Lay
import Derived.LaidLaws
import Derived.MakeChecks
import Derived.Carry
import Derived.Below
import Derived.Deep.DeepHandedRow
import Derived.Deep.Slices
import Derived.Deep.Fields
import Derived.Deep.Grids
import Derived.Lib.SmallJoins
import Derived.Lib.LaidTab
import Derived.Test.YteklldbfdmaafaaDoorPB
/-
  Rules for buffers of bytes whose row may be marked, for literals of bytes, for rows.
-/
namespace Go.Proofs.YteklldbfdmaafaaDoor
open Go Go.RowKit
/-- a buffer of bytes of one's own -/
def bufOk (o : Option Obj) (n c : Nat) (l : List UInt8) (e : TypeId) : Prop :=
  ∃ cur lo hi, o = some (.cells cur e (lo, hi)) ∧ (hi ≤ lo ∨ cur.size ≤ lo) ∧ l.length = n ∧ n ≤ c ∧ cur.size = c ∧ cur.toList.take n = bvs l
def bufP (g n c : Nat) (l : List UInt8) (e : TypeId) : SP := ⟨9, g, fun h => bufOk (h g) n c l e⟩
theorem bufP_up {g n c : Nat} {l : List UInt8} {e : TypeId} : ∀ h k, Hl.le h k → (bufP g n c l e).ok h → (bufP g n c l e).ok k := fun _ _ le ⟨cur, lo, hi, q, r⟩ => ⟨cur, lo, hi, le _ _ q, r⟩
theorem lay_cons (cs : List Value) (o : Nat) (v : Value) (vs : List Value) (h : o < cs.length) : lay (cs.set o v) (o + 1) vs = lay cs o (v :: vs) := by
  have e := List.set_eq_take_append_cons_drop (l := cs) (i := o) (a := v)
  rw [if_pos h] at e
  have hl : (cs.take o).length = o := by rw [List.length_take]; omega
  have t1 : (cs.set o v).take (o + 1) = cs.take o ++ [v] := by
    rw [e, List.take_append, List.take_of_length_le (by omega), hl, show o + 1 - o = 1 by omega]
    rfl
  have t2 : (cs.set o v).drop (o + 1 + vs.length) = cs.drop (o + (vs.length + 1)) := by
    rw [List.drop_set_of_lt (by omega)]
    congr 1
    omega
  unfold lay
  rw [t1, t2]
  simp
theorem setCells_heap (b : Nat) (T : TypeId) (fz : Nat × Nat) : ∀ (vs : List Value) (o : Nat) (cs : List Value) (w : World), w.heap[b]? = some (.cells cs.toArray T fz) → o + vs.length ≤ cs.length →
    (w.setCells b o vs).heap[b]? = some (.cells (lay cs o vs).toArray T fz) ∧ (∀ k, k ≠ b → (w.setCells b o vs).heap[k]? = w.heap[k]?) ∧ (w.setCells b o vs).os = w.os ∧ (w.setCells b o vs).tape = w.tape ∧ (w.setCells b o vs).output = w.output ∧ (w.setCells b o vs).heap.size = w.heap.size := by
  intro vs
  induction vs with
  | nil => intro o cs w h _; rw [lay_nil]; exact ⟨h, fun _ _ => rfl, rfl, rfl, rfl, rfl⟩
  | cons v vs ih =>
    intro o cs w h hl
    rw [List.length_cons] at hl
    have hh : (w.setCell ⟨b, o, none⟩ v).heap[b]? = some (.cells (cs.set o v).toArray T fz) := by
      rw [setCell_eq_setRow w b o _ _ _ v h, setRow_heap w b _ _ _ _ h]
      simp
    obtain ⟨i1, i2, i3, i4, i5, i6⟩ := ih (o + 1) (cs.set o v) (w.setCell ⟨b, o, none⟩ v) hh (by rw [List.length_set]; omega)
    rw [lay_cons _ _ _ _ (by omega)] at i1
    exact ⟨i1, fun k hk => (i2 k hk).trans (heap_setCell_other w ⟨b, o, none⟩ k v hk), i3, i4, i5, i6.trans (by simp [World.setCell])⟩
section
variable {P : Program} {W : World} {n d : Nat} {E : Env} {H H' R : List SP} {s t u e : TypeId} {x y : Operand} {k : KK} {T : TypeId} {b off : Nat}
theorem Ev_shr_w {kd yk : IntKind} {i j r : Int} (hx : Env.ev E x = some (.int kd i)) (hy : Env.ev E y = some (.int yk j)) (hj : 0 ≤ j) (h : i.fdiv (2 ^ (min j.toNat kd.bits)) = r) : Ev P W n E H (.binOp .shr t x y u) (.int kd r) := by subst h; exact Ev_shr hx hy hj
theorem Ev_shl_w {kd yk : IntKind} {i j r : Int} (hx : Env.ev E x = some (.int kd i)) (hy : Env.ev E y = some (.int yk j)) (hj : 0 ≤ j) (h : kd.wrap (i * 2 ^ (min j.toNat kd.bits)) = r) : Ev P W n E H (.binOp .shl t x y u) (.int kd r) := by subst h; exact Ev_shl hx hy hj
/-- a block seen as a row -/
theorem KJ.toRow {g m size : Nat} {vs : List Value} (hs : Sel (cellsP g vs e) H R) (hl : vs.length = m * size) (hm : m ≤ maxLen) (h : KJ W n k E (rowP (.slice (some ⟨g, 0, none⟩) m m) e size m vs :: R)) : KJ W n k E H :=
  ⟨fun a w q s => h.go a w q ((s.perm (hs.app _).perm).mono fun g' ⟨h1, h2, dj, l1, l2, a1, a2⟩ => ⟨h1, h2, dj, l1, l2, ⟨hl, .inr ⟨g, m, vs.toArray, rfl, a1, Nat.le_refl _, hm, by simpa using hl, by rw [← hl]; simp⟩⟩, a2⟩)⟩
/-- five bytes -/
theorem KJ_bytes5 {x0 x1 x2 x3 x4 : Operand} {v0 v1 v2 v3 v4 : UInt8} (h0 : Env.ev E x0 = some (.int .u8 (v0.toNat : Int))) (h1 : Env.ev E x1 = some (.int .u8 (v1.toNat : Int))) (h2 : Env.ev E x2 = some (.int .u8 (v2.toNat : Int))) (h3 : Env.ev E x3 = some (.int .u8 (v3.toNat : Int))) (h4 : Env.ev E x4 = some (.int .u8 (v4.toNat : Int)))
    [hu : UIs P t (.slice e)] [hs : SzIs P e 1] {zs : List Value} [hz : ZcIs P e zs] (hn : Nat.blt d n = true) (h : ∀ g, KJ W n k ((d, .slice (some ⟨g, 0, none⟩) 5 5) :: E) (cellsP g (bvs [v0, v1, v2, v3, v4]) e :: H)) :
    KJ W n (.oper P (.buildSlice t 5 #[(0, x0), (1, x1), (2, x2), (3, x3), (4, x4)]) (some d) k) E H := by
  refine ⟨fun a w p s o ho hd => ?_⟩
  have hz := hz.h
  have hs := hs.h
  cases hq : P.info? e with
  | none => simp [hq] at hz
  | some it =>
    simp [hq] at hz hs
    obtain ⟨zv, hz1, hz2⟩ := hz
    have hf : Instr.fill (fun i => some (i * it.size, it.size)) ((Array.range (5 * it.size)).map (zv.cells[· % zv.cells.size]!)) [(0, bv v0), (1, bv v1), (2, bv v2), (3, bv v3), (4, bv v4)] = some (bvs [v0, v1, v2, v3, v4]).toArray := by
      rw [hs]
      exact Great.fill_flat (bvs [v0, v1, v2, v3, v4]) _ (fun v hv => by obtain ⟨c, _, rfl⟩ := List.mem_map.1 hv; rfl) (by simp [bvs])
    have hr := run_buildSlice (P := P) w t e 5 #[(0, bv v0), (1, bv v1), (2, bv v2), (3, bv v3), (4, bv v4)] _ it zv hu.h hq hz1 (by rw [hs]; omega) (by rw [hs]; omega) hf
    show uponP P o a _ ((execOp a.eval o).run P w)
    have hr2 : (execOp a.eval o).run P w = .ok (.value (.slice (some ⟨w.heap.size, 0, none⟩) 5 5)) (w.alloc (.cells (bvs [v0, v1, v2, v3, v4]).toArray e)) := by
      simp only [bv] at hr
      simp only [execOp, ho, List.map_toArray, List.map_cons, List.map_nil, p.ev h0, p.ev h1, p.ev h2, p.ev h3, p.ev h4, Sem.run_bind, Sem.run_pure, Result.andThen_ok, hr]
    rw [hr2]
    have := (h w.heap.size).go _ _ (p.put (d := some d) hn _) s.new
    rw [← hd] at this
    exact this
/-- []byte(s), as a buffer -/
theorem KJ_bufOf {l : List UInt8} (hx : Env.ev E x = some (strV l)) [hs : UIs P s .string] [ht : UIs P t (.slice e)] [he : UIs P e (.int .u8)] (hn : Nat.blt d n = true)
    (h : ∀ g c, KJ W n k ((d, .slice (some ⟨g, 0, none⟩) l.length c) :: E) (bufP g l.length c l e :: H)) : KJ W n (.oper P (.convert s t x) (some d) k) E H := by
  refine ⟨fun a w p q o ho hd => ?_⟩
  have hr := run_bytes_of_string w s t e ⟨l.toArray⟩ hs.h ht.h he.h
  obtain ⟨c, hc⟩ : ∃ c, c = grownCap w (⟨l.toArray⟩ : ByteArray).size 0 e := ⟨_, rfl⟩
  have hge : l.length ≤ c := by rw [hc]; exact grownCap_ge w _ 0 e
  rw [← hc] at hr
  obtain ⟨cs, hcs⟩ : ∃ cs : List Value, cs = bvs l ++ List.replicate (c - l.length) (.int .u8 0) := ⟨_, rfl⟩
  have hrow : bytesRow ⟨l.toArray⟩ c = cs.toArray := by
    rw [hcs]
    unfold bytesRow
    apply Array.ext'
    simp [bvs, bv, ByteArray.size]
  have hcl : cs.length = c := by rw [hcs]; simp [bvs]; omega
  rw [hrow] at hr
  show uponP P o a _ ((execOp a.eval o).run P w)
  have e2 : (execOp a.eval o).run P w = .ok (.value (.slice (some ⟨w.heap.size, 0, none⟩) l.length c)) (w.drew.alloc (.cells cs.toArray e (cs.length, cs.length + 1))) := by
    have e3 : (convert s t (strV l)).run P w = .ok (.slice (some ⟨w.heap.size, 0, none⟩) l.length c) (w.drew.alloc (.cells cs.toArray e (cs.length, cs.length + 1))) := by
      have := hr
      simpa [strV, ByteArray.size] using this
    simp only [execOp, ho, p.ev hx, Sem.run_bind, e3, Result.andThen_ok, Sem.run_pure]
  rw [e2]
  have st : St W (bufP w.heap.size l.length c l e :: (H ++ dm a.defers)) (w.drew.alloc (.cells cs.toArray e (cs.length, cs.length + 1))) := by
    refine St.act (A := []) (B := [bufP w.heap.size l.length c l e]) (H := H ++ dm a.defers) q rfl rfl rfl (by show w.heap.size ≤ (w.heap.push _).size; simp) ?_
    intro h1 _ _
    refine ⟨Hl.one w.heap.size (.cells cs.toArray e (cs.length, cs.length + 1)), starL_one ⟨cs.toArray, cs.length, cs.length + 1, Hl.one_self _ _, .inr (by simp), rfl, hge, by simpa using hcl, ?_⟩, fun k x hx => ?_, fun k x hx => ?_, fun k hk _ => Below.heap_alloc _ _ _ hk⟩
    · rw [hcs]
      show (bvs l ++ _).take l.length = _
      rw [List.take_left' (bvs_length' l)]
    · obtain ⟨rfl, rfl⟩ := Hl.one_some hx; exact heap_alloc_new w.drew _
    · obtain ⟨rfl, rfl⟩ := Hl.one_some hx; exact .inr (Nat.le_refl _)
  have := (h w.heap.size c).go _ _ (p.put (d := some d) hn _) st
  rw [← hd] at this
  exact this
theorem St.buf {w : World} {g m c : Nat} {l : List UInt8} (q : St W H w) (hs : Sel (bufP g m c l e) H R) : bufOk w.heap[g]? m c l e := by
  obtain ⟨h, ⟨cur, lo, hi, q1, r⟩, ls⟩ := q.sel hs bufP_up
  exact ⟨cur, lo, hi, (ls _ _ q1).2, r⟩
/-- string(b) of it -/
theorem Ev_bytesBuf {g m c : Nat} {l : List UInt8} (hx : Env.ev E x = some (.slice (some ⟨g, 0, none⟩) m c)) [hs : UIs P s (.slice e)] [he : UIs P e (.int .u8)] [hd : UIs P u .string] (hsel : Sel (bufP g m c l e) H R) : Ev P W n E H (.convert s u x) (strV l) :=
  Ev.mk fun o ho a w p q => by
    obtain ⟨cur, lo, hi, hh, _, hm, hmc, hsz, htk⟩ := q.buf hsel
    subst hm
    have hr := run_convert_bytes_back (P := P) w s u e ⟨g, 0, none⟩ c l hs.h he.h hd.h (fun j hj => by
      rw [Addr.add_mid, Nat.zero_add, cell_of_row w g j _ _ _ hh]
      have h2 : (cur.toList.take l.length)[j]? = some (bv l[j]) := by rw [htk]; simp [bvs, hj]
      rw [List.getElem?_take, if_pos hj] at h2
      simpa [bv] using h2)
    simp only [execOp, ho, p.ev hx, Sem.run_bind, hr, Result.andThen_ok, Sem.run_pure]
/-- append(b, s...) to it -/
theorem KJ_appendBuf {g m c : Nat} {l r : List UInt8} (hx : Env.ev E x = some (.slice (some ⟨g, 0, none⟩) m c)) (hy : Env.ev E y = some (strV r)) [hu : UIs P t (.slice e)] [hstr : UIs P u .string] [hs : SzIs P e 1] [hb : ByIs P e 1] [hz : ZcIs P e [.int .u8 0]] (hsel : Sel (bufP g m c l e) H R)
    (hbd : m + r.length ≤ 140737488355328) (hn : Nat.blt d n = true)
    (h : ∀ g' c', KJ W n k ((d, .slice (some ⟨g', 0, none⟩) (m + r.length) c') :: E) (bufP g' (m + r.length) c' (l ++ r) e :: R)) : KJ W n (.oper P (.call { callee := .builtin .append, args := #[x, y], argTypes := #[t, u] }) (some d) k) E H := by
  refine ⟨fun a w p q o ho hd => ?_⟩
  replace hsel := hsel.app (dm a.defers)
  have hz := hz.h
  have hs := hs.h
  have hb := hb.h
  cases hq : P.info? e with
  | none => simp [hq] at hz
  | some it =>
    simp [hq] at hz hs hb
    obtain ⟨zv, hz1, hz2⟩ := hz
    obtain ⟨cur, lo, hi, hh, hfz, hm, hmc, hsz, htk⟩ := q.buf hsel
    have hcell : ∀ j, w.cell? ⟨g, j, none⟩ = cur[j]? := fun j => cell_of_row w g j _ _ _ hh
    have hsrc : Go.Src P it.size u (strV r) r.length (bvs r) w := by
      have := Go.Src.ofString w hstr.h ⟨r.toArray⟩
      rw [hs]
      have e1 : byteCells ⟨r.toArray⟩ = bvs r := by simp [byteCells, bvs, bv]
      rw [e1] at this
      exact this
    have hbl := bvs_length' r
    suffices hw : ∃ g' c' w', (Builtin.append_ #[t, u] o.type #[.slice (some ⟨g, 0, none⟩) m c, strV r]).run P w = .ok (.slice (some ⟨g', 0, none⟩) (m + r.length) c') w' ∧ St W (bufP g' (m + r.length) c' (l ++ r) e :: (R ++ dm a.defers)) w' by
      obtain ⟨g', c', w', hrun, st⟩ := hw
      show uponP P o a _ ((execOp a.eval o).run P w)
      have hr2 : (execOp a.eval o).run P w = .ok (.value (.slice (some ⟨g', 0, none⟩) (m + r.length) c')) w' := by
        simp only [execOp, ho, resolve, invoke, builtin, Sem.run_bind, Sem.run_pure, Result.andThen_ok, List.map_toArray, List.map_cons, List.map_nil, p.ev hx, p.ev hy, hrun]
      rw [hr2]
      have := (h g' c').go _ w' (p.put (d := some d) hn _) st
      rw [← hd] at this
      exact this
    have q1 : St W ([bufP g m c l e] ++ (R ++ dm a.defers)) w := q.perm hsel.perm
    by_cases hroom : m + r.length ≤ c
    · have hrun := run_append_room_src (P := P) w t u o.type e it hu.h hq g 0 m c (strV r) r.length (bvs r) hsrc hroom
        (fun j hj => by rw [hcell, Array.getElem?_eq_getElem (by rw [hs]; omega)]; rfl)
        (fun j hj => by simp [World.frozen?, hh]; rw [hs]; omega)
      rw [hs, Nat.mul_one, Nat.zero_add] at hrun
      obtain ⟨i1, i2, i3, i4, i5, i6⟩ := setCells_heap g e (lo, hi) (bvs r) m cur.toList w (by simpa using hh) (by rw [hbl]; simp; omega)
      refine ⟨g, c, _, hrun, ?_⟩
      refine St.act (A := [bufP g m c l e]) (B := [bufP g (m + r.length) c (l ++ r) e]) (H := R ++ dm a.defers) q1 i3 i4 i5 (by omega) ?_
      intro h1 ⟨h, _, _, le, _, ⟨cur2, lo2, hi2, hg2, _⟩, _⟩ ls
      have hlen : (lay cur.toList m (bvs r)).length = cur.size := by rw [lay_length _ _ _ (by rw [hbl]; simp; omega)]; simp
      refine ⟨Hl.one g (.cells (lay cur.toList m (bvs r)).toArray e (lo, hi)), starL_one ⟨_, lo, hi, Hl.one_self _ _, ?_, ?_, hroom, ?_, ?_⟩, fun k x hx => ?_, fun k x hx => ?_, fun k _ hn => i2 k ?_⟩
      · rcases hfz with q | q
        · exact .inl q
        · right; simp [hlen]; exact q
      · rw [List.length_append, hm]
      · simp [hlen]; exact hsz
      · show (lay cur.toList m (bvs r)).take (m + r.length) = _
        unfold lay
        rw [← List.append_assoc, List.take_left' (by rw [List.length_append, List.length_take, hbl]; simp; omega), htk]
        simp [bvs]
      · obtain ⟨rfl, rfl⟩ := Hl.one_some hx; exact i1
      · obtain ⟨rfl, rfl⟩ := Hl.one_some hx; exact .inl ⟨_, le _ _ hg2⟩
      · intro e1; subst e1; rw [le _ _ hg2] at hn; cases hn
    · have hold : (Builtin.firstCells it.size m (.slice (some ⟨g, 0, none⟩) m c)).run P w.drew = .ok (bvs l).toArray w.drew :=
        run_firstCells_some w.drew it.size m ⟨g, 0, none⟩ m c (bvs l) (by rw [bvs_length', hs]; omega) (fun j u hj => by
          have hj2 : j < l.length := by have := (List.getElem?_eq_some_iff.1 hj).1; rwa [bvs_length'] at this
          show w.cell? (Addr.add ⟨g, 0, none⟩ j) = some u
          rw [Addr.add_mid, Nat.zero_add, hcell]
          rw [← htk, List.getElem?_take, if_pos (by omega)] at hj
          simpa using hj)
      have hrun := run_append_grow_src (P := P) w t u o.type e it zv hu.h hq hz1 (some ⟨g, 0, none⟩) m c (bvs l) hold (strV r) r.length (bvs r) hsrc (by omega) (by omega) (by rw [hb]; exact growslice_fits (by omega) (by omega))
      have hge := grownCap_ge w (m + r.length) c e
      refine ⟨_, _, _, hrun, ?_⟩
      obtain ⟨cs, hcs⟩ : ∃ cs : List Value, cs = (bvs l ++ bvs r) ++ (Builtin.zeroCells zv.cells (grownCap w (m + r.length) c e - (m + r.length))).toList := ⟨_, rfl⟩
      have hzc : (Builtin.zeroCells zv.cells (grownCap w (m + r.length) c e - (m + r.length))).size = grownCap w (m + r.length) c e - (m + r.length) := by
        unfold Builtin.zeroCells
        simp [hz2]
      have hca : (bvs l ++ bvs r).toArray ++ Builtin.zeroCells zv.cells (grownCap w (m + r.length) c e - (m + r.length)) = cs.toArray := by
        rw [hcs]; apply Array.ext'; simp
      rw [hca]
      have hcl : cs.length = grownCap w (m + r.length) c e := by rw [hcs]; simp [bvs, hzc]; omega
      refine St.act (A := [bufP g m c l e]) (B := [bufP w.heap.size (m + r.length) (grownCap w (m + r.length) c e) (l ++ r) e]) (H := R ++ dm a.defers) q1 rfl rfl rfl (by show w.heap.size ≤ (w.heap.push _).size; simp) ?_
      intro h1 _ ls
      refine ⟨Hl.one w.heap.size (.cells cs.toArray e), starL_one ⟨_, 0, 0, Hl.one_self _ _, .inl (Nat.le_refl _), by rw [List.length_append, hm], hge, by simpa using hcl, ?_⟩, fun k x hx => ?_, fun k x hx => ?_, fun k hk _ => Below.heap_alloc _ _ _ hk⟩
      · show cs.take (m + r.length) = _
        rw [hcs, List.take_left' (by rw [List.length_append, bvs_length', bvs_length']; omega)]
        simp [bvs]
      · obtain ⟨rfl, rfl⟩ := Hl.one_some hx; exact heap_alloc_new w.drew _
      · obtain ⟨rfl, rfl⟩ := Hl.one_some hx; exact .inr (Nat.le_refl _)
/-- texts joined whose lengths are known -/
theorem Ev_addSL {a b : List UInt8} (hx : Env.ev E x = some (strV a)) (hy : Env.ev E y = some (strV b)) (hb : a.length + b.length ≤ 9223372036854775807 := by first | omega | (simp only [List.length_append, List.length_cons, List.length_nil]; omega)) : Ev P W n E H (.binOp .add t x y u) (strV (a ++ b)) := Ev_addS hx hy hb
end
end Go.Proofs.YteklldbfdmaafaaDoor
/-
  A strings.Builder of one's own: copyCheck, WriteString, String.
-/
namespace Go.Proofs.YteklldbfdmaafaaDoor
open Go Go.RowKit
section
variable {P : Program} {W : World} {n : Nat} {ops : Array Oper} {q : QQ} {E : Env} {H R : List SP} {k : KK} {d : Nat} {t u e T s : TypeId} {b off : Nat} {x y : Operand}
theorem St.frozen {w : World} {g i c sz m : Nat} {xs : List Value} (s : St W H w) (p : Sel (rowP (.slice (some ⟨g, 0, none⟩) i c) e sz i xs) H R) : St W R (w.freeze ⟨g, 0, none⟩ m) := by
  by_cases hm : m = 0
  · have : w.freeze ⟨g, 0, none⟩ m = w := by simp [World.freeze, hm]
    rw [this]
    exact (s.perm p.perm).mono fun h q => (DropTo.there .refl).star h q
  refine St.act (A := [rowP (.slice (some ⟨g, 0, none⟩) i c) e sz i xs]) (B := []) (H := R) (s.perm p.perm) (by simp [World.freeze, hm]) (by simp [World.freeze, hm]) (by simp [World.freeze, hm]) (by simp [World.freeze, hm]) ?_
  intro h1 ⟨h, _, _, le, _, a, _⟩ l
  refine ⟨fun _ => none, trivial, (fun _ _ (hx : none = some _) => nomatch hx), (fun _ _ (hx : none = some _) => nomatch hx), fun kk _ hk => ?_⟩
  have hne : kk ≠ g := by
    rintro rfl
    rcases a.2 with ⟨h', _⟩ | ⟨g', cap, cur, h', hg, _⟩
    · cases h'
    · cases h'
      rw [le _ _ hg] at hk; cases hk
  simp [World.freeze, hm, Array.getElem?_modify, Ne.symm hne]
end
end Go.Proofs.YteklldbfdmaafaaDoor
/-
  The package checks' sum and the package sector, as plain data, and their contracts.
-/
namespace Go.Proofs.YteklldbfdmaafaaDoor
open Go Go.RowKit
def nibT : List Int := [0, 274646895, 549293790, 820201905, 1098587580, 1361435347, 1640403810, 1905808397, 2197175160, 2460548119, 2722870694, 2987750089, 3280807620, 3553878443, 3811616794, 4084100981]
/-- the table lies in its variable -/
def NibAt (W : World) : Prop := ∀ i, i < 16 → W.cell? ⟨37, i, none⟩ = some (.int .u32 (nibT.getD i 0))
def nibStep (a : Int) : Int := bits .xor .u32 (a.fdiv (2 ^ (min (4 : Int).toNat IntKind.u32.bits))) (nibT.getD (bits .and .u32 a 15).toNat 0)
def crcStep (s : Int) (c : UInt8) : Int := nibStep (nibStep (bits .xor .u32 s (IntKind.u32.wrap c.toNat)))
def crcAll (s : Int) (l : List UInt8) : Int := l.foldl crcStep s
def crcNot (s : Int) : Int := bits .xor .u32 (if IntKind.u32.signed then -1 else IntKind.u32.max) s
def crcSum (l : List UInt8) : Int := crcNot (crcAll (crcNot 0) l)
theorem and15 (a : Int) : 0 ≤ bits .and .u32 a 15 ∧ bits .and .u32 a 15 < ((16 : Nat) : Int) := by
  have h : (BitVec.ofInt 32 a &&& BitVec.ofInt 32 15).toNat ≤ 15 := by
    rw [BitVec.toNat_and]
    exact Nat.and_le_right
  have e : bits .and .u32 a 15 = IntKind.u32.wrap ((BitVec.ofInt 32 a &&& BitVec.ofInt 32 15).toNat) := rfl
  have e2 : IntKind.u32.wrap ((BitVec.ofInt 32 a &&& BitVec.ofInt 32 15).toNat) = ((BitVec.ofInt 32 a &&& BitVec.ofInt 32 15).toNat : Int) % 4294967296 := rfl
  rw [e, e2]
  omega
theorem NibAt.at_ {W : World} (h : NibAt W) (a : Int) : W.cell? ⟨37, 0 + (bits .and .u32 a 15).toNat * 1, none⟩ = some (.int .u32 (nibT.getD (bits .and .u32 a 15).toNat 0)) := by
  have := and15 a
  rw [Nat.zero_add, Nat.mul_one]
  exact h _ (by omega)
theorem crcAll_next (s : Int) (l : List UInt8) (i : Nat) (c : UInt8) (h : l[i]? = some c) : crcAll s (l.take (i + 1)) = crcStep (crcAll s (l.take i)) c := by
  unfold crcAll
  rw [List.take_add_one, h]
  simp

section
variable {P : Program} {W : World} {n : Nat} {E : Env} {H : List SP} {t : TypeId} {x : Operand}
theorem Ev_crcNot {i : Int} (hx : Env.ev E x = some (.int .u32 i)) : Ev P W n E H (.unOp .xor t x) (.int .u32 (crcNot i)) := Ev_compl hx
end
set_option maxHeartbeats 400000 in
set_option maxRecDepth 100000 in
theorem extend_ct {W : World} (hN : NibAt W) (s : Int) (l : List UInt8) (hl : l.length < 4611686018427387904) : Ct Tryd.prog W 129 [.int .u32 s, strV l] [] (fun _ : Unit => .int .u32 (crcNot (crcAll (crcNot s) l))) (fun _ => []) := by
  obtain ⟨A, hA⟩ : ∃ A : Nat → Int, A = fun i => crcAll (crcNot s) (l.take i) := ⟨_, rfl⟩
  have hA0 : crcNot s = A 0 := by rw [hA]; simp [crcAll]
  have hAl : crcAll (crcNot s) l = A l.length := by rw [hA]; simp
  have hAn : ∀ i c, l[i]? = some c → A (i + 1) = crcStep (A i) c := fun i c h => by rw [hA]; exact crcAll_next _ l i c h
  rw [hAl]
  clear hA hAl
  refine Ct.enter Tryd.func129 rfl Tryd.ntmps129 (by simp) (fun R => ?_)
  repeat' (first 
    | (refine ek_un ?_; refine EK_ev (Ev_crcNot rfl) ?_)
    | refine xst ?_
    | (refine xsa ?_; intro _)
    | (refine xsb ?_ ?_ <;> intro _ <;> first | (exfalso; omega) | skip)
    | refine xsc ?_
    | fail)
  rw [hA0]
  refine KJ_loop (fun i : {k : Nat // k ≤ l.length} => [(0, .int .u32 (A i.1)), (1, strV l), (5, .int .i64 (i.1 : Nat))]) (fun _ => R) (fun i => l.length - i.1) ⟨0, by omega⟩ xB (fun _ q => q) (fun ⟨k, hk⟩ => ?_)
  dsimp only
  by_cases hlt : k < l.length
  · obtain ⟨c, hc⟩ : ∃ c, l[k]? = some c := ⟨_, List.getElem?_eq_getElem hlt⟩
    have hnx := hAn k c hc
    have hc' : l[(k : Int).toNat]? = some c := by rw [Int.toNat_natCast]; exact hc
    repeat' (first 
    | (refine ek_load ?_; refine EK_ev (Ev_loadOld rfl (hN.at_ _)) ?_)
    | (refine ek_indexAddr ?_; refine EK_ev (Ev_indexArr rfl rfl (and15 _)) ?_)
    | (refine ek_index ?_; refine EK_ev (Ev_indexStr rfl rfl (by omega) hc') ?_)
    | (refine ek_and ?_; refine EK_ev (Ev_and rfl rfl) ?_)
    | (refine ek_xor ?_; refine EK_ev (Ev_xor rfl rfl) ?_)
    | refine xst ?_
    | (refine xsa ?_; intro _)
    | (refine xsb ?_ ?_ <;> intro _ <;> first | (exfalso; omega) | skip)
    | refine xsc ?_
    | fail)
    refine KJ_again ⟨k + 1, by omega⟩ (by show l.length - (k + 1) < l.length - k; omega) ?_ (fun _ q => q)
    rw [hnx]
    exact xB
  · have hkl : k = l.length := by omega
    subst hkl
    repeat' (first 
    | (refine ek_un ?_; refine EK_ev (Ev_crcNot rfl) ?_)
    | refine xst ?_
    | (refine xsa ?_; intro _)
    | (refine xsb ?_ ?_ <;> intro _ <;> first | (exfalso; omega) | skip)
    | refine xsc ?_
    | fail)
    all_goals (exact xdn ())
theorem sum_ct {W : World} (hN : NibAt W) (l : List UInt8) (hl : l.length < 4611686018427387904) : Ct Tryd.prog W 113 [strV l] [] (fun _ : Unit => .int .u32 (crcSum l)) (fun _ => []) := by
  have c1 : Ct Tryd.prog W 129 [.int .u32 0, strV l] [] (fun _ : Unit => .int .u32 (crcSum l)) (fun _ => []) := extend_ct hN 0 l hl
  refine Ct.enter Tryd.func113 rfl Tryd.ntmps113 (by simp) (fun R => ?_)
  repeat' (first 
    | (refine is_call ?_; refine KJ_call xE c1 xP rfl (fun _ => ?_))
    | refine xst ?_
    | (refine xsa ?_; intro _)
    | (refine xsb ?_ ?_ <;> intro _ <;> first | (exfalso; omega) | skip)
    | refine xsc ?_
    | fail)
  all_goals (exact xdn ())

def byteI (x : Int) (i : Nat) : Int := IntKind.u8.wrap (x.fdiv (2 ^ (min (8 * (i : Int)).toNat IntKind.u64.bits)))
def byteAt (x : Int) (i : Nat) : UInt8 := UInt8.ofNat (byteI x i).toNat
theorem byteAt_bv (x : Int) (i : Nat) : Value.int .u8 (byteI x i) = bv (byteAt x i) := by
  have e : byteI x i = (x.fdiv (2 ^ (min (8 * (i : Int)).toNat IntKind.u64.bits))) % 256 := rfl
  have h : 0 ≤ byteI x i ∧ byteI x i < 256 := by rw [e]; omega
  unfold bv byteAt
  rw [UInt8.toNat_ofNat']
  congr 1
  omega
def putB (x : Int) (n : Nat) : List UInt8 := (List.range n).map (byteAt x)
theorem putB_length (x : Int) (n : Nat) : (putB x n).length = n := by simp [putB]
theorem putB_next (x : Int) (n : Nat) : putB x (n + 1) = putB x n ++ [byteAt x n] := by simp [putB, List.range_succ]
theorem lay_snoc (l : List UInt8) (o : Nat) (b : List UInt8) (c : UInt8) (h : o + b.length < l.length) : lay (lay l o b) (o + b.length) [c] = lay l o (b ++ [c]) := by
  unfold lay
  have e1 : (l.take o ++ (b ++ l.drop (o + b.length))).take (o + b.length) = l.take o ++ b := by
    rw [← List.append_assoc, List.take_left' (by simp; omega)]
  have e2 : (l.take o ++ (b ++ l.drop (o + b.length))).drop (o + b.length + [c].length) = l.drop (o + (b ++ [c]).length) := by
    rw [← List.append_assoc, List.drop_append, List.drop_of_length_le (by simp; omega)]
    simp only [List.nil_append, List.drop_drop]
    congr 1
    simp
    omega
  rw [e1, e2]
  simp
theorem lay_next (l : List UInt8) (o : Nat) (b : List UInt8) (c : UInt8) (h : o + b.length < l.length) : lay (bvs (lay l o b)) (o + b.length) [bv c] = bvs (lay l o (b ++ [c])) := by
  rw [show [bv c] = bvs [c] from rfl, bvs_lay, lay_snoc l o b c h]

set_option maxHeartbeats 200000 in
set_option maxRecDepth 100000 in
theorem put_ct {W : World} (g off m c : Nat) (l : List UInt8) (x : Int) (n : Nat) (h1 : n ≤ m) (h2 : off + m ≤ l.length) (h3 : m ≤ 1048576) (T : TypeId) :
    Ct Tryd.prog W 112 [.slice (some ⟨g, off, none⟩) m c, .int .u64 x, .int .i64 (n : Nat)] [cellsP g (bvs l) T] (fun _ : Unit => .tuple #[]) (fun _ => [cellsP g (bvs (lay l off (putB x n))) T]) := by
  refine Ct.enter Tryd.func112 rfl Tryd.ntmps112 (by simp) (fun R => ?_)
  repeat' (first 
    | refine xst ?_
    | (refine xsa ?_; intro _)
    | (refine xsb ?_ ?_ <;> intro _ <;> first | (exfalso; omega) | skip)
    | refine xsc ?_
    | fail)
  have h0 : lay l off (putB x 0) = l := lay_nil l off
  refine KJ_loop (fun i : {k : Nat // k ≤ n} => [(0, .slice (some ⟨g, off, none⟩) m c), (1, .int .u64 x), (7, .int .i64 (n : Nat)), (8, .int .i64 (i.1 : Nat))]) (fun i => [cellsP g (bvs (lay l off (putB x i.1))) T] ++ R) (fun i => n - i.1) ⟨0, by omega⟩ xB
    (by show ∀ h, starL ([cellsP g (bvs l) T] ++ R) h → starL ([cellsP g (bvs (lay l off (putB x 0))) T] ++ R) h; rw [h0]; exact fun _ q => q) (fun ⟨k, hk⟩ => ?_)
  dsimp only
  by_cases hlt : k < n
  · have hlen : (lay l off (putB x k)).length = l.length := lay_length _ _ _ (by rw [putB_length]; omega)
    have hfit : off + (k : Int).toNat * 1 + [Value.int IntKind.u8 (byteI x k)].length ≤ (bvs (lay l off (putB x k))).length := by rw [bvs_length', hlen]; simp; omega
    repeat' (first 
    | (refine is_store ?_; refine KJ_store (v := .int .u8 (byteI x k)) rfl rfl xS xF (by rfl) xO (Laid.of hfit) xR ?_)
    | refine xst ?_
    | (refine xsa ?_; intro _)
    | (refine xsb ?_ ?_ <;> intro _ <;> first | (exfalso; omega) | skip)
    | refine xsc ?_
    | fail)
    refine KJ_again ⟨k + 1, by omega⟩ (by show n - (k + 1) < n - k; omega) xB ?_
    have e := lay_next l off (putB x k) (byteAt x k) (by rw [putB_length]; omega)
    rw [putB_length, ← putB_next, ← byteAt_bv] at e
    have e3 : off + (k : Int).toNat * 1 = off + k := by simp
    rw [e3, e]
    exact (xN)
  · have hkn : k = n := by omega
    subst hkn
    repeat' (first 
    | refine xst ?_
    | (refine xsa ?_; intro _)
    | (refine xsb ?_ ?_ <;> intro _ <;> first | (exfalso; omega) | skip)
    | refine xsc ?_
    | fail)
    all_goals (exact xdn ())
end Go.Proofs.YteklldbfdmaafaaDoor
/-
  The package sector: get, Seal, Ends, Open, as plain data, and their contracts.
-/
namespace Go.Proofs.YteklldbfdmaafaaDoor
open Go Go.RowKit
def getPart (x : Int) (i : Nat) (c : UInt8) : Int := bits .or .u64 x (IntKind.u64.wrap (IntKind.u64.wrap c.toNat * 2 ^ (min (8 * (i : Int)).toNat IntKind.u64.bits)))
def getB (l : List UInt8) : Nat → Int
  | 0 => 0
  | n + 1 => getPart (getB l n) n (l.getD n 0)
theorem bits_lt (op : BinOp) (hop : op = .and ∨ op = .or ∨ op = .xor) (x y : Int) (m : Nat) (hm : m ≤ 64) (hx : 0 ≤ x ∧ x < 2 ^ m) (hy : 0 ≤ y ∧ y < 2 ^ m) : 0 ≤ bits op .u64 x y ∧ bits op .u64 x y < 2 ^ m := by
  have hp : (2 : Int) ^ m ≤ 18446744073709551616 := by
    have : (2 : Nat) ^ m ≤ 2 ^ 64 := Nat.pow_le_pow_right (by omega) hm
    have h2 : ((2 ^ m : Nat) : Int) ≤ ((2 ^ 64 : Nat) : Int) := by exact_mod_cast this
    simpa using h2
  have b1 : (BitVec.ofInt 64 x).toNat = x.toNat := by
    rw [BitVec.toNat_ofInt]; omega
  have b2 : (BitVec.ofInt 64 y).toNat = y.toNat := by
    rw [BitVec.toNat_ofInt]; omega
  have hpc : ((2 ^ m : Nat) : Int) = 2 ^ m := by simp
  have hx' : x.toNat < 2 ^ m := by omega
  have hy' : y.toNat < 2 ^ m := by omega
  have key : ∀ r : Nat, r < 2 ^ m → 0 ≤ IntKind.u64.wrap (r : Int) ∧ IntKind.u64.wrap (r : Int) < 2 ^ m := fun r hr => by
    have e : IntKind.u64.wrap (r : Int) = (r : Int) % 18446744073709551616 := rfl
    rw [e]
    omega
  rcases hop with rfl | rfl | rfl
  · refine key _ ?_
    show (BitVec.ofInt 64 x &&& BitVec.ofInt 64 y).toNat < _
    rw [BitVec.toNat_and, b1, b2]
    exact Nat.and_lt_two_pow _ hy'
  · refine key _ ?_
    show (BitVec.ofInt 64 x ||| BitVec.ofInt 64 y).toNat < _
    rw [BitVec.toNat_or, b1, b2]
    exact Nat.or_lt_two_pow hx' hy'
  · refine key _ ?_
    show (BitVec.ofInt 64 x ^^^ BitVec.ofInt 64 y).toNat < _
    rw [BitVec.toNat_xor, b1, b2]
    exact Nat.xor_lt_two_pow hx' hy'
theorem part0 (c : UInt8) : IntKind.u64.wrap (IntKind.u64.wrap c.toNat * 2 ^ (min (8 * ((0 : Nat) : Int)).toNat IntKind.u64.bits)) = (c.toNat : Int) := by
  have h0 := UInt8.toNat_lt c
  have e : ∀ z, IntKind.u64.wrap z = z % 18446744073709551616 := fun _ => rfl
  have e2 : (min (8 * ((0 : Nat) : Int)).toNat IntKind.u64.bits) = 0 := rfl
  rw [e, e, e2]
  omega
theorem part1 (c : UInt8) : IntKind.u64.wrap (IntKind.u64.wrap c.toNat * 2 ^ (min (8 * ((1 : Nat) : Int)).toNat IntKind.u64.bits)) = (c.toNat : Int) * 256 := by
  have h0 := UInt8.toNat_lt c
  have e : ∀ z, IntKind.u64.wrap z = z % 18446744073709551616 := fun _ => rfl
  have e2 : (min (8 * ((1 : Nat) : Int)).toNat IntKind.u64.bits) = 8 := rfl
  rw [e, e, e2]
  omega
theorem getB_two (l : List UInt8) : 0 ≤ getB l 2 ∧ getB l 2 < 65536 := by
  have e3 : getB l 2 = bits .or .u64 (bits .or .u64 0 ((l.getD 0 0).toNat : Int)) (((l.getD 1 0).toNat : Int) * 256) := by
    show getPart (getPart 0 0 (l.getD 0 0)) 1 (l.getD 1 0) = _
    unfold getPart
    rw [part0, part1]
  rw [e3]
  obtain ⟨c0, hc0⟩ : ∃ c, c = l.getD 0 0 := ⟨_, rfl⟩
  obtain ⟨c1, hc1⟩ : ∃ c, c = l.getD 1 0 := ⟨_, rfl⟩
  rw [← hc0, ← hc1]
  have h0 := UInt8.toNat_lt c0
  have h1 := UInt8.toNat_lt c1
  have a1 := bits_lt .or (.inr (.inl rfl)) 0 (c0.toNat : Int) 16 (by omega) (by omega) (by omega)
  have a2 := bits_lt .or (.inr (.inl rfl)) (bits .or .u64 0 (c0.toNat : Int)) ((c1.toNat : Int) * 256) 16 (by omega) a1 (by omega)
  exact a2

set_option maxHeartbeats 400000 in
set_option maxRecDepth 100000 in
theorem get_ct {W : World} (l : List UInt8) (n : Nat) (h1 : n ≤ l.length) (h2 : n ≤ 1048576) : Ct Tryd.prog W 117 [strV l, .int .i64 (n : Nat)] [] (fun _ : Unit => .int .u64 (getB l n)) (fun _ => []) := by
  obtain ⟨A, hA⟩ : ∃ A : Nat → Int, A = getB l := ⟨_, rfl⟩
  have hA0 : A 0 = 0 := by rw [hA]; rfl
  have hAn : ∀ i, A (i + 1) = getPart (A i) i (l.getD i 0) := fun i => by rw [hA]; rfl
  rw [← hA]
  clear hA
  refine Ct.enter Tryd.func117 rfl Tryd.ntmps117 (by simp) (fun R => ?_)
  repeat' (first 
    | refine xst ?_
    | (refine xsa ?_; intro _)
    | (refine xsb ?_ ?_ <;> intro _ <;> first | (exfalso; omega) | skip)
    | refine xsc ?_
    | fail)
  refine KJ_loop (fun i : {k : Nat // k ≤ n} => [(0, strV l), (5, .int .u64 (A i.1)), (7, .int .i64 (n : Nat)), (8, .int .i64 (i.1 : Nat))]) (fun _ => R) (fun i => n - i.1) ⟨0, by omega⟩ ?_ (fun _ q => q) (fun ⟨k, hk⟩ => ?_)
  · exact Subs.cons rfl (Subs.cons (show _ = some (Value.int .u64 (A 0)) from by rw [hA0]; rfl) xB)
  dsimp only
  by_cases hlt : k < n
  · obtain ⟨c, hc⟩ : ∃ c, l[k]? = some c := ⟨_, List.getElem?_eq_getElem (by omega)⟩
    have hnx := hAn k
    have hcd : l.getD k 0 = c := by rw [List.getD, hc]; rfl
    rw [hcd] at hnx
    have hc' : l[(k : Int).toNat]? = some c := by rw [Int.toNat_natCast]; exact hc
    repeat' (first 
    | (refine ek_index ?_; refine EK_ev (Ev_indexStr rfl rfl (by omega) hc') ?_)
    | (refine ek_or ?_; refine EK_ev (Ev_or rfl rfl) ?_)
    | refine xst ?_
    | (refine xsa ?_; intro _)
    | (refine xsb ?_ ?_ <;> intro _ <;> first | (exfalso; omega) | skip)
    | refine xsc ?_
    | fail)
    refine KJ_again ⟨k + 1, by omega⟩ (by show n - (k + 1) < n - k; omega) ?_ (fun _ q => q)
    rw [hnx]
    exact xB
  · have hkn : k = n := by omega
    subst hkn
    repeat' (first 
    | refine xst ?_
    | (refine xsa ?_; intro _)
    | (refine xsb ?_ ?_ <;> intro _ <;> first | (exfalso; omega) | skip)
    | refine xsc ?_
    | fail)
    all_goals (exact xdn ())

end Go.Proofs.YteklldbfdmaafaaDoor
/-
  The package sector: Seal and Open, as plain data, and their contracts.
-/
namespace Go.Proofs.YteklldbfdmaafaaDoor
open Go Go.RowKit
def sealB1 (stamp : Int) : List UInt8 := lay (List.replicate 256 0) 0 (putB stamp 8)
def sealB2 (stamp : Int) (pl : List UInt8) : List UInt8 := lay (sealB1 stamp) 8 (putB (IntKind.u64.wrap pl.length) 2)
def sealB3 (stamp : Int) (pl : List UInt8) : List UInt8 := lay (sealB2 stamp pl) 10 pl
def sealB4 (stamp : Int) (pl : List UInt8) : List UInt8 := lay (sealB3 stamp pl) 244 (putB (IntKind.u64.wrap (crcSum ((sealB3 stamp pl).take 244))) 4)
/-- the sector that Seal makes -/
def sealB (stamp : Int) (pl : List UInt8) : List UInt8 := lay (sealB4 stamp pl) 248 (putB stamp 8)
theorem sealB1_length (stamp : Int) : (sealB1 stamp).length = 256 := by
  unfold sealB1; rw [lay_length _ _ _ (by rw [putB_length, List.length_replicate]; omega), List.length_replicate]
theorem sealB2_length (stamp : Int) (pl : List UInt8) : (sealB2 stamp pl).length = 256 := by
  unfold sealB2; rw [lay_length _ _ _ (by rw [putB_length, sealB1_length]; omega), sealB1_length]
theorem sealB3_length (stamp : Int) (pl : List UInt8) (h : pl.length ≤ 234) : (sealB3 stamp pl).length = 256 := by
  unfold sealB3; rw [lay_length _ _ _ (by rw [sealB2_length]; omega), sealB2_length]
theorem sealB4_length (stamp : Int) (pl : List UInt8) (h : pl.length ≤ 234) : (sealB4 stamp pl).length = 256 := by
  unfold sealB4; rw [lay_length _ _ _ (by rw [putB_length, sealB3_length _ _ h]; omega), sealB3_length _ _ h]
theorem sealB_length (stamp : Int) (pl : List UInt8) (h : pl.length ≤ 234) : (sealB stamp pl).length = 256 := by
  unfold sealB; rw [lay_length _ _ _ (by rw [putB_length, sealB4_length _ _ h]; omega), sealB4_length _ _ h]

set_option maxHeartbeats 100000 in
set_option maxRecDepth 100000 in
theorem seal_ok {W : World} (hN : NibAt W) (stamp : Int) (pl : List UInt8) (h0 : stamp ≠ 0) (hl : pl.length ≤ 234) :
    Ct Tryd.prog W 83 [.int .u64 stamp, strV pl] [] (fun _ : Unit => .tuple #[strV (sealB stamp pl), .nilIface]) (fun _ => []) := by
  have l1 := sealB1_length stamp
  have l2 := sealB2_length stamp pl
  have l3 := sealB3_length stamp pl hl
  have l4 := sealB4_length stamp pl hl
  have l5 := sealB_length stamp pl hl
  have c1 : ∀ g, Ct Tryd.prog W 112 [.slice (some ⟨g, 0, none⟩) 256 256, .int .u64 stamp, .int .i64 8] [cellsP g (bvs (List.replicate 256 0)) 5] (fun _ : Unit => .tuple #[]) (fun _ => [cellsP g (bvs (sealB1 stamp)) 5]) := fun g => put_ct g 0 256 256 _ stamp 8 (by omega) (by rw [List.length_replicate]; omega) (by omega) _
  have c2 : ∀ g, Ct Tryd.prog W 112 [.slice (some ⟨g, 8, none⟩) 248 248, .int .u64 (IntKind.u64.wrap pl.length), .int .i64 2] [cellsP g (bvs (sealB1 stamp)) 5] (fun _ : Unit => .tuple #[]) (fun _ => [cellsP g (bvs (sealB2 stamp pl)) 5]) := fun g => put_ct g 8 248 248 _ _ 2 (by omega) (by omega) (by omega) _
  have c3 : Ct Tryd.prog W 113 [strV ((sealB3 stamp pl).take 244)] [] (fun _ : Unit => .int .u32 (crcSum ((sealB3 stamp pl).take 244))) (fun _ => []) := sum_ct hN _ (by rw [List.length_take]; omega)
  have c4 : ∀ g c, Ct Tryd.prog W 112 [.slice (some ⟨g, 244, none⟩) 12 c, .int .u64 (IntKind.u64.wrap (crcSum ((sealB3 stamp pl).take 244))), .int .i64 4] [cellsP g (bvs (sealB3 stamp pl)) 5] (fun _ : Unit => .tuple #[]) (fun _ => [cellsP g (bvs (sealB4 stamp pl)) 5]) := fun g c => put_ct g 244 12 c _ _ 4 (by omega) (by omega) (by omega) _
  have c5 : ∀ g c, Ct Tryd.prog W 112 [.slice (some ⟨g, 248, none⟩) 8 c, .int .u64 stamp, .int .i64 8] [cellsP g (bvs (sealB4 stamp pl)) 5] (fun _ : Unit => .tuple #[]) (fun _ => [cellsP g (bvs (sealB stamp pl)) 5]) := fun g c => put_ct g 248 8 c _ _ 8 (by omega) (by omega) (by omega) _
  have e3 : lay (sealB2 stamp pl) 10 pl = sealB3 stamp pl := rfl
  obtain ⟨B1, hB1⟩ : ∃ B, B = sealB1 stamp := ⟨_, rfl⟩
  obtain ⟨B2, hB2⟩ : ∃ B, B = sealB2 stamp pl := ⟨_, rfl⟩
  obtain ⟨B3, hB3⟩ : ∃ B, B = sealB3 stamp pl := ⟨_, rfl⟩
  obtain ⟨B4, hB4⟩ : ∃ B, B = sealB4 stamp pl := ⟨_, rfl⟩
  obtain ⟨B5, hB5⟩ : ∃ B, B = sealB stamp pl := ⟨_, rfl⟩
  rw [← hB5]
  simp only [← hB1, ← hB2, ← hB3, ← hB4, ← hB5] at l1 l2 l3 l4 l5 c1 c2 c3 c4 c5 e3
  clear hB1 hB2 hB3 hB4 hB5
  refine Ct.enter Tryd.func83 rfl Tryd.ntmps83 (by simp) (fun R => ?_)
  repeat' (first 
    | (refine is_call ?_; first | (refine KJ_call xE (c5 _ _) xP rfl (fun _ => ?_)) | (refine KJ_call xE (c4 _ _) xP rfl (fun _ => ?_)) | (refine KJ_call xE c3 xP rfl (fun _ => ?_)) | (refine KJ_call xE (c2 _) xP rfl (fun _ => ?_)) | (refine KJ_call xE (c1 _) xP rfl (fun _ => ?_)))
    | (refine is_copy ?_; refine KJ_copyStrB (l' := B3) rfl rfl xS (by show pl.length ≤ 256 - 10; omega) (by show 10 + pl.length ≤ B2.length; omega) e3 xR rfl ?_)
    | (refine is_mkSlice ?_; refine KJ_makeBytes (m := 256) rfl rfl rfl (by omega) rfl (fun g => ?_))
    | (refine ek_conv ?_; first | refine EK_ev (Ev_bytesTake rfl xS (by show 244 ≤ B3.length; omega)) ?_ | refine EK_ev (Ev_bytesAll rfl xS l5) ?_)
    | (refine ek_slice ?_; first | refine EK_ev (Ev_sliceTo rfl rfl (by omega)) ?_ | refine EK_ev (Ev_sliceFrom rfl rfl (by omega)) ?_)
    | (refine ek_eql ?_; refine EK_ev (Ev_eqlI_f rfl rfl h0) ?_)
    | refine xst ?_
    | (refine xsa ?_; intro _)
    | (refine xsb ?_ ?_ <;> intro _ <;> first | (exfalso; omega) | skip)
    | refine xsc ?_
    | (refine KJ_draws (id := 2) (.op 0 (.op 1 (.op 2 .nil))) (by kernel_rfl) (by kernel_rfl) ?_)
    | (refine KJ_draws (id := 4) (.op 0 (.op 1 (.op 2 .nil))) (by kernel_rfl) (by kernel_rfl) ?_)
    | (refine KJ_draws (id := 9) (.op 0 (.op 1 (.op 2 (.op 3 (.op 4 (.ef 5 [1, 0] (.op 6 (.ef 7 [] .nil)))))))) (by kernel_rfl) (by kernel_rfl) ?_)
    | refine FW_alt ?_ ?_
    | refine KJ_flow ?_ ?_
    | exact Rech.nil
    | fail)
  all_goals (exact xdn ())
end Go.Proofs.YteklldbfdmaafaaDoor
/-
  The package sector: Open, as plain data, and its contract.
-/
namespace Go.Proofs.YteklldbfdmaafaaDoor
open Go Go.RowKit
def openN (raw : List UInt8) : Nat := (getB (raw.drop 8) 2).toNat
def openP (raw : List UInt8) : List UInt8 := (raw.take (10 + openN raw)).drop 10
/-- what Open tells -/
def openS (stamp : Int) (raw : List UInt8) : Option (List UInt8) :=
  if stamp = 0 then none else if raw.length ≠ 256 then none else if 234 < openN raw then none else if sealB stamp (openP raw) = raw then some (openP raw) else none

theorem open_zero {W : World} (raw : List UInt8) : Ct Tryd.prog W 87 [.int .u64 0, strV raw] [] (fun _ : Unit => .tuple #[strV [], .bool false]) (fun _ => []) := by
  refine Ct.enter Tryd.func87 rfl Tryd.ntmps87 (by simp) (fun R => ?_)
  repeat' (first 
    | (refine ek_eql ?_; refine EK_ev (Ev_eqlI_t rfl rfl rfl) ?_)
    | refine xst ?_
    | (refine xsa ?_; intro _)
    | (refine xsb ?_ ?_ <;> intro _ <;> first | (exfalso; omega) | skip)
    | refine xsc ?_
    | fail)
  all_goals (exact xdn ())
theorem open_len {W : World} (stamp : Int) (raw : List UInt8) (h0 : stamp ≠ 0) (h1 : raw.length ≠ 256) : Ct Tryd.prog W 87 [.int .u64 stamp, strV raw] [] (fun _ : Unit => .tuple #[strV [], .bool false]) (fun _ => []) := by
  have hne : (raw.length : Int) ≠ 256 := by omega
  refine Ct.enter Tryd.func87 rfl Tryd.ntmps87 (by simp) (fun R => ?_)
  repeat' (first 
    | (refine ek_eql ?_; refine EK_ev (Ev_eqlI_f rfl rfl h0) ?_)
    | (refine ek_neq ?_; refine EK_ev (Ev_neqI_t rfl rfl hne) ?_)
    | refine xst ?_
    | (refine xsa ?_; intro _)
    | (refine xsb ?_ ?_ <;> intro _ <;> first | (exfalso; omega) | skip)
    | refine xsc ?_
    | fail)
  all_goals (exact xdn ())
theorem openN_int (raw : List UInt8) : getB (raw.drop 8) 2 = (openN raw : Int) ∧ openN raw < 65536 := by
  have := getB_two (raw.drop 8)
  unfold openN
  omega
theorem openP_length (raw : List UInt8) (h1 : raw.length = 256) (h2 : openN raw ≤ 234) : (openP raw).length = openN raw := by
  unfold openP
  rw [List.length_drop, List.length_take]
  omega

set_option maxRecDepth 100000 in
theorem open_more {W : World} (stamp : Int) (raw : List UInt8) (h0 : stamp ≠ 0) (h1 : raw.length = 256) (h2 : 234 < openN raw) : Ct Tryd.prog W 87 [.int .u64 stamp, strV raw] [] (fun _ : Unit => .tuple #[strV [], .bool false]) (fun _ => []) := by
  have hq : (raw.length : Int) = 256 := by omega
  obtain ⟨e1, e2⟩ := openN_int raw
  have c1 : Ct Tryd.prog W 117 [strV (raw.drop (8 : Int).toNat), .int .i64 2] [] (fun _ : Unit => .int .u64 (openN raw : Nat)) (fun _ => []) := by rw [← e1]; exact get_ct (raw.drop 8) 2 (by rw [List.length_drop]; omega) (by omega)
  have hgt : decide ((234 : Int) < (openN raw : Nat)) = true := decide_eq_true (by omega)
  refine Ct.enter Tryd.func87 rfl Tryd.ntmps87 (by simp) (fun R => ?_)
  repeat' (first 
    | (refine is_call ?_; refine KJ_call xE c1 xP rfl (fun _ => ?_))
    | (refine ek_conv ?_; refine EK_ev (Ev_convI64 rfl (by omega)) ?_)
    | (refine ek_slice ?_; refine EK_ev (Ev_sliceStrFrom rfl rfl (by omega)) ?_)
    | (refine ek_eql ?_; refine EK_ev (Ev_eqlI_f rfl rfl h0) ?_)
    | (refine ek_neq ?_; refine EK_ev (Ev_neqI_f rfl rfl hq) ?_)
    | (refine ek_gtr ?_; refine EK_ev (Ev_gtrI_q rfl rfl hgt) ?_)
    | refine xst ?_
    | (refine xsa ?_; intro _)
    | (refine xsb ?_ ?_ <;> intro _ <;> first | (exfalso; omega) | skip)
    | refine xsc ?_
    | fail)
  all_goals (exact xdn ())
set_option maxRecDepth 100000 in
theorem open_near {W : World} (hN : NibAt W) (stamp : Int) (raw : List UInt8) (h0 : stamp ≠ 0) (h1 : raw.length = 256) (h2 : openN raw ≤ 234) (q : Bool) (hs : decide (sealB stamp (openP raw) ≠ raw) = q) :
    Ct Tryd.prog W 87 [.int .u64 stamp, strV raw] [] (fun _ : Unit => .tuple #[strV (if q then [] else openP raw), .bool (!q)]) (fun _ => []) := by
  have hq : (raw.length : Int) = 256 := by omega
  obtain ⟨e1, e2⟩ := openN_int raw
  have c1 : Ct Tryd.prog W 117 [strV (raw.drop (8 : Int).toNat), .int .i64 2] [] (fun _ : Unit => .int .u64 (openN raw : Nat)) (fun _ => []) := by rw [← e1]; exact get_ct (raw.drop 8) 2 (by rw [List.length_drop]; omega) (by omega)
  have hgt : decide ((234 : Int) < (openN raw : Nat)) = false := decide_eq_false (by omega)
  have hpl := openP_length raw h1 h2
  have c2 : Ct Tryd.prog W 83 [.int .u64 stamp, strV (openP raw)] [] (fun _ : Unit => .tuple #[strV (sealB stamp (openP raw)), .nilIface]) (fun _ => []) := seal_ok hN stamp _ h0 (by omega)
  have ep : (raw.take ((10 : Int) + (openN raw : Nat)).toNat).drop (10 : Int).toNat = openP raw := by
    unfold openP
    rw [show ((10 : Int) + (openN raw : Nat)).toNat = 10 + openN raw from by omega]
    rfl
  have hsl : ∀ {n : Nat} {E : Env} {H : List SP} {x y z : Operand}, Env.ev E x = some (strV raw) → Env.ev E y = some (.int .i64 10) → Env.ev E z = some (.int .i64 ((10 : Int) + (openN raw : Nat))) → Ev Tryd.prog W n E H (.slice 9 x (some y) (some z) none) (strV (openP raw)) := fun hx hy hz => by
    rw [← ep]; exact Ev_sliceStr hx hy hz (by omega)
  have hsn : ∀ {n : Nat} {E : Env} {H : List SP} {x y : Operand} {t u : TypeId}, Env.ev E x = some (strV (sealB stamp (openP raw))) → Env.ev E y = some (strV raw) → Ev Tryd.prog W n E H (.binOp .neq t x y u) (.bool q) := fun hx hy => by
    rw [← hs]; exact Ev_neqS hx hy
  cases q with
  | true =>
    refine Ct.enter Tryd.func87 rfl Tryd.ntmps87 (by simp) (fun R => ?_)
    repeat' (first 
    | (refine is_call ?_; first | (refine KJ_call xE c2 xP rfl (fun _ => ?_)) | (refine KJ_call xE c1 xP rfl (fun _ => ?_)))
    | (refine ek_conv ?_; refine EK_ev (Ev_convI64 rfl (by omega)) ?_)
    | (refine ek_slice ?_; first | refine EK_ev (hsl rfl rfl rfl) ?_ | refine EK_ev (Ev_sliceStrFrom rfl rfl (by omega)) ?_)
    | (refine ek_eql ?_; refine EK_ev (Ev_eqlI_f rfl rfl h0) ?_)
    | (refine ek_neq ?_; first | refine EK_ev (hsn rfl rfl) ?_ | refine EK_ev (Ev_neqI_f rfl rfl hq) ?_)
    | (refine ek_gtr ?_; refine EK_ev (Ev_gtrI_q rfl rfl hgt) ?_)
    | refine xst ?_
    | (refine xsa ?_; intro _)
    | (refine xsb ?_ ?_ <;> intro _ <;> first | (exfalso; omega) | skip)
    | refine xsc ?_
    | fail)
    all_goals (exact xdn ())
  | false =>
    refine Ct.enter Tryd.func87 rfl Tryd.ntmps87 (by simp) (fun R => ?_)
    repeat' (first 
    | (refine is_call ?_; first | (refine KJ_call xE c2 xP rfl (fun _ => ?_)) | (refine KJ_call xE c1 xP rfl (fun _ => ?_)))
    | (refine ek_conv ?_; refine EK_ev (Ev_convI64 rfl (by omega)) ?_)
    | (refine ek_slice ?_; first | refine EK_ev (hsl rfl rfl rfl) ?_ | refine EK_ev (Ev_sliceStrFrom rfl rfl (by omega)) ?_)
    | (refine ek_eql ?_; refine EK_ev (Ev_eqlI_f rfl rfl h0) ?_)
    | (refine ek_neq ?_; first | refine EK_ev (hsn rfl rfl) ?_ | refine EK_ev (Ev_neqI_f rfl rfl hq) ?_)
    | (refine ek_gtr ?_; refine EK_ev (Ev_gtrI_q rfl rfl hgt) ?_)
    | refine xst ?_
    | (refine xsa ?_; intro _)
    | (refine xsb ?_ ?_ <;> intro _ <;> first | (exfalso; omega) | skip)
    | refine xsc ?_
    | fail)
    all_goals (exact xdn ())
theorem open_ct {W : World} (hN : NibAt W) (stamp : Int) (raw : List UInt8) : Ct Tryd.prog W 87 [.int .u64 stamp, strV raw] [] (fun _ : Unit => .tuple #[strV ((openS stamp raw).getD []), .bool (openS stamp raw).isSome]) (fun _ => []) := by
  by_cases h0 : stamp = 0
  · subst h0
    exact (open_zero raw).val fun _ => by simp [openS]
  by_cases h1 : raw.length = 256
  · by_cases h2 : 234 < openN raw
    · exact (open_more stamp raw h0 h1 h2).val fun _ => by simp [openS, h0, h1, h2]
    · by_cases hs : sealB stamp (openP raw) = raw
      · refine (open_near hN stamp raw h0 h1 (by omega) false (decide_eq_false (by simpa using hs))).val fun _ => ?_
        have : openS stamp raw = some (openP raw) := by unfold openS; rw [if_neg h0, if_neg (by simpa using h1), if_neg h2, if_pos hs]
        rw [this]; rfl
      · refine (open_near hN stamp raw h0 h1 (by omega) true (decide_eq_true hs)).val fun _ => ?_
        have : openS stamp raw = none := by unfold openS; rw [if_neg h0, if_neg (by simpa using h1), if_neg h2, if_neg hs]
        rw [this]; rfl
  · exact (open_len stamp raw h0 h1).val fun _ => by simp [openS, h0, h1]
end Go.Proofs.YteklldbfdmaafaaDoor
/-
  The package slots: room and count, as plain data, and their contracts.
-/
namespace Go.Proofs.YteklldbfdmaafaaDoor
open Go Go.RowKit
section
variable {W : World} {E : Nat → Addr} {p : Nat} {D : Dsk}
/-- may a slot be there? -/
def Dsk.roomB (D : Dsk) (at_ : Int) : Bool := decide (0 ≤ at_ ∧ at_ ≤ (D.n : Int) - 2)
/-- what a sector of a slot tells -/
def countO (raw : List UInt8) (k : Int) : Option (Int × List UInt8) :=
  if raw.length ≠ 256 then none else if getB raw 8 ≠ getB (raw.drop 248) 8 then none else if getB raw 8 < 1 then none else if 1099511627776 < getB raw 8 then none else
    if getB raw 8 % 2 ≠ k then none else (openS (getB raw 8) raw).map fun v => (getB raw 8, v)
def countV (raw : List UInt8) (k : Int) : Int := ((countO raw k).map (·.1)).getD 0
end
end Go.Proofs.YteklldbfdmaafaaDoor
/-
  The package slots: Write over a disk, as plain data, and its contract.
-/
namespace Go.Proofs.YteklldbfdmaafaaDoor
open Go Go.RowKit
/-- may Write be? -/
def slotMay (D : Dsk) (at_ v : Int) : Bool := D.roomB at_ && decide (1 ≤ v) && decide (v ≤ 1099511627776)
def slotW1 (D : Dsk) (at_ v : Int) (s : List UInt8) : Dsk := D.writeD (at_ + v % 2) (sealB v s)
def slotWE (D : Dsk) (at_ v : Int) (s : List UInt8) : Nat :=
  if slotMay D at_ v = false then 6 else if 234 < s.length then 3 else if D.writeE (at_ + v % 2) (sealB v s) ≠ 0 then D.writeE (at_ + v % 2) (sealB v s) else (slotW1 D at_ v s).flushE
def slotWD (D : Dsk) (at_ v : Int) (s : List UInt8) : Dsk :=
  if slotMay D at_ v = false then D else if 234 < s.length then D else if D.writeE (at_ + v % 2) (sealB v s) ≠ 0 then slotW1 D at_ v s else (slotW1 D at_ v s).flushD
theorem writeD_und (D : Dsk) (i : Int) (s : List UInt8) : (D.writeD i s).und.length ≤ D.und.length + 1 := by
  unfold Dsk.writeD
  split
  · omega
  split
  · split
    · dsimp only
      split
      · rw [Dsk.gone_und]; simp
      · show (Dsk.gone _).und.length ≤ _; rw [Dsk.gone_und]; simp
    · omega
  · omega
theorem errV_ne {E : Nat → Addr} {k : Nat} (h : k ≠ 0) : ∃ a, errV E k = .iface 204 (.pointer (some a)) := ⟨E k, by unfold errV; rw [if_neg h]⟩

end Go.Proofs.YteklldbfdmaafaaDoor
/-
  Bytes there and back: what put lays, get tells; a sealed sector opens.
-/
namespace Go.Proofs.YteklldbfdmaafaaDoor
open Go Go.RowKit
theorem u64_of_lt (n : Nat) (h : n < 2 ^ 64) : IntKind.u64.wrap (n : Int) = (n : Int) := by
  have e : IntKind.u64.wrap (n : Int) = (n : Int) % 18446744073709551616 := rfl
  rw [e]; omega
theorem or64 (x y : Nat) (hx : x < 2 ^ 64) (hy : y < 2 ^ 64) : bits .or .u64 (x : Int) (y : Int) = ((x ||| y : Nat) : Int) := by
  have e : bits .or .u64 (x : Int) (y : Int) = IntKind.u64.wrap ((BitVec.ofInt 64 (x : Int) ||| BitVec.ofInt 64 (y : Int)).toNat : Int) := rfl
  have b1 : (BitVec.ofInt 64 (x : Int)).toNat = x := by rw [BitVec.toNat_ofInt]; omega
  have b2 : (BitVec.ofInt 64 (y : Int)).toNat = y := by rw [BitVec.toNat_ofInt]; omega
  rw [e, BitVec.toNat_or, b1, b2]
  exact u64_of_lt _ (Nat.or_lt_two_pow hx hy)
theorem getPart_val (x i : Nat) (c : UInt8) (hi : i < 8) (hx : x < 2 ^ (8 * i)) : getPart (x : Int) i c = ((x + c.toNat * 2 ^ (8 * i) : Nat) : Int) := by
  have hc := UInt8.toNat_lt c
  have hm : min (8 * (i : Int)).toNat IntKind.u64.bits = 8 * i := by
    show min (8 * (i : Int)).toNat 64 = 8 * i
    omega
  have hp : c.toNat * 2 ^ (8 * i) < 2 ^ (8 * i + 8) := by
    rw [Nat.pow_add, Nat.mul_comm]
    exact Nat.mul_lt_mul_of_pos_left (by omega) (Nat.two_pow_pos _)
  have hp2 : (2 : Nat) ^ (8 * i + 8) ≤ 2 ^ 64 := Nat.pow_le_pow_right (by omega) (by omega)
  have hx2 : (2 : Nat) ^ (8 * i) ≤ 2 ^ 64 := Nat.pow_le_pow_right (by omega) (by omega)
  unfold getPart
  rw [hm, u64_of_lt c.toNat (by omega)]
  have e2 : ((c.toNat : Int) * 2 ^ (8 * i)) = ((c.toNat * 2 ^ (8 * i) : Nat) : Int) := by simp
  rw [e2, u64_of_lt _ (by omega), or64 _ _ (by omega) (by omega)]
  congr 1
  rw [Nat.or_comm, Nat.mul_comm, ← Nat.two_pow_add_eq_or_of_lt hx, Nat.add_comm]
theorem byteAt_val (v i : Nat) (hi : i < 8) : (byteAt (v : Int) i).toNat = v / 2 ^ (8 * i) % 256 := by
  have hm : min (8 * (i : Int)).toNat IntKind.u64.bits = 8 * i := by
    show min (8 * (i : Int)).toNat 64 = 8 * i
    omega
  unfold byteAt byteI
  rw [hm]
  have e : (v : Int).fdiv (2 ^ (8 * i)) = ((v / 2 ^ (8 * i) : Nat) : Int) := by
    rw [Int.fdiv_eq_ediv_of_nonneg _ (by exact Int.pow_nonneg (by decide))]
    simp
  rw [e]
  have e2 : ∀ z : Nat, IntKind.u8.wrap (z : Int) = ((z % 256 : Nat) : Int) := fun z => by
    have : IntKind.u8.wrap (z : Int) = (z : Int) % 256 := rfl
    rw [this]; omega
  rw [e2, Int.toNat_natCast, UInt8.toNat_ofNat']
  omega
/-- n bytes of v, read back -/
theorem getB_of (l : List UInt8) (v : Nat) (n : Nat) (hn : n ≤ 8) (h : ∀ i, i < n → l.getD i 0 = byteAt (v : Int) i) : getB l n = ((v % 2 ^ (8 * n) : Nat) : Int) := by
  induction n with
  | zero => simp [getB, Nat.mod_one]
  | succ n ih =>
    show getPart (getB l n) n (l.getD n 0) = _
    rw [ih (by omega) (fun i hi => h i (by omega)), h n (by omega), getPart_val _ _ _ (by omega) (Nat.mod_lt _ (Nat.two_pow_pos _)), byteAt_val _ _ (by omega)]
    congr 1
    rw [show 8 * (n + 1) = 8 * n + 8 by omega, Nat.pow_add, Nat.mod_mul, Nat.mul_comm (2 ^ (8 * n)) _]
theorem putB_get (x : Int) (n i : Nat) (hi : i < n) : (putB x n).getD i 0 = byteAt x i := by
  simp [putB, List.getD, hi]
theorem lay_get_in (l : List UInt8) (o : Nat) (b : List UInt8) (i : Nat) (h : o + b.length ≤ l.length) (h1 : o ≤ i) (h2 : i < o + b.length) : (lay l o b).getD i 0 = b.getD (i - o) 0 := by
  unfold lay
  simp only [List.getD]
  rw [List.getElem?_append_right (by simp; omega), List.length_take, Nat.min_eq_left (by omega), List.getElem?_append_left (by omega)]
theorem lay_get_out (l : List UInt8) (o : Nat) (b : List UInt8) (i : Nat) (h : o + b.length ≤ l.length) (h1 : i < o ∨ o + b.length ≤ i) : (lay l o b).getD i 0 = l.getD i 0 := by
  unfold lay
  simp only [List.getD]
  rcases h1 with h1 | h1
  · rw [List.getElem?_append_left (by simp; omega), List.getElem?_take_of_lt h1]
  · rw [List.getElem?_append_right (by simp; omega), List.length_take, Nat.min_eq_left (by omega), List.getElem?_append_right (by omega), List.getElem?_drop]
    congr 2
    omega

theorem getD_drop (l : List UInt8) (o i : Nat) : (l.drop o).getD i 0 = l.getD (o + i) 0 := by
  simp [List.getD, List.getElem?_drop]
section
variable (v : Nat) (s : List UInt8) (hl : s.length ≤ 234)
include hl
theorem seal_tail (i : Nat) (h1 : 248 ≤ i) (h2 : i < 256) : (sealB v s).getD i 0 = byteAt (v : Int) (i - 248) := by
  unfold sealB
  rw [lay_get_in _ _ _ _ (by rw [putB_length, sealB4_length _ _ hl]; omega) h1 (by rw [putB_length]; omega), putB_get _ _ _ (by omega)]
theorem seal_low (i : Nat) (h : i < 244) : (sealB v s).getD i 0 = (sealB3 v s).getD i 0 := by
  unfold sealB
  rw [lay_get_out _ _ _ _ (by rw [putB_length, sealB4_length _ _ hl]; omega) (.inl (by omega))]
  unfold sealB4
  rw [lay_get_out _ _ _ _ (by rw [putB_length, sealB3_length _ _ hl]; omega) (.inl (by omega))]
theorem seal_head (i : Nat) (h : i < 8) : (sealB v s).getD i 0 = byteAt (v : Int) i := by
  rw [seal_low v s hl i (by omega)]
  unfold sealB3
  rw [lay_get_out _ _ _ _ (by rw [sealB2_length]; omega) (.inl (by omega))]
  unfold sealB2
  rw [lay_get_out _ _ _ _ (by rw [putB_length, sealB1_length]; omega) (.inl (by omega))]
  unfold sealB1
  rw [lay_get_in _ _ _ _ (by rw [putB_length, List.length_replicate]; omega) (by omega) (by rw [putB_length]; omega), Nat.sub_zero, putB_get _ _ _ h]
theorem seal_size (i : Nat) (h : i < 2) : (sealB v s).getD (8 + i) 0 = byteAt ((s.length : Nat) : Int) i := by
  rw [seal_low v s hl _ (by omega)]
  unfold sealB3
  rw [lay_get_out _ _ _ _ (by rw [sealB2_length]; omega) (.inl (by omega))]
  unfold sealB2
  rw [u64_of_lt s.length (by omega), lay_get_in _ _ _ _ (by rw [putB_length, sealB1_length]; omega) (by omega) (by rw [putB_length]; omega), putB_get _ _ _ (by omega)]
  congr 1
  omega
theorem seal_body (i : Nat) (h : i < s.length) : (sealB v s).getD (10 + i) 0 = s.getD i 0 := by
  rw [seal_low v s hl _ (by omega)]
  unfold sealB3
  rw [lay_get_in _ _ _ _ (by rw [sealB2_length]; omega) (by omega) (by omega)]
  congr 1
  omega
theorem seal_getH (hv : v < 2 ^ 64) : getB (sealB v s) 8 = (v : Int) := by
  rw [getB_of _ v 8 (by omega) (fun i hi => seal_head v s hl i hi), Nat.mod_eq_of_lt (by omega)]
theorem seal_getT (hv : v < 2 ^ 64) : getB ((sealB v s).drop 248) 8 = (v : Int) := by
  rw [getB_of _ v 8 (by omega) (fun i hi => by rw [getD_drop, seal_tail v s hl _ (by omega) (by omega), Nat.add_sub_cancel_left]), Nat.mod_eq_of_lt (by omega)]
set_option maxRecDepth 100000 in
theorem seal_openN : openN (sealB v s) = s.length := by
  have h := getB_of ((sealB (v : Int) s).drop 8) s.length 2 (by omega) (fun i hi => by rw [getD_drop]; exact seal_size v s hl i hi)
  have e : s.length % 2 ^ (8 * 2) = s.length := Nat.mod_eq_of_lt (by show s.length < 65536; omega)
  rw [e] at h
  unfold openN
  rw [h, Int.toNat_natCast]
theorem seal_openP : openP (sealB v s) = s := by
  have hL := sealB_length (v : Int) s hl
  unfold openP
  rw [seal_openN v s hl]
  apply List.ext_getElem
  · rw [List.length_drop, List.length_take]; omega
  · intro i h1 h2
    have h3 := seal_body v s hl i h2
    simp only [List.getElem_drop, List.getElem_take]
    rw [List.getD, List.getElem?_eq_getElem (by omega), List.getD, List.getElem?_eq_getElem h2] at h3
    simpa using h3
/-- A SEALED SECTOR OPENS -/
theorem seal_open (hv0 : v ≠ 0) : openS (v : Int) (sealB v s) = some s := by
  unfold openS
  rw [if_neg (by omega), if_neg (by have := sealB_length (v : Int) s hl; simpa using this), if_neg (by rw [seal_openN v s hl]; omega), seal_openP v s hl, if_pos rfl]
/-- .. and counts in its place -/
theorem seal_count (hv0 : 1 ≤ v) (hv1 : v ≤ 1099511627776) : countO (sealB v s) ((v : Int) % 2) = some ((v : Int), s) := by
  unfold countO
  rw [seal_getH v s hl (by omega), seal_getT v s hl (by omega), seal_open v s hl (by omega), if_neg (by have := sealB_length (v : Int) s hl; simpa using this), if_neg (by simp), if_neg (by omega), if_neg (by omega), if_neg (by simp)]
  rfl
end
end Go.Proofs.YteklldbfdmaafaaDoor
/-
  What all the laws of this seat share at their ends: the 37 errors out of the row's list, a witness, and the last step behind the walk.
-/
namespace Go.Proofs.YteklldbfdmaafaaDoor
open Go Go.RowKit Go.ChangeShapes Go.WideShapes Go.Deep
theorem own : ownKnob Tryd.prog.godebug = none := by kernel_rfl
theorem laidOut : laidOutB Tryd.prog = true := by kernel_rfl


/-- the places of the listed variables' data lie apart -/
theorem laidVars_at {P : Program} {w : World} : ∀ {laid : List (String × DataW Unit)} {ps : List MemPlace}, DataW.LaidVars P w laid ps → ps.Nodup →
    ∃ pl : Nat → List MemPlace, (∀ i n d, laid[i]? = some (n, d) → ∃ g t cs fuel, P.globalNamed n = some g ∧ (P.globals[g]?).map (·.type) = some t ∧ w.var? P n = some cs ∧
      DataW.trod (fun _ => ()) P w 0 (fun _ => true) false fuel t cs.toList = some (d, pl i) ∧ (∀ x ∈ MemPlace.row ⟨g, 0, none⟩ cs.size, x ∈ ps) ∧ ∀ x ∈ pl i, x ∈ ps) ∧
      ∀ i j, i < j → j < laid.length → ∀ x ∈ pl i, x ∉ pl j
  | [], ps, _, _ => ⟨fun _ => [], fun i n d h => by simp at h, fun i j _ h => by simp at h⟩
  | (n, d) :: r, ps, h, hn => by
    obtain ⟨g, t, cs, fuel, p, q, h1, h2, h3, h4, h5, rfl⟩ := h
    have hq : q.Nodup := (List.nodup_append.1 hn).2.1
    obtain ⟨pl, hp1, hp2⟩ := laidVars_at h5 hq
    refine ⟨fun i => match i with | 0 => p | i + 1 => pl i, fun i n' d' hi => ?_, fun i j hij hj x hx => ?_⟩
    · cases i with
      | zero =>
        simp only [List.getElem?_cons_zero, Option.some.injEq, Prod.mk.injEq] at hi
        obtain ⟨rfl, rfl⟩ := hi
        exact ⟨g, t, cs, fuel, h1, h2, h3, h4, fun x hx => by simp [hx], fun x hx => by simp at hx ⊢; simp [hx]⟩
      | succ i =>
        obtain ⟨g', t', cs', f', a1, a2, a3, a4, a5, a6⟩ := hp1 i n' d' (by simpa using hi)
        exact ⟨g', t', cs', f', a1, a2, a3, a4, fun x hx => List.mem_append_right _ (a5 x hx), fun x hx => List.mem_append_right _ (a6 x hx)⟩
    · cases j with
      | zero => omega
      | succ j =>
        have hj' : j < r.length := by simpa using hj
        cases i with
        | zero =>
          intro hxj
          have hxq : x ∈ q := by
            obtain ⟨y, hy⟩ : ∃ y, r[j]? = some y := ⟨_, List.getElem?_eq_getElem hj'⟩
            obtain ⟨n', d'⟩ := y
            obtain ⟨_, _, _, _, _, _, _, _, _, a6⟩ := hp1 j n' d' hy
            exact a6 x hxj
          exact (List.nodup_append.1 hn).2.2 x (List.mem_append_right _ hx) x hxq rfl
        | succ i => exact hp2 i j (by omega) hj' x hx

/-- a listed error: a pointer to a text -/
def errIn (x : DataW Unit) : Bool := match x with | .iface "*errors.errorString" (.ptr (.agg [.lit (.string _)])) => true | _ => false
/-- the row's list opens with the 37 errors, in their order -/
noncomputable def opens (laid : List (String × DataW Unit)) : Bool := (List.range 37).all fun i => match laid[i]? with
  | some (n, d) => (Tryd.prog.globalNamed n == some (errG (i + 1))) && ((Tryd.prog.globals[errG (i + 1)]?).map (·.type) == some 31) && errIn d
  | none => false
theorem errIn_is {x : DataW Unit} (h : errIn x = true) : ∃ s, x = .iface "*errors.errorString" (.ptr (.agg [.lit (.string s)])) := by
  unfold errIn at h
  split at h
  · exact ⟨_, rfl⟩
  · cases h
theorem rowErr (u : TypeId) (h : Tryd.prog.typeName? 3 u = some "*errors.errorString") : u = 204 :=
  typeName_ptr_named (nm := "errors.errorString") (by rw [show "*" ++ "errors.errorString" = "*errors.errorString" from by decide]; kernel_rfl) (by kernel_rfl) (by decide) u (by rw [show "*" ++ "errors.errorString" = "*errors.errorString" from by decide]; exact h)
theorem cellsErr : Tryd.prog.cellsOf 218 = 1 := by kernel_rfl
theorem cellsStr : Tryd.prog.cellsOf 9 = 1 := by kernel_rfl

set_option maxRecDepth 100000 in
/-- WHAT THE ROW's LIST GIVES: the 37 errors lie in their variables, each its own -/
theorem errs_of_laid {laid : List (String × DataW Unit)} {W : World} (hp : (laid.all fun x => x.2.handleName?.isNone) = true) (ho : opens laid = true) (h : laidMetH Tryd.prog laid W) : ∃ E, ErrsAt W E := by
  rw [MakeChecks.laidMetH_plain _ _ _ hp] at h
  obtain ⟨ps, hL, hnd, hrows⟩ := h
  obtain ⟨pl, h1, h2⟩ := laidVars_at hL hnd
  have hlen : 37 ≤ laid.length := by
    have := List.all_eq_true.1 ho 36 (by simp)
    cases hx : laid[36]? with
    | none => rw [hx] at this; cases this
    | some y => have := (List.getElem?_eq_some_iff.1 hx).1; omega
  have key : ∀ k : Nat, ∃ a : Addr, 1 ≤ k → k ≤ 37 → W.cell? ⟨errG k, 0, none⟩ = some (.iface 204 (.pointer (some a))) ∧ (∃ c t, W.heap[a.block]? = some (.cells c t (0, 0))) ∧ a.spot = none ∧ pl (k - 1) = MemPlace.row a 1 := by
    intro k
    by_cases hk : 1 ≤ k ∧ k ≤ 37
    · have hi := List.all_eq_true.1 ho (k - 1) (by simp; omega)
      cases hx : laid[k - 1]? with
      | none => rw [hx] at hi; cases hi
      | some y =>
        obtain ⟨n, d⟩ := y
        rw [hx] at hi
        simp only [Bool.and_eq_true, beq_iff_eq] at hi
        obtain ⟨⟨e1, e2⟩, e3⟩ := hi
        obtain ⟨text, rfl⟩ := errIn_is e3
        rw [show k - 1 + 1 = k from by omega] at e1 e2
        obtain ⟨g, t, cs, fuel, a1, a2, a3, a4, a5, a6⟩ := h1 _ _ _ hx
        obtain rfl := Option.some.inj (e1.symm.trans a1)
        obtain rfl := Option.some.inj (e2.symm.trans a2)
        obtain ⟨l⟩ := cs
        have ok : ∀ u v, l = [.iface u v] → Value.okWide Tryd.prog W .any 0 u v := fun u v e => by
          subst e
          exact (hrows (errG k) 0 (a5 _ (by simp [MemPlace.row]))).2 u v (by simpa using World.var?_cell a1 a3 0)
        obtain ⟨a, s, rfl, hc0, hs0, hz0, hpl⟩ := errorString_of_trod Tryd.underlying31 rowErr Tryd.underlying204 Tryd.underlying218 rfl rfl Tryd.underlying9 cellsErr cellsStr a4 ok
        have hokv := ok _ _ rfl
        refine ⟨a, fun _ _ => ⟨by simpa using World.var?_cell a1 a3 0, (hrows a.block a.off (a6 _ (by rw [hpl]; simp [MemPlace.row]))).1, ?_, hpl⟩⟩
        unfold Value.okWide at hokv
        simp only [Tryd.underlying204] at hokv
        unfold Cell.okWide at hokv
        simp only [Cell.ok, Tryd.underlying204] at hokv
        exact hokv.2.1
    · exact ⟨⟨0, 0, none⟩, fun h h' => absurd ⟨h, h'⟩ hk⟩
  obtain ⟨E, hE⟩ : ∃ E : Nat → Addr, ∀ k, 1 ≤ k → k ≤ 37 → W.cell? ⟨errG k, 0, none⟩ = some (.iface 204 (.pointer (some (E k)))) ∧ (∃ c t, W.heap[(E k).block]? = some (.cells c t (0, 0))) ∧ (E k).spot = none ∧ pl (k - 1) = MemPlace.row (E k) 1 :=
    ⟨fun k => Classical.choose (key k), fun k => Classical.choose_spec (key k)⟩
  refine ⟨E, fun k h1 h2 => ?_, fun k h1 h2 => (hE k h1 h2).2.1, fun j k hj1 hj2 hk1 hk2 e => ?_⟩
  · have := (hE k h1 h2).1
    unfold ErrAt
    rw [errV_pos _ _ h1]
    exact this
  · have hj := (hE j hj1 hj2).2.2.2
    have hk := (hE k hk1 hk2).2.2.2
    rw [e] at hj
    have hmem : (MemPlace.cell (E k).block (E k).off) ∈ MemPlace.row (E k) 1 := by simp [MemPlace.row]
    rcases Nat.lt_trichotomy (j - 1) (k - 1) with hlt | heq | hlt
    · exact absurd (by rw [hk]; exact hmem) (h2 (j - 1) (k - 1) hlt (by omega) _ (by rw [hj]; exact hmem))
    · omega
    · exact absurd (by rw [hj]; exact hmem) (h2 (k - 1) (j - 1) hlt (by omega) _ (by rw [hk]; exact hmem))

theorem lastRow : ((((begin Tryd.prog (fun _ _ => 0) default).world.heap[gB - 1]?).bind Obj.row?).isSome && decide (gB - 1 < Tryd.prog.globals.size)) = true := by kernel_rfl
theorem gB_le {W : World} (h : W.ShapedOpen Tryd.prog) : gB ≤ W.heap.size := by
  have hl := lastRow
  simp only [Bool.and_eq_true, decide_eq_true_eq] at hl
  obtain ⟨h1, h2⟩ := hl
  obtain ⟨⟨z, t⟩, hz⟩ := Option.isSome_iff_exists.1 h1
  obtain ⟨cs, hc, _⟩ := h.1 _ z t h2 hz
  have := (Array.getElem?_eq_some_iff.1 hc).1
  unfold gB at this ⊢
  omega

section
variable {H : Type} {enc : TypeId × Value → H} {P : Program}
theorem post_of_below {f : Func} {s : ChangeSpec} {apart fresh handsOn again : Bool} {W W' : World} {args : Array Value} {v : Value} {ds gs : List (DataW H)} {before pa pv : List MemPlace}
    (hW : DataW.Whole enc P f.params.toList s.vars apart W args.toList ds gs before)
    (hres : ∀ (b : Nat) (sp : Nat → Bool) (hd : Bool), DataW.TrodAll enc P W' b sp hd f.resultTypes.toList (v.resultList f.resultTypes.size) (s.fn H (ds ++ gs)).results [])
    (hargs : ∀ sp : Nat → Bool, (∀ p ∈ before, sp p.block = true) → DataW.TrodAll enc P W' 0 sp true f.params.toList args.toList (s.fn H (ds ++ gs)).args pa)
    (hvars : ∀ sp : Nat → Bool, (∀ p ∈ before, sp p.block = true) → DataW.TrodVars enc P W' sp s.vars (s.fn H (ds ++ gs)).vars pv)
    (hps : before = pa ++ pv) (hb : Below W.heap.size W W')
    (hok : ∀ (j : Nat) (t : TypeId) (r : Value), f.resultTypes[j]? = some t → (v.resultList f.resultTypes.size)[j]? = some r → Value.okWide P W' .any 0 t r) :
    s.post enc P f apart fresh handsOn again W args v W' := by
  have hlt : ∀ p ∈ before, p.block < W.heap.size := fun p hp => hW.lt p hp
  have hold : ∀ p ∈ before, (fun b => decide (b < W.heap.size)) p.block = true := fun p hp => by simpa using hlt p hp
  refine ⟨ds, gs, before, [], pa, pv, hW, hres _ _ _, hargs _ hold, hvars _ hold, World.keptBut_mono (fun p hp => ⟨hp, ?_⟩) (hb.frame (· ∈ before)), fun _ => ?_⟩
  · rw [hps, List.mem_append] at hp
    exact Or.inr hp
  · obtain ⟨_, _, _, _, _, hz, hn⟩ := hW
    refine ⟨hok, _, _, ([] ++ pa) ++ pv, ⟨[] ++ pa, pv, trodAll_append (hargs _ (fun _ _ => rfl)) (hres _ _ _), hvars _ (fun _ _ => rfl), rfl, ?_, ?_⟩, ?_⟩
    · intro b off hp
      have hin : MemPlace.cell b off ∈ before := by rw [hps]; simpa using hp
      rw [hb.frozen (hlt _ hin)]
      exact hz b off hin
    · intro ha
      have := hn ha
      rw [hps] at this
      simpa using this
    · intro p hp _
      rw [hps]
      simpa using hp
/-- all arguments read behind the call as before -/
theorem trodAll_stays (hl : laidOutB P = true) {W W' : World} {sp : Nat → Bool} (hb : Below W.heap.size W W') : ∀ {ts : List TypeId} {vs : List Value} {ds : List (DataW H)} {ps : List MemPlace},
    (ts.all fun t => P.readableRec t && decide (t < P.types.size)) = true → DataW.TrodAll enc P W 0 (fun _ => true) true ts vs ds ps → (∀ x ∈ ps, x.block < W.heap.size) → (∀ x ∈ ps, sp x.block = true) → DataW.TrodAll enc P W' 0 sp true ts vs ds ps
  | [], [], [], _, _, h, _, _ => h
  | t :: ts, v :: vs, d :: ds, ps, hr, h, hlt, hs => by
    obtain ⟨p, q, h1, h2, rfl⟩ := h
    simp only [List.all_cons, Bool.and_eq_true, decide_eq_true_eq] at hr
    exact ⟨p, q, WideElems.Trod_stays hl hr.1.1 hr.1.2 h1 (fun x hx => hb.same (hlt x (List.mem_append_left _ hx))) (fun x hx => hs x (List.mem_append_left _ hx)),
      trodAll_stays hl hb (by simpa using hr.2) h2 (fun x hx => hlt x (List.mem_append_right _ hx)) (fun x hx => hs x (List.mem_append_right _ hx)), rfl⟩
  | [], _ :: _, _, _, _, h, _, _ => h.elim
  | [], [], _ :: _, _, _, h, _, _ => h.elim
  | _ :: _, [], _, _, _, h, _, _ => h.elim
  | _ :: _, _ :: _, [], _, _, h, _, _ => h.elim
/-- THE LAST STEP: the call answered true, and all that lay there before is as it was -/
theorem post_true {f : Func} {s : ChangeSpec} {apart fresh handsOn again : Bool} {W W' : World} {args : Array Value} {ds gs : List (DataW H)} {before : List MemPlace} {tb : TypeId}
    (hl : laidOutB P = true) (htb : P.underlying tb = some .bool) (hrt : f.resultTypes = #[tb]) (hr : (f.params.toList.all fun t => P.readableRec t && decide (t < P.types.size)) = true) (hv : s.vars = [])
    (hW : DataW.Whole enc P f.params.toList s.vars apart W args.toList ds gs before) (hfn : s.fn H (ds ++ gs) = { results := [.lit (.bool true)], args := ds }) (hb : Below W.heap.size W W') :
    s.post enc P f apart fresh handsOn again W args (.bool true) W' := by
  have hlt : ∀ p ∈ before, p.block < W.heap.size := fun p hp => hW.lt p hp
  have hW' := hW
  obtain ⟨p, q, hA, hV, rfl, _, _⟩ := hW
  rw [hv] at hV
  obtain ⟨rfl, rfl⟩ := trodVars_none hV
  refine post_of_below (pa := p) (pv := []) hW' (fun b sp hd => ?_) (fun sp hs => ?_) (fun sp _ => ?_) rfl hb (ok_one hrt rfl (okWide_bool_mk htb _))
  · rw [hfn, hrt]
    exact trodAll_cons_mk (shut_bool htb _) trodAll_mk0
  · rw [hfn]
    exact trodAll_stays hl hb hr hA (fun x hx => hlt x (by simp [hx])) (fun x hx => hs x (by simp [hx]))
  · rw [hfn, hv]
    exact rfl

/-- there is an input that fits: the listed variables laid by the kit's own function -/
theorem witness_laid {C : Checked} {os : Os} {f : FuncId} {fn : Func} {s : OpenSpec} {conds : List PathCond} {apart : Bool} {laid : List (String × DataW Unit)} (modest : Bool) (w0 : World) (args : Array Value) (hos : w0.os = os)
    (hsh : (w0.forCall (fun _ _ => 0) ⟨#[], args, []⟩).Shaped C.prog)
    (hok : Input.okWideB C.prog (w0.forCall (fun _ _ => 0) ⟨#[], args, []⟩) f ⟨#[], args, []⟩ = true)
    (hrow : s.preRow enc C.prog fn conds apart laid (w0.forCall (fun _ _ => 0) ⟨#[], args, []⟩).memory args) :
    ∃ (w : World) (tape : Tape) (i : Input), w.os = os ∧ (w.forCall tape i).Shaped C.prog ∧ i.vars = [] ∧ Input.okWide C.prog (w.forCall tape i) .any w.heap.size f i ∧
      s.preRow enc C.prog fn conds apart laid (w.forCall tape i).memory i.args ∧ ({ modest := modest } : Assume).holds C.prog (lone (Frame.enter C.prog f i.args .normal) [] (w.forCall tape i)) :=
  ⟨w0, fun _ _ => 0, ⟨#[], args, []⟩, hos, hsh, (Input.okWide_of_okWideB (base := 0) hok).1, (Input.okWide_of_okWideB hok).2, hrow, by
    simp only [Assume.holds]
    exact ⟨by simp, by simp, fun _ => Modest.zero, by simp, by simp⟩⟩

/-- what the bound gives -/
theorem one_le (d : DataW H) : 1 ≤ Rows.uptoBulk d := by
  cases d with
  | lit l => cases l <;> simp [Rows.uptoBulk]
  | nil => simp [Rows.uptoBulk]
  | ptr d => simp [Rows.uptoBulk]
  | slice elems spare => simp [Rows.uptoBulk]
  | agg parts => simp [Rows.uptoBulk]
  | iface t d => simp [Rows.uptoBulk]
  | map entries => simp [Rows.uptoBulk]
  | held h => simp [Rows.uptoBulk]
theorem part_le {d : DataW H} {l : List (DataW H)} (h : d ∈ l) : Rows.uptoBulk d ≤ Rows.uptoBulkAll l := by
  induction l with
  | nil => cases h
  | cons x r ih =>
    simp only [Rows.uptoBulkAll]
    cases List.mem_cons.1 h with
    | inl e => subst e; omega
    | inr e => have := ih e; omega
theorem length_le (l : List (DataW H)) : l.length ≤ Rows.uptoBulkAll l := by
  induction l with
  | nil => simp [Rows.uptoBulkAll]
  | cons x r ih => have := one_le x; simp only [Rows.uptoBulkAll, List.length_cons]; omega
theorem slice_le (elems spare : List (DataW H)) : elems.length + 1 ≤ Rows.uptoBulk (.slice elems spare) := by
  have h1 := length_le elems
  simp only [Rows.uptoBulk]
  omega
theorem slice_elems (elems spare : List (DataW H)) : Rows.uptoBulkAll elems + 1 ≤ Rows.uptoBulk (.slice elems spare) := by
  simp only [Rows.uptoBulk]
  omega
theorem agg_parts (ps : List (DataW H)) : Rows.uptoBulkAll ps ≤ Rows.uptoBulk (.agg ps) := by
  simp only [Rows.uptoBulk]
  omega
theorem upto_bound {l : List (DataW H)} (hk : Rows.uptoSmall H l = true) : Rows.uptoBulkAll l ≤ 1048576 := of_decide_eq_true hk
end
end Go.Proofs.YteklldbfdmaafaaDoor
/-
  Errors compared; the table of the check sum out of the row's list.
-/
namespace Go.Proofs.YteklldbfdmaafaaDoor
open Go Go.RowKit
/-- WHAT THE ROW's LIST GIVES: the table of the check sum -/
theorem nibs_of_laid (at_ : Nat) {laid : List (String × DataW Unit)} {W : World} (hp : (laid.all fun x => x.2.handleName?.isNone) = true) (hi : laid[at_]? = some ("remit/checks.nibbles", Lib.tabData .u32 nibT)) (h : laidMetH Tryd.prog laid W) : NibAt W := by
  rw [MakeChecks.laidMetH_plain _ _ _ hp] at h
  obtain ⟨ps, hL, hnd, _⟩ := h
  obtain ⟨pl, h1, _⟩ := laidVars_at hL hnd
  obtain ⟨g, t, cs, fuel, a1, a2, a3, a4, _, _⟩ := h1 _ _ _ hi
  obtain rfl := Option.some.inj ((show Tryd.prog.globalNamed "remit/checks.nibbles" = some 37 by kernel_rfl).symm.trans a1)
  obtain rfl := Option.some.inj ((show (Tryd.prog.globals[37]?).map (·.type) = some 203 by kernel_rfl).symm.trans a2)
  have hcs := Lib.cells_of_tab Tryd.underlying203 Tryd.underlying182 (by kernel_rfl) (by kernel_rfl) a4
  intro i hi'
  have := World.var?_cell a1 a3 i
  rw [this]
  have e : cs[i]? = cs.toList[i]? := by simp
  rw [e, hcs]
  have hn : i < nibT.length := hi'
  simp [List.getD, hn]
end Go.Proofs.YteklldbfdmaafaaDoor
/-
  The package area: places, Room, Sectors, Write, Read, as plain data, and their contracts; the law's texts.
-/
namespace Go.Proofs.YteklldbfdmaafaaDoor
open Go Go.RowKit
theorem lay_zs (l : List UInt8) (k m : Nat) (c : UInt8) (hl : l.length = k) : lay (bvs (l ++ zs (m + 1))) k [bv c] = bvs (l ++ [c] ++ zs m) := by
  subst hl
  have e := bvs_lay (l ++ zs (m + 1)) [c] l.length
  have e2 : lay (l ++ zs (m + 1)) l.length [c] = l ++ [c] ++ zs m := by
    unfold lay
    rw [List.take_left' rfl, List.drop_append, List.drop_of_length_le (by simp)]
    simp [zs, List.replicate_succ]
  rw [e2] at e
  exact e

def roomI (n : Int) : Int := 234 * min (max n 0) 65536
def sectorsI (b : Int) : Int := if b ≤ 0 then 0 else (b - 1) / 234 + 1
/-- may n sectors from at on be? -/
def Dsk.mayB (D : Dsk) (at_ n : Int) : Bool := decide (0 ≤ at_ ∧ 0 ≤ n ∧ at_ ≤ D.n ∧ n ≤ D.n - at_)
end Go.Proofs.YteklldbfdmaafaaDoor
/-
  The package area: Write and Read over a disk, as plain data, and their contracts.
-/
namespace Go.Proofs.YteklldbfdmaafaaDoor
open Go Go.RowKit
section
variable {P : Program} {W : World} {n : Nat} {E : Env} {H R : List SP} {k : KK} {t u : TypeId} {x y z : Operand}
theorem Ev_min_v {kd : IntKind} {i j r : Int} {ts : Array TypeId} (hx : Env.ev E x = some (.int kd i)) (hy : Env.ev E y = some (.int kd j)) (h : min i j = r) : Ev P W n E H (.call { callee := .builtin .min, args := #[x, y], argTypes := ts }) (.int kd r) := by subst h; exact Ev_min hx hy
theorem Ev_sliceStrTo_v {l r : List UInt8} {j : Int} {kj : IntKind} (hx : Env.ev E x = some (strV l)) (hz : Env.ev E z = some (.int kj j)) [hu : UIs P t .string] (hb : 0 ≤ j ∧ j ≤ l.length) (h : l.take j.toNat = r) : Ev P W n E H (.slice t x none (some z) none) (strV r) := by subst h; exact Ev_sliceStrTo hx hz hb
theorem Ev_sliceStrFrom_v {l r : List UInt8} {i : Int} {ki : IntKind} (hx : Env.ev E x = some (strV l)) (hy : Env.ev E y = some (.int ki i)) [hu : UIs P t .string] (hb : 0 ≤ i ∧ i ≤ l.length) (h : l.drop i.toNat = r) : Ev P W n E H (.slice t x (some y) none none) (strV r) := by subst h; exact Ev_sliceStrFrom hx hy hb
theorem row0_star {e sz : Nat} : ∀ g, starL H g → starL (rowP (.slice none 0 0) e sz 0 [] :: H) g :=
  fun g q => ⟨fun _ => none, g, (fun _ _ q => by cases q), (fun _ _ q => by cases q), .rfl, ⟨by simp, .inl ⟨rfl, rfl⟩⟩, q⟩
theorem KJ.row0 {e sz : Nat} (h : KJ W n k E (rowP (.slice none 0 0) e sz 0 [] :: H)) : KJ W n k E H := ⟨fun a w q s => h.go a w q (s.mono row0_star)⟩
end
/-- the pieces of a value, one behind the other: the error, the disk -/
def awGo (at_ stamp : Int) : Nat → Dsk → Int → List UInt8 → Nat × Dsk
  | 0, D, _, _ => (D.flushE, D.flushD)
  | f + 1, D, i, v => if v = [] then (D.flushE, D.flushD) else if D.writeE (at_ + i) (sealB stamp (v.take 234)) ≠ 0 then (D.writeE (at_ + i) (sealB stamp (v.take 234)), D.writeD (at_ + i) (sealB stamp (v.take 234)))
      else awGo at_ stamp f (D.writeD (at_ + i) (sealB stamp (v.take 234))) (i + 1) (v.drop 234)
def areaW (D : Dsk) (at_ n stamp : Int) (v : List UInt8) : Nat × Dsk :=
  if D.mayB at_ n = false then (6, D) else if stamp = 0 then (6, D) else if roomI n < (v.length : Int) then (3, D) else if D.off then (12, D) else awGo at_ stamp v.length D 0 v
theorem awGo_nil (at_ stamp : Int) (f : Nat) (D : Dsk) (i : Int) : awGo at_ stamp f D i [] = (D.flushE, D.flushD) := by cases f <;> simp [awGo]

section
variable {W : World} {E : Nat → Addr} {p : Nat} {D : Dsk}
/-- the sectors of a value, one behind the other -/
def arGo (D : Dsk) (at_ stamp bytes : Int) : Nat → Nat → List UInt8 → List UInt8 × Nat
  | 0, _, acc => (acc, 0)
  | f + 1, i, acc => if D.readE (at_ + i) ≠ 0 then ([], D.readE (at_ + i)) else
      match openS stamp (D.readS (at_ + i)) with
      | none => ([], 15)
      | some pc => if (pc.length : Int) ≠ min (bytes - i * 234) 234 then ([], 15) else arGo D at_ stamp bytes f (i + 1) (acc ++ pc)
def areaR (D : Dsk) (at_ n stamp bytes : Int) : List UInt8 × Nat :=
  if D.mayB at_ n = false then ([], 6) else if stamp = 0 then ([], 6) else if bytes < 0 then ([], 6) else if roomI n < bytes then ([], 3) else if D.off then ([], 12) else arGo D at_ stamp bytes (sectorsI bytes).toNat 0 []
end
end Go.Proofs.YteklldbfdmaafaaDoor
/-
  The package journal: Cost, Largest, a log's place, Begin, down, Fits, Used: contracts.
-/
namespace Go.Proofs.YteklldbfdmaafaaDoor
open Go Go.RowKit
def costI (b : Int) : Int := if b < 0 then 0 else if b ≤ 229 then 1 else 2 + (b - 230) / 233
def stampN (v i : Nat) : Nat := v * 1048576 + i + 1
theorem i64_wrap (x : Int) (h : -9223372036854775808 ≤ x ∧ x ≤ 9223372036854775807) : IntKind.i64.wrap x = x := by
  have : IntKind.i64.wrap x = if x % 18446744073709551616 ≥ 9223372036854775808 then x % 18446744073709551616 - 18446744073709551616 else x % 18446744073709551616 := by
    simp [IntKind.wrap, IntKind.signed, IntKind.bits]
  rw [this]
  split <;> omega
section
variable {W : World} {E : Nat → Addr} {p g : Nat} {D : Dsk}
theorem cost_ct (b : Int) (hb : b ≤ 9223372036854775807) : Ct Tryd.prog W 61 [.int .i64 b] [] (fun _ : Unit => .int .i64 (costI b)) (fun _ => []) := by
  by_cases h1 : b < 0
  · have q1 : decide (b < 0) = true := decide_eq_true h1
    rw [show costI b = 0 from if_pos h1]
    refine Ct.enter Tryd.func61 rfl Tryd.ntmps61 (by simp) (fun R => ?_)
    repeat' (first 
    | (refine ek_lss ?_; refine EK_ev (Ev_lssI_q rfl rfl q1) ?_)
    | refine xst ?_
    | (refine xsa ?_; intro _)
    | (refine xsb ?_ ?_ <;> intro _ <;> first | (exfalso; omega) | skip)
    | refine xsc ?_
    | fail)
    all_goals (exact xdn ())
  have q1 : decide (b < 0) = false := decide_eq_false h1
  by_cases h2 : b ≤ 229
  · have q2 : decide (b ≤ 229) = true := decide_eq_true h2
    rw [show costI b = 1 from (if_neg h1).trans (if_pos h2)]
    refine Ct.enter Tryd.func61 rfl Tryd.ntmps61 (by simp) (fun R => ?_)
    repeat' (first 
    | (refine ek_lss ?_; refine EK_ev (Ev_lssI_q rfl rfl q1) ?_)
    | (refine ek_leq ?_; refine EK_ev (Ev_leqI_q rfl rfl q2) ?_)
    | refine xst ?_
    | (refine xsa ?_; intro _)
    | (refine xsb ?_ ?_ <;> intro _ <;> first | (exfalso; omega) | skip)
    | refine xsc ?_
    | fail)
    all_goals (exact xdn ())
  have q2 : decide (b ≤ 229) = false := decide_eq_false h2
  have e : costI b = 2 + (b - 230) / 233 := (if_neg h1).trans (if_neg h2)
  obtain ⟨q, hq⟩ : ∃ q, q = (b - 230) / 233 := ⟨_, rfl⟩
  have hq1 : (b - 229 - 1) / 233 = q := by rw [hq, show b - 229 - 1 = b - 230 by omega]
  rw [e, ← hq]
  refine Ct.enter Tryd.func61 rfl Tryd.ntmps61 (by simp) (fun R => ?_)
  repeat' (first 
    | (refine ek_add ?_; refine EK_ev (Ev_addI_v (r := 2 + q) rfl rfl rfl (by omega)) ?_)
    | (refine ek_quo ?_; first | refine EK_ev (Ev_quo_w rfl rfl (by omega) hq.symm) ?_ | refine EK_ev (Ev_quo_w rfl rfl (by omega) hq1) ?_)
    | (refine ek_lss ?_; refine EK_ev (Ev_lssI_q rfl rfl q1) ?_)
    | (refine ek_leq ?_; refine EK_ev (Ev_leqI_q rfl rfl q2) ?_)
    | refine xst ?_
    | (refine xsa ?_; intro _)
    | (refine xsb ?_ ?_ <;> intro _ <;> first | (exfalso; omega) | skip)
    | refine xsc ?_
    | fail)
  all_goals (exact xdn ())
theorem costr_ct (b : Int) (hb : b ≤ 9223372036854775807) : Ct Tryd.prog W 62 [.int .i64 b] [] (fun _ : Unit => .int .i64 (costI b)) (fun _ => []) := by
  by_cases h1 : b < 0
  · have q1 : decide (b < 0) = true := decide_eq_true h1
    rw [show costI b = 0 from if_pos h1]
    refine Ct.enter Tryd.func62 rfl Tryd.ntmps62 (by simp) (fun R => ?_)
    repeat' (first 
    | (refine ek_lss ?_; refine EK_ev (Ev_lssI_q rfl rfl q1) ?_)
    | refine xst ?_
    | (refine xsa ?_; intro _)
    | (refine xsb ?_ ?_ <;> intro _ <;> first | (exfalso; omega) | skip)
    | refine xsc ?_
    | fail)
    all_goals (exact xdn ())
  have q1 : decide (b < 0) = false := decide_eq_false h1
  by_cases h2 : b ≤ 229
  · have q2 : decide (b ≤ 229) = true := decide_eq_true h2
    rw [show costI b = 1 from (if_neg h1).trans (if_pos h2)]
    refine Ct.enter Tryd.func62 rfl Tryd.ntmps62 (by simp) (fun R => ?_)
    repeat' (first 
    | (refine ek_lss ?_; refine EK_ev (Ev_lssI_q rfl rfl q1) ?_)
    | (refine ek_leq ?_; refine EK_ev (Ev_leqI_q rfl rfl q2) ?_)
    | refine xst ?_
    | (refine xsa ?_; intro _)
    | (refine xsb ?_ ?_ <;> intro _ <;> first | (exfalso; omega) | skip)
    | refine xsc ?_
    | fail)
    all_goals (exact xdn ())
  have q2 : decide (b ≤ 229) = false := decide_eq_false h2
  have e : costI b = 2 + (b - 230) / 233 := (if_neg h1).trans (if_neg h2)
  obtain ⟨q, hq⟩ : ∃ q, q = (b - 230) / 233 := ⟨_, rfl⟩
  have hq1 : (b - 229 - 1) / 233 = q := by rw [hq, show b - 229 - 1 = b - 230 by omega]
  rw [e, ← hq]
  refine Ct.enter Tryd.func62 rfl Tryd.ntmps62 (by simp) (fun R => ?_)
  repeat' (first 
    | (refine ek_add ?_; refine EK_ev (Ev_addI_v (r := 2 + q) rfl rfl rfl (by omega)) ?_)
    | (refine ek_quo ?_; first | refine EK_ev (Ev_quo_w rfl rfl (by omega) hq.symm) ?_ | refine EK_ev (Ev_quo_w rfl rfl (by omega) hq1) ?_)
    | (refine ek_lss ?_; refine EK_ev (Ev_lssI_q rfl rfl q1) ?_)
    | (refine ek_leq ?_; refine EK_ev (Ev_leqI_q rfl rfl q2) ?_)
    | refine xst ?_
    | (refine xsa ?_; intro _)
    | (refine xsb ?_ ?_ <;> intro _ <;> first | (exfalso; omega) | skip)
    | refine xsc ?_
    | fail)
  all_goals (exact xdn ())
set_option maxRecDepth 100000 in
theorem log_ct (v i : Nat) (hv : 1 ≤ v ∧ v ≤ 1099511627776) (hi : i < 65536) : Ct Tryd.prog W 101 [.int .i64 (v : Nat), .int .i64 (i : Nat)] [] (fun _ : Unit => .tuple #[.int .u64 (stampN v i : Nat), .nilIface]) (fun _ => []) := by
  have q1 : decide ((v : Int) < 1) = false := decide_eq_false (by omega)
  have q2 : decide ((1099511627776 : Int) < (v : Int)) = false := decide_eq_false (by omega)
  have q3 : decide ((i : Int) < 0) = false := decide_eq_false (by omega)
  have q4 : decide ((65536 : Int) ≤ (i : Int)) = false := decide_eq_false (by omega)
  have c1 : IntKind.u64.wrap (v : Int) = (v : Int) := u64_of_lt v (by omega)
  have c2 : IntKind.u64.wrap (i : Int) = (i : Int) := u64_of_lt i (by omega)
  have c3 : IntKind.u64.wrap ((v : Int) * 2 ^ (min (20 : Int).toNat IntKind.u64.bits)) = ((v * 1048576 : Nat) : Int) := by
    rw [show (v : Int) * 2 ^ (min (20 : Int).toNat IntKind.u64.bits) = ((v * 1048576 : Nat) : Int) by
      show (v : Int) * 2 ^ 20 = _
      omega]
    exact u64_of_lt _ (by omega)
  have c4 : IntKind.u64.wrap (((v * 1048576 : Nat) : Int) + (i : Int)) = ((v * 1048576 + i : Nat) : Int) := u64_of_lt (v * 1048576 + i) (by omega)
  have c5 : IntKind.u64.wrap (((v * 1048576 + i : Nat) : Int) + 1) = ((stampN v i : Nat) : Int) := u64_of_lt (v * 1048576 + i + 1) (by omega)
  obtain ⟨a2, ha2⟩ : ∃ a2, a2 = v * 1048576 + i := ⟨_, rfl⟩
  obtain ⟨a1, ha1⟩ : ∃ a1, a1 = v * 1048576 := ⟨_, rfl⟩
  obtain ⟨a3, ha3⟩ : ∃ a3, a3 = stampN v i := ⟨_, rfl⟩
  rw [← ha2] at c4 c5
  rw [← ha1] at c3 c4
  rw [← ha3] at c5 ⊢
  clear ha1 ha2 ha3
  refine Ct.enter Tryd.func101 rfl Tryd.ntmps101 (by simp) (fun R => ?_)
  repeat' (first 
    | (refine ek_conv ?_; first | refine EK_ev (Ev_convI_v rfl c2) ?_ | refine EK_ev (Ev_convI_v rfl c1) ?_)
    | (refine ek_add ?_; first | refine EK_ev (Ev_add_w rfl rfl c5) ?_ | refine EK_ev (Ev_add_w rfl rfl c4) ?_)
    | (refine ek_shl ?_; refine EK_ev (Ev_shl_w rfl rfl (by omega) c3) ?_)
    | (refine ek_lss ?_; first | refine EK_ev (Ev_lssI_q rfl rfl q3) ?_ | refine EK_ev (Ev_lssI_q rfl rfl q1) ?_)
    | (refine ek_gtr ?_; refine EK_ev (Ev_gtrI_q rfl rfl q2) ?_)
    | (refine ek_geq ?_; refine EK_ev (Ev_geqI_q rfl rfl q4) ?_)
    | refine xst ?_
    | (refine xsa ?_; intro _)
    | (refine xsb ?_ ?_ <;> intro _ <;> first | (exfalso; omega) | skip)
    | refine xsc ?_
    | (refine KJ_draws (id := 2) (.op 0 (.op 1 (.op 2 .nil))) (by kernel_rfl) (by kernel_rfl) ?_)
    | refine FW_alt ?_ ?_
    | refine KJ_flow ?_ ?_
    | exact Rech.nil
    | fail)
  all_goals (exact xdn ())
/-- may a log lie there? -/
def logOk (D : Dsk) (at_ n ver : Int) : Prop := 0 ≤ at_ ∧ 0 ≤ n ∧ at_ ≤ D.n ∧ n ≤ (D.n : Int) - at_ ∧ n ≤ 65536 ∧ 1 ≤ ver ∧ ver ≤ 1099511627776
theorem check_ct (hn : D.n ≤ 65536) (ho : D.off = false) (at_ n ver : Int) (h : logOk D at_ n ver) : Ct Tryd.prog W 98 [.agg #[.pointer (some ⟨p, 0, none⟩), .int .i64 at_, .int .i64 n, .int .i64 ver]] [DiskP p D] (fun _ : Unit => .nilIface) (fun _ => [DiskP p D]) := by
  obtain ⟨h1, h2, h3, h4, h5, h6, h7⟩ := h
  have q1 : decide (at_ < 0) = false := decide_eq_false (by omega)
  have q2 : decide (n < 0) = false := decide_eq_false (by omega)
  have q3 : decide ((D.n : Int) < at_) = false := decide_eq_false (by omega)
  have q4 : decide ((D.n : Int) - at_ < n) = false := decide_eq_false (by omega)
  have q5 : decide (65536 < n) = false := decide_eq_false (by omega)
  have q6 : decide (ver < 1) = false := decide_eq_false (by omega)
  have q7 : decide (1099511627776 < ver) = false := decide_eq_false (by omega)
  have c1 : Ct Tryd.prog W 40 [.pointer (some ⟨p, 0, none⟩)] [DiskP p D] (fun _ : Unit => .int .i64 D.n) (fun _ => [DiskP p D]) := size_ct
  have c2 : Ct Tryd.prog W 30 [.pointer (some ⟨p, 0, none⟩)] [DiskP p D] (fun _ : Unit => .bool false) (fun _ => [DiskP p D]) := by rw [← ho]; exact off_ct
  refine Ct.enter Tryd.func98 rfl Tryd.ntmps98 (by simp) (fun R => ?_)
  repeat' (first 
    | (refine is_box ?_; refine KJ_box rfl xF rfl (fun g1 => ?_))
    | (refine is_call ?_; first | (refine KJ_call xE c2 xP rfl (fun _ => ?_)) | (refine KJ_call xE c1 xP rfl (fun _ => ?_)))
    | (refine ek_lss ?_; first | refine EK_ev (Ev_lssI_q rfl rfl q6) ?_ | refine EK_ev (Ev_lssI_q rfl rfl q2) ?_ | refine EK_ev (Ev_lssI_q rfl rfl q1) ?_)
    | (refine ek_gtr ?_; first | refine EK_ev (Ev_gtrI_q rfl rfl q7) ?_ | refine EK_ev (Ev_gtrI_q rfl rfl q5) ?_ | refine EK_ev (Ev_gtrI_q rfl rfl q4) ?_ | refine EK_ev (Ev_gtrI_q rfl rfl q3) ?_)
    | refine xst ?_
    | (refine xsa ?_; intro _)
    | (refine xsb ?_ ?_ <;> intro _ <;> first | (exfalso; omega) | skip)
    | refine xsc ?_
    | (refine KJ_draws (id := 1) (.op 0 (.op 1 (.op 2 (.op 3 (.op 4 (.op 5 (.op 6 (.op 7 (.op 8 (.op 9 (.op 10 (.op 11 (.op 12 (.ef 13 [10, 9] (.op 14 (.op 15 (.op 16 (.op 17 (.op 18 (.op 19 (.op 20 (.op 22 (.op 23 (.ef 21 [23, 22, 18, 17] (.op 24 (.op 25 (.op 26 (.op 27 (.op 28 (.op 29 (.op 30 (.op 31 (.op 32 (.op 33 (.op 34 (.op 35 (.op 36 (.op 37 (.op 38 (.op 39 (.op 40 (.op 41 .nil)))))))))))))))))))))))))))))))))))))))))) (by kernel_rfl) (by kernel_rfl) ?_)
    | refine FW_alt ?_ ?_
    | refine KJ_flow ?_ ?_
    | exact Rech.nil
    | fail)
  all_goals (exact xdn ())
theorem begin_ct (hn : D.n ≤ 65536) (ho : D.off = false) (at_ n ver : Int) (h : logOk D at_ n ver) : Ct Tryd.prog W 65 [.pointer (some ⟨p, 0, none⟩), .int .i64 at_, .int .i64 n, .int .i64 ver] [DiskP p D] (fun g : Nat => .tuple #[.pointer (some ⟨g, 0, none⟩), .nilIface]) (fun g => [DiskP p D, cellsP g [.pointer (some ⟨p, 0, none⟩), .int .i64 at_, .int .i64 n, .int .i64 ver, .int .i64 0, .int .i64 D.life, .bool false] 165]) := by
  have c1 := check_ct (W := W) (p := p) hn ho at_ n ver h
  have c2 : Ct Tryd.prog W 41 [.pointer (some ⟨p, 0, none⟩)] [DiskP p D] (fun _ : Unit => .int .i64 D.life) (fun _ => [DiskP p D]) := life_ct
  refine Ct.enter Tryd.func65 rfl Tryd.ntmps65 (by simp) (fun R => ?_)
  repeat' (first 
    | (refine is_box ?_; refine KJ_box rfl xF rfl (fun g1 => ?_))
    | (refine is_call ?_; first | (refine KJ_call xE c2 xP rfl (fun _ => ?_)) | (refine KJ_call xE c1 xP rfl (fun _ => ?_)))
    | (refine ek_build ?_; refine EK_ev (Ev_build xV xW) ?_)
    | refine xst ?_
    | (refine xsa ?_; intro _)
    | (refine xsb ?_ ?_ <;> intro _ <;> first | (exfalso; omega) | skip)
    | refine xsc ?_
    | (refine KJ_draws (id := 5) (.op 0 (.op 1 (.ef 2 [0] (.op 3 (.ef 4 [] (.op 5 (.op 6 .nil))))))) (by kernel_rfl) (by kernel_rfl) ?_)
    | refine FW_alt ?_ ?_
    | refine KJ_flow ?_ ?_
    | exact Rech.nil
    | fail)
  all_goals (exact xdn g1)
/-- is it dead, or the power off? -/
def downB (D : Dsk) (life : Int) (dead : Bool) : Bool := D.off || (decide (D.life ≠ life) || dead)
theorem down_ct (at_ n ver used life : Int) (dead : Bool) : Ct Tryd.prog W 99 [.pointer (some ⟨g, 0, none⟩)] [DiskP p D, cellsP g [.pointer (some ⟨p, 0, none⟩), .int .i64 at_, .int .i64 n, .int .i64 ver, .int .i64 used, .int .i64 life, .bool dead] 165] (fun _ : Unit => .bool (downB D life dead)) (fun _ => [DiskP p D, cellsP g [.pointer (some ⟨p, 0, none⟩), .int .i64 at_, .int .i64 n, .int .i64 ver, .int .i64 used, .int .i64 life, .bool (downB D life dead)] 165]) := by
  have c1 : Ct Tryd.prog W 30 [.pointer (some ⟨p, 0, none⟩)] [DiskP p D] (fun _ : Unit => .bool D.off) (fun _ => [DiskP p D]) := off_ct
  have c2 : Ct Tryd.prog W 41 [.pointer (some ⟨p, 0, none⟩)] [DiskP p D] (fun _ : Unit => .int .i64 D.life) (fun _ => [DiskP p D]) := life_ct
  rcases Bool.eq_false_or_eq_true D.off with ho | ho
  · have e : downB D life dead = true := by unfold downB; rw [ho]; rfl
    rw [e]
    rw [ho] at c1
    refine Ct.enter Tryd.func99 rfl Tryd.ntmps99 (by simp) (fun R => ?_)
    repeat' (first 
    | (refine is_fo ?_; (refine FO_call (X := Unit) xE c1 xP rfl ?_))
    | (refine is_ro ?_; (refine FO_call (X := Unit) xE c1 xP rfl ?_))
    | (refine is_fo ?_; (refine FO_callg (X := Unit) rfl rfl xE c1 xP rfl ?_))
    | (refine is_ro ?_; (refine FO_callg (X := Unit) rfl rfl xE c1 xP rfl ?_))
    | (refine is_fo ?_; (refine FO_call (X := Unit) xE c2 xP rfl ?_))
    | (refine is_ro ?_; (refine FO_call (X := Unit) xE c2 xP rfl ?_))
    | (refine is_fo ?_; (refine FO_callg (X := Unit) rfl rfl xE c2 xP rfl ?_))
    | (refine is_ro ?_; (refine FO_callg (X := Unit) rfl rfl xE c2 xP rfl ?_))
    | refine xst ?_
    | (refine xsa ?_; intro _)
    | (refine xsb ?_ ?_ <;> intro _ <;> first | (exfalso; omega) | skip)
    | refine xsc ?_
    | (refine KJ_draws (id := 1) (.op 0 (.op 1 (.op 2 (.op 3 (.op 4 (.op 5 (.op 6 (.op 7 (.op 8 (.op 9 (.op 10 (.op 11 (.op 12 (.op 13 (.op 14 (.op 15 (.op 16 (.op 17 (.op 18 .nil))))))))))))))))))) (by kernel_rfl) (by kernel_rfl) ?_)
    | refine FW_alt ?_ ?_
    | refine KJ_flow ?_ ?_
    | exact Rech.nil
    | fail)
    all_goals (exact xdn ())
  rw [ho] at c1
  by_cases hl : D.life = life
  · have e : downB D life dead = dead := by unfold downB; rw [ho, decide_eq_false (by simpa using hl)]; rfl
    rw [e]
    refine Ct.enter Tryd.func99 rfl Tryd.ntmps99 (by simp) (fun R => ?_)
    repeat' (first 
    | (refine ek_neq ?_; refine EK_ev (Ev_neqI_f rfl rfl hl) ?_)
    | (refine is_fo ?_; (refine FO_call (X := Unit) xE c1 xP rfl ?_))
    | (refine is_ro ?_; (refine FO_call (X := Unit) xE c1 xP rfl ?_))
    | (refine is_fo ?_; (refine FO_callg (X := Unit) rfl rfl xE c1 xP rfl ?_))
    | (refine is_ro ?_; (refine FO_callg (X := Unit) rfl rfl xE c1 xP rfl ?_))
    | (refine is_fo ?_; (refine FO_call (X := Unit) xE c2 xP rfl ?_))
    | (refine is_ro ?_; (refine FO_call (X := Unit) xE c2 xP rfl ?_))
    | (refine is_fo ?_; (refine FO_callg (X := Unit) rfl rfl xE c2 xP rfl ?_))
    | (refine is_ro ?_; (refine FO_callg (X := Unit) rfl rfl xE c2 xP rfl ?_))
    | refine xst ?_
    | (refine xsa ?_; intro _)
    | (refine xsb ?_ ?_ <;> intro _ <;> first | (exfalso; omega) | skip)
    | refine xsc ?_
    | (refine KJ_draws (id := 1) (.op 0 (.op 1 (.op 2 (.op 3 (.op 4 (.op 5 (.op 6 (.op 7 (.op 8 (.op 9 (.op 10 (.op 11 (.op 12 (.op 13 (.op 14 (.op 15 (.op 16 (.op 17 (.op 18 .nil))))))))))))))))))) (by kernel_rfl) (by kernel_rfl) ?_)
    | refine FW_alt ?_ ?_
    | refine KJ_flow ?_ ?_
    | exact Rech.nil
    | fail)
    all_goals (exact xdn ())
  · have e : downB D life dead = true := by unfold downB; rw [ho, decide_eq_true (by simpa using hl)]; rfl
    rw [e]
    refine Ct.enter Tryd.func99 rfl Tryd.ntmps99 (by simp) (fun R => ?_)
    repeat' (first 
    | (refine ek_neq ?_; refine EK_ev (Ev_neqI_t rfl rfl hl) ?_)
    | (refine is_fo ?_; (refine FO_call (X := Unit) xE c1 xP rfl ?_))
    | (refine is_ro ?_; (refine FO_call (X := Unit) xE c1 xP rfl ?_))
    | (refine is_fo ?_; (refine FO_callg (X := Unit) rfl rfl xE c1 xP rfl ?_))
    | (refine is_ro ?_; (refine FO_callg (X := Unit) rfl rfl xE c1 xP rfl ?_))
    | (refine is_fo ?_; (refine FO_call (X := Unit) xE c2 xP rfl ?_))
    | (refine is_ro ?_; (refine FO_call (X := Unit) xE c2 xP rfl ?_))
    | (refine is_fo ?_; (refine FO_callg (X := Unit) rfl rfl xE c2 xP rfl ?_))
    | (refine is_ro ?_; (refine FO_callg (X := Unit) rfl rfl xE c2 xP rfl ?_))
    | refine xst ?_
    | (refine xsa ?_; intro _)
    | (refine xsb ?_ ?_ <;> intro _ <;> first | (exfalso; omega) | skip)
    | refine xsc ?_
    | (refine KJ_draws (id := 1) (.op 0 (.op 1 (.op 2 (.op 3 (.op 4 (.op 5 (.op 6 (.op 7 (.op 8 (.op 9 (.op 10 (.op 11 (.op 12 (.op 13 (.op 14 (.op 15 (.op 16 (.op 17 (.op 18 .nil))))))))))))))))))) (by kernel_rfl) (by kernel_rfl) ?_)
    | refine FW_alt ?_ ?_
    | refine KJ_flow ?_ ?_
    | exact Rech.nil
    | fail)
    all_goals (exact xdn ())
theorem fits_ct (at_ n ver used life : Int) (dead : Bool) (b : Int) (hb : b ≤ 9223372036854775807) (hn : 0 ≤ n ∧ n ≤ 65536) (hu : 0 ≤ used ∧ used ≤ 65536) : Ct Tryd.prog W 66 [.pointer (some ⟨g, 0, none⟩), .int .i64 b] [cellsP g [.pointer (some ⟨p, 0, none⟩), .int .i64 at_, .int .i64 n, .int .i64 ver, .int .i64 used, .int .i64 life, .bool dead] 165] (fun _ : Unit => .bool (decide (0 ≤ b ∧ costI b ≤ n - used))) (fun _ => [cellsP g [.pointer (some ⟨p, 0, none⟩), .int .i64 at_, .int .i64 n, .int .i64 ver, .int .i64 used, .int .i64 life, .bool dead] 165]) := by
  have c1 := cost_ct (W := W) b hb
  obtain ⟨c, hc⟩ : ∃ c, c = costI b := ⟨_, rfl⟩
  rw [← hc] at c1 ⊢
  by_cases h1 : 0 ≤ b
  · have q1 : decide (0 ≤ b) = true := decide_eq_true h1
    have q2 : decide (c ≤ n - used) = decide (0 ≤ b ∧ c ≤ n - used) := by simp [h1]
    refine Ct.enter Tryd.func66 rfl Tryd.ntmps66 (by simp) (fun R => ?_)
    repeat' (first 
    | (refine ek_leq ?_; refine EK_ev (Ev_leqI_q rfl rfl q2) ?_)
    | (refine ek_geq ?_; refine EK_ev (Ev_geqI_q rfl rfl q1) ?_)
    | (refine is_fo ?_; (refine FO_call (X := Unit) xE c1 xP rfl ?_))
    | (refine is_ro ?_; (refine FO_call (X := Unit) xE c1 xP rfl ?_))
    | (refine is_fo ?_; (refine FO_callg (X := Unit) rfl rfl xE c1 xP rfl ?_))
    | (refine is_ro ?_; (refine FO_callg (X := Unit) rfl rfl xE c1 xP rfl ?_))
    | refine xst ?_
    | (refine xsa ?_; intro _)
    | (refine xsb ?_ ?_ <;> intro _ <;> first | (exfalso; omega) | skip)
    | refine xsc ?_
    | (refine KJ_draws (id := 1) (.op 0 (.op 1 (.op 2 (.op 3 (.op 4 (.op 5 (.op 6 (.op 7 (.op 8 (.op 9 (.op 10 (.op 11 (.op 12 (.op 13 (.op 14 (.op 15 (.op 16 (.op 17 .nil)))))))))))))))))) (by kernel_rfl) (by kernel_rfl) ?_)
    | refine FW_alt ?_ ?_
    | refine KJ_flow ?_ ?_
    | exact Rech.nil
    | fail)
    all_goals (exact xdn ())
  · have q1 : decide (0 ≤ b) = false := decide_eq_false h1
    rw [show decide (0 ≤ b ∧ c ≤ n - used) = false by simp [h1]]
    refine Ct.enter Tryd.func66 rfl Tryd.ntmps66 (by simp) (fun R => ?_)
    repeat' (first 
    | (refine ek_geq ?_; refine EK_ev (Ev_geqI_q rfl rfl q1) ?_)
    | refine xst ?_
    | (refine xsa ?_; intro _)
    | (refine xsb ?_ ?_ <;> intro _ <;> first | (exfalso; omega) | skip)
    | refine xsc ?_
    | (refine KJ_draws (id := 1) (.op 0 (.op 1 (.op 2 (.op 3 (.op 4 (.op 5 (.op 6 (.op 7 (.op 8 (.op 9 (.op 10 (.op 11 (.op 12 (.op 13 (.op 14 (.op 15 (.op 16 (.op 17 .nil)))))))))))))))))) (by kernel_rfl) (by kernel_rfl) ?_)
    | refine FW_alt ?_ ?_
    | refine KJ_flow ?_ ?_
    | exact Rech.nil
    | fail)
    all_goals (exact xdn ())
theorem used_ct (at_ n ver used life : Int) (dead : Bool) : Ct Tryd.prog W 69 [.pointer (some ⟨g, 0, none⟩)] [cellsP g [.pointer (some ⟨p, 0, none⟩), .int .i64 at_, .int .i64 n, .int .i64 ver, .int .i64 used, .int .i64 life, .bool dead] 165] (fun _ : Unit => .int .i64 used) (fun _ => [cellsP g [.pointer (some ⟨p, 0, none⟩), .int .i64 at_, .int .i64 n, .int .i64 ver, .int .i64 used, .int .i64 life, .bool dead] 165]) := by
  refine Ct.enter Tryd.func69 rfl Tryd.ntmps69 (by simp) (fun R => ?_)
  repeat' (first 
    | refine xst ?_
    | (refine xsa ?_; intro _)
    | (refine xsb ?_ ?_ <;> intro _ <;> first | (exfalso; omega) | skip)
    | refine xsc ?_
    | fail)
  all_goals (exact xdn ())
end
end Go.Proofs.YteklldbfdmaafaaDoor
/-
  The package journal: pieces, Append: contracts.
-/
namespace Go.Proofs.YteklldbfdmaafaaDoor
open Go Go.RowKit
def chunksJ : Nat → List UInt8 → List (List UInt8)
  | 0, _ => []
  | f + 1, l => if l = [] then [] else (0 :: l.take 233) :: chunksJ f (l.drop 233)
def headJ (n : Nat) : List UInt8 := [1, UInt8.ofNat (n % 256), UInt8.ofNat (n / 256 % 256), UInt8.ofNat (n / 65536 % 256), UInt8.ofNat (n / 16777216 % 256)]
/-- a record cut into payloads -/
def pcsJ (r : List UInt8) : List (List UInt8) := (headJ r.length ++ r.take 229) :: chunksJ r.length (r.drop 229)
theorem chunksJ_nil (f : Nat) : chunksJ f [] = [] := by cases f <;> simp [chunksJ]
theorem chunksJ_cons (f : Nat) (l : List UInt8) (h : l ≠ []) : chunksJ (f + 1) l = (0 :: l.take 233) :: chunksJ f (l.drop 233) := by
  show (if l = [] then _ else _) = _
  rw [if_neg h]
theorem chunksJ_length : ∀ (f : Nat) (l : List UInt8), l.length ≤ 233 * f → (chunksJ f l).length = (l.length + 232) / 233 := by
  intro f
  induction f with
  | zero => intro l h; have : l = [] := List.length_eq_zero_iff.1 (by omega); subst this; rfl
  | succ f ih =>
    intro l h
    by_cases h0 : l = []
    · subst h0; rw [chunksJ_nil]; rfl
    · have hp := List.length_pos_iff.2 h0
      rw [chunksJ_cons _ _ h0, List.length_cons, ih _ (by rw [List.length_drop]; omega), List.length_drop]
      omega
theorem chunksJ_le : ∀ (f : Nat) (l : List UInt8), ∀ p ∈ chunksJ f l, p.length ≤ 234 := by
  intro f
  induction f with
  | zero => intro l p hp; cases hp
  | succ f ih =>
    intro l p hp
    by_cases h0 : l = []
    · subst h0; rw [chunksJ_nil] at hp; cases hp
    · rw [chunksJ_cons _ _ h0] at hp
      rcases List.mem_cons.1 hp with rfl | hp
      · rw [List.length_cons, List.length_take]; omega
      · exact ih _ _ hp
theorem pcsJ_length (r : List UInt8) : ((pcsJ r).length : Int) = costI r.length := by
  unfold pcsJ costI
  rw [List.length_cons, chunksJ_length _ _ (by rw [List.length_drop]; omega), List.length_drop]
  split
  · omega
  split <;> omega
theorem pcsJ_le (r : List UInt8) : ∀ p ∈ pcsJ r, p.length ≤ 234 := by
  intro p hp
  unfold pcsJ at hp
  rcases List.mem_cons.1 hp with rfl | hp
  · rw [List.length_append, List.length_take]; show 5 + _ ≤ 234; omega
  · exact chunksJ_le _ _ _ hp
theorem byte_val (n k : Nat) : IntKind.u8.wrap ((n / k : Nat) : Int) = ((UInt8.ofNat (n / k % 256)).toNat : Int) := by
  have e : IntKind.u8.wrap ((n / k : Nat) : Int) = ((n / k : Nat) : Int) % 256 := rfl
  rw [e, UInt8.toNat_ofNat']
  omega
theorem byte_val0 (n : Nat) : IntKind.u8.wrap ((n : Nat) : Int) = ((UInt8.ofNat (n % 256)).toNat : Int) := by
  have e : IntKind.u8.wrap ((n : Nat) : Int) = ((n : Nat) : Int) % 256 := rfl
  rw [e, UInt8.toNat_ofNat']
  omega
theorem shr_val (n j : Nat) (hj : j ≤ 24) : ((n : Nat) : Int).fdiv (2 ^ (min ((j : Nat) : Int).toNat IntKind.i64.bits)) = ((n / 2 ^ j : Nat) : Int) := by
  have hm : min ((j : Nat) : Int).toNat IntKind.i64.bits = j := by
    show min ((j : Nat) : Int).toNat 64 = j
    omega
  rw [hm, Int.fdiv_eq_ediv_of_nonneg _ (by exact Int.pow_nonneg (by decide))]
  simp
section
variable {W : World} {E : Nat → Addr} {p g : Nat} {D : Dsk}
set_option maxHeartbeats 1000000 in
set_option maxRecDepth 100000 in
theorem pieces_ct (r : List UInt8) (hl : r.length ≤ 1048576) : Ct Tryd.prog W 100 [strV r] [] (fun x : Nat × Nat => .slice (some ⟨x.1, 0, none⟩) (pcsJ r).length x.2) (fun x => [rowP (.slice (some ⟨x.1, 0, none⟩) (pcsJ r).length x.2) 9 1 (pcsJ r).length ((pcsJ r).map strV)]) := by
  obtain ⟨res, hres⟩ : ∃ res, res = pcsJ r := ⟨_, rfl⟩
  rw [← hres]
  have b0 := byte_val0 r.length
  have b1 := byte_val r.length 256
  have b2 := byte_val r.length 65536
  have b3 := byte_val r.length 16777216
  have s1 : ((r.length : Nat) : Int).fdiv (2 ^ (min (8 : Int).toNat IntKind.i64.bits)) = ((r.length / 256 : Nat) : Int) := shr_val r.length 8 (by omega)
  have s2 : ((r.length : Nat) : Int).fdiv (2 ^ (min (16 : Int).toNat IntKind.i64.bits)) = ((r.length / 65536 : Nat) : Int) := shr_val r.length 16 (by omega)
  have s3 : ((r.length : Nat) : Int).fdiv (2 ^ (min (24 : Int).toNat IntKind.i64.bits)) = ((r.length / 16777216 : Nat) : Int) := shr_val r.length 24 (by omega)
  obtain ⟨c0, hc0⟩ : ∃ c, c = UInt8.ofNat (r.length % 256) := ⟨_, rfl⟩
  obtain ⟨c1, hc1⟩ : ∃ c, c = UInt8.ofNat (r.length / 256 % 256) := ⟨_, rfl⟩
  obtain ⟨c2, hc2⟩ : ∃ c, c = UInt8.ofNat (r.length / 65536 % 256) := ⟨_, rfl⟩
  obtain ⟨c3, hc3⟩ : ∃ c, c = UInt8.ofNat (r.length / 16777216 % 256) := ⟨_, rfl⟩
  have hhead : headJ r.length = [1, c0, c1, c2, c3] := by rw [hc0, hc1, hc2, hc3]; rfl
  rw [← hc0] at b0
  rw [← hc1] at b1
  rw [← hc2] at b2
  rw [← hc3] at b3
  obtain ⟨n1, hn1⟩ : ∃ m, m = r.length / 256 := ⟨_, rfl⟩
  obtain ⟨n2, hn2⟩ : ∃ m, m = r.length / 65536 := ⟨_, rfl⟩
  obtain ⟨n3, hn3⟩ : ∃ m, m = r.length / 16777216 := ⟨_, rfl⟩
  rw [← hn1] at s1 b1
  rw [← hn2] at s2 b2
  rw [← hn3] at s3 b3
  obtain ⟨ct, hct⟩ : ∃ m, m = min r.length 229 := ⟨_, rfl⟩
  have hmin : min (r.length : Int) 229 = (ct : Nat) := by omega
  have ht : r.take ((ct : Nat) : Int).toNat = r.take 229 := by rw [Int.toNat_natCast, hct]; exact List.take_eq_take_iff.2 (by omega)
  have hd : r.drop ((ct : Nat) : Int).toNat = r.drop 229 := by
    rw [Int.toNat_natCast, hct]
    by_cases hh : r.length ≤ 229
    · rw [List.drop_of_length_le (by omega), List.drop_of_length_le (by omega)]
    · rw [show min r.length 229 = 229 by omega]
  obtain ⟨r1, hr1⟩ : ∃ x, x = r.take 229 := ⟨_, rfl⟩
  obtain ⟨r2, hr2⟩ : ∃ x, x = r.drop 229 := ⟨_, rfl⟩
  have hr1l : r1.length ≤ 229 := by rw [hr1, List.length_take]; omega
  have hr2l : r2.length ≤ r.length := by rw [hr2, List.length_drop]; omega
  have hall : [[1, c0, c1, c2, c3] ++ r1] ++ chunksJ r.length r2 = res := by rw [hres, hr1, hr2, ← hhead]; rfl
  rw [← hr1] at ht
  rw [← hr2] at hd
  clear hc0 hc1 hc2 hc3 hn1 hn2 hn3 hr1 hr2 hhead hres
  refine Ct.enter Tryd.func100 rfl Tryd.ntmps100 (by simp) (fun R => ?_)
  repeat' (first 
    | (refine is_bslice ?_; first | (refine KJ_bslice1 rfl xF (by rfl) (by omega) rfl (fun g2 => ?_)) | (refine KJ_bytes5 (v0 := 1) (v1 := c0) (v2 := c1) (v3 := c2) (v4 := c3) rfl rfl rfl rfl rfl rfl (fun g1 => ?_)))
    | (refine ek_conv ?_; first | refine EK_ev (Ev_bytesAll (l := [1, c0, c1, c2, c3]) rfl xS rfl) ?_ | refine EK_ev (Ev_convI_v rfl b3) ?_ | refine EK_ev (Ev_convI_v rfl b2) ?_ | refine EK_ev (Ev_convI_v rfl b1) ?_ | refine EK_ev (Ev_convI_v rfl b0) ?_)
    | (refine ek_slice ?_; first | refine EK_ev (Ev_sliceStrFrom_v rfl rfl (by omega) hd) ?_ | refine EK_ev (Ev_sliceStrTo_v rfl rfl (by omega) ht) ?_)
    | (refine ek_min ?_; refine EK_ev (Ev_min_v rfl rfl hmin) ?_)
    | (refine ek_add ?_; refine EK_ev (Ev_addSL rfl rfl) ?_)
    | (refine ek_shr ?_; first | refine EK_ev (Ev_shr_w rfl rfl (by omega) s3) ?_ | refine EK_ev (Ev_shr_w rfl rfl (by omega) s2) ?_ | refine EK_ev (Ev_shr_w rfl rfl (by omega) s1) ?_)
    | refine xst ?_
    | (refine xsa ?_; intro _)
    | (refine xsb ?_ ?_ <;> intro _ <;> first | (exfalso; omega) | skip)
    | refine xsc ?_
    | (refine KJ_draws (id := 3) (.op 0 (.op 1 (.op 2 (.op 3 (.op 4 (.op 5 (.op 6 (.op 7 (.op 8 (.op 9 (.op 10 (.op 13 (.op 14 (.op 15 (.ef 11 [15, 14, 13] (.op 12 (.op 16 (.ef 17 [] (.op 18 .nil))))))))))))))))))) (by kernel_rfl) (by kernel_rfl) ?_)
    | (refine KJ_draws (id := 8) (.op 0 (.op 3 (.op 4 (.op 5 (.ef 1 [5, 4, 3, 0] (.op 2 (.op 6 (.ef 7 [0] (.ef 8 [] (.ef 9 [] .nil)))))))))) (by kernel_rfl) (by kernel_rfl) ?_)
    | refine FW_alt ?_ ?_
    | refine KJ_flow ?_ ?_
    | exact Rech.nil
    | fail)
  refine KJ.toRow (g := g2) (m := 1) (size := 1) xS (by rfl) (by unfold maxLen; omega) ?_
  refine KJ_loop (fun i : {s : Nat × List UInt8 × List (List UInt8) × Nat × Nat // s.2.2.1 ++ chunksJ s.1 s.2.1 = res ∧ s.2.1.length ≤ 233 * s.1 ∧ s.2.1.length ≤ 1048576 ∧ s.2.2.1.length + s.1 ≤ 1048577} => [(0, strV i.1.2.1), (5, .slice (some ⟨i.1.2.2.2.1, 0, none⟩) i.1.2.2.1.length i.1.2.2.2.2)])
    (fun i => [rowP (.slice (some ⟨i.1.2.2.2.1, 0, none⟩) i.1.2.2.1.length i.1.2.2.2.2) 9 1 i.1.2.2.1.length (i.1.2.2.1.map strV)] ++ R) (fun i => i.1.1) ⟨(r.length, r2, [[1, c0, c1, c2, c3] ++ r1], g2, 1), hall, by dsimp only; omega, by dsimp only; omega, by dsimp only [List.length]; omega⟩ xB (xN) (fun ⟨(f, rest, acc, ga, ca), hr, hf, hrl, hal⟩ => ?_)
  dsimp only at hr hf hrl hal ⊢
  by_cases h0 : rest = []
  · subst h0
    rw [chunksJ_nil, List.append_nil] at hr
    subst hr
    repeat' (first 
    | (refine ek_neq ?_; refine EK_ev (Ev_neqS_f rfl rfl rfl) ?_)
    | refine xst ?_
    | (refine xsa ?_; intro _)
    | (refine xsb ?_ ?_ <;> intro _ <;> first | (exfalso; omega) | skip)
    | refine xsc ?_
    | (refine KJ_draws (id := 3) (.op 0 (.op 1 (.op 2 (.op 3 (.op 4 (.op 5 (.op 6 (.op 7 (.op 8 (.op 9 (.op 10 (.op 13 (.op 14 (.op 15 (.ef 11 [15, 14, 13] (.op 12 (.op 16 (.ef 17 [] (.op 18 .nil))))))))))))))))))) (by kernel_rfl) (by kernel_rfl) ?_)
    | (refine KJ_draws (id := 8) (.op 0 (.op 3 (.op 4 (.op 5 (.ef 1 [5, 4, 3, 0] (.op 2 (.op 6 (.ef 7 [0] (.ef 8 [] (.ef 9 [] .nil)))))))))) (by kernel_rfl) (by kernel_rfl) ?_)
    | refine FW_alt ?_ ?_
    | refine KJ_flow ?_ ?_
    | exact Rech.nil
    | fail)
    all_goals (exact xdn (ga, ca))
  obtain ⟨f', rfl⟩ : ∃ f', f = f' + 1 := ⟨f - 1, by have := List.length_pos_iff.2 h0; omega⟩
  rw [chunksJ_cons _ _ h0] at hr
  obtain ⟨cu, hcu⟩ : ∃ m, m = min rest.length 233 := ⟨_, rfl⟩
  have hmin2 : min (rest.length : Int) 233 = (cu : Nat) := by omega
  have ht2 : rest.take ((cu : Nat) : Int).toNat = rest.take 233 := by rw [Int.toNat_natCast, hcu]; exact List.take_eq_take_iff.2 (by omega)
  have hd2 : rest.drop ((cu : Nat) : Int).toNat = rest.drop 233 := by
    rw [Int.toNat_natCast, hcu]
    by_cases hh : rest.length ≤ 233
    · rw [List.drop_of_length_le (by omega), List.drop_of_length_le (by omega)]
    · rw [show min rest.length 233 = 233 by omega]
  obtain ⟨q1, hq1⟩ : ∃ x, x = rest.take 233 := ⟨_, rfl⟩
  obtain ⟨q2, hq2⟩ : ∃ x, x = rest.drop 233 := ⟨_, rfl⟩
  have hq1l : q1.length ≤ 233 := by rw [hq1, List.length_take]; omega
  have hq2l : q2.length = rest.length - 233 := by rw [hq2, List.length_drop]
  rw [← hq1] at ht2 hr
  rw [← hq2] at hd2 hr
  clear hq1 hq2
  repeat' (first 
    | (refine is_append ?_; refine KJ_append (a2 := 0) rfl rfl (by rfl) (by omega) xS (Src.cells (i := 1) xS xC) (by rfl) (by omega) xO (by omega) (by omega) rfl rfl (fun g5 c5 => ?_))
    | (refine is_bslice ?_; refine KJ_bslice1 rfl xF (by rfl) (by omega) rfl (fun g3 => ?_))
    | (refine ek_conv ?_; refine EK_ev (Ev_bytesAll (l := [0]) rfl xS rfl) ?_)
    | (refine ek_slice ?_; first | refine EK_ev (Ev_sliceStrFrom_v rfl rfl (by omega) hd2) ?_ | refine EK_ev (Ev_sliceStrTo_v rfl rfl (by omega) ht2) ?_)
    | (refine ek_min ?_; refine EK_ev (Ev_min_v rfl rfl hmin2) ?_)
    | (refine ek_add ?_; refine EK_ev (Ev_addSL rfl rfl) ?_)
    | (refine ek_neq ?_; refine EK_ev (Ev_neqS_t rfl rfl h0) ?_)
    | refine xst ?_
    | (refine xsa ?_; intro _)
    | (refine xsb ?_ ?_ <;> intro _ <;> first | (exfalso; omega) | skip)
    | refine xsc ?_
    | (refine KJ_draws (id := 3) (.op 0 (.op 1 (.op 2 (.op 3 (.op 4 (.op 5 (.op 6 (.op 7 (.op 8 (.op 9 (.op 10 (.op 13 (.op 14 (.op 15 (.ef 11 [15, 14, 13] (.op 12 (.op 16 (.ef 17 [] (.op 18 .nil))))))))))))))))))) (by kernel_rfl) (by kernel_rfl) ?_)
    | (refine KJ_draws (id := 8) (.op 0 (.op 3 (.op 4 (.op 5 (.ef 1 [5, 4, 3, 0] (.op 2 (.op 6 (.ef 7 [0] (.ef 8 [] (.ef 9 [] .nil)))))))))) (by kernel_rfl) (by kernel_rfl) ?_)
    | refine FW_alt ?_ ?_
    | refine KJ_flow ?_ ?_
    | exact Rech.nil
    | fail)
  refine KJ_again ⟨(f', q2, acc ++ [0 :: q1], g5, c5), by dsimp only; rw [List.append_assoc]; exact hr, by dsimp only; omega, by dsimp only; omega, by dsimp only; rw [List.length_append]; show acc.length + 1 + f' ≤ _; omega⟩ (by show f' < f' + 1; omega) ?_ ?_
  · dsimp only
    rw [List.length_append]
    exact xB
  · have em : acc.map strV ++ [strV (0 :: q1)] = (acc ++ [0 :: q1]).map strV := by simp
    dsimp only
    rw [← em, List.length_append]
    exact (xN)
/-- the pieces of a record, written one behind the other -/
def apGo (at_ : Int) (ver used : Nat) : List (List UInt8) → Nat → Dsk → Bool × Dsk
  | [], _, D => (true, D)
  | pc :: rest, i, D => if D.writeE (at_ + (used : Nat) + (i : Nat)) (sealB (stampN ver (used + i) : Nat) pc) ≠ 0 then (false, D.writeD (at_ + (used : Nat) + (i : Nat)) (sealB (stampN ver (used + i) : Nat) pc))
      else apGo at_ ver used rest (i + 1) (D.writeD (at_ + (used : Nat) + (i : Nat)) (sealB (stampN ver (used + i) : Nat) pc))
theorem append_full (hE : ErrsOn L8 W E) (e17 : W.cell? ⟨6, 0, none⟩ = some (errV E 17)) (hN : NibAt W) (at_ n life : Int) (ver used : Nat) (r : List UInt8) (hn : D.n ≤ 65536) (hdn : downB D life false = false) (hnb : 0 ≤ n ∧ n ≤ 65536) (hu : (used : Int) ≤ n) (hl : r.length ≤ 1048576) (hfull : ¬ (costI r.length ≤ n - used)) : Ct Tryd.prog W 67 [.pointer (some ⟨g, 0, none⟩), strV r] [DiskP p D, cellsP g [.pointer (some ⟨p, 0, none⟩), .int .i64 at_, .int .i64 n, .int .i64 ver, .int .i64 used, .int .i64 life, .bool false] 165] (fun _ : Unit => errV E 17) (fun _ => [DiskP p D, cellsP g [.pointer (some ⟨p, 0, none⟩), .int .i64 at_, .int .i64 n, .int .i64 ver, .int .i64 used, .int .i64 life, .bool false] 165]) := by
  have c1 := down_ct (W := W) (p := p) (g := g) (D := D) at_ n ver used life false
  rw [hdn] at c1
  have c2 := fits_ct (W := W) (p := p) (g := g) at_ n ver used life false r.length (by omega) hnb (by omega)
  rw [show decide (0 ≤ (r.length : Int) ∧ costI r.length ≤ n - used) = false from decide_eq_false (fun h => hfull h.2)] at c2
  have _ := hE
  have _ := hN
  have _ := hn
  refine Ct.enter Tryd.func67 rfl Tryd.ntmps67 (by simp) (fun R => ?_)
  repeat' (first 
    | (refine is_call ?_; first | (refine KJ_call xE c2 xP rfl (fun _ => ?_)) | (refine KJ_call xE c1 xP rfl (fun _ => ?_)))
    | (refine ek_load ?_; refine EK_ev (Ev_loadOld rfl e17) ?_)
    | refine xst ?_
    | (refine xsa ?_; intro _)
    | (refine xsb ?_ ?_ <;> intro _ <;> first | (exfalso; omega) | skip)
    | refine xsc ?_
    | (refine KJ_draws (id := 8) (.op 0 (.op 1 (.op 2 (.op 3 (.op 4 (.op 5 (.op 6 (.op 7 (.op 8 (.op 9 (.op 10 (.ef 11 [] (.op 12 (.op 13 (.op 14 (.op 15 (.op 16 .nil))))))))))))))))) (by kernel_rfl) (by kernel_rfl) ?_)
    | (refine KJ_draws (id := 10) (.op 0 (.op 1 (.op 2 (.op 3 (.op 4 (.op 5 (.op 6 (.op 7 (.op 8 (.op 9 (.op 10 (.op 11 (.op 12 (.op 13 (.op 14 (.op 15 (.op 16 (.op 17 (.ef 18 [] (.op 19 .nil)))))))))))))))))))) (by kernel_rfl) (by kernel_rfl) ?_)
    | (refine KJ_draws (id := 14) (.op 0 (.op 1 (.op 2 (.op 3 (.op 4 (.op 5 (.ef 6 [3, 2, 1, 0] (.op 7 (.op 8 (.op 9 (.ef 10 [] .nil))))))))))) (by kernel_rfl) (by kernel_rfl) ?_)
    | refine FW_alt ?_ ?_
    | refine KJ_flow ?_ ?_
    | exact Rech.nil
    | fail)
  all_goals (exact xdn ())
set_option maxHeartbeats 2000000 in
set_option maxRecDepth 100000 in
theorem append_ct (hE : ErrsOn L8 W E) (e17 : W.cell? ⟨6, 0, none⟩ = some (errV E 17)) (hN : NibAt W) (at_ n life : Int) (ver used : Nat) (r : List UInt8) (_ : D.n ≤ 65536) (hdn : downB D life false = false) (hnb : 0 ≤ n ∧ n ≤ 65536) (hu : (used : Int) ≤ n) (hl : r.length ≤ 1048576) (hfit : costI r.length ≤ n - used) (hat : 0 ≤ at_ ∧ at_ ≤ 65536) (hver : 1 ≤ ver ∧ ver ≤ 1099511627776) (hul : D.und.length + 65536 < 1073741823) :
    Ct Tryd.prog W 67 [.pointer (some ⟨g, 0, none⟩), strV r] [DiskP p D, cellsP g [.pointer (some ⟨p, 0, none⟩), .int .i64 at_, .int .i64 n, .int .i64 ver, .int .i64 used, .int .i64 life, .bool false] 165] (fun _ : Unit => errV E (if (apGo at_ ver used (pcsJ r) 0 D).1 then 0 else 12))
      (fun _ => [DiskP p (apGo at_ ver used (pcsJ r) 0 D).2, cellsP g [.pointer (some ⟨p, 0, none⟩), .int .i64 at_, .int .i64 n, .int .i64 ver, .int .i64 (if (apGo at_ ver used (pcsJ r) 0 D).1 then (used : Int) + costI r.length else used), .int .i64 life, .bool (!(apGo at_ ver used (pcsJ r) 0 D).1)] 165]) := by
  have e12 : W.cell? ⟨2, 0, none⟩ = some (errV E 12) := hE.at_ 12 (by decide)
  have _ := e17
  have c1 := down_ct (W := W) (p := p) (g := g) (D := D) at_ n ver used life false
  rw [hdn] at c1
  have c2 := fits_ct (W := W) (p := p) (g := g) at_ n ver used life false r.length (by omega) hnb (by omega)
  rw [show decide (0 ≤ (r.length : Int) ∧ costI r.length ≤ n - used) = true from decide_eq_true ⟨by omega, hfit⟩] at c2
  have c3 := pieces_ct (W := W) r hl
  have c4 := cost_ct (W := W) r.length (by omega)
  have hL := pcsJ_length r
  have hLe := pcsJ_le r
  obtain ⟨co, hco⟩ : ∃ c, c = costI r.length := ⟨_, rfl⟩
  obtain ⟨ps, hps⟩ : ∃ ps, ps = pcsJ r := ⟨_, rfl⟩
  rw [← hco] at hL hfit c4 ⊢
  rw [← hps] at hL hLe c3 ⊢
  clear hco hps
  obtain ⟨res, hres⟩ : ∃ res, res = apGo at_ ver used ps 0 D := ⟨_, rfl⟩
  rw [← hres]
  refine Ct.enter Tryd.func67 rfl Tryd.ntmps67 (by simp) (fun R => ?_)
  repeat' (first 
    | (refine is_call ?_; first | (refine KJ_call xE c3 xP rfl (fun x => ?_)) | (refine KJ_call xE c2 xP rfl (fun _ => ?_)) | (refine KJ_call xE c1 xP rfl (fun _ => ?_)))
    | refine xst ?_
    | (refine xsa ?_; intro _)
    | (refine xsb ?_ ?_ <;> intro _ <;> first | (exfalso; omega) | skip)
    | refine xsc ?_
    | (refine KJ_draws (id := 8) (.op 0 (.op 1 (.op 2 (.op 3 (.op 4 (.op 5 (.op 6 (.op 7 (.op 8 (.op 9 (.op 10 (.ef 11 [] (.op 12 (.op 13 (.op 14 (.op 15 (.op 16 .nil))))))))))))))))) (by kernel_rfl) (by kernel_rfl) ?_)
    | (refine KJ_draws (id := 10) (.op 0 (.op 1 (.op 2 (.op 3 (.op 4 (.op 5 (.op 6 (.op 7 (.op 8 (.op 9 (.op 10 (.op 11 (.op 12 (.op 13 (.op 14 (.op 15 (.op 16 (.op 17 (.ef 18 [] (.op 19 .nil)))))))))))))))))))) (by kernel_rfl) (by kernel_rfl) ?_)
    | (refine KJ_draws (id := 14) (.op 0 (.op 1 (.op 2 (.op 3 (.op 4 (.op 5 (.ef 6 [3, 2, 1, 0] (.op 7 (.op 8 (.op 9 (.ef 10 [] .nil))))))))))) (by kernel_rfl) (by kernel_rfl) ?_)
    | refine FW_alt ?_ ?_
    | refine KJ_flow ?_ ?_
    | exact Rech.nil
    | fail)
  rename_i x
  refine KJ_loop (fun i : {s : Nat × Dsk // apGo at_ ver used (ps.drop s.1) s.1 s.2 = res ∧ s.1 ≤ ps.length ∧ s.2.und.length ≤ D.und.length + s.1} => [(0, .pointer (some ⟨g, 0, none⟩)), (1, strV r), (21, .slice (some ⟨x.1, 0, none⟩) ps.length x.2), (22, .int .i64 (ps.length : Nat)), (23, .int .i64 (i.1.1 : Nat))])
    (fun i => [DiskP p i.1.2, cellsP g [.pointer (some ⟨p, 0, none⟩), .int .i64 at_, .int .i64 n, .int .i64 ver, .int .i64 used, .int .i64 life, .bool false] 165, rowP (.slice (some ⟨x.1, 0, none⟩) ps.length x.2) 9 1 ps.length (ps.map strV)] ++ R) (fun i => ps.length - i.1.1) ⟨(0, D), hres.symm, Nat.zero_le _, Nat.le_refl _⟩ xB (xN) (fun ⟨(k, Dk), hr, hk, hu2⟩ => ?_)
  dsimp only at hr hk hu2 ⊢
  by_cases hlt : k < ps.length
  rotate_left
  · have hkl : k = ps.length := by omega
    subst hkl
    rw [List.drop_length] at hr
    have ql : decide ((ps.length : Int) < (ps.length : Int)) = false := decide_eq_false (by omega)
    have h1 : res.1 = true := by rw [← hr]; rfl
    have h2 : res.2 = Dk := by rw [← hr]; rfl
    rw [h1, h2]
    repeat' (first 
    | (refine is_call ?_; refine KJ_call xE c4 xP rfl (fun _ => ?_))
    | (refine ek_add ?_; refine EK_ev (Ev_addI_v (r := (used : Int) + co) rfl rfl rfl (by omega)) ?_)
    | (refine ek_lss ?_; refine EK_ev (Ev_lssI_q rfl rfl ql) ?_)
    | refine xst ?_
    | (refine xsa ?_; intro _)
    | (refine xsb ?_ ?_ <;> intro _ <;> first | (exfalso; omega) | skip)
    | refine xsc ?_
    | (refine KJ_draws (id := 8) (.op 0 (.op 1 (.op 2 (.op 3 (.op 4 (.op 5 (.op 6 (.op 7 (.op 8 (.op 9 (.op 10 (.ef 11 [] (.op 12 (.op 13 (.op 14 (.op 15 (.op 16 .nil))))))))))))))))) (by kernel_rfl) (by kernel_rfl) ?_)
    | (refine KJ_draws (id := 10) (.op 0 (.op 1 (.op 2 (.op 3 (.op 4 (.op 5 (.op 6 (.op 7 (.op 8 (.op 9 (.op 10 (.op 11 (.op 12 (.op 13 (.op 14 (.op 15 (.op 16 (.op 17 (.ef 18 [] (.op 19 .nil)))))))))))))))))))) (by kernel_rfl) (by kernel_rfl) ?_)
    | (refine KJ_draws (id := 14) (.op 0 (.op 1 (.op 2 (.op 3 (.op 4 (.op 5 (.ef 6 [3, 2, 1, 0] (.op 7 (.op 8 (.op 9 (.ef 10 [] .nil))))))))))) (by kernel_rfl) (by kernel_rfl) ?_)
    | refine FW_alt ?_ ?_
    | refine KJ_flow ?_ ?_
    | exact Rech.nil
    | fail)
    all_goals (exact xdn ())
  have ql : decide ((k : Int) < (ps.length : Int)) = true := decide_eq_true (by omega)
  obtain ⟨pc, hpc⟩ : ∃ pc, ps[k]? = some pc := ⟨_, List.getElem?_eq_getElem hlt⟩
  have hpl := hLe pc (List.mem_of_getElem? hpc)
  have hdr : ps.drop k = pc :: ps.drop (k + 1) := by
    rw [List.drop_eq_getElem_cons hlt]
    congr 1
    exact (List.getElem?_eq_some_iff.1 hpc).2
  have hget : (ps.map strV)[0 + ((k : Nat) : Int).toNat * 1]? = some (strV pc) := by rw [Int.toNat_natCast, Nat.mul_one, Nat.zero_add, List.getElem?_map, hpc]; rfl
  have hcast : ((used + k : Nat) : Int) = (used : Int) + (k : Int) := by omega
  have c5 := log_ct (W := W) ver (used + k) hver (by omega)
  have c6 := seal_ok hN (stampN ver (used + k) : Nat) pc (by unfold stampN; omega) hpl
  have c7 := write_ct (W := W) (p := p) (D := Dk) hE (at_ + (used : Nat) + (k : Nat)) (sealB (stampN ver (used + k) : Nat) pc) (by omega)
  have hunf : apGo at_ ver used (pc :: ps.drop (k + 1)) k Dk = if Dk.writeE (at_ + (used : Nat) + (k : Nat)) (sealB (stampN ver (used + k) : Nat) pc) ≠ 0 then (false, Dk.writeD (at_ + (used : Nat) + (k : Nat)) (sealB (stampN ver (used + k) : Nat) pc))
      else apGo at_ ver used (ps.drop (k + 1)) (k + 1) (Dk.writeD (at_ + (used : Nat) + (k : Nat)) (sealB (stampN ver (used + k) : Nat) pc)) := rfl
  rw [hdr, hunf] at hr
  have hu3 := writeD_und Dk (at_ + (used : Nat) + (k : Nat)) (sealB (stampN ver (used + k) : Nat) pc)
  obtain ⟨stm, hst⟩ : ∃ m, m = stampN ver (used + k) := ⟨_, rfl⟩
  rw [← hst] at c5 c6 c7 hr hu3
  obtain ⟨raw, hraw⟩ : ∃ m, m = sealB (stm : Nat) pc := ⟨_, rfl⟩
  rw [← hraw] at c6 c7 hr hu3
  obtain ⟨D1, hD1⟩ : ∃ D1, D1 = Dk.writeD (at_ + (used : Nat) + (k : Nat)) raw := ⟨_, rfl⟩
  rw [← hD1] at c7 hr hu3
  obtain ⟨e, he⟩ : ∃ e, e = Dk.writeE (at_ + (used : Nat) + (k : Nat)) raw := ⟨_, rfl⟩
  rw [← he] at c7 hr
  clear hst hraw hD1 he hunf hres hdr hpc
  by_cases hz : e = 0
  · subst hz
    rw [if_neg (by simp)] at hr
    have c7' : Ct Tryd.prog W 32 [.pointer (some ⟨p, 0, none⟩), .int .i64 (at_ + (used : Nat) + (k : Nat)), strV raw] [DiskP p Dk] (fun _ : Unit => .nilIface) (fun _ => [DiskP p D1]) := c7
    repeat' (first 
    | (refine is_call ?_; first | (refine KJ_call xE c7' xP rfl (fun _ => ?_)) | (refine KJ_call xE c6 xP rfl (fun _ => ?_)) | (refine KJ_call xE c5 xP rfl (fun _ => ?_)))
    | (refine ek_load ?_; refine EK_ev (Ev_loadRow rfl xS hget) ?_)
    | (refine ek_add ?_; first | refine EK_ev (Ev_addI_v (r := ((k + 1 : Nat) : Int)) rfl rfl (by omega) (by omega)) ?_ | refine EK_ev (Ev_addI_v (r := ((used + k : Nat) : Int)) rfl rfl hcast.symm (by omega)) ?_)
    | (refine ek_lss ?_; refine EK_ev (Ev_lssI_q rfl rfl ql) ?_)
    | refine xst ?_
    | (refine xsa ?_; intro _)
    | (refine xsb ?_ ?_ <;> intro _ <;> first | (exfalso; omega) | skip)
    | refine xsc ?_
    | (refine KJ_draws (id := 8) (.op 0 (.op 1 (.op 2 (.op 3 (.op 4 (.op 5 (.op 6 (.op 7 (.op 8 (.op 9 (.op 10 (.ef 11 [] (.op 12 (.op 13 (.op 14 (.op 15 (.op 16 .nil))))))))))))))))) (by kernel_rfl) (by kernel_rfl) ?_)
    | (refine KJ_draws (id := 10) (.op 0 (.op 1 (.op 2 (.op 3 (.op 4 (.op 5 (.op 6 (.op 7 (.op 8 (.op 9 (.op 10 (.op 11 (.op 12 (.op 13 (.op 14 (.op 15 (.op 16 (.op 17 (.ef 18 [] (.op 19 .nil)))))))))))))))))))) (by kernel_rfl) (by kernel_rfl) ?_)
    | (refine KJ_draws (id := 14) (.op 0 (.op 1 (.op 2 (.op 3 (.op 4 (.op 5 (.ef 6 [3, 2, 1, 0] (.op 7 (.op 8 (.op 9 (.ef 10 [] .nil))))))))))) (by kernel_rfl) (by kernel_rfl) ?_)
    | refine FW_alt ?_ ?_
    | refine KJ_flow ?_ ?_
    | exact Rech.nil
    | fail)
    all_goals exact KJ_again ⟨(k + 1, D1), hr, by dsimp only; omega, by dsimp only; omega⟩ (by show ps.length - (k + 1) < ps.length - k; omega) xB (xN)
  · rw [if_pos hz] at hr
    have h1 : res.1 = false := by rw [← hr]
    have h2 : res.2 = D1 := by rw [← hr]
    rw [h1, h2]
    obtain ⟨ea, hea⟩ := errV_ne (E := E) hz
    rw [hea] at c7
    repeat' (first 
    | (refine is_call ?_; first | (refine KJ_call xE c7 xP rfl (fun _ => ?_)) | (refine KJ_call xE c6 xP rfl (fun _ => ?_)) | (refine KJ_call xE c5 xP rfl (fun _ => ?_)))
    | (refine ek_load ?_; first | refine EK_ev (Ev_loadOld rfl e12) ?_ | refine EK_ev (Ev_loadRow rfl xS hget) ?_)
    | (refine ek_add ?_; first | refine EK_ev (Ev_addI_v (r := ((k + 1 : Nat) : Int)) rfl rfl (by omega) (by omega)) ?_ | refine EK_ev (Ev_addI_v (r := ((used + k : Nat) : Int)) rfl rfl hcast.symm (by omega)) ?_)
    | (refine ek_lss ?_; refine EK_ev (Ev_lssI_q rfl rfl ql) ?_)
    | refine xst ?_
    | (refine xsa ?_; intro _)
    | (refine xsb ?_ ?_ <;> intro _ <;> first | (exfalso; omega) | skip)
    | refine xsc ?_
    | (refine KJ_draws (id := 8) (.op 0 (.op 1 (.op 2 (.op 3 (.op 4 (.op 5 (.op 6 (.op 7 (.op 8 (.op 9 (.op 10 (.ef 11 [] (.op 12 (.op 13 (.op 14 (.op 15 (.op 16 .nil))))))))))))))))) (by kernel_rfl) (by kernel_rfl) ?_)
    | (refine KJ_draws (id := 10) (.op 0 (.op 1 (.op 2 (.op 3 (.op 4 (.op 5 (.op 6 (.op 7 (.op 8 (.op 9 (.op 10 (.op 11 (.op 12 (.op 13 (.op 14 (.op 15 (.op 16 (.op 17 (.ef 18 [] (.op 19 .nil)))))))))))))))))))) (by kernel_rfl) (by kernel_rfl) ?_)
    | (refine KJ_draws (id := 14) (.op 0 (.op 1 (.op 2 (.op 3 (.op 4 (.op 5 (.ef 6 [3, 2, 1, 0] (.op 7 (.op 8 (.op 9 (.ef 10 [] .nil))))))))))) (by kernel_rfl) (by kernel_rfl) ?_)
    | refine FW_alt ?_ ?_
    | refine KJ_flow ?_ ?_
    | exact Rech.nil
    | fail)
    all_goals (exact xdn ())
end
end Go.Proofs.YteklldbfdmaafaaDoor
/-
  The package journal: payload, record, Replay: contracts.
-/
namespace Go.Proofs.YteklldbfdmaafaaDoor
open Go Go.RowKit
/-- the payload of sector i, if it counts -/
def payO (D : Dsk) (at_ n : Int) (ver i : Nat) : Option (List UInt8) := if n ≤ (i : Int) then none else if D.readE (at_ + (i : Nat)) ≠ 0 then none else openS (stampN ver i : Nat) (D.readS (at_ + (i : Nat)))
/-- the size that a first payload tells -/
def sizeGo (q : List UInt8) : Nat → Int
  | 0 => 0
  | k + 1 => bits .or .i64 (sizeGo q k) (IntKind.i64.wrap (((q.getD (1 + k) 0).toNat : Int) * 2 ^ (min (8 * (k : Int)).toNat IntKind.i64.bits)))
def recGo (D : Dsk) (at_ n : Int) (ver i : Nat) (size : Int) : Nat → Nat → List UInt8 → Option (List UInt8)
  | 0, _, out => some out
  | f + 1, k, out => match payO D at_ n ver (i + k) with
    | none => none
    | some q => if (q.length : Int) ≠ 1 + min (size - out.length) 233 then none else if q.getD 0 0 ≠ 0 then none else recGo D at_ n ver i size f (k + 1) (out ++ q.drop 1)
/-- the record that begins in sector i, and its sectors -/
def recO (D : Dsk) (at_ n : Int) (ver i : Nat) : Option (List UInt8 × Int) :=
  match payO D at_ n ver i with
  | none => none
  | some q => if q.length < 5 then none else if q.getD 0 0 ≠ 1 then none else if n - (i : Int) < costI (sizeGo q 4) then none else if ((q.drop 5).length : Int) ≠ min (sizeGo q 4) 229 then none else
    match recGo D at_ n ver i (sizeGo q 4) (costI (sizeGo q 4) - 1).toNat 1 (q.drop 5) with
    | none => none
    | some s => some (s, costI (sizeGo q 4))
def rpGo (D : Dsk) (at_ n : Int) (ver : Nat) : Nat → Nat → List (List UInt8) → List (List UInt8)
  | 0, _, acc => acc
  | f + 1, i, acc => match recO D at_ n ver i with
    | none => acc
    | some (s, u) => rpGo D at_ n ver f (i + u.toNat) (acc ++ [s])
theorem i64_range (x : Int) : -9223372036854775808 ≤ IntKind.i64.wrap x ∧ IntKind.i64.wrap x ≤ 9223372036854775807 := by
  have : IntKind.i64.wrap x = if x % 18446744073709551616 ≥ 9223372036854775808 then x % 18446744073709551616 - 18446744073709551616 else x % 18446744073709551616 := by
    simp [IntKind.wrap, IntKind.signed, IntKind.bits]
  rw [this]
  split <;> omega
theorem sizeGo_range (q : List UInt8) (k : Nat) : -9223372036854775808 ≤ sizeGo q k ∧ sizeGo q k ≤ 9223372036854775807 := by
  cases k with
  | zero => exact ⟨by show (-9223372036854775808 : Int) ≤ 0; omega, by show (0 : Int) ≤ _; omega⟩
  | succ k =>
    show _ ≤ bits .or .i64 _ _ ∧ bits .or .i64 _ _ ≤ _
    exact i64_range _
theorem recO_some {D : Dsk} {at_ n : Int} {ver i : Nat} {s : List UInt8} {u : Int} (h : recO D at_ n ver i = some (s, u)) : 1 ≤ u ∧ u ≤ n - (i : Int) := by
  unfold recO at h
  split at h
  · cases h
  split at h
  · cases h
  split at h
  · cases h
  split at h
  · cases h
  split at h
  · cases h
  split at h
  · cases h
  rename_i q hq h5 h6 h1 h2 x s' hs'
  simp only [Option.some.injEq, Prod.mk.injEq] at h
  obtain ⟨-, rfl⟩ := h
  refine ⟨?_, by omega⟩
  unfold costI
  split
  · rw [List.length_drop] at h2; omega
  split <;> omega
section
variable {W : World} {E : Nat → Addr} {p g : Nat} {D : Dsk}
theorem payload_ct (hE : ErrsOn L8 W E) (hN : NibAt W) (at_ n : Int) (ver i : Nat) (hat : 0 ≤ at_ ∧ at_ ≤ 65536) (hn : n ≤ 65536) (hver : 1 ≤ ver ∧ ver ≤ 1099511627776) (hi : i ≤ 131072) : Ct Tryd.prog W 123 [.agg #[.pointer (some ⟨p, 0, none⟩), .int .i64 at_, .int .i64 n, .int .i64 (ver : Nat)], .int .i64 (i : Nat)] [DiskP p D] (fun _ : Unit => .tuple #[strV ((payO D at_ n ver i).getD []), .bool (payO D at_ n ver i).isSome]) (fun _ => [DiskP p D]) := by
  by_cases h1 : n ≤ (i : Int)
  · have q1 : decide (n ≤ (i : Int)) = true := decide_eq_true h1
    rw [show payO D at_ n ver i = none from if_pos h1]
    refine Ct.enter Tryd.func123 rfl Tryd.ntmps123 (by simp) (fun R => ?_)
    repeat' (first 
    | (refine is_box ?_; refine KJ_box rfl xF rfl (fun g1 => ?_))
    | (refine ek_geq ?_; refine EK_ev (Ev_geqI_q rfl rfl q1) ?_)
    | refine xst ?_
    | (refine xsa ?_; intro _)
    | (refine xsb ?_ ?_ <;> intro _ <;> first | (exfalso; omega) | skip)
    | refine xsc ?_
    | fail)
    all_goals (exact xdn ())
  have q1 : decide (n ≤ (i : Int)) = false := decide_eq_false h1
  have c1 := log_ct (W := W) ver i hver (by omega)
  have c2 := read_ct (W := W) (p := p) (D := D) hE (at_ + (i : Nat))
  have c3 := open_ct (W := W) hN (stampN ver i : Nat) (D.readS (at_ + (i : Nat)))
  obtain ⟨stm, hst⟩ : ∃ m, m = stampN ver i := ⟨_, rfl⟩
  rw [show payO D at_ n ver i = _ from if_neg h1, ← hst]
  rw [← hst] at c1 c3
  obtain ⟨raw, hraw⟩ : ∃ m, m = D.readS (at_ + (i : Nat)) := ⟨_, rfl⟩
  obtain ⟨e, he⟩ : ∃ m, m = D.readE (at_ + (i : Nat)) := ⟨_, rfl⟩
  rw [← hraw, ← he]
  rw [← hraw] at c2 c3
  rw [← he] at c2
  clear hst hraw he
  by_cases hz : e = 0
  · subst hz
    rw [if_neg (by simp)]
    have c2' : Ct Tryd.prog W 26 [.pointer (some ⟨p, 0, none⟩), .int .i64 (at_ + (i : Nat))] [DiskP p D] (fun _ : Unit => .tuple #[strV raw, .nilIface]) (fun _ => [DiskP p D]) := c2
    refine Ct.enter Tryd.func123 rfl Tryd.ntmps123 (by simp) (fun R => ?_)
    repeat' (first 
    | (refine is_box ?_; refine KJ_box rfl xF rfl (fun g1 => ?_))
    | (refine is_call ?_; first | (refine KJ_call xE c3 xP rfl (fun _ => ?_)) | (refine KJ_call xE c2' xP rfl (fun _ => ?_)) | (refine KJ_call xE c1 xP rfl (fun _ => ?_)))
    | (refine ek_geq ?_; refine EK_ev (Ev_geqI_q rfl rfl q1) ?_)
    | refine xst ?_
    | (refine xsa ?_; intro _)
    | (refine xsb ?_ ?_ <;> intro _ <;> first | (exfalso; omega) | skip)
    | refine xsc ?_
    | fail)
    all_goals (exact xdn ())
  · rw [if_pos hz]
    obtain ⟨ea, hea⟩ := errV_ne (E := E) hz
    rw [hea] at c2
    refine Ct.enter Tryd.func123 rfl Tryd.ntmps123 (by simp) (fun R => ?_)
    repeat' (first 
    | (refine is_box ?_; refine KJ_box rfl xF rfl (fun g1 => ?_))
    | (refine is_call ?_; first | (refine KJ_call xE c2 xP rfl (fun _ => ?_)) | (refine KJ_call xE c1 xP rfl (fun _ => ?_)))
    | (refine ek_geq ?_; refine EK_ev (Ev_geqI_q rfl rfl q1) ?_)
    | refine xst ?_
    | (refine xsa ?_; intro _)
    | (refine xsb ?_ ?_ <;> intro _ <;> first | (exfalso; omega) | skip)
    | refine xsc ?_
    | fail)
    all_goals (exact xdn ())
/-- what record answers -/
def recV (o : Option (List UInt8 × Int)) : Value := match o with
  | none => .tuple #[strV [], .int .i64 0, .bool false]
  | some (s, u) => .tuple #[strV s, .int .i64 u, .bool true]
set_option maxHeartbeats 2000000 in
set_option maxRecDepth 100000 in
theorem record_ct (hE : ErrsOn L8 W E) (hN : NibAt W) (at_ n : Int) (ver i : Nat) (hat : 0 ≤ at_ ∧ at_ ≤ 65536) (hn : n ≤ 65536) (hver : 1 ≤ ver ∧ ver ≤ 1099511627776) (hi : (i : Int) ≤ n) : Ct Tryd.prog W 102 [.agg #[.pointer (some ⟨p, 0, none⟩), .int .i64 at_, .int .i64 n, .int .i64 (ver : Nat)], .int .i64 (i : Nat)] [DiskP p D] (fun _ : Unit => recV (recO D at_ n ver i)) (fun _ => [DiskP p D]) := by
  have c1 := payload_ct (p := p) (D := D) hE hN at_ n ver i hat hn hver (by omega)
  have cp := fun k (hk : (i : Int) + (k : Nat) ≤ 131072) => payload_ct (p := p) (D := D) hE hN at_ n ver (i + k) hat hn hver (by omega)
  obtain ⟨res, hres⟩ : ∃ res, res = recO D at_ n ver i := ⟨_, rfl⟩
  rw [← hres]
  unfold recO at hres
  obtain ⟨o, ho⟩ : ∃ o, o = payO D at_ n ver i := ⟨_, rfl⟩
  rw [← ho] at c1 hres
  clear ho
  cases o with
  | none =>
    subst hres
    have c1' : Ct Tryd.prog W 123 [.agg #[.pointer (some ⟨p, 0, none⟩), .int .i64 at_, .int .i64 n, .int .i64 (ver : Nat)], .int .i64 (i : Nat)] [DiskP p D] (fun _ : Unit => .tuple #[strV [], .bool false]) (fun _ => [DiskP p D]) := c1
    show Ct _ _ _ _ _ (fun _ : Unit => .tuple #[strV [], .int .i64 0, .bool false]) _
    refine Ct.enter Tryd.func102 rfl Tryd.ntmps102 (by simp) (fun R => ?_)
    repeat' (first 
    | (refine is_box ?_; refine KJ_box rfl xF rfl (fun g2 => ?_))
    | (refine is_call ?_; refine KJ_call xE c1' xP rfl (fun _ => ?_))
    | refine xst ?_
    | (refine xsa ?_; intro _)
    | (refine xsb ?_ ?_ <;> intro _ <;> first | (exfalso; omega) | skip)
    | refine xsc ?_
    | fail)
    all_goals (exact xdn ())
  | some q =>
    dsimp only at hres
    have c1' : Ct Tryd.prog W 123 [.agg #[.pointer (some ⟨p, 0, none⟩), .int .i64 at_, .int .i64 n, .int .i64 (ver : Nat)], .int .i64 (i : Nat)] [DiskP p D] (fun _ : Unit => .tuple #[strV q, .bool true]) (fun _ => [DiskP p D]) := c1
    clear c1
    by_cases h5 : q.length < 5
    · rw [if_pos h5] at hres
      subst hres
      have q5 : decide ((q.length : Int) < 5) = true := decide_eq_true (by omega)
      show Ct _ _ _ _ _ (fun _ : Unit => .tuple #[strV [], .int .i64 0, .bool false]) _
      refine Ct.enter Tryd.func102 rfl Tryd.ntmps102 (by simp) (fun R => ?_)
      repeat' (first 
    | (refine is_box ?_; refine KJ_box rfl xF rfl (fun g2 => ?_))
    | (refine is_call ?_; refine KJ_call xE c1' xP rfl (fun _ => ?_))
    | (refine ek_lss ?_; refine EK_ev (Ev_lssI_q rfl rfl q5) ?_)
    | refine xst ?_
    | (refine xsa ?_; intro _)
    | (refine xsb ?_ ?_ <;> intro _ <;> first | (exfalso; omega) | skip)
    | refine xsc ?_
    | fail)
      all_goals (exact xdn ())
    rw [if_neg h5] at hres
    have q5 : decide ((q.length : Int) < 5) = false := decide_eq_false (by omega)
    obtain ⟨c0, hc0⟩ : ∃ c, q[(0 : Int).toNat]? = some c := ⟨_, List.getElem?_eq_getElem (by show 0 < q.length; omega)⟩
    have hg0 : q.getD 0 0 = c0 := by rw [List.getD]; rw [show q[0]? = some c0 from hc0]; rfl
    rw [hg0] at hres
    by_cases h6 : c0 = 1
    rotate_left
    · rw [if_pos h6] at hres
      subst hres
      have h6' : ((c0.toNat : Nat) : Int) ≠ 1 := by
        intro e
        apply h6
        apply UInt8.toNat_inj.1
        show c0.toNat = 1
        omega
      show Ct _ _ _ _ _ (fun _ : Unit => .tuple #[strV [], .int .i64 0, .bool false]) _
      refine Ct.enter Tryd.func102 rfl Tryd.ntmps102 (by simp) (fun R => ?_)
      repeat' (first 
    | (refine is_box ?_; refine KJ_box rfl xF rfl (fun g2 => ?_))
    | (refine is_call ?_; refine KJ_call xE c1' xP rfl (fun _ => ?_))
    | (refine ek_index ?_; refine EK_ev (Ev_indexStr rfl rfl (by omega) hc0) ?_)
    | (refine ek_neq ?_; refine EK_ev (Ev_neqI_t rfl rfl h6') ?_)
    | (refine ek_lss ?_; refine EK_ev (Ev_lssI_q rfl rfl q5) ?_)
    | refine xst ?_
    | (refine xsa ?_; intro _)
    | (refine xsb ?_ ?_ <;> intro _ <;> first | (exfalso; omega) | skip)
    | refine xsc ?_
    | fail)
      all_goals (exact xdn ())
    rw [if_neg (by simpa using h6)] at hres
    have h6' : ((c0.toNat : Nat) : Int) = 1 := by rw [h6]; rfl
    refine Ct.enter Tryd.func102 rfl Tryd.ntmps102 (by simp) (fun R => ?_)
    repeat' (first 
    | (refine is_box ?_; refine KJ_box rfl xF rfl (fun g2 => ?_))
    | (refine is_call ?_; refine KJ_call xE c1' xP rfl (fun _ => ?_))
    | (refine ek_index ?_; refine EK_ev (Ev_indexStr rfl rfl (by omega) hc0) ?_)
    | (refine ek_neq ?_; refine EK_ev (Ev_neqI_f rfl rfl h6') ?_)
    | (refine ek_lss ?_; refine EK_ev (Ev_lssI_q rfl rfl q5) ?_)
    | refine xst ?_
    | (refine xsa ?_; intro _)
    | (refine xsb ?_ ?_ <;> intro _ <;> first | (exfalso; omega) | skip)
    | refine xsc ?_
    | fail)
    refine KJ_loop (fun k : {k : Nat // k ≤ 4} => [(1, .int .i64 (i : Nat)), (2, .pointer (some ⟨g2, 0, none⟩)), (7, strV q), (9, .int .i64 (sizeGo q k.1)), (32, .int .i64 (k.1 : Nat))]) (fun _ => [DiskP p D, cellsP g2 [.pointer (some ⟨p, 0, none⟩), .int .i64 at_, .int .i64 n, .int .i64 (ver : Nat)] 163] ++ R) (fun k => 4 - k.1) ⟨0, by omega⟩ xB (xN) (fun ⟨k, hk⟩ => ?_)
    dsimp only
    by_cases hlt : k < 4
    · have ql : decide ((k : Int) < 4) = true := decide_eq_true (by omega)
      obtain ⟨c, hc⟩ : ∃ c, q[((k + 1 : Nat) : Int).toNat]? = some c := ⟨_, List.getElem?_eq_getElem (by omega)⟩
      have hgc : q.getD (1 + k) 0 = c := by
        rw [show ((k + 1 : Nat) : Int).toNat = 1 + k by omega] at hc
        rw [List.getD, hc]; rfl
      have hcb := UInt8.toNat_lt c
      obtain ⟨sh, hsh⟩ : ∃ sh, IntKind.i64.wrap ((c.toNat : Int) * 2 ^ (min (8 * (k : Int)).toNat IntKind.i64.bits)) = sh := ⟨_, rfl⟩
      have hor : bits .or .i64 (sizeGo q k) sh = sizeGo q (k + 1) := by rw [← hsh, ← hgc]; rfl
      repeat' (first 
    | (refine ek_conv ?_; refine EK_ev (Ev_convI64 rfl (by omega)) ?_)
    | (refine ek_index ?_; refine EK_ev (Ev_indexStr rfl rfl (by omega) hc) ?_)
    | (refine ek_add ?_; refine EK_ev (Ev_addI_v (r := ((k + 1 : Nat) : Int)) rfl rfl (by omega) (by omega)) ?_)
    | (refine ek_or ?_; refine EK_ev (Ev_or_w rfl rfl hor) ?_)
    | (refine ek_shl ?_; refine EK_ev (Ev_shl_w rfl rfl (by omega) hsh) ?_)
    | (refine ek_lss ?_; refine EK_ev (Ev_lssI_q rfl rfl ql) ?_)
    | refine xst ?_
    | (refine xsa ?_; intro _)
    | (refine xsb ?_ ?_ <;> intro _ <;> first | (exfalso; omega) | skip)
    | refine xsc ?_
    | fail)
      all_goals exact KJ_again ⟨k + 1, by omega⟩ (by show 4 - (k + 1) < 4 - k; omega) xB (xN)
    have hk4 : k = 4 := by omega
    subst hk4
    have ql : decide (((4 : Nat) : Int) < 4) = false := by decide
    have hsz := sizeGo_range q 4
    obtain ⟨size, hsize⟩ : ∃ s, s = sizeGo q 4 := ⟨_, rfl⟩
    rw [← hsize] at hsz hres ⊢
    clear hsize
    have c2 := cost_ct (W := W) size hsz.2
    have hcost : costI size = if size < 0 then 0 else if size ≤ 229 then 1 else 2 + (size - 230) / 233 := rfl
    obtain ⟨need, hneed⟩ : ∃ m, m = costI size := ⟨_, rfl⟩
    rw [← hneed] at c2 hres hcost
    clear hneed
    obtain ⟨q5', hq5⟩ : ∃ x, q.drop (5 : Int).toNat = x := ⟨_, rfl⟩
    rw [show q.drop 5 = q5' from hq5] at hres
    have hq5l : q5'.length = q.length - 5 := by rw [← hq5]; exact List.length_drop
    by_cases h7 : n - (i : Int) < need
    · rw [if_pos h7] at hres
      subst hres
      have q7 : decide (n - (i : Int) < need) = true := decide_eq_true h7
      repeat' (first 
    | (refine is_call ?_; refine KJ_call xE c2 xP rfl (fun _ => ?_))
    | (refine is_econv ?_; refine KJ_bufOf rfl rfl (fun g3 c3 => ?_))
    | (refine ek_slice ?_; refine EK_ev (Ev_sliceStrFrom_v rfl rfl (by omega) hq5) ?_)
    | (refine ek_lss ?_; refine EK_ev (Ev_lssI_q rfl rfl ql) ?_)
    | (refine ek_gtr ?_; refine EK_ev (Ev_gtrI_q rfl rfl q7) ?_)
    | refine xst ?_
    | (refine xsa ?_; intro _)
    | (refine xsb ?_ ?_ <;> intro _ <;> first | (exfalso; omega) | skip)
    | refine xsc ?_
    | fail)
      all_goals (exact xdn ())
    rw [if_neg h7] at hres
    have q7 : decide (n - (i : Int) < need) = false := decide_eq_false h7
    obtain ⟨mn, hmn⟩ : ∃ m, min size 229 = m := ⟨_, rfl⟩
    rw [hmn] at hres
    by_cases h8 : (q5'.length : Int) = mn
    rotate_left
    · rw [if_pos h8] at hres
      subst hres
      repeat' (first 
    | (refine is_call ?_; refine KJ_call xE c2 xP rfl (fun _ => ?_))
    | (refine is_econv ?_; refine KJ_bufOf rfl rfl (fun g3 c3 => ?_))
    | (refine ek_slice ?_; refine EK_ev (Ev_sliceStrFrom_v rfl rfl (by omega) hq5) ?_)
    | (refine ek_min ?_; refine EK_ev (Ev_min_v rfl rfl hmn) ?_)
    | (refine ek_neq ?_; refine EK_ev (Ev_neqI_t rfl rfl h8) ?_)
    | (refine ek_lss ?_; refine EK_ev (Ev_lssI_q rfl rfl ql) ?_)
    | (refine ek_gtr ?_; refine EK_ev (Ev_gtrI_q rfl rfl q7) ?_)
    | refine xst ?_
    | (refine xsa ?_; intro _)
    | (refine xsb ?_ ?_ <;> intro _ <;> first | (exfalso; omega) | skip)
    | refine xsc ?_
    | fail)
      all_goals (exact xdn ())
    rw [if_neg (by simpa using h8)] at hres
    have hs0 : 0 ≤ size := by omega
    have hs1 : size ≤ 16777216 := by split at hcost <;> omega
    obtain ⟨ro, hro⟩ : ∃ ro, ro = recGo D at_ n ver i size (need - 1).toNat 1 q5' := ⟨_, rfl⟩
    rw [← hro] at hres
    repeat' (first 
    | (refine is_call ?_; refine KJ_call xE c2 xP rfl (fun _ => ?_))
    | (refine is_econv ?_; refine KJ_bufOf rfl rfl (fun g3 c3 => ?_))
    | (refine ek_slice ?_; refine EK_ev (Ev_sliceStrFrom_v rfl rfl (by omega) hq5) ?_)
    | (refine ek_min ?_; refine EK_ev (Ev_min_v rfl rfl hmn) ?_)
    | (refine ek_neq ?_; refine EK_ev (Ev_neqI_f rfl rfl h8) ?_)
    | (refine ek_lss ?_; refine EK_ev (Ev_lssI_q rfl rfl ql) ?_)
    | (refine ek_gtr ?_; refine EK_ev (Ev_gtrI_q rfl rfl q7) ?_)
    | refine xst ?_
    | (refine xsa ?_; intro _)
    | (refine xsb ?_ ?_ <;> intro _ <;> first | (exfalso; omega) | skip)
    | refine xsc ?_
    | fail)
    refine KJ_loop (fun k : {s : Nat × Nat × List UInt8 × Nat × Nat // recGo D at_ n ver i size s.1 s.2.1 s.2.2.1 = ro ∧ (s.1 : Int) + s.2.1 = max need 1 ∧ 1 ≤ s.2.1 ∧ (s.2.2.1.length : Int) = min size (229 + 233 * ((s.2.1 : Int) - 1))} => [(1, .int .i64 (i : Nat)), (2, .pointer (some ⟨g2, 0, none⟩)), (9, .int .i64 size), (11, .int .i64 need), (12, .slice (some ⟨k.1.2.2.2.1, 0, none⟩) k.1.2.2.1.length k.1.2.2.2.2), (13, .int .i64 (k.1.2.1 : Nat))])
      (fun k => [DiskP p D, cellsP g2 [.pointer (some ⟨p, 0, none⟩), .int .i64 at_, .int .i64 n, .int .i64 (ver : Nat)] 163, bufP k.1.2.2.2.1 k.1.2.2.1.length k.1.2.2.2.2 k.1.2.2.1 5] ++ R) (fun k => k.1.1) ⟨((need - 1).toNat, 1, q5', g3, c3), hro.symm, by dsimp only; omega, by dsimp only; omega, by dsimp only; omega⟩ xB (xN) (fun ⟨(fu, k, out, g4, c4), hr, hfk, hk1, hol⟩ => ?_)
    dsimp only at hr hfk hk1 hol ⊢
    by_cases hlt2 : (k : Int) < need
    rotate_left
    · have qk : decide ((k : Int) < need) = false := decide_eq_false hlt2
      have hfu : fu = 0 := by omega
      subst hfu
      have hr2 : ro = some out := by rw [← hr]; rfl
      rw [hr2] at hres
      subst hres
      repeat' (first 
    | (refine ek_conv ?_; refine EK_ev (Ev_bytesBuf rfl xS) ?_)
    | (refine ek_lss ?_; refine EK_ev (Ev_lssI_q rfl rfl qk) ?_)
    | refine xst ?_
    | (refine xsa ?_; intro _)
    | (refine xsb ?_ ?_ <;> intro _ <;> first | (exfalso; omega) | skip)
    | refine xsc ?_
    | fail)
      all_goals (exact xdn ())
    have qk : decide ((k : Int) < need) = true := decide_eq_true hlt2
    obtain ⟨fu', rfl⟩ : ∃ f', fu = f' + 1 := ⟨fu - 1, by omega⟩
    have hout : (out.length : Int) = 229 + 233 * ((k : Int) - 1) ∧ (out.length : Int) < size := by split at hcost <;> omega
    have c6 := cp k (by omega)
    have hunf : recGo D at_ n ver i size (fu' + 1) k out = match payO D at_ n ver (i + k) with
      | none => none
      | some q => if (q.length : Int) ≠ 1 + min (size - out.length) 233 then none else if q.getD 0 0 ≠ 0 then none else recGo D at_ n ver i size fu' (k + 1) (out ++ q.drop 1) := rfl
    rw [hunf] at hr
    clear hunf
    obtain ⟨o2, ho2⟩ : ∃ o, o = payO D at_ n ver (i + k) := ⟨_, rfl⟩
    rw [← ho2] at c6 hr
    clear ho2
    cases o2 with
    | none =>
      have hr2 : ro = none := by rw [← hr]
      rw [hr2] at hres
      subst hres
      have c6' : Ct Tryd.prog W 123 [.agg #[.pointer (some ⟨p, 0, none⟩), .int .i64 at_, .int .i64 n, .int .i64 (ver : Nat)], .int .i64 ((i + k : Nat) : Int)] [DiskP p D] (fun _ : Unit => .tuple #[strV [], .bool false]) (fun _ => [DiskP p D]) := c6
      repeat' (first 
    | (refine is_call ?_; refine KJ_call xE c6' xP rfl (fun _ => ?_))
    | (refine ek_add ?_; refine EK_ev (Ev_addI_v (r := ((i + k : Nat) : Int)) rfl rfl (by omega) (by omega)) ?_)
    | (refine ek_lss ?_; refine EK_ev (Ev_lssI_q rfl rfl qk) ?_)
    | refine xst ?_
    | (refine xsa ?_; intro _)
    | (refine xsb ?_ ?_ <;> intro _ <;> first | (exfalso; omega) | skip)
    | refine xsc ?_
    | fail)
      all_goals (exact xdn ())
    | some q2 =>
      dsimp only at hr
      have c6' : Ct Tryd.prog W 123 [.agg #[.pointer (some ⟨p, 0, none⟩), .int .i64 at_, .int .i64 n, .int .i64 (ver : Nat)], .int .i64 ((i + k : Nat) : Int)] [DiskP p D] (fun _ : Unit => .tuple #[strV q2, .bool true]) (fun _ => [DiskP p D]) := c6
      obtain ⟨m2, hm2⟩ : ∃ m, min (size - (out.length : Int)) 233 = m := ⟨_, rfl⟩
      rw [hm2] at hr
      by_cases h9 : (q2.length : Int) = 1 + m2
      rotate_left
      · rw [if_pos h9] at hr
        have hr2 : ro = none := by rw [← hr]
        rw [hr2] at hres
        subst hres
        repeat' (first 
    | (refine is_call ?_; refine KJ_call xE c6' xP rfl (fun _ => ?_))
    | (refine ek_min ?_; refine EK_ev (Ev_min_v rfl rfl hm2) ?_)
    | (refine ek_add ?_; refine EK_ev (Ev_addI_v (r := ((i + k : Nat) : Int)) rfl rfl (by omega) (by omega)) ?_)
    | (refine ek_neq ?_; refine EK_ev (Ev_neqI_t rfl rfl h9) ?_)
    | (refine ek_lss ?_; refine EK_ev (Ev_lssI_q rfl rfl qk) ?_)
    | refine xst ?_
    | (refine xsa ?_; intro _)
    | (refine xsb ?_ ?_ <;> intro _ <;> first | (exfalso; omega) | skip)
    | refine xsc ?_
    | fail)
        all_goals (exact xdn ())
      rw [if_neg (by simpa using h9)] at hr
      obtain ⟨d0, hd0⟩ : ∃ c, q2[(0 : Int).toNat]? = some c := ⟨_, List.getElem?_eq_getElem (by show 0 < q2.length; omega)⟩
      have hgd : q2.getD 0 0 = d0 := by rw [List.getD]; rw [show q2[0]? = some d0 from hd0]; rfl
      rw [hgd] at hr
      by_cases h10 : d0 = 0
      rotate_left
      · rw [if_pos h10] at hr
        have hr2 : ro = none := by rw [← hr]
        rw [hr2] at hres
        subst hres
        have h10' : ((d0.toNat : Nat) : Int) ≠ 0 := by
          intro e
          apply h10
          apply UInt8.toNat_inj.1
          show d0.toNat = 0
          omega
        repeat' (first 
    | (refine is_call ?_; refine KJ_call xE c6' xP rfl (fun _ => ?_))
    | (refine ek_index ?_; refine EK_ev (Ev_indexStr rfl rfl (by omega) hd0) ?_)
    | (refine ek_min ?_; refine EK_ev (Ev_min_v rfl rfl hm2) ?_)
    | (refine ek_add ?_; refine EK_ev (Ev_addI_v (r := ((i + k : Nat) : Int)) rfl rfl (by omega) (by omega)) ?_)
    | (refine ek_neq ?_; first | refine EK_ev (Ev_neqI_t rfl rfl h10') ?_ | refine EK_ev (Ev_neqI_f rfl rfl h9) ?_)
    | (refine ek_lss ?_; refine EK_ev (Ev_lssI_q rfl rfl qk) ?_)
    | refine xst ?_
    | (refine xsa ?_; intro _)
    | (refine xsb ?_ ?_ <;> intro _ <;> first | (exfalso; omega) | skip)
    | refine xsc ?_
    | fail)
        all_goals (exact xdn ())
      rw [if_neg (by simpa using h10)] at hr
      have h10' : ((d0.toNat : Nat) : Int) = 0 := by rw [h10]; rfl
      obtain ⟨q3, hq3⟩ : ∃ x, q2.drop (1 : Int).toNat = x := ⟨_, rfl⟩
      rw [show q2.drop 1 = q3 from hq3] at hr
      have hq3l : q3.length = q2.length - 1 := by rw [← hq3]; exact List.length_drop
      repeat' (first 
    | (refine is_call ?_; refine KJ_call xE c6' xP rfl (fun _ => ?_))
    | (refine is_append ?_; refine KJ_appendBuf rfl rfl xS (by omega) rfl (fun g5 c5 => ?_))
    | (refine ek_index ?_; refine EK_ev (Ev_indexStr rfl rfl (by omega) hd0) ?_)
    | (refine ek_slice ?_; refine EK_ev (Ev_sliceStrFrom_v rfl rfl (by omega) hq3) ?_)
    | (refine ek_min ?_; refine EK_ev (Ev_min_v rfl rfl hm2) ?_)
    | (refine ek_add ?_; first | refine EK_ev (Ev_addI_v (r := ((k + 1 : Nat) : Int)) rfl rfl (by omega) (by omega)) ?_ | refine EK_ev (Ev_addI_v (r := ((i + k : Nat) : Int)) rfl rfl (by omega) (by omega)) ?_)
    | (refine ek_neq ?_; first | refine EK_ev (Ev_neqI_f rfl rfl h10') ?_ | refine EK_ev (Ev_neqI_f rfl rfl h9) ?_)
    | (refine ek_lss ?_; refine EK_ev (Ev_lssI_q rfl rfl qk) ?_)
    | refine xst ?_
    | (refine xsa ?_; intro _)
    | (refine xsb ?_ ?_ <;> intro _ <;> first | (exfalso; omega) | skip)
    | refine xsc ?_
    | fail)
      refine KJ_again ⟨(fu', k + 1, out ++ q3, g5, c5), hr, by dsimp only; omega, by dsimp only; omega, by dsimp only; rw [List.length_append]; split at hcost <;> omega⟩ (by show fu' < fu' + 1; omega) ?_ ?_
      · dsimp only
        rw [List.length_append]
        exact xB
      · dsimp only
        rw [List.length_append]
        exact (xN)
set_option maxHeartbeats 1000000 in
set_option maxRecDepth 100000 in
theorem replay_ct (hE : ErrsOn L8 W E) (hN : NibAt W) (at_ n : Int) (ver : Nat) (hn2 : D.n ≤ 65536) (ho : D.off = false) (h : logOk D at_ n ver) : Ct Tryd.prog W 70 [.pointer (some ⟨p, 0, none⟩), .int .i64 at_, .int .i64 n, .int .i64 (ver : Nat)] [DiskP p D]
    (fun v : Value => .tuple #[v, .nilIface]) (fun v => [DiskP p D, rowP v 9 1 (rpGo D at_ n ver (n.toNat + 1) 0 []).length ((rpGo D at_ n ver (n.toNat + 1) 0 []).map strV)]) := by
  have c1 := check_ct (W := W) (p := p) hn2 ho at_ n (ver : Nat) h
  obtain ⟨h1, h2, h3, h4, h5, h6, h7⟩ := h
  obtain ⟨res, hres⟩ : ∃ res, res = rpGo D at_ n ver (n.toNat + 1) 0 [] := ⟨_, rfl⟩
  rw [← hres]
  have cr := fun i (hi : ((i : Nat) : Int) ≤ n) => record_ct (W := W) (p := p) (D := D) hE hN at_ n ver i (by omega) h5 (by omega) hi
  refine Ct.enter Tryd.func70 rfl Tryd.ntmps70 (by simp) (fun R => ?_)
  repeat' (first 
    | (refine is_call ?_; refine KJ_call xE c1 xP rfl (fun _ => ?_))
    | (refine ek_build ?_; refine EK_ev (Ev_build xV xW) ?_)
    | refine xst ?_
    | (refine xsa ?_; intro _)
    | (refine xsb ?_ ?_ <;> intro _ <;> first | (exfalso; omega) | skip)
    | refine xsc ?_
    | fail)
  refine KJ.row0 (e := 9) (sz := 1) ?_
  rename_i gl _
  refine KJ_loop (fun k : {s : Nat × Nat × List (List UInt8) × Value // rpGo D at_ n ver s.1 s.2.1 s.2.2.1 = res ∧ (s.2.1 : Int) ≤ n ∧ n + 1 ≤ (s.1 : Int) + s.2.1 ∧ s.2.2.1.length ≤ s.2.1} => [(10, .pointer (some ⟨gl, 0, none⟩)), (12, k.1.2.2.2), (13, .int .i64 (k.1.2.1 : Nat))])
    (fun k => [DiskP p D, cellsP gl [.pointer (some ⟨p, 0, none⟩), .int .i64 at_, .int .i64 n, .int .i64 (ver : Nat)] 163, rowP k.1.2.2.2 9 1 k.1.2.2.1.length (k.1.2.2.1.map strV)] ++ R) (fun k => k.1.1) ⟨(n.toNat + 1, 0, [], .slice none 0 0), hres.symm, by dsimp only; omega, by dsimp only; omega, Nat.le_refl _⟩ xB (xN) (fun ⟨(f, i, acc, v), hr, hin, hfi, hal⟩ => ?_)
  dsimp only at hr hin hfi hal ⊢
  obtain ⟨f', rfl⟩ : ∃ f', f = f' + 1 := ⟨f - 1, by omega⟩
  have hunf : rpGo D at_ n ver (f' + 1) i acc = match recO D at_ n ver i with
    | none => acc
    | some (s, u) => rpGo D at_ n ver f' (i + u.toNat) (acc ++ [s]) := rfl
  rw [hunf] at hr
  clear hunf
  have c2 := cr i hin
  have hrs := fun s u => recO_some (D := D) (at_ := at_) (n := n) (ver := ver) (i := i) (s := s) (u := u)
  obtain ⟨o, ho⟩ : ∃ o, o = recO D at_ n ver i := ⟨_, rfl⟩
  rw [← ho] at c2 hr
  simp only [← ho] at hrs
  clear ho
  cases o with
  | none =>
    have hr2 : acc = res := hr
    subst hr2
    have c2' : Ct Tryd.prog W 102 [.agg #[.pointer (some ⟨p, 0, none⟩), .int .i64 at_, .int .i64 n, .int .i64 (ver : Nat)], .int .i64 (i : Nat)] [DiskP p D] (fun _ : Unit => .tuple #[strV [], .int .i64 0, .bool false]) (fun _ => [DiskP p D]) := c2
    repeat' (first 
    | (refine is_call ?_; refine KJ_call xE c2' xP rfl (fun _ => ?_))
    | refine xst ?_
    | (refine xsa ?_; intro _)
    | (refine xsb ?_ ?_ <;> intro _ <;> first | (exfalso; omega) | skip)
    | refine xsc ?_
    | fail)
    all_goals (exact xdn v)
  | some su =>
    obtain ⟨s, u⟩ := su
    dsimp only at hr
    obtain ⟨hu1, hu2⟩ := hrs s u rfl
    obtain ⟨un, rfl⟩ : ∃ un : Nat, u = (un : Int) := ⟨u.toNat, by omega⟩
    rw [Int.toNat_natCast] at hr
    have c2' : Ct Tryd.prog W 102 [.agg #[.pointer (some ⟨p, 0, none⟩), .int .i64 at_, .int .i64 n, .int .i64 (ver : Nat)], .int .i64 (i : Nat)] [DiskP p D] (fun _ : Unit => .tuple #[strV s, .int .i64 (un : Nat), .bool true]) (fun _ => [DiskP p D]) := c2
    repeat' (first 
    | (refine is_call ?_; refine KJ_call xE c2' xP rfl (fun _ => ?_))
    | (refine is_append ?_; refine KJ_append (a2 := 0) rfl rfl (by rfl) (by omega) xS (Src.cells (i := 1) xS xC) (by rfl) (by omega) xO (by omega) (by omega) rfl rfl (fun g5 c5 => ?_))
    | (refine is_bslice ?_; refine KJ_bslice1 rfl xF (by rfl) (by omega) rfl (fun g3 => ?_))
    | (refine ek_add ?_; refine EK_ev (Ev_addI_v (r := ((i + un : Nat) : Int)) rfl rfl (by omega) (by omega)) ?_)
    | refine xst ?_
    | (refine xsa ?_; intro _)
    | (refine xsb ?_ ?_ <;> intro _ <;> first | (exfalso; omega) | skip)
    | refine xsc ?_
    | fail)
    refine KJ_again ⟨(f', i + un, acc ++ [s], .slice (some ⟨g5, 0, none⟩) (acc.length + 1) c5), hr, by dsimp only; omega, by dsimp only; omega, by dsimp only; rw [List.length_append]; show acc.length + 1 ≤ _; omega⟩ (by show f' < f' + 1; omega) xB ?_
    have em : acc.map strV ++ [strV s] = (acc ++ [s]).map strV := by simp
    dsimp only
    rw [← em, List.length_append]
    exact (xN)
end
end Go.Proofs.YteklldbfdmaafaaDoor
/-
  A disk that nobody armed, as plain data.
-/
namespace Go.Proofs.YteklldbfdmaafaaDoor
open Go Go.RowKit
/-- a disk that nobody armed: its power is on -/
def Calm (D : Dsk) : Prop := D.off = false ∧ D.armed = -1
theorem gone_calm {D : Dsk} (h : Calm D) : D.gone = D := by
  obtain ⟨h1, h2⟩ := h
  unfold Dsk.gone
  rw [if_neg (by omega), if_neg (by omega)]
theorem dead_calm {D : Dsk} (h : Calm D) : D.dead = false := by simp [Dsk.dead, h.2]
theorem blank_calm (n : Nat) : Calm (Dsk.blank n) := ⟨rfl, rfl⟩
theorem flushD_calm {D : Dsk} (h : Calm D) : Calm D.flushD ∧ D.flushD.n = D.n ∧ D.flushE = 0 ∧ D.flushD.und = [] ∧ D.flushD.img = layAll D.img D.und := by
  have e : D.flushD = { D with img := layAll D.img D.und, und := [], flushes := w64 (D.flushes + 1) } := by
    unfold Dsk.flushD
    rw [if_neg (by rw [h.1]; simp), if_neg (by rw [dead_calm h]; simp), gone_calm h]
  rw [e]
  refine ⟨h, rfl, ?_, rfl, rfl⟩
  simp [Dsk.flushE, h.1, dead_calm h]
theorem take_cut (l : List UInt8) (i : Nat) : l.take (256 * i) ++ cut l (i * 256) 256 = l.take (256 * (i + 1)) := by
  rw [show 256 * (i + 1) = 256 * i + 256 by omega, List.take_add, cut, Nat.mul_comm i 256]
theorem crash_clean (D : Dsk) (hu : D.und = []) (kept : List Bool) (torn bytes : Int) : (D.crash kept torn bytes).img = D.img := by
  simp [Dsk.crash, hu, layDone]

end Go.Proofs.YteklldbfdmaafaaDoor
/-
  Slots over a disk that nobody armed, as plain data: a write lays one sector; what a slot tells then.
-/
namespace Go.Proofs.YteklldbfdmaafaaDoor
open Go Go.RowKit
/-- a disk at rest: power on, nobody armed it, nothing under way -/
structure Rest (D : Dsk) : Prop where
  calm : Calm D
  und : D.und = []
  ok : D.ok
theorem Rest.rd {D : Dsk} (h : Rest D) (i : Nat) : D.rd i = D.sec i := by simp [Dsk.rd, h.und, lastW_nil]
/-- a write of a version at rest -/
theorem rest_write {D : Dsk} (h : Rest D) (a v : Nat) (s : List UInt8) (ha : a + 2 ≤ D.n) (hv : 1 ≤ v) (hv2 : v ≤ 1099511627776) (hs : s.length ≤ 234) :
    slotWE D a v s = 0 ∧ Rest (slotWD D a v s) ∧ (slotWD D a v s).n = D.n ∧ (slotWD D a v s).sec (a + v % 2) = sealB v s ∧ ∀ j, j ≠ a + v % 2 → j < D.n → (slotWD D a v s).sec j = D.sec j := by
  have hn := h.ok.n2
  have hroom : D.roomB (a : Int) = true := by unfold Dsk.roomB; exact decide_eq_true (by omega)
  have hmay : slotMay D (a : Int) (v : Int) = true := by
    unfold slotMay; rw [hroom, decide_eq_true (show (1 : Int) ≤ v by omega), decide_eq_true (show (v : Int) ≤ 1099511627776 by omega)]; rfl
  have hb : ¬ (slotMay D (a : Int) (v : Int) = false) := by rw [hmay]; simp
  have hi : ((a : Int) + (v : Int) % 2) = ((a + v % 2 : Nat) : Int) := by omega
  have hlen := sealB_length (v : Int) s hs
  have hi2 : a + v % 2 < D.n := by omega
  have hhas : D.has ((a + v % 2 : Nat) : Int) = true := by unfold Dsk.has; exact decide_eq_true (by omega)
  have hwE : D.writeE ((a : Int) + (v : Int) % 2) (sealB v s) = 0 := by
    rw [hi]; unfold Dsk.writeE; rw [if_neg (by rw [h.calm.1]; simp), if_pos hhas, if_pos hlen, if_neg (by rw [dead_calm h.calm]; simp)]
  have hD1 : Calm ({ D with und := D.und ++ [(a + v % 2, sealB (v : Int) s)] } : Dsk) := h.calm
  have hw : slotW1 D (a : Int) (v : Int) s = { D with und := [(a + v % 2, sealB (v : Int) s)], writes := w64 (D.writes + 1) } := by
    unfold slotW1 Dsk.writeD
    rw [hi, if_neg (by rw [h.calm.1]; simp), if_pos hhas, if_pos hlen]
    simp only [dead_calm h.calm, gone_calm hD1, Int.toNat_natCast]
    simp [h.und]
  have hok1 : (slotW1 D (a : Int) (v : Int) s).ok := Dsk.writeD_ok h.ok _ _
  have hc1 : Calm (slotW1 D (a : Int) (v : Int) s) := by rw [hw]; exact h.calm
  have hf := flushD_calm hc1
  have hl := h.ok.len
  have e1 : slotWE D a v s = 0 := by
    unfold slotWE
    rw [if_neg hb, if_neg (by omega), if_neg (by rw [hwE]; simp)]
    exact hf.2.2.1
  have e2 : slotWD D a v s = (slotW1 D (a : Int) (v : Int) s).flushD := by
    unfold slotWD
    rw [if_neg hb, if_neg (by omega), if_neg (by rw [hwE]; simp)]
  have hn1 : (slotW1 D (a : Int) (v : Int) s).n = D.n := by rw [hw]
  have himg : (slotWD D a v s).img = lay D.img ((a + v % 2) * 256) (sealB (v : Int) s) := by
    rw [e2, hf.2.2.2.2, hw]; rfl
  refine ⟨e1, ⟨by rw [e2]; exact hf.1, by rw [e2]; exact hf.2.2.2.1, by rw [e2]; exact Dsk.flushD_ok hok1⟩, by rw [e2, hf.2.1, hn1], ?_, fun j hj hjn => ?_⟩
  · unfold Dsk.sec
    rw [himg]
    have := cut_lay_same D.img (sealB (v : Int) s) ((a + v % 2) * 256) (by rw [hlen]; omega)
    rw [hlen] at this
    exact this
  · unfold Dsk.sec
    rw [himg]
    rcases Nat.lt_or_ge j (a + v % 2) with hlt | hge
    · exact cut_lay_before _ _ _ _ _ (by rw [hlen]; omega) (by omega)
    · exact cut_lay_behind _ _ _ _ _ (by rw [hlen]; omega) (by rw [hlen]; omega)

/-- a slot that holds version c (0: none) and its value -/
structure Holds (D : Dsk) (a c : Nat) (l : List UInt8) : Prop where
  here : 0 < c → countO (D.sec (a + c % 2)) ((c % 2 : Nat) : Int) = some ((c : Int), l)
  other : countV (D.sec (a + (c + 1) % 2)) (((c + 1) % 2 : Nat) : Int) < (if c = 0 then 1 else (c : Int))
  none_ : c = 0 → countV (D.sec a) 0 = 0
theorem Holds.keep {D D' : Dsk} {a c : Nat} {l : List UInt8} (h : Holds D a c l) (hs : ∀ k, k < 2 → D'.sec (a + k) = D.sec (a + k)) : Holds D' a c l := by
  have h0 : D'.sec a = D.sec a := hs 0 (by omega)
  exact ⟨fun q => by rw [hs _ (Nat.mod_lt _ (by omega))]; exact h.here q, by rw [hs _ (Nat.mod_lt _ (by omega))]; exact h.other, fun q => by rw [h0]; exact h.none_ q⟩
/-- the next version is written -/
theorem Holds.next {D : Dsk} {a c : Nat} {l s : List UInt8} (hr : Rest D) (ha : a + 2 ≤ D.n) (h : Holds D a c l) (hc : c + 1 ≤ 1099511627776) (hs : s.length ≤ 234) : Holds (slotWD D a (c + 1 : Nat) s) a (c + 1) s := by
  obtain ⟨_, _, _, h1, h2⟩ := rest_write hr a (c + 1) s ha (by omega) hc hs
  refine ⟨fun _ => ?_, ?_, fun q => by omega⟩
  · rw [h1, show (((c + 1) % 2 : Nat) : Int) = ((c + 1 : Nat) : Int) % 2 by omega]
    exact seal_count (c + 1) s hs (by omega) hc
  · have e : (c + 1 + 1) % 2 = c % 2 := by omega
    rw [e, h2 _ (by omega) (by omega), if_neg (by omega)]
    by_cases hz : c = 0
    · subst hz
      have : countV (D.sec a) 0 = 0 := h.none_ rfl
      show countV (D.sec a) 0 < ((0 + 1 : Nat) : Int)
      omega
    · have hh := h.here (by omega)
      have : countV (D.sec (a + c % 2)) ((c % 2 : Nat) : Int) = c := by unfold countV; rw [hh]; rfl
      rw [this]
      omega
theorem blank_sec (n i : Nat) (h : i < n) : (Dsk.blank n).sec i = zs 256 := zs_cut _ _ _ (by omega)
theorem count_zero0 : countV (zs 256) 0 = 0 := by kernel_rfl
theorem count_zero1 : countV (zs 256) 1 = 0 := by kernel_rfl
theorem Holds.blank (n a : Nat) (h : a + 2 ≤ n) : Holds (Dsk.blank n) a 0 [] := by
  refine ⟨fun q => by omega, ?_, fun _ => ?_⟩
  · show countV ((Dsk.blank n).sec (a + 1)) 1 < 1
    rw [blank_sec _ _ (by omega), count_zero1]
    omega
  · rw [blank_sec _ _ (by omega), count_zero0]
theorem blank_rest (n : Nat) (h1 : 1 ≤ n) (h2 : n ≤ 65536) : Rest (Dsk.blank n) := ⟨blank_calm n, rfl, Dsk.blank_ok n h1 h2⟩
end Go.Proofs.YteklldbfdmaafaaDoor
/-
  Slots behind crashes, as plain data: a torn sector counts for the new version only if it is whole.
-/
namespace Go.Proofs.YteklldbfdmaafaaDoor
open Go Go.RowKit
/-- bytes back from the number that they tell -/
theorem getB_bytes (l : List UInt8) (n : Nat) (hn : n ≤ 8) : ∃ v : Nat, v < 2 ^ (8 * n) ∧ getB l n = (v : Int) ∧ ∀ i, i < n → l.getD i 0 = byteAt (v : Int) i := by
  induction n with
  | zero => exact ⟨0, by simp, rfl, fun i hi => by omega⟩
  | succ n ih =>
    obtain ⟨v, hv, hg, hb⟩ := ih (by omega)
    have hc := UInt8.toNat_lt (l.getD n 0)
    obtain ⟨c, hcc⟩ : ∃ c, c = (l.getD n 0).toNat := ⟨_, rfl⟩
    refine ⟨v + (l.getD n 0).toNat * 2 ^ (8 * n), ?_, ?_, fun i hi => ?_⟩
    · rw [← hcc]
      rw [← hcc] at hc
      rw [show 8 * (n + 1) = 8 * n + 8 by omega, Nat.pow_add]
      have h1 : v + c * 2 ^ (8 * n) < (1 + c) * 2 ^ (8 * n) := by rw [Nat.add_mul]; omega
      have h2 : (1 + c) * 2 ^ (8 * n) ≤ 256 * 2 ^ (8 * n) := Nat.mul_le_mul_right _ (by omega)
      rw [Nat.mul_comm _ (2 ^ 8)]
      omega
    · show getPart (getB l n) n (l.getD n 0) = _
      rw [hg, getPart_val _ _ _ (by omega) hv]
    · apply UInt8.toNat_inj.1
      rw [byteAt_val _ _ (by omega)]
      rcases Nat.lt_or_ge i n with h | h
      · have h0 := congrArg UInt8.toNat (hb i h)
        rw [byteAt_val _ _ (by omega)] at h0
        rw [h0, ← hcc]
        have e : c * 2 ^ (8 * n) = (c * 2 ^ (8 * (n - i - 1)) * 256) * 2 ^ (8 * i) := by
          rw [Nat.mul_assoc, Nat.mul_assoc]
          congr 1
          rw [← Nat.mul_assoc, show (256 : Nat) = 2 ^ 8 from rfl, ← Nat.pow_add, ← Nat.pow_add]
          congr 1
          omega
        rw [e, Nat.add_mul_div_right _ _ (Nat.two_pow_pos _), Nat.add_mul_mod_self_right]
      · have : i = n := by omega
        subst this
        rw [← hcc]
        rw [← hcc] at hc
        rw [Nat.add_mul_div_right _ _ (Nat.two_pow_pos _), Nat.div_eq_of_lt hv, Nat.zero_add, Nat.mod_eq_of_lt hc, hcc]
theorem ext_getD (a b : List UInt8) (h : a.length = b.length) (e : ∀ i, i < a.length → a.getD i 0 = b.getD i 0) : a = b := by
  apply List.ext_getElem h
  intro i h1 h2
  have := e i h1
  rw [List.getD, List.getElem?_eq_getElem h1, List.getD, List.getElem?_eq_getElem h2] at this
  simpa using this

/-- the first k bytes of the new one, the rest of the old one -/
def tornB (new old : List UInt8) (k : Nat) : List UInt8 := new.take k ++ old.drop k
theorem torn_length {new old : List UInt8} {k : Nat} (h1 : new.length = 256) (h2 : old.length = 256) (hk : k ≤ 256) : (tornB new old k).length = 256 := by
  simp [tornB]; omega
theorem torn_get {new old : List UInt8} {k : Nat} (h1 : new.length = 256) (hk : k ≤ 256) (i : Nat) : (tornB new old k).getD i 0 = if i < k then new.getD i 0 else old.getD i 0 := by
  unfold tornB
  simp only [List.getD]
  split
  · rw [List.getElem?_append_left (by simp; omega), List.getElem?_take_of_lt (by omega)]
  · rw [List.getElem?_append_right (by simp; omega), List.length_take, Nat.min_eq_left (by omega), List.getElem?_drop]
    congr 2
    omega
theorem torn_torn {new old : List UInt8} {k d : Nat} (h1 : new.length = 256) (h2 : old.length = 256) (hk : k ≤ 256) (hd : d ≤ 256) : new.take d ++ (tornB new old k).drop d = tornB new old (max k d) := by
  have hl := torn_length h1 h2 hk
  have e : new.take d ++ (tornB new old k).drop d = tornB new (tornB new old k) d := rfl
  have hm : max k d ≤ 256 := by omega
  rw [e]
  refine ext_getD _ _ (by rw [torn_length h1 hl hd, torn_length h1 h2 hm]) fun i _ => ?_
  rw [torn_get h1 hd, torn_get h1 hm, torn_get h1 hk]
  repeat' split
  all_goals first | rfl | omega
/-- an old sector of a version two below -/
structure Old (c : Nat) (old : List UInt8) : Prop where
  len : old.length = 256
  tail : ∀ i, i < 8 → old.getD (248 + i) 0 = byteAt ((c - 1 : Nat) : Int) i
/-- power on, nothing under way; it may be armed -/
structure Still (D : Dsk) : Prop where
  on : D.off = false
  und : D.und = []
  ok : D.ok
theorem Still.rest {D : Dsk} (h : Still D) : Rest ({ D with armed := -1 } : Dsk) := ⟨⟨h.on, rfl⟩, h.und, ⟨h.ok.n1, h.ok.n2, h.ok.len, h.ok.und, by simp, by simp⟩⟩
theorem arm_still {D : Dsk} (h : Still D) (k : Int) (hk : k ≤ 9223372036854775807) : Still (D.arm k) := ⟨h.on, h.und, Dsk.arm_ok h.ok k hk⟩
/-- a write to a disk at rest that may be armed: the three ways -/
theorem slot_three {D : Dsk} (h : Still D) (a v : Nat) (s : List UInt8) (ha : a + 2 ≤ D.n) (hv : 1 ≤ v) (hv2 : v ≤ 1099511627776) (hs : s.length ≤ 234) :
    (D.armed = 0 → slotWE D a v s = 12 ∧ slotWD D a v s = { D with off := true, und := [(a + v % 2, sealB v s)] }) ∧
    (D.armed = 1 → slotWE D a v s = 12 ∧ slotWD D a v s = { D with armed := 0, off := true, und := [(a + v % 2, sealB v s)], writes := w64 (D.writes + 1) }) ∧
    (D.armed ≠ 0 → D.armed ≠ 1 → slotWE D a v s = 0 ∧ ∃ r, slotWD D a v s = { D with armed := r, img := lay D.img ((a + v % 2) * 256) (sealB v s), writes := w64 (D.writes + 1), flushes := w64 (D.flushes + 1) }) := by
  have hroom : D.roomB (a : Int) = true := by unfold Dsk.roomB; exact decide_eq_true (by omega)
  have hmay : slotMay D (a : Int) (v : Int) = true := by
    unfold slotMay; rw [hroom, decide_eq_true (show (1 : Int) ≤ v by omega), decide_eq_true (show (v : Int) ≤ 1099511627776 by omega)]; rfl
  have hi : ((a : Int) + (v : Int) % 2) = ((a + v % 2 : Nat) : Int) := by omega
  have hlen := sealB_length (v : Int) s hs
  have hhas : D.has ((a + v % 2 : Nat) : Int) = true := by unfold Dsk.has; exact decide_eq_true (by omega)
  have ha1 := h.ok.arm1
  obtain ⟨n, img, und, off, armed, wr, fl, lf⟩ := D
  obtain rfl : off = false := h.on
  obtain rfl : und = [] := h.und
  have hb : ¬ (slotMay ({ n := n, img := img, und := [], off := false, armed := armed, writes := wr, flushes := fl, life := lf } : Dsk) (a : Int) (v : Int) = false) := by rw [hmay]; simp
  obtain ⟨q, hq⟩ : ∃ q, q = sealB (v : Int) s := ⟨_, rfl⟩
  have h234 : ¬ (234 < s.length) := by omega
  unfold slotWE slotWD slotW1
  rw [if_neg hb, if_neg h234, if_neg hb, if_neg h234, hi, ← hq]
  rw [← hq] at hlen
  obtain ⟨i, hii⟩ : ∃ i, i = a + v % 2 := ⟨_, rfl⟩
  rw [← hii] at hhas ⊢
  dsimp only at ha1
  refine ⟨fun h0 => ?_, fun h0 => ?_, fun h0 h1 => ?_⟩
  · dsimp only at h0
    subst h0
    simp [Dsk.writeE, Dsk.writeD, Dsk.dead, Dsk.gone, hhas, hlen]
  · dsimp only at h0
    subst h0
    simp [Dsk.writeE, Dsk.writeD, Dsk.flushE, Dsk.flushD, Dsk.dead, Dsk.gone, hhas, hlen]
  · dsimp only at h0 h1
    by_cases hp : 0 < armed
    · have h2 : 0 < armed - 1 := by omega
      have h3 : ¬ (armed - 1 = 0) := by omega
      have h4 : 1 < armed := by omega
      simp [h4, Dsk.writeE, Dsk.writeD, Dsk.flushE, Dsk.flushD, Dsk.dead, Dsk.gone, hhas, hlen, h0, hp, h3, layAll]
    · simp [Dsk.writeE, Dsk.writeD, Dsk.flushE, Dsk.flushD, Dsk.dead, Dsk.gone, hhas, hlen, h0, hp, layAll]

/-- a slot at place 1 of a disk of three sectors: version c with value l, and, if a next value is chosen, some of it -/
structure Kp (c : Nat) (l : List UInt8) (nx : Option (List UInt8)) (D : Dsk) : Prop where
  still : Still D
  n : D.n = 3
  len : l.length ≤ 234
  here : 0 < c → D.sec (1 + c % 2) = sealB c l
  none_ : c = 0 → D.sec 1 = zs 256
  other : ∃ old k s, Old c old ∧ k ≤ 256 ∧ s.length ≤ 234 ∧ D.sec (1 + (c + 1) % 2) = tornB (sealB (c + 1 : Nat) s) old k ∧ (∀ x, nx = some x → s = x) ∧ (nx = none → k = 0)
theorem zs_old : Old 0 (zs 256) := by
  refine ⟨zs_length _, fun i hi => ?_⟩
  have h1 : (zs 256).getD (248 + i) 0 = 0 := by
    rw [List.getD, zs, List.getElem?_replicate, if_pos (by omega)]; rfl
  rw [h1]
  apply UInt8.toNat_inj.1
  rw [byteAt_val _ _ hi]
  simp
theorem zs_old1 : Old 1 (zs 256) := ⟨zs_old.len, zs_old.tail⟩
theorem seal_old {c : Nat} {l : List UInt8} (hl : l.length ≤ 234) : Old (c + 1) (sealB c l) :=
  ⟨sealB_length _ _ hl, fun i hi => by rw [seal_tail c l hl _ (by omega) (by omega), Nat.add_sub_cancel_left, Nat.add_sub_cancel]⟩
theorem Kp.start : Kp 0 [] none (Dsk.blank 3) :=
  ⟨⟨rfl, rfl, Dsk.blank_ok 3 (by omega) (by omega)⟩, rfl, by simp, fun h => by omega, fun _ => blank_sec 3 1 (by omega), zs 256, 0, [], zs_old, by omega, by simp, by
    rw [blank_sec 3 _ (by omega)]; simp [tornB], fun x h => (by cases h), fun _ => rfl⟩
theorem Kp.choose {c : Nat} {l s : List UInt8} {D : Dsk} (h : Kp c l none D) (hs : s.length ≤ 234) : Kp c l (some s) D := by
  obtain ⟨old, k, s', ho, hk, hs', e, -, hz⟩ := h.other
  have hz := hz rfl
  subst hz
  exact ⟨h.still, h.n, h.len, h.here, h.none_, old, 0, s, ho, by omega, hs, by rw [e]; simp [tornB], fun x hx => (by cases hx; rfl), fun hx => by cases hx⟩
theorem Kp.arm {c : Nat} {l : List UInt8} {nx : Option (List UInt8)} {D : Dsk} (h : Kp c l nx D) (k : Int) (hk : k ≤ 9223372036854775807) : Kp c l nx (D.arm k) :=
  ⟨arm_still h.still k hk, h.n, h.len, h.here, h.none_, h.other⟩
/-- the new version is there -/
theorem Kp.newer {c : Nat} {l s : List UInt8} {nx : Option (List UInt8)} {D D' : Dsk} (h : Kp c l nx D) (hs : s.length ≤ 234) (hst : Still D') (hn : D'.n = 3) (h1 : D'.sec (1 + (c + 1) % 2) = sealB (c + 1 : Nat) s) (h2 : D'.sec (1 + c % 2) = D.sec (1 + c % 2)) : Kp (c + 1) s none D' := by
  refine ⟨hst, hn, hs, fun _ => h1, fun q => by omega, ?_⟩
  have e : (c + 1 + 1) % 2 = c % 2 := by omega
  rw [e, h2]
  by_cases hc : c = 0
  · subst hc
    exact ⟨zs 256, 0, [], zs_old1, by omega, by simp, by rw [show 1 + 0 % 2 = 1 from rfl, h.none_ rfl]; simp [tornB], fun x hx => (by cases hx), fun _ => rfl⟩
  · exact ⟨sealB c l, 0, [], seal_old h.len, by omega, by simp, by rw [h.here (by omega)]; simp [tornB], fun x hx => (by cases hx), fun _ => rfl⟩
theorem Kp.ok {c : Nat} {l s : List UInt8} {D : Dsk} (h : Kp c l (some s) D) (hc : c + 1 ≤ 1099511627776) (hs : s.length ≤ 234) (h0 : D.armed ≠ 0) (h1 : D.armed ≠ 1) :
    slotWE D (1 : Nat) (c + 1 : Nat) s = 0 ∧ Kp (c + 1) s none (slotWD D (1 : Nat) (c + 1 : Nat) s) := by
  have hn := h.n
  obtain ⟨e, r, hD⟩ := (slot_three h.still 1 (c + 1) s (by omega) (by omega) hc hs).2.2 h0 h1
  refine ⟨e, ?_⟩
  have hlen := sealB_length ((c + 1 : Nat) : Int) s hs
  have hl := h.still.ok.len
  have hok : (slotWD D (1 : Nat) (c + 1 : Nat) s).ok := by
    unfold slotWD slotW1
    split
    · exact h.still.ok
    split
    · exact h.still.ok
    split
    · exact Dsk.writeD_ok h.still.ok _ _
    · exact Dsk.flushD_ok (Dsk.writeD_ok h.still.ok _ _)
  refine h.newer hs ⟨by rw [hD]; exact h.still.on, by rw [hD]; exact h.still.und, hok⟩ (by rw [hD]; exact hn) ?_ ?_
  · unfold Dsk.sec
    rw [hD]
    have := cut_lay_same D.img (sealB ((c + 1 : Nat) : Int) s) ((1 + (c + 1) % 2) * 256) (by rw [hlen]; omega)
    rw [hlen] at this
    exact this
  · unfold Dsk.sec
    rw [hD]
    rcases Nat.lt_or_ge (1 + c % 2) (1 + (c + 1) % 2) with hlt | hge
    · exact cut_lay_before _ _ _ _ _ (by rw [hlen]; omega) (by omega)
    · exact cut_lay_behind _ _ _ _ _ (by rw [hlen]; omega) (by rw [hlen]; omega)
/-- a crash of a disk at rest -/
theorem Kp.crash {c : Nat} {l : List UInt8} {nx : Option (List UInt8)} {D : Dsk} (h : Kp c l nx D) (kept : List Bool) (torn bytes : Int) : Kp c l nx (D.crash kept torn bytes) := by
  have hi := crash_clean D h.still.und kept torn bytes
  have hsec : ∀ i, (D.crash kept torn bytes).sec i = D.sec i := fun i => by unfold Dsk.sec; rw [hi]
  exact ⟨⟨rfl, rfl, Dsk.crash_ok h.still.ok _ _ _⟩, h.n, h.len, fun q => by rw [hsec]; exact h.here q, fun q => by rw [hsec]; exact h.none_ q, by obtain ⟨o, k, s, a1, a2, a3, a4, a5⟩ := h.other; exact ⟨o, k, s, a1, a2, a3, by rw [hsec]; exact a4, a5⟩⟩
/-- the power goes in a write -/
theorem Kp.dead {c : Nat} {l s : List UInt8} {D : Dsk} (h : Kp c l (some s) D) (hc : c + 1 ≤ 1099511627776) (hs : s.length ≤ 234) (h0 : D.armed = 0 ∨ D.armed = 1) :
    slotWE D (1 : Nat) (c + 1 : Nat) s = 12 ∧ (slotWD D (1 : Nat) (c + 1 : Nat) s).und.length = 1 ∧ (slotWD D (1 : Nat) (c + 1 : Nat) s).n = 3 ∧ ∀ kept torn bytes, Kp c l (some s) ((slotWD D (1 : Nat) (c + 1 : Nat) s).crash kept torn bytes) := by
  have hn := h.n
  have h3 := slot_three h.still 1 (c + 1) s (by omega) (by omega) hc hs
  have hok : (slotWD D (1 : Nat) (c + 1 : Nat) s).ok := by
    unfold slotWD slotW1
    split
    · exact h.still.ok
    split
    · exact h.still.ok
    split
    · exact Dsk.writeD_ok h.still.ok _ _
    · exact Dsk.flushD_ok (Dsk.writeD_ok h.still.ok _ _)
  obtain ⟨e, hu, him, hN⟩ : slotWE D (1 : Nat) (c + 1 : Nat) s = 12 ∧ (slotWD D (1 : Nat) (c + 1 : Nat) s).und = [(1 + (c + 1) % 2, sealB (c + 1 : Nat) s)] ∧ (slotWD D (1 : Nat) (c + 1 : Nat) s).img = D.img ∧ (slotWD D (1 : Nat) (c + 1 : Nat) s).n = D.n := by
    rcases h0 with h0 | h0
    · obtain ⟨e, hD⟩ := h3.1 h0
      exact ⟨e, by rw [hD], by rw [hD], by rw [hD]⟩
    · obtain ⟨e, hD⟩ := h3.2.1 h0
      exact ⟨e, by rw [hD], by rw [hD], by rw [hD]⟩
  refine ⟨e, by rw [hu]; rfl, by rw [hN, hn], fun kept torn bytes => ?_⟩
  have hlen := sealB_length ((c + 1 : Nat) : Int) s hs
  have hl := h.still.ok.len
  have hd : done kept torn bytes 0 ≤ 256 := by
    unfold done
    split
    · omega
    · split <;> omega
  obtain ⟨d, hdd⟩ : ∃ d, d = done kept torn bytes 0 := ⟨_, rfl⟩
  rw [← hdd] at hd
  have hci : ((slotWD D (1 : Nat) (c + 1 : Nat) s).crash kept torn bytes).img = lay D.img ((1 + (c + 1) % 2) * 256) ((sealB (c + 1 : Nat) s).take d) := by
    show layDone _ _ _ _ _ = _
    rw [hu, him, hdd]
    simp [layDone]
  have htl : ((sealB ((c + 1 : Nat) : Int) s).take d).length = d := by rw [List.length_take]; omega
  have hN' : ((slotWD D (1 : Nat) (c + 1 : Nat) s).crash kept torn bytes).n = 3 := by show (slotWD D (1 : Nat) (c + 1 : Nat) s).n = 3; rw [hN, hn]
  have hfar : ((slotWD D (1 : Nat) (c + 1 : Nat) s).crash kept torn bytes).sec (1 + c % 2) = D.sec (1 + c % 2) := by
    unfold Dsk.sec
    rw [hci]
    rcases Nat.lt_or_ge (1 + c % 2) (1 + (c + 1) % 2) with hlt | hge
    · exact cut_lay_before _ _ _ _ _ (by rw [htl]; omega) (by omega)
    · exact cut_lay_behind _ _ _ _ _ (by rw [htl]; omega) (by rw [htl]; omega)
  have hnear : ((slotWD D (1 : Nat) (c + 1 : Nat) s).crash kept torn bytes).sec (1 + (c + 1) % 2) = (sealB (c + 1 : Nat) s).take d ++ (D.sec (1 + (c + 1) % 2)).drop d := by
    unfold Dsk.sec
    rw [hci]
    have hb : (1 + (c + 1) % 2) * 256 + 256 ≤ D.img.length := by omega
    obtain ⟨o, hoo⟩ : ∃ o, o = (1 + (c + 1) % 2) * 256 := ⟨_, rfl⟩
    rw [← hoo] at hb ⊢
    unfold cut lay
    rw [List.drop_left' (by simp; omega), htl, List.take_append, htl, List.take_of_length_le (by omega), List.drop_take, List.drop_drop]
  obtain ⟨old, k, s', ho, hk, hs', eo, hx, -⟩ := h.other
  have hx := hx s rfl
  subst hx
  rw [eo, torn_torn hlen ho.len hk hd] at hnear
  exact ⟨⟨rfl, rfl, Dsk.crash_ok hok _ _ _⟩, hN', h.len, fun q => by rw [hfar]; exact h.here q, fun q => by
    have := h.none_ q
    subst q
    rw [← this]; exact hfar, old, max k d, s', ho, by omega, hs', hnear, fun x hx => (by cases hx; rfl), fun hx => by cases hx⟩
end Go.Proofs.YteklldbfdmaafaaDoor
/-
  The package area, as plain data: there and back; a write that the power cuts off.
-/
namespace Go.Proofs.YteklldbfdmaafaaDoor
open Go Go.RowKit
theorem layAll_cons (img : List UInt8) (x : Nat × List UInt8) (u : List (Nat × List UInt8)) : layAll img (x :: u) = layAll (lay img (x.1 * 256) x.2) u := rfl
set_option maxRecDepth 10000 in
theorem layAll_off (n j : Nat) : ∀ (u : List (Nat × List UInt8)) (img : List UInt8), img.length = 256 * n → (∀ x ∈ u, x.1 ≠ j ∧ x.1 < n ∧ x.2.length ≤ 256) → cut (layAll img u) (j * 256) 256 = cut img (j * 256) 256 := by
  intro u
  induction u with
  | nil => intro img _ _; rfl
  | cons x u ih =>
    intro img hl h
    obtain ⟨h1, h2, h3⟩ := h x (by simp)
    have hb : x.1 * 256 + x.2.length ≤ img.length := by omega
    rw [layAll_cons, ih _ (by rw [lay_length _ _ _ hb]; exact hl) (fun y hy => h y (by simp [hy]))]
    clear ih h
    rcases Nat.lt_or_ge j x.1 with hlt | hge
    · have hh : j * 256 + 256 ≤ x.1 * 256 := by omega
      exact cut_lay_before _ _ _ _ _ hb hh
    · have hh : x.1 * 256 + x.2.length ≤ j * 256 := by omega
      exact cut_lay_behind _ _ _ _ _ hb hh
theorem cut_lay_torn (img s : List UInt8) (o d : Nat) (hs : s.length = 256) (hd : d ≤ 256) (h : o + 256 ≤ img.length) : cut (lay img o (s.take d)) o 256 = tornB s (cut img o 256) d := by
  have htl : (s.take d).length = d := by rw [List.length_take]; omega
  unfold cut lay tornB
  rw [List.drop_left' (by simp; omega), htl, List.take_append, htl, List.take_of_length_le (by omega), List.drop_take, List.drop_drop]

/-- so many sectors -/
def nsec (l : Nat) : Nat := (l + 233) / 234
/-- the sealed pieces of a value, from sector a on -/
def pcs (stamp : Int) : Nat → Nat → List UInt8 → List (Nat × List UInt8)
  | 0, _, _ => []
  | f + 1, a, v => if v = [] then [] else (a, sealB stamp (v.take 234)) :: pcs stamp f (a + 1) (v.drop 234)
theorem pcs_nil (stamp : Int) (f a : Nat) : pcs stamp f a [] = [] := by cases f <;> simp [pcs]
theorem pcs_cons (stamp : Int) (f a : Nat) (v : List UInt8) (h : v ≠ []) : pcs stamp (f + 1) a v = (a, sealB stamp (v.take 234)) :: pcs stamp f (a + 1) (v.drop 234) := by
  show (if v = [] then _ else _) = _
  rw [if_neg h]
theorem pcs_in (stamp : Int) : ∀ (f a : Nat) (v : List UInt8), ∀ x ∈ pcs stamp f a v, a ≤ x.1 ∧ x.1 < a + nsec v.length ∧ x.2.length = 256 := by
  intro f
  induction f with
  | zero => intro a v x hx; cases hx
  | succ f ih =>
    intro a v x hx
    by_cases hv : v = []
    · rw [hv, pcs_nil] at hx; cases hx
    · rw [pcs_cons _ _ _ _ hv] at hx
      have hp := List.length_pos_iff.2 hv
      rcases List.mem_cons.1 hx with rfl | hx
      · exact ⟨Nat.le_refl _, by unfold nsec; dsimp only; omega, sealB_length _ _ (by rw [List.length_take]; omega)⟩
      · obtain ⟨h1, h2, h3⟩ := ih (a + 1) (v.drop 234) x hx
        rw [List.length_drop] at h2
        unfold nsec at h2 ⊢
        exact ⟨by omega, by omega, h3⟩
/-- cut off pieces -/
def cutP (dn : Nat → Nat) (u : List (Nat × List UInt8)) (s : Nat) : List (Nat × List UInt8) := (u.zipIdx s).map fun x => (x.1.1, x.1.2.take (dn x.2))
theorem cutP_cons (dn : Nat → Nat) (x : Nat × List UInt8) (u : List (Nat × List UInt8)) (s : Nat) : cutP dn (x :: u) s = (x.1, x.2.take (dn s)) :: cutP dn u (s + 1) := rfl
theorem cutP_in (dn : Nat → Nat) : ∀ (u : List (Nat × List UInt8)) (s : Nat), ∀ x ∈ cutP dn u s, ∃ y ∈ u, x.1 = y.1 ∧ x.2.length ≤ y.2.length := by
  intro u
  induction u with
  | nil => intro s x hx; cases hx
  | cons y u ih =>
    intro s x hx
    rw [cutP_cons] at hx
    rcases List.mem_cons.1 hx with rfl | hx
    · exact ⟨y, by simp, rfl, by dsimp only; rw [List.length_take]; omega⟩
    · obtain ⟨z, hz, h⟩ := ih (s + 1) x hx
      exact ⟨z, by simp [hz], h⟩
theorem cutP_full (dn : Nat → Nat) (hd : ∀ k, dn k = 256) : ∀ (u : List (Nat × List UInt8)) (s : Nat), (∀ x ∈ u, x.2.length = 256) → cutP dn u s = u := by
  intro u
  induction u with
  | nil => intro s _; rfl
  | cons y u ih =>
    intro s h
    rw [cutP_cons, ih (s + 1) (fun x hx => h x (by simp [hx])), hd, List.take_of_length_le (by have := h y (by simp); omega)]
theorem layDone_eq (img : List UInt8) (kept : List Bool) (torn bytes : Int) (u : List (Nat × List UInt8)) : layDone img kept torn bytes u = layAll img (cutP (done kept torn bytes) u 0) := by
  unfold layDone layAll cutP
  rw [List.foldl_map]
theorem doneK_le (kept : List Bool) (torn bytes : Int) (k : Nat) : done kept torn bytes k ≤ 256 := by
  unfold done
  split
  · omega
  · split <;> omega
/-- each sector of a value that was cut off: some of the new bytes, then the old ones -/
theorem torn_pcs (stamp : Int) (n : Nat) (dn : Nat → Nat) (hd : ∀ k, dn k ≤ 256) : ∀ (f a m s : Nat) (v img : List UInt8), img.length = 256 * n → a + nsec v.length ≤ n →
    ∀ k, 234 * k < v.length → ∃ d, d ≤ 256 ∧ cut (layAll img (cutP dn ((pcs stamp f a v).take m) s)) ((a + k) * 256) 256 = tornB (sealB stamp ((v.drop (234 * k)).take 234)) (cut img ((a + k) * 256) 256) d ∧ ((∀ k, dn k = 256) → v.length ≤ 234 * f → (pcs stamp f a v).length ≤ m → d = 256) := by
  intro f
  induction f with
  | zero => intro a m s v img hl hn k hk; exact ⟨0, by omega, by simp [pcs, cutP, tornB, layAll], fun _ h => by omega⟩
  | succ f ih =>
    intro a m s v img hl hn k hk
    have hv : v ≠ [] := by rintro rfl; simp at hk
    have hp := List.length_pos_iff.2 hv
    cases m with
    | zero => exact ⟨0, by omega, by simp [cutP, tornB, layAll], fun _ _ h => by rw [pcs_cons _ _ _ _ hv] at h; simp at h⟩
    | succ m =>
      have hs : (v.take 234).length ≤ 234 := by rw [List.length_take]; omega
      have hS := sealB_length stamp _ hs
      have hn' : a + 1 ≤ n ∧ a + 1 + nsec (v.drop 234).length ≤ n := by
        rw [List.length_drop]
        unfold nsec at hn ⊢
        omega
      rw [pcs_cons _ _ _ _ hv, List.take_succ_cons, cutP_cons, layAll_cons]
      dsimp only
      have htl : ((sealB stamp (v.take 234)).take (dn s)).length = dn s := by rw [List.length_take]; have := hd s; omega
      have hb : a * 256 + ((sealB stamp (v.take 234)).take (dn s)).length ≤ img.length := by rw [htl]; have := hd s; omega
      cases k with
      | zero =>
        refine ⟨dn s, hd s, ?_, fun h _ _ => h s⟩
        show cut _ (a * 256) 256 = tornB (sealB stamp (v.take 234)) (cut img (a * 256) 256) (dn s)
        rw [layAll_off n a _ _ (by rw [lay_length _ _ _ hb]; exact hl) (fun x hx => ?_)]
        · exact cut_lay_torn _ _ _ _ hS (hd s) (by omega)
        · obtain ⟨y, hy, e1, e2⟩ := cutP_in _ _ _ _ hx
          obtain ⟨h1, h2, h3⟩ := pcs_in _ _ _ _ y (List.mem_of_mem_take hy)
          exact ⟨by omega, by omega, by omega⟩
      | succ k =>
        obtain ⟨d, h1, h2, h3⟩ := ih (a + 1) m (s + 1) (v.drop 234) (lay img (a * 256) ((sealB stamp (v.take 234)).take (dn s))) (by rw [lay_length _ _ _ hb]; exact hl) hn'.2 k (by rw [List.length_drop]; omega)
        refine ⟨d, h1, ?_, fun q1 q2 q3 => h3 q1 (by rw [List.length_drop]; omega) (by simpa using q3)⟩
        have e1 : (a + 1 + k) * 256 = (a + (k + 1)) * 256 := by omega
        rw [e1, List.drop_drop, show 234 + 234 * k = 234 * (k + 1) by omega, cut_lay_behind _ _ _ _ _ hb (by have := hd s; omega)] at h2
        exact h2
theorem torn_full (new old : List UInt8) (h : new.length = 256) (h2 : old.length = 256) : tornB new old 256 = new := by
  unfold tornB
  rw [List.take_of_length_le (by omega), List.drop_of_length_le (by omega), List.append_nil]

theorem write_ways {D : Dsk} (h : D.off = false) (i : Nat) (hi : i < D.n) (s : List UInt8) (hs : s.length = 256) :
    ((D.writeE i s = 0 ∧ (D.writeD i s).off = false) ∨ D.writeE i s = 12) ∧ (D.writeD i s).und = D.und ++ [(i, s)] ∧ (D.writeD i s).img = D.img ∧ (D.writeD i s).n = D.n ∧ (D.armed = -1 → D.writeE i s = 0 ∧ (D.writeD i s).armed = -1) := by
  have hhas : D.has (i : Int) = true := by unfold Dsk.has; exact decide_eq_true (by omega)
  obtain ⟨n, img, und, off, armed, wr, fl, lf⟩ := D
  obtain rfl : off = false := h
  by_cases h0 : armed = 0
  · subst h0
    simp [Dsk.writeE, Dsk.writeD, Dsk.dead, Dsk.gone, hhas, hs]
  · by_cases hp : 0 < armed
    · simp [Dsk.writeE, Dsk.writeD, Dsk.dead, Dsk.gone, hhas, hs, h0, hp]
      omega
    · simp [Dsk.writeE, Dsk.writeD, Dsk.dead, Dsk.gone, hhas, hs, h0, hp]
theorem flush_ways {D : Dsk} (h : D.off = false) :
    ((D.flushE = 0 ∧ D.flushD.off = false ∧ D.flushD.und = [] ∧ D.flushD.img = layAll D.img D.und) ∨ (D.flushE = 12 ∧ D.flushD.und = D.und ∧ D.flushD.img = D.img)) ∧ D.flushD.n = D.n ∧ (D.armed = -1 → D.flushE = 0 ∧ D.flushD.armed = -1) := by
  obtain ⟨n, img, und, off, armed, wr, fl, lf⟩ := D
  obtain rfl : off = false := h
  by_cases h0 : armed = 0
  · subst h0
    simp [Dsk.flushE, Dsk.flushD, Dsk.dead, Dsk.gone]
  · by_cases hp : 0 < armed
    · simp [Dsk.flushE, Dsk.flushD, Dsk.dead, Dsk.gone, h0, hp]
      omega
    · simp [Dsk.flushE, Dsk.flushD, Dsk.dead, Dsk.gone, h0, hp]
/-- all of it, or the power goes at a write or at the flush -/
theorem aw_ways (stamp : Int) (at_ : Nat) : ∀ (f : Nat) (D : Dsk) (i : Nat) (v : List UInt8), D.off = false → D.ok → v.length ≤ 234 * f → at_ + i + nsec v.length ≤ D.n →
    (((awGo at_ stamp f D i v).1 = 0 ∧ (awGo at_ stamp f D i v).2.off = false ∧ (awGo at_ stamp f D i v).2.und = [] ∧ (awGo at_ stamp f D i v).2.img = layAll D.img (D.und ++ pcs stamp f (at_ + i) v)) ∨
      ((awGo at_ stamp f D i v).1 = 12 ∧ (awGo at_ stamp f D i v).2.img = D.img ∧ ∃ m, (awGo at_ stamp f D i v).2.und = D.und ++ (pcs stamp f (at_ + i) v).take m)) ∧
    (awGo at_ stamp f D i v).2.n = D.n ∧ (awGo at_ stamp f D i v).2.ok ∧ (D.armed = -1 → (awGo at_ stamp f D i v).1 = 0 ∧ (awGo at_ stamp f D i v).2.armed = -1) := by
  have hnil : ∀ (f : Nat) (D : Dsk) (i : Nat), D.off = false → D.ok → (((awGo at_ stamp f D i []).1 = 0 ∧ (awGo at_ stamp f D i []).2.off = false ∧ (awGo at_ stamp f D i []).2.und = [] ∧ (awGo at_ stamp f D i []).2.img = layAll D.img (D.und ++ pcs stamp f (at_ + i) [])) ∨
      ((awGo at_ stamp f D i []).1 = 12 ∧ (awGo at_ stamp f D i []).2.img = D.img ∧ ∃ m, (awGo at_ stamp f D i []).2.und = D.und ++ (pcs stamp f (at_ + i) []).take m)) ∧
    (awGo at_ stamp f D i []).2.n = D.n ∧ (awGo at_ stamp f D i []).2.ok ∧ (D.armed = -1 → (awGo at_ stamp f D i []).1 = 0 ∧ (awGo at_ stamp f D i []).2.armed = -1) := by
    intro f D i ho hk
    rw [awGo_nil, pcs_nil]
    obtain ⟨h1, h2, h3⟩ := flush_ways ho
    refine ⟨?_, h2, Dsk.flushD_ok hk, h3⟩
    rcases h1 with ⟨a, b, c, d⟩ | ⟨a, b, c⟩
    · exact .inl ⟨a, b, c, by rw [List.append_nil]; exact d⟩
    · exact .inr ⟨a, c, 0, by simpa using b⟩
  intro f
  induction f with
  | zero =>
    intro D i v ho hk hv hn
    have : v = [] := List.length_eq_zero_iff.1 (by omega)
    subst this
    exact hnil 0 D i ho hk
  | succ f ih =>
    intro D i v ho hk hv hn
    by_cases h0 : v = []
    · subst h0; exact hnil (f + 1) D i ho hk
    have hp := List.length_pos_iff.2 h0
    have hn' : at_ + i < D.n ∧ at_ + (i + 1) + nsec (v.drop 234).length ≤ D.n := by
      rw [List.length_drop]
      unfold nsec at hn ⊢
      omega
    have hS := sealB_length stamp (v.take 234) (by rw [List.length_take]; omega)
    obtain ⟨w1, w2, w3, w4, w5⟩ := write_ways ho (at_ + i) hn'.1 _ hS
    have hok := Dsk.writeD_ok hk ((at_ + i : Nat) : Int) (sealB stamp (v.take 234))
    have hu : awGo at_ stamp (f + 1) D i v = if D.writeE ((at_ + i : Nat) : Int) (sealB stamp (v.take 234)) ≠ 0 then (D.writeE ((at_ + i : Nat) : Int) (sealB stamp (v.take 234)), D.writeD ((at_ + i : Nat) : Int) (sealB stamp (v.take 234)))
      else awGo at_ stamp f (D.writeD ((at_ + i : Nat) : Int) (sealB stamp (v.take 234))) ((i + 1 : Nat) : Int) (v.drop 234) := by
      show (if v = [] then _ else _) = _
      rw [if_neg h0]
      rfl
    rw [hu, pcs_cons _ _ _ _ h0]
    clear hu
    rcases w1 with ⟨a, b⟩ | a
    · rw [if_neg (by rw [a]; simp)]
      obtain ⟨r1, r2, r3, r4⟩ := ih (D.writeD ((at_ + i : Nat) : Int) (sealB stamp (v.take 234))) (i + 1) (v.drop 234) b hok (by rw [List.length_drop]; omega) (by rw [w4]; exact hn'.2)
      refine ⟨?_, by rw [r2, w4], r3, fun q => r4 (w5 q).2⟩
      rcases r1 with ⟨c1, c2, c3, c4⟩ | ⟨c1, c2, m, c3⟩
      · refine .inl ⟨c1, c2, c3, ?_⟩
        rw [c4, w3, w2, List.append_assoc]
        rfl
      · refine .inr ⟨c1, by rw [c2, w3], m + 1, ?_⟩
        rw [c3, w2, List.append_assoc]
        rfl
    · rw [if_pos (by rw [a]; simp)]
      exact ⟨.inr ⟨a, w3, 1, by rw [w2]; rfl⟩, w4, hok, fun q => by rw [(w5 q).1] at a; cases a⟩

/-- every sector is there, whole: the value -/
theorem ar_back {D : Dsk} (hoff : D.off = false) (hund : D.und = []) (at_ stamp : Nat) (h0 : stamp ≠ 0) : ∀ (f i : Nat) (v acc : List UInt8) (bytes : Int), f = nsec v.length → at_ + i + f ≤ D.n → (0 < v.length → bytes = 234 * (i : Int) + v.length) →
    (∀ k, 234 * k < v.length → D.sec (at_ + i + k) = sealB stamp ((v.drop (234 * k)).take 234)) → arGo D at_ stamp bytes f i acc = (acc ++ v, 0) := by
  intro f
  induction f with
  | zero =>
    intro i v acc bytes hf hn hb hs
    have : v = [] := List.length_eq_zero_iff.1 (by unfold nsec at hf; omega)
    subst this
    simp [arGo]
  | succ f ih =>
    intro i v acc bytes hf hn hb hs
    have hp : 0 < v.length := by unfold nsec at hf; omega
    have hb := hb hp
    have hi : D.has ((at_ + i : Nat) : Int) = true := by unfold Dsk.has; exact decide_eq_true (by omega)
    have hE : D.readE ((at_ : Int) + i) = 0 := by
      show D.readE ((at_ + i : Nat) : Int) = 0
      unfold Dsk.readE
      rw [hoff, hi]
      rfl
    have hS : D.readS ((at_ : Int) + i) = D.sec (at_ + i) := by
      show D.readS ((at_ + i : Nat) : Int) = D.sec (at_ + i)
      unfold Dsk.readS Dsk.rd
      rw [hoff, hi, hund]
      rfl
    have h1 := hs 0 (by omega)
    rw [Nat.add_zero, Nat.mul_zero, List.drop_zero] at h1
    have hl : (v.take 234).length ≤ 234 := by rw [List.length_take]; omega
    have ho := seal_open stamp (v.take 234) hl h0
    unfold arGo
    rw [hE, hS, h1, ho, if_neg (by simp)]
    dsimp only
    rw [if_neg (by rw [List.length_take]; omega), ih (i + 1) (v.drop 234) (acc ++ v.take 234) bytes (by rw [List.length_drop]; unfold nsec at hf ⊢; omega) (by omega) (fun q => by rw [List.length_drop] at q ⊢; omega) (fun k hk => ?_), List.append_assoc, List.take_append_drop]
    have h2 := hs (k + 1) (by rw [List.length_drop] at hk; omega)
    rw [List.drop_drop, show 234 + 234 * k = 234 * (k + 1) by omega, ← h2]
    congr 1
    omega
/-- every sector is there, whole, or does not open: the value, or ErrCorrupt -/
theorem ar_mix {D : Dsk} (hoff : D.off = false) (hund : D.und = []) (at_ stamp : Nat) (h0 : stamp ≠ 0) : ∀ (f i : Nat) (v acc : List UInt8) (bytes : Int), f = nsec v.length → at_ + i + f ≤ D.n → (0 < v.length → bytes = 234 * (i : Int) + v.length) →
    (∀ k, 234 * k < v.length → D.sec (at_ + i + k) = sealB stamp ((v.drop (234 * k)).take 234) ∨ openS stamp (D.sec (at_ + i + k)) = none) → arGo D at_ stamp bytes f i acc = (acc ++ v, 0) ∨ arGo D at_ stamp bytes f i acc = ([], 15) := by
  intro f
  induction f with
  | zero =>
    intro i v acc bytes hf hn hb hs
    have : v = [] := List.length_eq_zero_iff.1 (by unfold nsec at hf; omega)
    subst this
    simp [arGo]
  | succ f ih =>
    intro i v acc bytes hf hn hb hs
    have hp : 0 < v.length := by unfold nsec at hf; omega
    have hb := hb hp
    have hi : D.has ((at_ + i : Nat) : Int) = true := by unfold Dsk.has; exact decide_eq_true (by omega)
    have hE : D.readE ((at_ : Int) + i) = 0 := by
      show D.readE ((at_ + i : Nat) : Int) = 0
      unfold Dsk.readE
      rw [hoff, hi]
      rfl
    have hS : D.readS ((at_ : Int) + i) = D.sec (at_ + i) := by
      show D.readS ((at_ + i : Nat) : Int) = D.sec (at_ + i)
      unfold Dsk.readS Dsk.rd
      rw [hoff, hi, hund]
      rfl
    have h1 := hs 0 (by omega)
    rw [Nat.add_zero, Nat.mul_zero, List.drop_zero] at h1
    have hl : (v.take 234).length ≤ 234 := by rw [List.length_take]; omega
    have ho := seal_open stamp (v.take 234) hl h0
    unfold arGo
    rw [hE, hS, if_neg (by simp)]
    rcases h1 with h1 | h1
    · rw [h1, ho]
      dsimp only
      rw [if_neg (by rw [List.length_take]; omega)]
      have := ih (i + 1) (v.drop 234) (acc ++ v.take 234) bytes (by rw [List.length_drop]; unfold nsec at hf ⊢; omega) (by omega) (fun q => by rw [List.length_drop] at q ⊢; omega) (fun k hk => ?_)
      · rwa [List.append_assoc, List.take_append_drop] at this
      have h2 := hs (k + 1) (by rw [List.length_drop] at hk; omega)
      rw [List.drop_drop, show 234 + 234 * k = 234 * (k + 1) by omega, show at_ + (i + 1) + k = at_ + i + (k + 1) by omega]
      exact h2
    · rw [h1]; exact .inr rfl
end Go.Proofs.YteklldbfdmaafaaDoor
/-
  The package area behind crashes, as plain data: a torn sector opens under the newest stamp only if it is whole.
-/
namespace Go.Proofs.YteklldbfdmaafaaDoor
open Go Go.RowKit
/-- the low bytes of a greater number before the high bytes of a smaller one -/
theorem mix_tail (s v j : Nat) (hv : v < s) : ∃ w, w ≤ s ∧ ∀ i, i < 8 → byteAt (w : Int) i = if i < j then byteAt (s : Int) i else byteAt (v : Int) i := by
  obtain ⟨B, hB⟩ : ∃ B, B = 2 ^ (8 * j) := ⟨_, rfl⟩
  have hBp : 0 < B := by rw [hB]; exact Nat.two_pow_pos _
  have hr : s % B < B := Nat.mod_lt _ hBp
  refine ⟨B * (v / B) + s % B, ?_, fun i hi => ?_⟩
  · have h1 := Nat.div_le_div_right (c := B) (Nat.le_of_lt hv)
    have h2 := Nat.div_add_mod s B
    have h3 := Nat.mul_le_mul_left B h1
    omega
  · apply UInt8.toNat_inj.1
    split
    · rename_i hlt
      obtain ⟨e, he⟩ : ∃ e, j = i + 1 + e := ⟨j - i - 1, by omega⟩
      rw [byteAt_val _ _ hi, byteAt_val _ _ hi]
      obtain ⟨A, hA⟩ : ∃ A, A = 2 ^ (8 * i) := ⟨_, rfl⟩
      obtain ⟨C, hC⟩ : ∃ C, C = 2 ^ (8 * e) := ⟨_, rfl⟩
      have hAp : 0 < A := by rw [hA]; exact Nat.two_pow_pos _
      have hB2 : B = A * (256 * C) := by
        rw [hB, hA, hC, he, show 8 * (i + 1 + e) = 8 * i + (8 + 8 * e) by omega, Nat.pow_add, Nat.pow_add]
      have k : ∀ q r, (B * q + r) / A % 256 = r / A % 256 := by
        intro q r
        rw [hB2, Nat.mul_assoc, Nat.mul_add_div hAp, Nat.mul_assoc, Nat.mul_add_mod]
      rw [← hA, k]
      have := k (s / B) (s % B)
      rw [Nat.div_add_mod] at this
      exact this.symm
    · obtain ⟨e, he⟩ : ∃ e, i = j + e := ⟨i - j, by omega⟩
      rw [byteAt_val _ _ hi, byteAt_val _ _ hi]
      have e2 : 2 ^ (8 * i) = B * 2 ^ (8 * e) := by rw [hB, he, Nat.mul_add, Nat.pow_add]
      rw [e2, ← Nat.div_div_eq_div_mul, ← Nat.div_div_eq_div_mul, Nat.mul_add_div hBp, Nat.div_eq_of_lt hr, Nat.add_zero]
theorem torn_tail {s t d : Nat} {p old : List UInt8} (hs : s < 2 ^ 64) (ht : t < s) (hp : p.length ≤ 234) (ho : old.length = 256) (hd : d ≤ 256) (htail : getB (old.drop 248) 8 ≤ (t : Int)) :
    getB ((tornB (sealB s p) old d).drop 248) 8 ≤ (s : Int) ∧ (tornB (sealB s p) old d = sealB s p ∨ openS s (tornB (sealB s p) old d) = none) := by
  have hl := sealB_length (s : Int) p hp
  have hl2 := torn_length hl ho hd
  obtain ⟨v, hv, hg, hb⟩ := getB_bytes (old.drop 248) 8 (by omega)
  rw [hg] at htail
  obtain ⟨w, hw, hwb⟩ := mix_tail s v (d - 248) (by omega)
  have hT : ∀ i, i < 8 → ((tornB (sealB s p) old d).drop 248).getD i 0 = byteAt (w : Int) i := by
    intro i hi
    rw [getD_drop, torn_get hl hd, hwb i hi]
    by_cases h : 248 + i < d
    · rw [if_pos h, if_pos (by omega), seal_tail s p hp _ (by omega) (by omega), Nat.add_sub_cancel_left]
    · rw [if_neg h, if_neg (by omega), ← hb i hi, getD_drop]
  have hG : getB ((tornB (sealB s p) old d).drop 248) 8 = (w : Int) := by
    rw [getB_of _ w 8 (by omega) hT, Nat.mod_eq_of_lt (by omega)]
  refine ⟨by omega, ?_⟩
  by_cases hws : w = s
  · left
    subst hws
    have hdd : 248 < d := by
      rcases Nat.lt_or_ge 248 d with h | h
      · exact h
      · exfalso
        have h1 := getB_of (old.drop 248) w 8 (by omega) (fun i hi => by rw [hb i hi, hwb i hi, if_neg (by omega)])
        rw [hg, Nat.mod_eq_of_lt (by omega)] at h1
        omega
    refine ext_getD _ _ (by rw [hl, hl2]) fun i hi => ?_
    rw [hl2] at hi
    by_cases h : i < d
    · rw [torn_get hl hd, if_pos h]
    · have h1 := hT (i - 248) (by omega)
      rw [getD_drop, show 248 + (i - 248) = i by omega] at h1
      rw [h1, seal_tail w p hp i (by omega) hi]
  · right
    unfold openS
    split
    · rfl
    split
    · rfl
    split
    · rfl
    split
    · rename_i h234 heq
      exfalso
      have hpl : (openP (tornB (sealB s p) old d)).length ≤ 234 := by
        unfold openP
        rw [List.length_drop, List.length_take]
        omega
      have h1 := seal_getT s (openP (tornB (sealB s p) old d)) hpl hs
      rw [heq, hG] at h1
      omega
    · rfl
theorem pcs_length (stamp : Int) : ∀ (f a : Nat) (v : List UInt8), (pcs stamp f a v).length ≤ nsec v.length := by
  intro f
  induction f with
  | zero => intro a v; simp [pcs]
  | succ f ih =>
    intro a v
    by_cases hv : v = []
    · rw [hv, pcs_nil]; simp
    · rw [pcs_cons _ _ _ _ hv, List.length_cons]
      have h := ih (a + 1) (v.drop 234)
      have hp := List.length_pos_iff.2 hv
      rw [List.length_drop] at h
      unfold nsec at h ⊢
      omega

/-- eight sectors at rest whose tails tell no stamp above c -/
structure Ar9 (c : Nat) (D : Dsk) : Prop where
  off : D.off = false
  und : D.und = []
  ok : D.ok
  n : D.n = 8
  tails : ∀ j, j < 8 → getB ((D.sec j).drop 248) 8 ≤ (c : Int)
theorem zs_tail0 : getB ((zs 256).drop 248) 8 = 0 := by kernel_rfl
theorem Ar9.start : Ar9 0 (Dsk.blank 8) := ⟨rfl, rfl, Dsk.blank_ok 8 (by omega) (by omega), rfl, fun j hj => by rw [blank_sec 8 j hj, zs_tail0]; omega⟩
theorem Ar9.step {c : Nat} {D : Dsk} (h : Ar9 c D) (hc : c + 1 < 2 ^ 64) (k : Int) (hk : k ≤ 9223372036854775807) (v : List UInt8) (hv : v.length ≤ 1404) (kept : List Bool) (torn bytes : Int) :
    ((areaW (D.arm k) 2 6 (c + 1 : Nat) v).1 = 0 ∨ (areaW (D.arm k) 2 6 (c + 1 : Nat) v).1 = 12) ∧ (areaW (D.arm k) 2 6 (c + 1 : Nat) v).2.und.length ≤ 6 ∧ (areaW (D.arm k) 2 6 (c + 1 : Nat) v).2.ok ∧ (areaW (D.arm k) 2 6 (c + 1 : Nat) v).2.n = 8 ∧
    Ar9 (c + 1) ((areaW (D.arm k) 2 6 (c + 1 : Nat) v).2.crash kept torn bytes) ∧
    (areaR ((areaW (D.arm k) 2 6 (c + 1 : Nat) v).2.crash kept torn bytes) 2 6 (c + 1 : Nat) v.length = (v, 0) ∨
      areaR ((areaW (D.arm k) 2 6 (c + 1 : Nat) v).2.crash kept torn bytes) 2 6 (c + 1 : Nat) v.length = ([], 15) ∧ (areaW (D.arm k) 2 6 (c + 1 : Nat) v).1 = 12) := by
  have hn := h.n
  have hlen := h.ok.len
  rw [hn] at hlen
  have hroom : roomI 6 = 1404 := rfl
  have hns : nsec v.length ≤ 6 := by unfold nsec; omega
  have e1 : areaW (D.arm k) 2 6 (c + 1 : Nat) v = awGo ((2 : Nat) : Int) (c + 1 : Nat) v.length (D.arm k) ((0 : Nat) : Int) v := by
    unfold areaW
    have hm : (D.arm k).mayB 2 6 = true := by unfold Dsk.mayB; exact decide_eq_true (by rw [show (D.arm k).n = D.n from rfl, hn]; omega)
    rw [if_neg (by rw [hm]; simp), if_neg (by omega), if_neg (by rw [hroom]; omega), if_neg (by rw [show (D.arm k).off = D.off from rfl, h.off]; simp)]
    rfl
  obtain ⟨w1, w2, w3, -⟩ := aw_ways (c + 1 : Nat) 2 v.length (D.arm k) 0 v h.off (Dsk.arm_ok h.ok k hk) (by omega) (by rw [show (D.arm k).n = D.n from rfl, hn]; omega)
  rw [← e1] at w1 w2 w3
  clear e1
  rw [show (D.arm k).n = D.n from rfl, hn] at w2
  obtain ⟨r, hr⟩ : ∃ r, r = areaW (D.arm k) 2 6 (c + 1 : Nat) v := ⟨_, rfl⟩
  rw [← hr] at w1 w2 w3 ⊢
  rw [show (D.arm k).und = D.und from rfl, show (D.arm k).img = D.img from rfl, h.und, List.nil_append] at w1
  clear hr
  have hpl := pcs_length (c + 1 : Nat) v.length (2 + 0) v
  have hund : r.2.und.length ≤ 6 := by
    rcases w1 with ⟨_, _, q, _⟩ | ⟨_, _, m, q⟩
    · rw [q]; simp
    · rw [q, List.nil_append, List.length_take]; omega
  have he : r.1 = 0 ∨ r.1 = 12 := by
    rcases w1 with ⟨q, _⟩ | ⟨q, _⟩
    · exact .inl q
    · exact .inr q
  have hok2 := Dsk.crash_ok w3 kept torn bytes
  have hn2 : (r.2.crash kept torn bytes).n = 8 := w2
  obtain ⟨dn, m, hdn, himg, hfull⟩ : ∃ (dn : Nat → Nat) (m : Nat), (∀ k, dn k ≤ 256) ∧ (r.2.crash kept torn bytes).img = layAll D.img (cutP dn ((pcs (c + 1 : Nat) v.length (2 + 0) v).take m) 0) ∧ (r.1 = 0 → (∀ k, dn k = 256) ∧ (pcs (c + 1 : Nat) v.length (2 + 0) v).length ≤ m) := by
    rcases w1 with ⟨q1, q2, q3, q4⟩ | ⟨q1, q2, m, q3⟩
    · refine ⟨fun _ => 256, _, fun _ => Nat.le_refl _, ?_, fun _ => ⟨fun _ => rfl, Nat.le_refl _⟩⟩
      rw [crash_clean _ q3, q4, List.take_of_length_le (Nat.le_refl _), cutP_full _ (fun _ => rfl) _ _ (fun x hx => (pcs_in _ _ _ _ x hx).2.2)]
    · refine ⟨done kept torn bytes, m, doneK_le kept torn bytes, ?_, fun q => by rw [q1] at q; cases q⟩
      show layDone _ _ _ _ _ = _
      rw [layDone_eq, q2, q3, List.nil_append]
  obtain ⟨D2, hD2⟩ : ∃ D2, D2 = r.2.crash kept torn bytes := ⟨_, rfl⟩
  have hoff2 : D2.off = false := by rw [hD2]; rfl
  have hund2 : D2.und = [] := by rw [hD2]; rfl
  rw [← hD2] at hok2 hn2 himg ⊢
  clear hD2
  have hsecs : ∀ k, 234 * k < v.length → ∃ d, d ≤ 256 ∧ D2.sec (2 + k) = tornB (sealB (c + 1 : Nat) ((v.drop (234 * k)).take 234)) (D.sec (2 + k)) d ∧ (r.1 = 0 → d = 256) := by
    intro k hk
    obtain ⟨d, a1, a2, a3⟩ := torn_pcs (c + 1 : Nat) 8 dn hdn v.length (2 + 0) m 0 v D.img hlen (by omega) k hk
    refine ⟨d, a1, ?_, fun q => a3 (hfull q).1 (by omega) (hfull q).2⟩
    unfold Dsk.sec
    rw [himg]
    exact a2
  have hpk : ∀ k, ((v.drop (234 * k)).take 234).length ≤ 234 := fun k => by rw [List.length_take]; omega
  have hsl : ∀ j, j < 8 → (D.sec j).length = 256 := fun j hj => cut_length _ _ _ (by omega)
  have hA : areaR D2 2 6 (c + 1 : Nat) v.length = arGo D2 ((2 : Nat) : Int) (c + 1 : Nat) v.length (nsec v.length) 0 [] := by
    unfold areaR
    have hm : D2.mayB 2 6 = true := by unfold Dsk.mayB; exact decide_eq_true (by rw [hn2]; omega)
    rw [if_neg (by rw [hm]; simp), if_neg (by omega), if_neg (by omega), if_neg (by rw [hroom]; omega), if_neg (by rw [hoff2]; simp)]
    have : (sectorsI v.length).toNat = nsec v.length := by unfold sectorsI nsec; split <;> omega
    rw [this]
    rfl
  refine ⟨he, hund, w3, w2, ⟨hoff2, hund2, hok2, hn2, fun j hj => ?_⟩, ?_⟩
  · by_cases hin : 2 ≤ j ∧ 234 * (j - 2) < v.length
    · obtain ⟨d, a1, a2, _⟩ := hsecs (j - 2) hin.2
      rw [show 2 + (j - 2) = j by omega] at a2
      rw [a2]
      exact (torn_tail hc (by omega) (hpk _) (hsl j hj) a1 (h.tails j hj)).1
    · have : D2.sec j = D.sec j := by
        unfold Dsk.sec
        rw [himg]
        refine layAll_off 8 j _ _ hlen fun x hx => ?_
        obtain ⟨y, hy, b1, b2⟩ := cutP_in _ _ _ _ hx
        obtain ⟨c1, c2, c3⟩ := pcs_in _ _ _ _ y (List.mem_of_mem_take hy)
        unfold nsec at c2 hns
        exact ⟨by omega, by omega, by omega⟩
      rw [this]
      have := h.tails j hj
      omega
  · rw [hA]
    have hmix : ∀ k, 234 * k < v.length → D2.sec (2 + 0 + k) = sealB (c + 1 : Nat) ((v.drop (234 * k)).take 234) ∨ openS (c + 1 : Nat) (D2.sec (2 + 0 + k)) = none := by
      intro k hk
      obtain ⟨d, a1, a2, _⟩ := hsecs k hk
      rw [Nat.add_zero, a2]
      have hj : 2 + k < 8 := by omega
      exact (torn_tail hc (by omega) (hpk k) (hsl _ hj) a1 (h.tails _ hj)).2
    rcases he with he | he
    · left
      refine ar_back hoff2 hund2 2 (c + 1) (by omega) (nsec v.length) 0 v [] v.length rfl (by rw [hn2]; omega) (fun _ => by omega) fun k hk => ?_
      obtain ⟨d, a1, a2, a3⟩ := hsecs k hk
      rw [a3 he, torn_full _ _ (sealB_length _ _ (hpk k)) (hsl _ (by omega))] at a2
      exact a2
    · rcases ar_mix hoff2 hund2 2 (c + 1) (by omega) (nsec v.length) 0 v [] v.length rfl (by rw [hn2]; omega) (fun _ => by omega) hmix with q | q
      · left; rw [q]; rfl
      · right; exact ⟨q, he⟩
end Go.Proofs.YteklldbfdmaafaaDoor
/-
  Journal records read back, as plain data.
-/
namespace Go.Proofs.YteklldbfdmaafaaDoor
open Go Go.RowKit
theorem sizeGo_next (q : List UInt8) (k x : Nat) (hk : k < 4) (hx : x < 2 ^ (8 * k)) (h : sizeGo q k = (x : Int)) : sizeGo q (k + 1) = ((x + (q.getD (1 + k) 0).toNat * 2 ^ (8 * k) : Nat) : Int) := by
  obtain ⟨c, hc⟩ : ∃ c, c = q.getD (1 + k) 0 := ⟨_, rfl⟩
  have hcb := UInt8.toNat_lt c
  have hm : min (8 * (k : Int)).toNat IntKind.i64.bits = 8 * k := by
    show min (8 * (k : Int)).toNat 64 = 8 * k
    omega
  have hp : (2 : Nat) ^ (8 * k) ≤ 2 ^ 24 := Nat.pow_le_pow_right (by omega) (by omega)
  have hp0 := Nat.two_pow_pos (8 * k)
  have hcp : c.toNat * 2 ^ (8 * k) ≤ 255 * 2 ^ 24 := Nat.mul_le_mul (by omega) hp
  show bits .or .i64 (sizeGo q k) (IntKind.i64.wrap (((q.getD (1 + k) 0).toNat : Int) * 2 ^ (min (8 * (k : Int)).toNat IntKind.i64.bits))) = _
  rw [h, hm, ← hc]
  have e2 : ((c.toNat : Int) * 2 ^ (8 * k)) = ((c.toNat * 2 ^ (8 * k) : Nat) : Int) := by simp
  obtain ⟨y, hy⟩ : ∃ y, y = c.toNat * 2 ^ (8 * k) := ⟨_, rfl⟩
  have hor : x ||| y = x + y := by
    rw [hy, Nat.or_comm, Nat.mul_comm, ← Nat.two_pow_add_eq_or_of_lt hx, Nat.add_comm]
  rw [e2, ← hy] 
  rw [← hy] at hcp
  rw [i64_wrap (y : Int) (by omega)]
  have e : bits .or .i64 (x : Int) (y : Int) = IntKind.i64.wrap ((BitVec.ofInt 64 (x : Int) ||| BitVec.ofInt 64 (y : Int)).toNat : Int) := rfl
  have b1 : (BitVec.ofInt 64 (x : Int)).toNat = x := by rw [BitVec.toNat_ofInt]; omega
  have b2 : (BitVec.ofInt 64 (y : Int)).toNat = y := by rw [BitVec.toNat_ofInt]; omega
  rw [e, BitVec.toNat_or, b1, b2, hor]
  exact i64_wrap _ (by omega)
theorem sizeGo_head (L : Nat) (hL : L < 2147483648) (x : List UInt8) : sizeGo (headJ L ++ x) 4 = (L : Int) := by
  have g0 : ((headJ L ++ x).getD (1 + 0) 0).toNat = L % 256 := by show (UInt8.ofNat (L % 256)).toNat = _; rw [UInt8.toNat_ofNat']; omega
  have g1 : ((headJ L ++ x).getD (1 + 1) 0).toNat = L / 256 % 256 := by show (UInt8.ofNat (L / 256 % 256)).toNat = _; rw [UInt8.toNat_ofNat']; omega
  have g2 : ((headJ L ++ x).getD (1 + 2) 0).toNat = L / 65536 % 256 := by show (UInt8.ofNat (L / 65536 % 256)).toNat = _; rw [UInt8.toNat_ofNat']; omega
  have g3 : ((headJ L ++ x).getD (1 + 3) 0).toNat = L / 16777216 % 256 := by show (UInt8.ofNat (L / 16777216 % 256)).toNat = _; rw [UInt8.toNat_ofNat']; omega
  have s0 := sizeGo_next (headJ L ++ x) 0 0 (by omega) (by decide) rfl
  rw [g0] at s0
  have s1 := sizeGo_next (headJ L ++ x) 1 (0 + L % 256 * 2 ^ (8 * 0)) (by omega) (by omega) s0
  rw [g1] at s1
  have s2 := sizeGo_next (headJ L ++ x) 2 (0 + L % 256 * 2 ^ (8 * 0) + L / 256 % 256 * 2 ^ (8 * 1)) (by omega) (by omega) s1
  rw [g2] at s2
  have s3 := sizeGo_next (headJ L ++ x) 3 (0 + L % 256 * 2 ^ (8 * 0) + L / 256 % 256 * 2 ^ (8 * 1) + L / 65536 % 256 * 2 ^ (8 * 2)) (by omega) (by omega) s2
  rw [g3] at s3
  rw [s3]
  omega
section
variable {D : Dsk} {at_ n : Int} {ver : Nat}
theorem recGo_read (i : Nat) (L : Int) : ∀ (f : Nat) (l : List UInt8) (k : Nat) (out : List UInt8), l.length ≤ 233 * f → (out.length : Int) + l.length = L →
    (∀ j p, (chunksJ f l)[j]? = some p → payO D at_ n ver (i + k + j) = some p ∨ payO D at_ n ver (i + k + j) = none) →
    (recGo D at_ n ver i L (chunksJ f l).length k out = some (out ++ l) ∧ ∀ j, j < (chunksJ f l).length → (payO D at_ n ver (i + k + j)).isSome = true) ∨
    (recGo D at_ n ver i L (chunksJ f l).length k out = none ∧ ∃ j, j < (chunksJ f l).length ∧ payO D at_ n ver (i + k + j) = none) := by
  intro f
  induction f with
  | zero =>
    intro l k out hl _ _
    have : l = [] := List.length_eq_zero_iff.1 (by omega)
    subst this
    exact .inl ⟨by simp [chunksJ, recGo], fun j hj => by simp [chunksJ] at hj⟩
  | succ f ih =>
    intro l k out hl hL hp
    by_cases h0 : l = []
    · subst h0
      rw [chunksJ_nil]
      exact .inl ⟨by simp [recGo], fun j hj => by simp at hj⟩
    have hpos := List.length_pos_iff.2 h0
    rw [chunksJ_cons _ _ h0] at hp ⊢
    rw [List.length_cons]
    have hunf : recGo D at_ n ver i L ((chunksJ f (l.drop 233)).length + 1) k out = match payO D at_ n ver (i + k) with
      | none => none
      | some q => if (q.length : Int) ≠ 1 + min (L - out.length) 233 then none else if q.getD 0 0 ≠ 0 then none else recGo D at_ n ver i L (chunksJ f (l.drop 233)).length (k + 1) (out ++ q.drop 1) := rfl
    rw [hunf]
    clear hunf
    have hh := hp 0 (0 :: l.take 233) rfl
    rw [Nat.add_zero] at hh
    rcases hh with hh | hh
    · rw [hh]
      dsimp only
      rw [if_neg (by rw [List.length_cons, List.length_take]; omega), if_neg (by simp)]
      have := ih (l.drop 233) (k + 1) (out ++ l.take 233) (by rw [List.length_drop]; omega) (by rw [List.length_append, List.length_drop, List.length_take]; omega) (fun j p hj => by
        have := hp (j + 1) p (by simpa using hj)
        rwa [show i + k + (j + 1) = i + (k + 1) + j by omega] at this)
      rw [List.append_assoc, List.take_append_drop] at this
      rcases this with ⟨a, b⟩ | ⟨a, j, b, c⟩
      · refine .inl ⟨a, fun j hj => ?_⟩
        cases j with
        | zero => rw [Nat.add_zero, hh]; rfl
        | succ j =>
          have := b j (by omega)
          rwa [show i + (k + 1) + j = i + k + (j + 1) by omega] at this
      · exact .inr ⟨a, j + 1, by omega, by rw [show i + k + (j + 1) = i + (k + 1) + j by omega]; exact c⟩
    · rw [hh]
      exact .inr ⟨rfl, 0, by omega, by rw [Nat.add_zero]; exact hh⟩
theorem recO_read (i : Nat) (r : List UInt8) (hr : r.length < 2147483648) (hp : ∀ j p, (pcsJ r)[j]? = some p → payO D at_ n ver (i + j) = some p ∨ payO D at_ n ver (i + j) = none) (hn : (i : Int) + (pcsJ r).length ≤ n) :
    (recO D at_ n ver i = some (r, ((pcsJ r).length : Int)) ∧ ∀ j, j < (pcsJ r).length → (payO D at_ n ver (i + j)).isSome = true) ∨ (recO D at_ n ver i = none ∧ ∃ j, j < (pcsJ r).length ∧ payO D at_ n ver (i + j) = none) := by
  have hL := pcsJ_length r
  have hlen : (pcsJ r).length = (chunksJ r.length (r.drop 229)).length + 1 := rfl
  have hh := hp 0 (headJ r.length ++ r.take 229) rfl
  rw [Nat.add_zero] at hh
  unfold recO
  rcases hh with hh | hh
  · rw [hh]
    dsimp only
    have hql : (headJ r.length ++ r.take 229).length = 5 + min 229 r.length := by rw [List.length_append, List.length_take]; rfl
    have hdr : (headJ r.length ++ r.take 229).drop 5 = r.take 229 := rfl
    rw [sizeGo_head _ hr, if_neg (by omega), if_neg (by show ¬ ((1 : UInt8) ≠ 1); simp), if_neg (by rw [← hL]; omega), hdr, if_neg (by rw [List.length_take]; omega)]
    have hfu : (costI (r.length : Nat) - 1).toNat = (chunksJ r.length (r.drop 229)).length := by rw [← hL, hlen]; omega
    rw [hfu]
    have := recGo_read (D := D) (at_ := at_) (n := n) (ver := ver) i (r.length : Int) r.length (r.drop 229) 1 (r.take 229) (by rw [List.length_drop]; omega) (by rw [List.length_drop, List.length_take]; omega) (fun j p hj => by
      have := hp (j + 1) p (by unfold pcsJ; simpa using hj)
      rwa [show i + (j + 1) = i + 1 + j by omega] at this)
    rw [List.take_append_drop] at this
    rcases this with ⟨a, b⟩ | ⟨a, j, b, c⟩
    · rw [a]
      refine .inl ⟨by dsimp only; rw [hL], fun j hj => ?_⟩
      cases j with
      | zero => rw [Nat.add_zero, hh]; rfl
      | succ j =>
        have := b j (by omega)
        rwa [show i + 1 + j = i + (j + 1) by omega] at this
    · rw [a]
      exact .inr ⟨rfl, j + 1, by omega, by rw [show i + (j + 1) = i + 1 + j by omega]; exact c⟩
  · rw [hh]
    exact .inr ⟨rfl, 0, by omega, by rw [Nat.add_zero]; exact hh⟩
theorem recO_none {i : Nat} (h : payO D at_ n ver i = none) : recO D at_ n ver i = none := by unfold recO; rw [h]
/-- a log read: some first ones of its records, all unless a sector does not open -/
theorem rp_read : ∀ (rs : List (List UInt8)) (i : Nat) (acc : List (List UInt8)) (f : Nat), (∀ r ∈ rs, r.length < 2147483648) → (∀ j p, (rs.flatMap pcsJ)[j]? = some p → payO D at_ n ver (i + j) = some p ∨ payO D at_ n ver (i + j) = none) →
    (i : Int) + (rs.flatMap pcsJ).length ≤ n → payO D at_ n ver (i + (rs.flatMap pcsJ).length) = none → rs.length < f →
    ∃ m, m ≤ rs.length ∧ rpGo D at_ n ver f i acc = acc ++ rs.take m ∧ (m < rs.length → ∃ j, j < ((rs.take (m + 1)).flatMap pcsJ).length ∧ payO D at_ n ver (i + j) = none) := by
  intro rs
  induction rs with
  | nil =>
    intro i acc f _ _ _ hz hf
    obtain ⟨f', rfl⟩ : ∃ f', f = f' + 1 := ⟨f - 1, by simp at hf; omega⟩
    refine ⟨0, Nat.le_refl _, ?_, fun h => by simp at h⟩
    have := recO_none (i := i) (by simpa using hz)
    unfold rpGo
    rw [this]
    simp
  | cons r rs ih =>
    intro i acc f hr hp hn hz hf
    rw [List.flatMap_cons, List.length_append] at hn hz
    obtain ⟨f', rfl⟩ : ∃ f', f = f' + 1 := ⟨f - 1, by rw [List.length_cons] at hf; omega⟩
    have h1 := recO_read (D := D) (at_ := at_) (n := n) (ver := ver) i r (hr r (by simp)) (fun j p hj => hp j p (by
      rw [List.flatMap_cons, List.getElem?_append_left (List.getElem?_eq_some_iff.1 hj).1]; exact hj)) (by omega)
    rcases h1 with ⟨a, b⟩ | ⟨a, j, b, c⟩
    · obtain ⟨m, m1, m2, m3⟩ := ih (i + (pcsJ r).length) (acc ++ [r]) f' (fun x hx => hr x (by simp [hx])) (fun j p hj => by
        have := hp ((pcsJ r).length + j) p (by
          rw [List.flatMap_cons, List.getElem?_append_right (by omega), Nat.add_sub_cancel_left]; exact hj)
        rwa [← Nat.add_assoc] at this) (by omega) (by rw [Nat.add_assoc]; exact hz) (by rw [List.length_cons] at hf; omega)
      refine ⟨m + 1, by rw [List.length_cons]; omega, ?_, fun h => ?_⟩
      · have hu : rpGo D at_ n ver (f' + 1) i acc = match recO D at_ n ver i with
          | none => acc
          | some (s, u) => rpGo D at_ n ver f' (i + u.toNat) (acc ++ [s]) := rfl
        rw [hu, a]
        dsimp only
        rw [Int.toNat_natCast, m2, List.append_assoc]
        rfl
      · obtain ⟨j, j1, j2⟩ := m3 (by rw [List.length_cons] at h; omega)
        refine ⟨(pcsJ r).length + j, ?_, by rw [← Nat.add_assoc]; exact j2⟩
        rw [List.take_succ_cons, List.flatMap_cons, List.length_append]
        omega
    · refine ⟨0, Nat.zero_le _, ?_, fun _ => ⟨j, ?_, c⟩⟩
      · unfold rpGo
        rw [a]
        simp
      · show j < (([r] : List (List UInt8)).flatMap pcsJ).length
        simpa using b
end
end Go.Proofs.YteklldbfdmaafaaDoor
/-
  A record as the document reads it: plain data.
-/
namespace Go.Proofs.YteklldbfdmaafaaDoor
open Go Go.RowKit
/-- the size that a first payload tells, as a sum -/
def sizeN (q : List UInt8) : Nat := (q.getD 1 0).toNat + (q.getD 2 0).toNat * 256 + (q.getD 3 0).toNat * 65536 + (q.getD 4 0).toNat * 16777216
theorem sizeGo_sum (q : List UInt8) : sizeGo q 4 = (sizeN q : Int) := by
  have b1 := UInt8.toNat_lt (q.getD 1 0)
  have b2 := UInt8.toNat_lt (q.getD 2 0)
  have b3 := UInt8.toNat_lt (q.getD 3 0)
  have s0 := sizeGo_next q 0 0 (by omega) (by decide) rfl
  have s1 := sizeGo_next q 1 _ (by omega) (by show 0 + (q.getD 1 0).toNat * 1 < 256; omega) s0
  have s2 := sizeGo_next q 2 _ (by omega) (by show 0 + (q.getD 1 0).toNat * 1 + (q.getD 2 0).toNat * 256 < 65536; omega) s1
  have s3 := sizeGo_next q 3 _ (by omega) (by show 0 + (q.getD 1 0).toNat * 1 + (q.getD 2 0).toNat * 256 + (q.getD 3 0).toNat * 65536 < 16777216; omega) s2
  rw [s3]
  show (((0 + (q.getD 1 0).toNat * 1 + (q.getD 2 0).toNat * 256 + (q.getD 3 0).toNat * 65536 + (q.getD 4 0).toNat * 16777216 : Nat)) : Int) = ((sizeN q : Nat) : Int)
  unfold sizeN
  omega
/-- the text of payloads: a first one, further ones -/
def txt : List (List UInt8) → List UInt8
  | [] => []
  | q :: r => q.drop 5 ++ r.flatMap (·.drop 1)
theorem txt_snoc (P : List (List UInt8)) (h : P ≠ []) (q : List UInt8) : txt (P ++ [q]) = txt P ++ q.drop 1 := by
  cases P with
  | nil => exact absurd rfl h
  | cons p r => simp [txt, List.flatMap_append]
theorem chunks_txt : ∀ (f : Nat) (l : List UInt8), l.length ≤ 233 * f → (chunksJ f l).flatMap (·.drop 1) = l := by
  intro f
  induction f with
  | zero => intro l h; have : l = [] := List.length_eq_zero_iff.1 (by omega); subst this; rfl
  | succ f ih =>
    intro l h
    by_cases h0 : l = []
    · subst h0; rw [chunksJ_nil]; rfl
    · rw [chunksJ_cons _ _ h0, List.flatMap_cons, ih _ (by rw [List.length_drop]; omega)]
      show l.take 233 ++ l.drop 233 = l
      exact List.take_append_drop _ _
theorem pcs_txt (s : List UInt8) : txt (pcsJ s) = s := by
  show (headJ s.length ++ s.take 229).drop 5 ++ (chunksJ s.length (s.drop 229)).flatMap (·.drop 1) = s
  rw [chunks_txt _ _ (by rw [List.length_drop]; omega)]
  show s.take 229 ++ s.drop 229 = s
  exact List.take_append_drop _ _
theorem pcs_pos (s : List UInt8) (j : Nat) (p : List UInt8) (h : (pcsJ s)[j]? = some p) : 1 ≤ p.length := by
  cases j with
  | zero =>
    have h' : some (headJ s.length ++ s.take 229) = some p := h
    cases h'
    rw [List.length_append]
    show 1 ≤ 5 + _
    omega
  | succ j =>
    have h' : (chunksJ s.length (s.drop 229))[j]? = some p := h
    have key : ∀ (f : Nat) (l : List UInt8), ∀ p ∈ chunksJ f l, 1 ≤ p.length := by
      intro f
      induction f with
      | zero => intro l p hp; cases hp
      | succ f ih =>
        intro l p hp
        by_cases h0 : l = []
        · subst h0; rw [chunksJ_nil] at hp; cases hp
        · rw [chunksJ_cons _ _ h0] at hp
          rcases List.mem_cons.1 hp with rfl | hp
          · rw [List.length_cons]; omega
          · exact ih _ _ hp
    exact key _ _ _ (List.mem_of_getElem? h')
section
variable {D : Dsk} {at_ n : Int} {ver : Nat}
theorem recGo_fwd (i : Nat) (L : Nat) : ∀ (f : Nat) (k : Nat) (out s : List UInt8), out.length ≤ L → (L - out.length + 232) / 233 = f → recGo D at_ n ver i (L : Int) f k out = some s →
    ∃ l : List UInt8, s = out ++ l ∧ out.length + l.length = L ∧ ∀ (F : Nat), l.length ≤ 233 * F → ∀ j p, (chunksJ F l)[j]? = some p → payO D at_ n ver (i + k + j) = some p := by
  intro f
  induction f with
  | zero =>
    intro k out s h1 h2 h
    have h : some out = some s := h
    cases h
    exact ⟨[], by simp, by simp; omega, fun F _ j p hp => by rw [chunksJ_nil] at hp; simp at hp⟩
  | succ f ih =>
    intro k out s h1 h2 h
    have hunf : recGo D at_ n ver i (L : Int) (f + 1) k out = match payO D at_ n ver (i + k) with
      | none => none
      | some q => if (q.length : Int) ≠ 1 + min ((L : Int) - out.length) 233 then none else if q.getD 0 0 ≠ 0 then none else recGo D at_ n ver i (L : Int) f (k + 1) (out ++ q.drop 1) := rfl
    rw [hunf] at h
    clear hunf
    cases hq : payO D at_ n ver (i + k) with
    | none => rw [hq] at h; cases h
    | some q =>
      rw [hq] at h
      dsimp only at h
      split at h
      · cases h
      rename_i hl
      split at h
      · cases h
      rename_i h0
      have hl : (q.length : Int) = 1 + min ((L : Int) - out.length) 233 := by simpa using hl
      have h0 : q.getD 0 0 = 0 := by simpa using h0
      have hd : (q.drop 1).length = min (L - out.length) 233 := by rw [List.length_drop]; omega
      obtain ⟨l', e1, e2, e3⟩ := ih (k + 1) (out ++ q.drop 1) s (by rw [List.length_append, hd]; omega) (by rw [List.length_append, hd]; omega) h
      rw [List.length_append, hd] at e2
      refine ⟨q.drop 1 ++ l', by rw [e1, List.append_assoc], by rw [List.length_append, hd]; omega, fun F hF j p hp => ?_⟩
      rw [List.length_append, hd] at hF
      obtain ⟨F', rfl⟩ : ∃ F', F = F' + 1 := ⟨F - 1, by omega⟩
      have hne : q.drop 1 ++ l' ≠ [] := by
        intro e
        have := congrArg List.length e
        rw [List.length_append, hd] at this
        simp at this
        omega
      have hqc : q = 0 :: q.drop 1 := by
        cases q with
        | nil => simp at hl; omega
        | cons c q => have : c = 0 := h0
                      subst this; rfl
      have htk : (q.drop 1 ++ l').take 233 = q.drop 1 ∧ (q.drop 1 ++ l').drop 233 = l' := by
        by_cases hb : 233 ≤ L - out.length
        · have : (q.drop 1).length = 233 := by omega
          exact ⟨by rw [List.take_append_of_le_length (by omega), List.take_of_length_le (by omega)], by rw [List.drop_append_of_le_length (by omega), List.drop_of_length_le (by omega)]; rfl⟩
        · have : l' = [] := List.length_eq_zero_iff.1 (by omega)
          subst this
          rw [List.append_nil]
          exact ⟨List.take_of_length_le (by omega), List.drop_of_length_le (by omega)⟩
      rw [chunksJ_cons _ _ hne, htk.1, htk.2, ← hqc] at hp
      cases j with
      | zero => cases hp; rw [Nat.add_zero]; exact hq
      | succ j =>
        have := e3 F' (by omega) j p (by simpa using hp)
        rwa [show i + (k + 1) + j = i + k + (j + 1) by omega] at this
theorem headJ_take (q : List UInt8) (h5 : 5 ≤ q.length) (h1 : q.getD 0 0 = 1) : headJ (sizeN q) = q.take 5 := by
  obtain ⟨c0, q, rfl⟩ := List.exists_cons_of_length_pos (l := q) (by omega)
  obtain ⟨c1, q, rfl⟩ := List.exists_cons_of_length_pos (l := q) (by simp at h5; omega)
  obtain ⟨c2, q, rfl⟩ := List.exists_cons_of_length_pos (l := q) (by simp at h5; omega)
  obtain ⟨c3, q, rfl⟩ := List.exists_cons_of_length_pos (l := q) (by simp at h5; omega)
  obtain ⟨c4, q, rfl⟩ := List.exists_cons_of_length_pos (l := q) (by simp at h5; omega)
  have h1 : c0 = 1 := h1
  subst h1
  have b1 := UInt8.toNat_lt c1
  have b2 := UInt8.toNat_lt c2
  have b3 := UInt8.toNat_lt c3
  have b4 := UInt8.toNat_lt c4
  obtain ⟨m, hm⟩ : ∃ m, m = sizeN (1 :: c1 :: c2 :: c3 :: c4 :: q) := ⟨_, rfl⟩
  have hz : m = c1.toNat + c2.toNat * 256 + c3.toNat * 65536 + c4.toNat * 16777216 := hm
  rw [← hm]
  have key : ∀ (c : UInt8) (m : Nat), m = c.toNat → UInt8.ofNat m = c := fun c m h => by rw [h]; exact UInt8.ofNat_toNat
  have e1 : UInt8.ofNat (m % 256) = c1 := key _ _ (by omega)
  have e2 : UInt8.ofNat (m / 256 % 256) = c2 := key _ _ (by omega)
  have e3 : UInt8.ofNat (m / 65536 % 256) = c3 := key _ _ (by omega)
  have e4 : UInt8.ofNat (m / 16777216 % 256) = c4 := key _ _ (by omega)
  unfold headJ
  rw [e1, e2, e3, e4]
  rfl
/-- what a record that reads has been -/
theorem recO_fwd {i : Nat} {s : List UInt8} {u : Int} (h : recO D at_ n ver i = some (s, u)) : ∃ q, payO D at_ n ver i = some q ∧ sizeGo q 4 = (s.length : Nat) ∧ u = costI s.length ∧ ∀ j p, (pcsJ s)[j]? = some p → payO D at_ n ver (i + j) = some p := by
  unfold recO at h
  cases hq : payO D at_ n ver i with
  | none => rw [hq] at h; cases h
  | some q =>
    rw [hq] at h
    dsimp only at h
    split at h
    · cases h
    rename_i h5
    split at h
    · cases h
    rename_i h1
    split at h
    · cases h
    split at h
    · cases h
    rename_i hl
    rw [sizeGo_sum] at h hl
    obtain ⟨Z, hZ⟩ : ∃ Z, Z = sizeN q := ⟨_, rfl⟩
    rw [← hZ] at h hl
    have hl : ((q.drop 5).length : Int) = min ((Z : Nat) : Int) 229 := by simpa using hl
    have h1 : q.getD 0 0 = 1 := by simpa using h1
    cases hg : recGo D at_ n ver i ((Z : Nat) : Int) (costI (Z : Nat) - 1).toNat 1 (q.drop 5) with
    | none => rw [hg] at h; cases h
    | some s' =>
      rw [hg] at h
      simp only [Option.some.injEq, Prod.mk.injEq] at h
      obtain ⟨rfl, rfl⟩ := h
      have hcnt : (Z - (q.drop 5).length + 232) / 233 = (costI (Z : Nat) - 1).toNat := by
        unfold costI
        split
        · omega
        split <;> omega
      obtain ⟨l, e1, e2, e3⟩ := recGo_fwd i (Z) _ 1 (q.drop 5) s' (by omega) hcnt hg
      have hs : s'.length = Z := by rw [e1, List.length_append]; exact e2
      refine ⟨q, rfl, by rw [sizeGo_sum, hs, hZ], by rw [hs], fun j p hp => ?_⟩
      have htk : s'.take 229 = q.drop 5 ∧ s'.drop 229 = l := by
        rw [e1]
        by_cases hb : 229 ≤ Z
        · have : (q.drop 5).length = 229 := by omega
          exact ⟨by rw [List.take_append_of_le_length (by omega), List.take_of_length_le (by omega)], by rw [List.drop_append_of_le_length (by omega), List.drop_of_length_le (by omega)]; rfl⟩
        · have : l = [] := List.length_eq_zero_iff.1 (by omega)
          subst this
          rw [List.append_nil]
          exact ⟨List.take_of_length_le (by omega), List.drop_of_length_le (by omega)⟩
      have hhd : headJ s'.length = q.take 5 := by rw [hs, hZ]; exact headJ_take q (by omega) h1
      unfold pcsJ at hp
      rw [htk.1, htk.2, hhd, List.take_append_drop] at hp
      cases j with
      | zero => cases hp; exact hq
      | succ j =>
        have := e3 s'.length (by omega) j p (by simpa using hp)
        rwa [show i + 1 + j = i + (j + 1) by omega] at this
end
end Go.Proofs.YteklldbfdmaafaaDoor
/-
  A record as the document reads it: what its payloads make of it. Plain data.
-/
namespace Go.Proofs.YteklldbfdmaafaaDoor
open Go Go.RowKit
section
variable {D : Dsk} {at_ n : Int} {ver : Nat}
/-- payloads that stand where a record reads are its first ones -/
theorem recO_take {i : Nat} {s : List UInt8} {u : Int} (h : recO D at_ n ver i = some (s, u)) (P : List (List UInt8)) (hp : ∀ j p, P[j]? = some p → payO D at_ n ver (i + j) = some p) (hl : (P.length : Int) ≤ u) : P = (pcsJ s).take P.length := by
  obtain ⟨q, -, -, hu, hall⟩ := recO_fwd h
  have hL := pcsJ_length s
  apply List.ext_getElem?
  intro j
  by_cases hj : j < P.length
  · rw [List.getElem?_take, if_pos hj]
    have h1 := hp j _ (List.getElem?_eq_getElem hj)
    have hj2 : j < (pcsJ s).length := by omega
    have h2 := hall j _ (List.getElem?_eq_getElem hj2)
    rw [h1] at h2
    rw [List.getElem?_eq_getElem hj, List.getElem?_eq_getElem hj2]
    exact h2
  · rw [List.getElem?_eq_none (by omega), List.getElem?_eq_none (by rw [List.length_take]; omega)]
/-- what a record's head tells of it -/
theorem recO_size {i : Nat} {s : List UInt8} {u : Int} {q : List UInt8} (h : recO D at_ n ver i = some (s, u)) (hq : payO D at_ n ver i = some q) : sizeN q = s.length ∧ u = costI (sizeN q : Nat) ∧ ((pcsJ s).length : Int) = u := by
  obtain ⟨q', h1, h2, h3, -⟩ := recO_fwd h
  rw [hq] at h1; cases h1
  rw [sizeGo_sum] at h2
  have e : sizeN q = s.length := by omega
  exact ⟨e, by rw [e]; exact h3, by rw [pcsJ_length, h3]⟩
/-- the document refuses: then it does not read -/
theorem recO_not {i : Nat} (h : ∀ s u, recO D at_ n ver i = some (s, u) → False) : recO D at_ n ver i = none := by
  cases hr : recO D at_ n ver i with
  | none => rfl
  | some su => exact (h su.1 su.2 (by rw [hr])).elim
theorem recO_gap {i k : Nat} {q : List UInt8} (hq : payO D at_ n ver i = some q) (hk : (k : Int) < costI (sizeN q : Nat)) (h : ∀ p, payO D at_ n ver (i + k) = some p → p.length < 1) : recO D at_ n ver i = none := by
  refine recO_not fun s u hr => ?_
  obtain ⟨e1, e2, e3⟩ := recO_size hr hq
  obtain ⟨-, -, -, -, hall⟩ := recO_fwd hr
  have hj : k < (pcsJ s).length := by omega
  have h1 := hall k _ (List.getElem?_eq_getElem hj)
  have h2 := pcs_pos s k _ (List.getElem?_eq_getElem hj)
  have := h _ h1
  omega
theorem recO_all {i : Nat} {q : List UInt8} {P : List (List UInt8)} (hq : payO D at_ n ver i = some q) (hp : ∀ j p, P[j]? = some p → payO D at_ n ver (i + j) = some p) (hl : (P.length : Int) = costI (sizeN q : Nat)) {s : List UInt8} {u : Int} (h : recO D at_ n ver i = some (s, u)) : P = pcsJ s ∧ txt P = s ∧ s.length = sizeN q := by
  obtain ⟨e1, e2, e3⟩ := recO_size h hq
  have := recO_take h P hp (by omega)
  rw [List.take_of_length_le (by omega)] at this
  exact ⟨this, by rw [this]; exact pcs_txt s, e1.symm⟩
/-- the document takes: then it reads -/
theorem recO_yes {i : Nat} {s : List UInt8} (hs : s.length < 2147483648) (hp : ∀ j p, (pcsJ s)[j]? = some p → payO D at_ n ver (i + j) = some p) (hn : (i : Int) + (pcsJ s).length ≤ n) : recO D at_ n ver i = some (s, ((pcsJ s).length : Int)) := by
  rcases recO_read (D := D) (at_ := at_) (n := n) (ver := ver) i s hs (fun j p h => .inl (hp j p h)) hn with ⟨h, -⟩ | ⟨-, j, hj, h⟩
  · exact h
  · have := hp j _ (List.getElem?_eq_getElem hj)
    rw [h] at this; cases this
theorem recO_short {i : Nat} {q : List UInt8} (hq : payO D at_ n ver i = some q) (h : q.length < 5) : recO D at_ n ver i = none := by unfold recO; rw [hq]; dsimp only; rw [if_pos h]
theorem recO_head {i : Nat} {q : List UInt8} (hq : payO D at_ n ver i = some q) (h : q.getD 0 0 ≠ 1) : recO D at_ n ver i = none := by
  unfold recO; rw [hq]; dsimp only
  split
  · rfl
  · first | rfl | rw [if_pos h]
theorem recO_cost {i : Nat} {q : List UInt8} (hq : payO D at_ n ver i = some q) (h : n - (i : Int) < costI (sizeN q : Nat)) : recO D at_ n ver i = none := by
  refine recO_not fun s u hr => ?_
  obtain ⟨e1, e2, e3⟩ := recO_size hr hq
  have := (recO_some hr).2
  omega
end
end Go.Proofs.YteklldbfdmaafaaDoor
/-
  JournalCosts (chapter 10): the law's record, its fixed facts, the walk.
-/
namespace Go.Proofs.YteklldbfdmaafaaDoor
open Go Go.RowKit
def recC (fill : Int) (i : Nat) : UInt8 := UInt8.ofNat ((fill + (i : Int) * 7 + (i : Int) / 251) % 256).toNat
def recB (fill : Int) (n : Nat) : List UInt8 := (List.range n).map (recC fill)
def recL (size fill : Int) : List UInt8 := recB fill (IntKind.u64.wrap size % 3001).toNat
theorem recB_length (fill : Int) (n : Nat) : (recB fill n).length = n := by simp [recB]
theorem recB_next (fill : Int) (n : Nat) : recB fill (n + 1) = recB fill n ++ [recC fill n] := by simp [recB, List.range_succ]
theorem recC_int (fill : Int) (i : Nat) : IntKind.u8.wrap (fill + (i : Int) * 7 + (i : Int) / 251) = ((recC fill i).toNat : Int) := by
  have e : IntKind.u8.wrap (fill + (i : Int) * 7 + (i : Int) / 251) = (fill + (i : Int) * 7 + (i : Int) / 251) % 256 := rfl
  unfold recC
  rw [e, UInt8.toNat_ofNat']
  omega
section
variable {P : Program} {W : World} {n : Nat} {E : Env} {H : List SP} {x y : Operand} {t u : TypeId}
theorem Ct.rowShape {P : Program} {W : World} {f : FuncId} {args : List Value} {Hpre : List SP} {A : SP} {e size m : Nat} {xs : List Value} (hm : 0 < m) (h : Ct P W f args Hpre (fun v : Value => .tuple #[v, .nilIface]) (fun v => [A, rowP v e size m xs])) :
    Ct P W f args Hpre (fun x : Nat × Nat => .tuple #[.slice (some ⟨x.1, 0, none⟩) m x.2, .nilIface]) (fun x => [A, rowP (.slice (some ⟨x.1, 0, none⟩) m x.2) e size m xs]) :=
  ⟨fun R w s => (h.go R w s).mono fun en w' ⟨v, he, st⟩ => by
    have hrow := St.row (v := v) (e := e) (size := size) (n := m) (xs := xs) st (.there .here)
    rcases hrow.2 with ⟨_, q⟩ | ⟨g, cap, cur, hv, _⟩
    · omega
    · subst hv
      exact ⟨(g, cap), he, st⟩⟩
end
section
variable {W : World} {E : Nat → Addr} {p g : Nat} {D : Dsk}
set_option maxHeartbeats 400000 in
set_option maxRecDepth 100000 in
theorem record10_ct (size fill : Int) (hf : 0 ≤ fill ∧ fill ≤ 1099511627776) : Ct Tryd.prog W 68 [.int .i64 size, .int .i64 fill] [] (fun _ : Unit => strV (recL size fill)) (fun _ => []) := by
  obtain ⟨B, hB⟩ : ∃ B, IntKind.u64.wrap size = B := ⟨_, rfl⟩
  have hBb : 0 ≤ B ∧ B < 18446744073709551616 := by
    have e : IntKind.u64.wrap size = size % 18446744073709551616 := rfl
    omega
  obtain ⟨n, hn⟩ : ∃ n : Nat, B % 3001 = (n : Int) := ⟨(B % 3001).toNat, by omega⟩
  have hn2 : n ≤ 3000 := by omega
  have eL : recL size fill = recB fill n := by unfold recL; rw [hB, hn]; rfl
  rw [eL]
  clear eL
  refine Ct.enter Tryd.func68 rfl Tryd.ntmps68 (by simp) (fun R => ?_)
  repeat' (first 
    | (refine is_mkSlice ?_; refine KJ_makeBytes rfl rfl rfl (by omega) rfl (fun g => ?_))
    | (refine ek_conv ?_; refine EK_ev (Ev_convI_v rfl hB) ?_)
    | (refine ek_rem ?_; refine EK_ev (Ev_rem_w rfl rfl (by omega) hn) ?_)
    | refine xst ?_
    | (refine xsa ?_; intro _)
    | (refine xsb ?_ ?_ <;> intro _ <;> first | (exfalso; omega) | skip)
    | refine xsc ?_
    | fail)
  refine KJ_loop (fun i : {k : Nat // k ≤ n} => [(1, .int .i64 fill), (6, .slice (some ⟨g, 0, none⟩) n n), (15, .int .i64 (n : Nat)), (16, .int .i64 (i.1 : Nat))]) (fun i => [cellsP g (bvs (recB fill i.1 ++ zs (n - i.1))) 5] ++ R) (fun i => n - i.1) ⟨0, by omega⟩ xB (by show ∀ h, starL (cellsP g (bvs (zs n)) 5 :: R) h → _; exact (xN)) (fun ⟨k, hk⟩ => ?_)
  dsimp only
  by_cases hlt : k < n
  · have ql : decide ((k : Int) < (n : Nat)) = true := decide_eq_true (by omega)
    have hlen := recB_length fill k
    have hzl : (zs (n - k)).length = n - k := by simp [zs]
    have hcv := recC_int fill k
    have hfit : 0 + (k : Int).toNat * 1 + [Value.int IntKind.u8 ((recC fill k).toNat : Int)].length ≤ (bvs (recB fill k ++ zs (n - k))).length := by rw [bvs_length', List.length_append, hlen, hzl]; simp; omega
    repeat' (first 
    | (refine is_store ?_; refine KJ_store (v := .int .u8 ((recC fill k).toNat : Int)) rfl rfl xS xF (by rfl) xO (Laid.of hfit) xR ?_)
    | (refine ek_conv ?_; refine EK_ev (Ev_convI_v rfl hcv) ?_)
    | (refine ek_add ?_; refine EK_ev (Ev_addI_v (r := ((k + 1 : Nat) : Int)) rfl rfl (by first | rfl | (exact rfl)) (by omega)) ?_)
    | (refine ek_lss ?_; refine EK_ev (Ev_lssI_q rfl rfl ql) ?_)
    | refine xst ?_
    | (refine xsa ?_; intro _)
    | (refine xsb ?_ ?_ <;> intro _ <;> first | (exfalso; omega) | skip)
    | refine xsc ?_
    | fail)
    refine KJ_again ⟨k + 1, by omega⟩ (by show n - (k + 1) < n - k; omega) xB ?_
    have e3 : 0 + (k : Int).toNat * 1 = k := by simp
    have e := lay_zs (recB fill k) k (n - k - 1) (recC fill k) hlen
    rw [show n - k - 1 + 1 = n - k by omega, ← recB_next] at e
    rw [e3]
    have e2 : lay (bvs (recB fill k ++ zs (n - k))) k [Value.int IntKind.u8 ((recC fill k).toNat : Int)] = bvs (recB fill (k + 1) ++ zs (n - (k + 1))) := by
      rw [show n - (k + 1) = n - k - 1 by omega]; exact e
    rw [e2]
    exact (xN)
  · have hkn : k = n := by omega
    subst hkn
    have ql : decide ((k : Int) < (k : Int)) = false := decide_eq_false (by omega)
    have e0 : recB fill k ++ zs (k - k) = recB fill k := by simp [zs]
    rw [e0]
    repeat' (first 
    | (refine ek_conv ?_; refine EK_ev (Ev_bytesAll rfl xS (recB_length _ _)) ?_)
    | (refine ek_lss ?_; refine EK_ev (Ev_lssI_q rfl rfl ql) ?_)
    | refine xst ?_
    | (refine xsa ?_; intro _)
    | (refine xsb ?_ ?_ <;> intro _ <;> first | (exfalso; omega) | skip)
    | refine xsc ?_
    | fail)
    all_goals (exact xdn ())
def RJ2 : List UInt8 := recL 300 1
def RJ3 : List UInt8 := recL 230 2
def JD1 : Dsk := (apGo 2 1 0 (pcsJ [97]) 0 (Dsk.blank 8)).2
def JD2 : Dsk := (apGo 2 1 1 (pcsJ RJ2) 0 JD1).2
theorem JD1_ok : (apGo 2 1 0 (pcsJ [97]) 0 (Dsk.blank 8)).1 = true := by kernel_rfl
theorem JD2_ok : (apGo 2 1 1 (pcsJ RJ2) 0 JD1).1 = true := by kernel_rfl
theorem JD1_n : JD1.n = 8 := by kernel_rfl
theorem JD1_d : downB JD1 0 false = false := by kernel_rfl
theorem JD1_u : JD1.und.length = 1 := by kernel_rfl
theorem JD2_n : JD2.n = 8 := by kernel_rfl
theorem JD2_d : downB JD2 0 false = false := by kernel_rfl
theorem JD2_o : JD2.off = false := by kernel_rfl
theorem JD2_r : rpGo JD2 2 4 1 5 0 [] = [[97], RJ2] := by kernel_rfl
theorem RJ2_l : RJ2.length = 300 := recB_length _ _
theorem RJ3_l : RJ3.length = 230 := recB_length _ _
set_option maxHeartbeats 1000000 in
set_option maxRecDepth 100000 in
theorem fixed10_ct (hE : ErrsAt W E) (hN : NibAt W) (hg : gB ≤ W.heap.size) : Ct Tryd.prog W 60 [] [] (fun _ : Unit => .bool true) (fun _ => []) := by
  have hE8 : ErrsOn L8 W E := hE.on
  have e17 : W.cell? ⟨6, 0, none⟩ = some (errV E 17) := hE.all.at_ 17 (by decide)
  have c1 : Ct Tryd.prog W 33 [.int .i64 8] [] (fun p : Nat => .tuple #[.pointer (some ⟨p, 0, none⟩), .nilIface]) (fun p => [DiskP p (Dsk.blank 8)]) := new_ct 8 (by omega) (by omega) hg
  have cb : ∀ p, Ct Tryd.prog W 65 [.pointer (some ⟨p, 0, none⟩), .int .i64 2, .int .i64 4, .int .i64 1] [DiskP p (Dsk.blank 8)] (fun g : Nat => .tuple #[.pointer (some ⟨g, 0, none⟩), .nilIface]) (fun g => [DiskP p (Dsk.blank 8), cellsP g [.pointer (some ⟨p, 0, none⟩), .int .i64 2, .int .i64 4, .int .i64 1, .int .i64 0, .int .i64 0, .bool false] 165]) := fun p =>
    begin_ct (by show 8 ≤ 65536; omega) rfl 2 4 1 ⟨by omega, by omega, by show (2 : Int) ≤ 8; omega, by show (4 : Int) ≤ 8 - 2; omega, by omega, by omega, by omega⟩
  have ca1 : ∀ p g, Ct Tryd.prog W 67 [.pointer (some ⟨g, 0, none⟩), strV [97]] [DiskP p (Dsk.blank 8), cellsP g [.pointer (some ⟨p, 0, none⟩), .int .i64 2, .int .i64 4, .int .i64 1, .int .i64 0, .int .i64 0, .bool false] 165] (fun _ : Unit => .nilIface) (fun _ => [DiskP p JD1, cellsP g [.pointer (some ⟨p, 0, none⟩), .int .i64 2, .int .i64 4, .int .i64 1, .int .i64 1, .int .i64 0, .bool false] 165]) := fun p g => by
    have h := append_ct (W := W) (p := p) (g := g) (D := Dsk.blank 8) hE8 e17 hN 2 4 0 1 0 [97] (by show 8 ≤ 65536; omega) rfl (by omega) (by omega) (by decide) (by show (1 : Int) ≤ 4 - 0; omega) (by omega) (by omega) (by show 0 + 65536 < 1073741823; omega)
    rw [JD1_ok] at h
    exact h
  have cr2 : Ct Tryd.prog W 68 [.int .i64 300, .int .i64 1] [] (fun _ : Unit => strV RJ2) (fun _ => []) := record10_ct 300 1 (by omega)
  have ca2 : ∀ p g, Ct Tryd.prog W 67 [.pointer (some ⟨g, 0, none⟩), strV RJ2] [DiskP p JD1, cellsP g [.pointer (some ⟨p, 0, none⟩), .int .i64 2, .int .i64 4, .int .i64 1, .int .i64 1, .int .i64 0, .bool false] 165] (fun _ : Unit => .nilIface) (fun _ => [DiskP p JD2, cellsP g [.pointer (some ⟨p, 0, none⟩), .int .i64 2, .int .i64 4, .int .i64 1, .int .i64 3, .int .i64 0, .bool false] 165]) := fun p g => by
    have h := append_ct (W := W) (p := p) (g := g) (D := JD1) hE8 e17 hN 2 4 0 1 1 RJ2 (by rw [JD1_n]; omega) JD1_d (by omega) (by omega) (by rw [RJ2_l]; omega) (by rw [RJ2_l]; show (2 : Int) ≤ 4 - 1; omega) (by omega) (by omega) (by rw [JD1_u]; omega)
    rw [JD2_ok, RJ2_l] at h
    exact h
  have cu : ∀ p g, Ct Tryd.prog W 69 [.pointer (some ⟨g, 0, none⟩)] [cellsP g [.pointer (some ⟨p, 0, none⟩), .int .i64 2, .int .i64 4, .int .i64 1, .int .i64 3, .int .i64 0, .bool false] 165] (fun _ : Unit => .int .i64 3) (fun _ => [cellsP g [.pointer (some ⟨p, 0, none⟩), .int .i64 2, .int .i64 4, .int .i64 1, .int .i64 3, .int .i64 0, .bool false] 165]) := fun p g => used_ct 2 4 1 3 0 false
  have cf1 : ∀ p g, Ct Tryd.prog W 66 [.pointer (some ⟨g, 0, none⟩), .int .i64 229] [cellsP g [.pointer (some ⟨p, 0, none⟩), .int .i64 2, .int .i64 4, .int .i64 1, .int .i64 3, .int .i64 0, .bool false] 165] (fun _ : Unit => .bool true) (fun _ => [cellsP g [.pointer (some ⟨p, 0, none⟩), .int .i64 2, .int .i64 4, .int .i64 1, .int .i64 3, .int .i64 0, .bool false] 165]) := fun p g => fits_ct 2 4 1 3 0 false 229 (by omega) (by omega) (by omega)
  have cf2 : ∀ p g, Ct Tryd.prog W 66 [.pointer (some ⟨g, 0, none⟩), .int .i64 230] [cellsP g [.pointer (some ⟨p, 0, none⟩), .int .i64 2, .int .i64 4, .int .i64 1, .int .i64 3, .int .i64 0, .bool false] 165] (fun _ : Unit => .bool false) (fun _ => [cellsP g [.pointer (some ⟨p, 0, none⟩), .int .i64 2, .int .i64 4, .int .i64 1, .int .i64 3, .int .i64 0, .bool false] 165]) := fun p g => fits_ct 2 4 1 3 0 false 230 (by omega) (by omega) (by omega)
  have cp : ∀ p, Ct Tryd.prog W 70 [.pointer (some ⟨p, 0, none⟩), .int .i64 2, .int .i64 4, .int .i64 1] [DiskP p JD2] (fun x : Nat × Nat => .tuple #[.slice (some ⟨x.1, 0, none⟩) 2 x.2, .nilIface]) (fun x => [DiskP p JD2, rowP (.slice (some ⟨x.1, 0, none⟩) 2 x.2) 9 1 2 [strV [97], strV RJ2]]) := fun p => by
    have h := replay_ct (W := W) (p := p) (D := JD2) hE8 hN 2 4 1 (by rw [JD2_n]; omega) JD2_o ⟨by omega, by omega, by rw [JD2_n]; omega, by rw [JD2_n]; omega, by omega, by omega, by omega⟩
    rw [show ((4 : Int).toNat + 1) = 5 from rfl, JD2_r] at h
    exact Ct.rowShape (by omega) h
  have cr3 : Ct Tryd.prog W 68 [.int .i64 230, .int .i64 2] [] (fun _ : Unit => strV RJ3) (fun _ => []) := record10_ct 230 2 (by omega)
  have ca3 : ∀ p g, Ct Tryd.prog W 67 [.pointer (some ⟨g, 0, none⟩), strV RJ3] [DiskP p JD2, cellsP g [.pointer (some ⟨p, 0, none⟩), .int .i64 2, .int .i64 4, .int .i64 1, .int .i64 3, .int .i64 0, .bool false] 165] (fun _ : Unit => errV E 17) (fun _ => [DiskP p JD2, cellsP g [.pointer (some ⟨p, 0, none⟩), .int .i64 2, .int .i64 4, .int .i64 1, .int .i64 3, .int .i64 0, .bool false] 165]) := fun p g =>
    append_full (W := W) (p := p) (g := g) (D := JD2) hE8 e17 hN 2 4 0 1 3 RJ3 (by rw [JD2_n]; omega) JD2_d (by omega) (by omega) (by rw [RJ3_l]; omega) (by rw [RJ3_l]; show ¬ ((2 : Int) ≤ 4 - 3); omega)
  have cn : Ct Tryd.prog W 35 [errV E 17] [] (fun _ : Unit => .int .i64 17) (fun _ => []) := num_ct hE hg 17 (by omega)
  have cc : Ct Tryd.prog W 61 [.int .i64 230] [] (fun _ : Unit => .int .i64 2) (fun _ => []) := cost_ct 230 (by omega)
  obtain ⟨D0, hD0⟩ : ∃ D, D = Dsk.blank 8 := ⟨_, rfl⟩
  obtain ⟨D1, hD1⟩ : ∃ D, D = JD1 := ⟨_, rfl⟩
  obtain ⟨D2, hD2⟩ : ∃ D, D = JD2 := ⟨_, rfl⟩
  obtain ⟨R2, hR2⟩ : ∃ r, r = RJ2 := ⟨_, rfl⟩
  obtain ⟨R3, hR3⟩ : ∃ r, r = RJ3 := ⟨_, rfl⟩
  simp only [← hD0, ← hD1, ← hD2, ← hR2, ← hR3] at c1 cb ca1 cr2 ca2 cp cr3 ca3
  clear hD0 hD1 hD2 hR2 hR3
  have hg0 : [strV [97], strV R2][0 + (0 : Int).toNat * 1]? = some (strV [97]) := rfl
  have hg1 : [strV [97], strV R2][0 + (1 : Int).toNat * 1]? = some (strV R2) := rfl
  refine Ct.enter Tryd.func60 rfl Tryd.ntmps60 (by simp) (fun R => ?_)
  repeat' (first 
    | (refine is_call ?_; first | (refine KJ_call xE cc xP rfl (fun _ => ?_)) | (refine KJ_call xE cn xP rfl (fun _ => ?_)) | (refine KJ_call xE (ca3 _ _) xP rfl (fun _ => ?_)) | (refine KJ_call xE cr3 xP rfl (fun _ => ?_)) | (refine KJ_call xE (cp _) xP rfl (fun x => ?_)) | (refine KJ_call xE (cf2 p g) xP rfl (fun _ => ?_)) | (refine KJ_call xE (cf1 p g) xP rfl (fun _ => ?_)) | (refine KJ_call xE (cu p g) xP rfl (fun _ => ?_)) | (refine KJ_call xE (ca2 _ _) xP rfl (fun _ => ?_)) | (refine KJ_call xE cr2 xP rfl (fun _ => ?_)) | (refine KJ_call xE (ca1 _ _) xP rfl (fun _ => ?_)) | (refine KJ_call xE (cb _) xP rfl (fun g => ?_)) | (refine KJ_call xE c1 xP rfl (fun p => ?_)))
    | (refine ek_load ?_; first | refine EK_ev (Ev_loadRow rfl xS hg1) ?_ | refine EK_ev (Ev_loadRow rfl xS hg0) ?_)
    | (refine ek_eql ?_; first | refine EK_ev (Ev_eqlS_t rfl rfl rfl) ?_ | refine EK_ev (Ev_eqlI_t rfl rfl rfl) ?_)
    | (refine ek_neq ?_; refine EK_ev (Ev_neqI_f rfl rfl rfl) ?_)
    | refine xst ?_
    | (refine xsa ?_; intro _)
    | (refine xsb ?_ ?_ <;> intro _ <;> first | (exfalso; omega) | skip)
    | refine xsc ?_
    | (refine KJ_draws (id := 8) (.op 0 (.op 1 (.op 2 (.op 3 (.op 4 (.op 5 (.op 6 (.op 7 (.op 8 (.op 9 (.op 10 (.op 11 (.op 12 (.op 13 (.op 14 (.op 15 (.op 16 (.ef 17 [16, 15, 14] (.op 18 (.op 19 (.op 20 (.op 21 (.ef 22 [21] (.ef 23 [] (.ef 24 [] (.op 25 (.op 26 (.op 27 (.ef 28 [] (.op 29 (.op 30 (.op 31 .nil)))))))))))))))))))))))))))))))) (by kernel_rfl) (by kernel_rfl) ?_)
    | refine FW_alt ?_ ?_
    | refine KJ_flow ?_ ?_
    | exact Rech.nil
    | fail)
  all_goals (exact xdn ())
end
end Go.Proofs.YteklldbfdmaafaaDoor
/-
  A journal's life and its crash, as plain data.
-/
namespace Go.Proofs.YteklldbfdmaafaaDoor
open Go Go.RowKit
set_option maxRecDepth 10000 in
/-- the last bytes written of a sector are what stands there when all is laid -/
theorem rd_lay (img : List UInt8) (n i : Nat) (hi : i < n) (hl : img.length = 256 * n) (u : List (Nat × List UInt8)) (hu : ∀ x ∈ u, x.1 < n ∧ x.2.length = 256) : (lastW u i).getD (cut img (i * 256) 256) = cut (layAll img u) (i * 256) 256 := by
  revert hu
  refine last_snoc_induction (P := fun u => (∀ x ∈ u, x.1 < n ∧ x.2.length = 256) → (lastW u i).getD (cut img (i * 256) 256) = cut (layAll img u) (i * 256) 256) (fun _ => rfl) ?_ u
  intro l x ih hu
  obtain ⟨j, b⟩ := x
  obtain ⟨h1, h2⟩ := hu (j, b) (by simp)
  dsimp only at h1 h2
  have hll := layAll_length l img n hl (fun x hx => hu x (by simp [hx]))
  rw [layAll_snoc, lastW_snoc]
  dsimp only
  by_cases hj : j = i
  · subst hj
    rw [if_pos rfl]
    have := cut_lay_same (layAll img l) b (j * 256) (by omega)
    rw [h2] at this
    exact this.symm
  · rw [if_neg hj, ih (fun x hx => hu x (by simp [hx]))]
    have hb : j * 256 + b.length ≤ (layAll img l).length := by omega
    rcases Nat.lt_or_ge i j with hlt | hge
    · have hh : i * 256 + 256 ≤ j * 256 := by omega
      exact (cut_lay_before _ _ _ _ _ hb hh).symm
    · have hh : j * 256 + b.length ≤ i * 256 := by omega
      exact (cut_lay_behind _ _ _ _ _ hb hh).symm

def wsJ (at_ v : Nat) : Nat → List (List UInt8) → List (Nat × List UInt8)
  | _, [] => []
  | k, p :: r => (at_ + k, sealB (stampN v k : Nat) p) :: wsJ at_ v (k + 1) r
theorem wsJ_length (at_ v : Nat) : ∀ (G : List (List UInt8)) (k : Nat), (wsJ at_ v k G).length = G.length := by
  intro G
  induction G with
  | nil => intro k; rfl
  | cons p G ih => intro k; simp [wsJ, ih]
theorem wsJ_app (at_ v : Nat) : ∀ (G F : List (List UInt8)) (k : Nat), wsJ at_ v k (G ++ F) = wsJ at_ v k G ++ wsJ at_ v (k + G.length) F := by
  intro G
  induction G with
  | nil => intro F k; rfl
  | cons p G ih =>
    intro F k
    show _ :: wsJ at_ v (k + 1) (G ++ F) = _ :: (wsJ at_ v (k + 1) G ++ _)
    rw [ih, List.length_cons, show k + 1 + G.length = k + (G.length + 1) by omega]
theorem wsJ_in (at_ v : Nat) : ∀ (G : List (List UInt8)) (k : Nat), (∀ p ∈ G, p.length ≤ 234) → ∀ x ∈ wsJ at_ v k G, at_ + k ≤ x.1 ∧ x.1 < at_ + k + G.length ∧ x.2.length = 256 := by
  intro G
  induction G with
  | nil => intro k _ x hx; cases hx
  | cons p G ih =>
    intro k hp x hx
    rcases List.mem_cons.1 hx with rfl | hx
    · exact ⟨Nat.le_refl _, by dsimp only; rw [List.length_cons]; omega, sealB_length _ _ (hp p (by simp))⟩
    · obtain ⟨h1, h2, h3⟩ := ih (k + 1) (fun q hq => hp q (by simp [hq])) x hx
      rw [List.length_cons]
      exact ⟨by omega, by omega, h3⟩
/-- each sector of pieces that were cut off -/
theorem torn_ws (at_ v N : Nat) (dn : Nat → Nat) (hd : ∀ k, dn k ≤ 256) : ∀ (G : List (List UInt8)) (k m s : Nat) (img : List UInt8), img.length = 256 * N → at_ + k + G.length ≤ N → (∀ p ∈ G, p.length ≤ 234) →
    ∀ j p, G[j]? = some p → ∃ d, d ≤ 256 ∧ cut (layAll img (cutP dn ((wsJ at_ v k G).take m) s)) ((at_ + k + j) * 256) 256 = tornB (sealB (stampN v (k + j) : Nat) p) (cut img ((at_ + k + j) * 256) 256) d ∧ ((∀ k, dn k = 256) → G.length ≤ m → d = 256) := by
  intro G
  induction G with
  | nil => intro k m s img _ _ _ j p hj; simp at hj
  | cons q G ih =>
    intro k m s img hl hn hp j p hj
    cases m with
    | zero => exact ⟨0, by omega, by simp [cutP, tornB, layAll], fun _ h => by simp at h⟩
    | succ m =>
      have hS := sealB_length (stampN v k : Nat) q (hp q (by simp))
      rw [List.length_cons] at hn
      show ∃ d, d ≤ 256 ∧ cut (layAll img (cutP dn (((at_ + k, sealB (stampN v k : Nat) q) :: wsJ at_ v (k + 1) G).take (m + 1)) s)) _ 256 = _ ∧ _
      rw [List.take_succ_cons, cutP_cons, layAll_cons]
      dsimp only
      have htl : ((sealB (stampN v k : Nat) q).take (dn s)).length = dn s := by rw [List.length_take]; have := hd s; omega
      have hb : (at_ + k) * 256 + ((sealB (stampN v k : Nat) q).take (dn s)).length ≤ img.length := by rw [htl]; have := hd s; omega
      cases j with
      | zero =>
        simp only [List.getElem?_cons_zero, Option.some.injEq] at hj
        subst hj
        refine ⟨dn s, hd s, ?_, fun h _ => h s⟩
        show cut _ ((at_ + k) * 256) 256 = tornB (sealB (stampN v k : Nat) q) (cut img ((at_ + k) * 256) 256) (dn s)
        rw [layAll_off N (at_ + k) _ _ (by rw [lay_length _ _ _ hb]; exact hl) (fun x hx => ?_)]
        · exact cut_lay_torn _ _ _ _ hS (hd s) (by omega)
        · obtain ⟨y, hy, e1, e2⟩ := cutP_in _ _ _ _ hx
          obtain ⟨h1, h2, h3⟩ := wsJ_in at_ v G (k + 1) (fun z hz => hp z (by simp [hz])) y (List.mem_of_mem_take hy)
          exact ⟨by omega, by omega, by omega⟩
      | succ j =>
        obtain ⟨d, h1, h2, h3⟩ := ih (k + 1) m (s + 1) (lay img ((at_ + k) * 256) ((sealB (stampN v k : Nat) q).take (dn s))) (by rw [lay_length _ _ _ hb]; exact hl) (by omega) (fun z hz => hp z (by simp [hz])) j p (by simpa using hj)
        refine ⟨d, h1, ?_, fun q1 q2 => h3 q1 (by simpa using q2)⟩
        have hbh : (at_ + k) * 256 + ((sealB (stampN v k : Nat) q).take (dn s)).length ≤ (at_ + (k + 1) + j) * 256 := by rw [htl]; have := hd s; omega
        rw [cut_lay_behind _ _ _ _ _ hb hbh] at h2
        rw [show at_ + k + (j + 1) = at_ + (k + 1) + j by omega, show k + (j + 1) = k + 1 + j by omega]
        exact h2
/-- the other sectors stay -/
theorem torn_ws_off (at_ v N : Nat) (dn : Nat → Nat) (G : List (List UInt8)) (k m s i : Nat) (img : List UInt8) (hl : img.length = 256 * N) (hn : at_ + k + G.length ≤ N) (hp : ∀ p ∈ G, p.length ≤ 234) (hi : i < at_ + k ∨ at_ + k + G.length ≤ i) :
    cut (layAll img (cutP dn ((wsJ at_ v k G).take m) s)) (i * 256) 256 = cut img (i * 256) 256 := by
  refine layAll_off N i _ _ hl fun x hx => ?_
  obtain ⟨y, hy, e1, e2⟩ := cutP_in _ _ _ _ hx
  obtain ⟨h1, h2, h3⟩ := wsJ_in at_ v G k hp y (List.mem_of_mem_take hy)
  exact ⟨by omega, by omega, by omega⟩

theorem wr_off {D : Dsk} (h : D.off = false) (i : Nat) (hi : i < D.n) (s : List UInt8) (hs : s.length = 256) : (D.writeE i s = 12 → (D.writeD i s).off = true) ∧ (D.writeD i s).life = D.life := by
  have hhas : D.has (i : Int) = true := by unfold Dsk.has; exact decide_eq_true (by omega)
  obtain ⟨n, img, und, off, armed, wr, fl, lf⟩ := D
  obtain rfl : off = false := h
  by_cases h0 : armed = 0
  · subst h0
    simp [Dsk.writeE, Dsk.writeD, Dsk.dead, Dsk.gone, hhas, hs]
  · by_cases hp : 0 < armed
    · simp [Dsk.writeE, Dsk.writeD, Dsk.dead, Dsk.gone, hhas, hs, h0, hp]
    · simp [Dsk.writeE, Dsk.writeD, Dsk.dead, Dsk.gone, hhas, hs, h0, hp]
theorem ap_ways (at_ v used : Nat) : ∀ (ps : List (List UInt8)) (i : Nat) (D : Dsk), D.off = false → D.ok → (∀ p ∈ ps, p.length ≤ 234) → at_ + used + i + ps.length ≤ D.n →
    (((apGo at_ v used ps i D).1 = true ∧ (apGo at_ v used ps i D).2.off = false ∧ (apGo at_ v used ps i D).2.und = D.und ++ wsJ at_ v (used + i) ps) ∨
      ((apGo at_ v used ps i D).1 = false ∧ (apGo at_ v used ps i D).2.off = true ∧ ∃ m, (apGo at_ v used ps i D).2.und = D.und ++ (wsJ at_ v (used + i) ps).take m)) ∧
    (apGo at_ v used ps i D).2.img = D.img ∧ (apGo at_ v used ps i D).2.n = D.n ∧ (apGo at_ v used ps i D).2.ok ∧ (apGo at_ v used ps i D).2.life = D.life := by
  intro ps
  induction ps with
  | nil => intro i D h1 h2 _ _; exact ⟨.inl ⟨rfl, h1, by show D.und = D.und ++ []; rw [List.append_nil]⟩, rfl, rfl, h2, rfl⟩
  | cons q ps ih =>
    intro i D h1 h2 hp hn
    rw [List.length_cons] at hn
    have hS := sealB_length (stampN v (used + i) : Nat) q (hp q (by simp))
    obtain ⟨w1, w2, w3, w4, -⟩ := write_ways h1 (at_ + used + i) (by omega) _ hS
    obtain ⟨w5, w6⟩ := wr_off h1 (at_ + used + i) (by omega) _ hS
    have hok := Dsk.writeD_ok h2 ((at_ + used + i : Nat) : Int) (sealB (stampN v (used + i) : Nat) q)
    have hadr : (at_ : Int) + (used : Nat) + (i : Nat) = ((at_ + used + i : Nat) : Int) := by omega
    have hu : apGo at_ v used (q :: ps) i D = if D.writeE ((at_ + used + i : Nat) : Int) (sealB (stampN v (used + i) : Nat) q) ≠ 0 then (false, D.writeD ((at_ + used + i : Nat) : Int) (sealB (stampN v (used + i) : Nat) q))
        else apGo at_ v used ps (i + 1) (D.writeD ((at_ + used + i : Nat) : Int) (sealB (stampN v (used + i) : Nat) q)) := by
      rw [← hadr]; rfl
    rw [hu]
    clear hu
    obtain ⟨D1, hD1⟩ : ∃ D1, D1 = D.writeD ((at_ + used + i : Nat) : Int) (sealB (stampN v (used + i) : Nat) q) := ⟨_, rfl⟩
    obtain ⟨e, he⟩ : ∃ e, e = D.writeE ((at_ + used + i : Nat) : Int) (sealB (stampN v (used + i) : Nat) q) := ⟨_, rfl⟩
    rw [← hD1] at w1 w2 w3 w4 w5 w6 hok ⊢
    rw [← he] at w1 w5 ⊢
    rcases w1 with ⟨a, b⟩ | a
    · rw [if_neg (by rw [a]; simp)]
      obtain ⟨r1, r2, r3, r4, r5⟩ := ih (i + 1) D1 b hok (fun x hx => hp x (by simp [hx])) (by rw [w4]; omega)
      have hcat : ∀ X : List (Nat × List UInt8), D1.und ++ X = D.und ++ ((at_ + (used + i), sealB (stampN v (used + i) : Nat) q) :: X) := fun X => by
        rw [w2, List.append_assoc, ← Nat.add_assoc at_ used i]; rfl
      refine ⟨?_, by rw [r2, w3], by rw [r3, w4], r4, by rw [r5, w6]⟩
      rcases r1 with ⟨c1, c2, c3⟩ | ⟨c1, c2, m, c3⟩
      · exact .inl ⟨c1, c2, by rw [c3, hcat]; rfl⟩
      · exact .inr ⟨c1, c2, m + 1, by rw [c3, hcat]; rfl⟩
    · rw [if_pos (by rw [a]; simp)]
      refine ⟨.inr ⟨rfl, w5 a, 1, ?_⟩, w3, w4, hok, w6⟩
      rw [w2, Nat.add_assoc at_ used i]
      rfl

/-- the sectors of a log: each piece whole, or it does not open -/
structure Seen (at_ n v : Nat) (rs : List (List UInt8)) (sy : Nat) (sec : Nat → List UInt8) : Prop where
  each : ∀ j p, (rs.flatMap pcsJ)[j]? = some p → sec (at_ + j) = sealB (stampN v j : Nat) p ∨ openS (stampN v j : Nat) (sec (at_ + j)) = none
  syn : ∀ j p, ((rs.take sy).flatMap pcsJ)[j]? = some p → sec (at_ + j) = sealB (stampN v j : Nat) p
  rest : ∀ j, (rs.flatMap pcsJ).length ≤ j → j < n → openS (stampN v j : Nat) (sec (at_ + j)) = none
  tails : ∀ j, j < n → getB ((sec (at_ + j)).drop 248) 8 ≤ (stampN v j : Nat)
theorem openS_tail {s : Nat} {raw : List UInt8} (hs : s < 2 ^ 64) (h : getB (raw.drop 248) 8 < (s : Int)) : openS s raw = none := by
  unfold openS
  split
  · rfl
  split
  · rfl
  split
  · rfl
  split
  · rename_i h234 heq
    exfalso
    have hpl : (openP raw).length ≤ 234 := by
      unfold openP
      rw [List.length_drop, List.length_take]
      omega
    have h1 := seal_getT s (openP raw) hpl hs
    rw [heq] at h1
    omega
  · rfl
theorem pcs_le_all (rs : List (List UInt8)) : ∀ p ∈ rs.flatMap pcsJ, p.length ≤ 234 := by
  intro p hp
  obtain ⟨r, _, hr⟩ := List.mem_flatMap.1 hp
  exact pcsJ_le r p hr
theorem stamp_lt {v j : Nat} (hv : v ≤ 1099511627776) (hj : j < 65536) : stampN v j < 2 ^ 64 := by unfold stampN; omega
/-- read back: some first ones, the synced ones among them, all if all is whole -/
theorem seen_read {at_ n v : Nat} {rs : List (List UInt8)} {sy : Nat} {sec : Nat → List UInt8} (hS : Seen at_ n v rs sy sec) (hv : 1 ≤ v ∧ v ≤ 1099511627776) (hn : n ≤ 60) (hG : (rs.flatMap pcsJ).length ≤ n) (hsm : ∀ r ∈ rs, r.length ≤ 3000) (hsy : sy ≤ rs.length)
    {D : Dsk} (hrd : ∀ j, j < n → D.readE ((at_ : Int) + (j : Nat)) = 0 ∧ D.readS ((at_ : Int) + (j : Nat)) = sec (at_ + j)) :
    ∃ m, sy ≤ m ∧ m ≤ rs.length ∧ rpGo D at_ (n : Nat) v (((n : Nat) : Int).toNat + 1) 0 [] = rs.take m ∧ ((∀ j p, (rs.flatMap pcsJ)[j]? = some p → sec (at_ + j) = sealB (stampN v j : Nat) p) → m = rs.length) := by
  have hpay : ∀ j, j < n → payO D at_ (n : Nat) v j = openS (stampN v j : Nat) (sec (at_ + j)) := by
    intro j hj
    obtain ⟨h1, h2⟩ := hrd j hj
    unfold payO
    rw [if_neg (by omega), h1, if_neg (by simp), h2]
  have hop : ∀ j p, p.length ≤ 234 → openS (stampN v j : Nat) (sealB (stampN v j : Nat) p) = some p := fun j p hp => seal_open (stampN v j) p hp (by unfold stampN; omega)
  have hlenr : rs.length ≤ (rs.flatMap pcsJ).length := by
    clear hS hrd hpay hop hG hsm hsy
    induction rs with
    | nil => simp
    | cons r rs ih =>
      rw [List.flatMap_cons, List.length_append, List.length_cons]
      have : 1 ≤ (pcsJ r).length := by unfold pcsJ; rw [List.length_cons]; omega
      omega
  have hz : payO D at_ (n : Nat) v (0 + (rs.flatMap pcsJ).length) = none := by
    rw [Nat.zero_add]
    by_cases h : (rs.flatMap pcsJ).length < n
    · rw [hpay _ h]; exact hS.rest _ (Nat.le_refl _) h
    · unfold payO; rw [if_pos (by omega)]
  obtain ⟨m, m1, m2, m3⟩ := rp_read (D := D) (at_ := at_) (n := (n : Nat)) (ver := v) rs 0 [] (((n : Nat) : Int).toNat + 1) (fun r hr => by have := hsm r hr; omega) (fun j p hj => by
    have hjl := (List.getElem?_eq_some_iff.1 hj).1
    rw [Nat.zero_add, hpay j (by omega)]
    rcases hS.each j p hj with h | h
    · rw [h]; exact .inl (hop j p (pcs_le_all rs p (List.mem_of_getElem? hj)))
    · exact .inr h) (by omega) hz (by omega)
  have hbad : ∀ j, j < ((rs.take (m + 1)).flatMap pcsJ).length → m < rs.length → payO D at_ (n : Nat) v (0 + j) = none → ∀ p, (rs.flatMap pcsJ)[j]? = some p → sec (at_ + j) ≠ sealB (stampN v j : Nat) p := by
    intro j hj hm hno p hp he
    have hjl := (List.getElem?_eq_some_iff.1 hp).1
    rw [Nat.zero_add, hpay j (by omega), he, hop j p (pcs_le_all rs p (List.mem_of_getElem? hp))] at hno
    cases hno
  have hsub : ∀ k j, j < ((rs.take k).flatMap pcsJ).length → (rs.flatMap pcsJ)[j]? = ((rs.take k).flatMap pcsJ)[j]? := by
    intro k j hj
    have e : rs.flatMap pcsJ = (rs.take k).flatMap pcsJ ++ (rs.drop k).flatMap pcsJ := by rw [← List.flatMap_append, List.take_append_drop]
    rw [e, List.getElem?_append_left hj]
  refine ⟨m, ?_, m1, by rw [m2]; rfl, fun hall => ?_⟩
  · rcases Nat.lt_or_ge m sy with h | h
    · exfalso
      obtain ⟨j, j1, j2⟩ := m3 (by omega)
      have hle : ((rs.take (m + 1)).flatMap pcsJ).length ≤ ((rs.take sy).flatMap pcsJ).length := by
        have e : (rs.take sy).flatMap pcsJ = (rs.take (m + 1)).flatMap pcsJ ++ ((rs.take sy).drop (m + 1)).flatMap pcsJ := by
          rw [← List.flatMap_append]
          congr 1
          conv => lhs; rw [← List.take_append_drop (m + 1) (rs.take sy)]
          rw [List.take_take, Nat.min_eq_left (by omega)]
        rw [e, List.length_append]; omega
      obtain ⟨p, hp⟩ : ∃ p, ((rs.take sy).flatMap pcsJ)[j]? = some p := ⟨_, List.getElem?_eq_getElem (by omega)⟩
      exact hbad j j1 (by omega) j2 p (by rw [hsub sy j (by omega)]; exact hp) (hS.syn j p hp)
    · exact h
  · rcases Nat.lt_or_ge m rs.length with h | h
    · exfalso
      obtain ⟨j, j1, j2⟩ := m3 h
      obtain ⟨p, hp⟩ : ∃ p, ((rs.take (m + 1)).flatMap pcsJ)[j]? = some p := ⟨_, List.getElem?_eq_getElem j1⟩
      have hp2 := (hsub (m + 1) j j1).trans hp
      exact hbad j j1 h j2 p hp2 (hall j p hp2)
    · omega
end Go.Proofs.YteklldbfdmaafaaDoor
