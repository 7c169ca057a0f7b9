/-
  Mem, Sep, Sx, Ops, Model, Laws, Cells, Acts, Region, Flow, Kinds, More, Wk.
-/
import Derived.WalkKit
import Derived.Deep.MidRow
import Derived.Deep.Quiet
import Derived.OrdersIn
import Derived.TacticsIn
import Derived.RangeFuncRecord
import Derived.Deep.WholeRow
import Derived.Laws.IdiomStrings
import Derived.Laws.CopyOwn
import Derived.Lib.SlBuf
import Derived.StillTailTactics
import Derived.Maps.AppendAt
import Derived.Laws.AppendOwnNone
import Derived.OrdersHeld
/-
  Frames: what a call leaves of the memory that was there. Plain lemmas on worlds, no program in sight.
-/
namespace Go.Proofs.YteklldbfdmaafaaDoor
open Go Go.RowKit
/-- Behind the call the memory is as it was but for the blocks of F and for new ones. -/
structure Fr (F : Nat → Prop) (w w' : World) : Prop where
  os : w'.os = w.os
  tape : w'.tape = w.tape
  output : w'.output = w.output
  size : w.heap.size ≤ w'.heap.size
  block : ∀ k, k < w.heap.size → ¬ F k → w'.heap[k]? = w.heap[k]?

/-- no block -/
def noB : Nat → Prop := fun _ => False

theorem Fr.refl (F : Nat → Prop) (w : World) : Fr F w w := ⟨rfl, rfl, rfl, Nat.le_refl _, fun _ _ _ => rfl⟩
theorem Fr.trans {F G : Nat → Prop} {a b c : World} (h : Fr F a b) (k : Fr G b c) (hG : ∀ i, G i → F i ∨ a.heap.size ≤ i) : Fr F a c :=
  ⟨k.os.trans h.os, k.tape.trans h.tape, k.output.trans h.output, Nat.le_trans h.size k.size, fun i hi hF =>
    (k.block i (Nat.lt_of_lt_of_le hi h.size) (fun g => by rcases hG i g with q | q; exact hF q; omega)).trans (h.block i hi hF)⟩
theorem Fr.mono {F G : Nat → Prop} {a b : World} (h : Fr F a b) (hG : ∀ i, F i → G i) : Fr G a b :=
  ⟨h.os, h.tape, h.output, h.size, fun i hi hn => h.block i hi (fun q => hn (hG i q))⟩
theorem Fr.trans' {F : Nat → Prop} {a b c : World} (h : Fr F a b) (k : Fr F b c) : Fr F a c := h.trans k fun _ q => .inl q
theorem Fr.drew {F : Nat → Prop} {a w : World} (h : Fr F a w) : Fr F a w.drew := ⟨h.os, h.tape, h.output, h.size, h.block⟩
theorem Fr.drewN {F : Nat → Prop} {a w : World} (h : Fr F a w) (n : Nat) : Fr F a (w.drewN n) := ⟨h.os, h.tape, h.output, h.size, h.block⟩
theorem Fr.alloc {F : Nat → Prop} {a w : World} (h : Fr F a w) (o : Obj) : Fr F a (w.alloc o) :=
  h.trans (G := noB) ⟨rfl, rfl, rfl, by simp, fun k hk _ => Below.heap_alloc _ _ _ hk⟩ (fun _ q => q.elim)
theorem Fr.setCell {F : Nat → Prop} {a w : World} (h : Fr F a w) {p : Addr} (hp : F p.block ∨ a.heap.size ≤ p.block) (u : Value) : Fr F a (w.setCell p u) :=
  h.trans (G := fun k => k = p.block) ⟨rfl, rfl, rfl, by simp [World.setCell], fun k _ hF => Below.heap_setCell _ _ _ _ hF⟩ (fun i q => by subst q; exact hp)
theorem Fr.setRow {F : Nat → Prop} {a w : World} (h : Fr F a w) {g : Nat} (hp : F g ∨ a.heap.size ≤ g) (cs : Array Value) : Fr F a (w.setRow g cs) :=
  h.trans (G := fun k => k = g) ⟨rfl, rfl, rfl, by simp [World.setRow], fun k _ hF => setRow_other w g k cs (by omega)⟩ (fun i q => by subst q; exact hp)
theorem Fr.grown {F : Nat → Prop} {a w w' : World} {row : Option Nat} (h : Fr F a w) (hg : w.grownBy w' row) (hr : ∀ k, row = some k → F k ∨ a.heap.size ≤ k) : Fr F a w' :=
  h.trans (G := fun k => row = some k) ⟨hg.os, hg.tape, hg.output, hg.size, fun k hk hF => hg.block k hk (fun e => hF e.symm)⟩ (fun i q => hr i q)
theorem Fr.below {F : Nat → Prop} {w w' : World} (h : Fr F w w') {B : Nat} (hB : B ≤ w.heap.size) (hF : ∀ k, F k → B ≤ k) : Below B w w' :=
  ⟨h.os, h.tape, h.output, h.size, fun k hk => h.block k (by omega) (fun q => by have := hF k q; omega)⟩
theorem Fr.cell {F : Nat → Prop} {w w' : World} (h : Fr F w w') {a : Addr} (ha : a.block < w.heap.size) (hF : ¬ F a.block) : w'.cell? a = w.cell? a :=
  World.cell?_of_block (w := w) (h.block a.block ha hF)
theorem Fr.frozen {F : Nat → Prop} {w w' : World} (h : Fr F w w') {a : Addr} (ha : a.block < w.heap.size) (hF : ¬ F a.block) : w'.frozen? a = w.frozen? a :=
  World.frozen?_of_block (w := w) (h.block a.block ha hF)
theorem Fr.setCells {F : Nat → Prop} {a w : World} (h : Fr F a w) {g : Nat} (hp : F g ∨ a.heap.size ≤ g) : ∀ (vs : List Value) (o : Nat), Fr F a (w.setCells g o vs) := by
  intro vs
  induction vs generalizing w with
  | nil => intro o; exact h
  | cons v vs ih => intro o; exact ih (h.setCell (p := ⟨g, o, none⟩) hp v) _

/-- A block that is known whole: its cells, writable. -/
def Blk (w : World) (b : Nat) (cs : List Value) (T : TypeId) : Prop := w.heap[b]? = some (.cells cs.toArray T (0, 0))
theorem Blk.lt {w : World} {b : Nat} {cs : List Value} {T : TypeId} (h : Blk w b cs T) : b < w.heap.size := by
  have := (Array.getElem?_eq_some_iff.1 h).1; exact this
theorem Blk.cell {w : World} {b : Nat} {cs : List Value} {T : TypeId} (h : Blk w b cs T) (j : Nat) : w.cell? ⟨b, j, none⟩ = cs[j]? := by
  rw [cell_of_row w b j _ T _ h]; simp
theorem Blk.free {w : World} {b : Nat} {cs : List Value} {T : TypeId} (h : Blk w b cs T) (j : Nat) : w.frozen? ⟨b, j, none⟩ = false := frozen_of_row w b j _ T h
theorem Blk.keep {w w' : World} {b : Nat} {cs : List Value} {T : TypeId} (h : Blk w b cs T) (e : w'.heap[b]? = w.heap[b]?) : Blk w' b cs T := e.trans h
theorem Blk.set {w : World} {b : Nat} {cs : List Value} {T : TypeId} (h : Blk w b cs T) (j : Nat) (v : Value) : Blk (w.setCell ⟨b, j, none⟩ v) b (cs.set j v) T := by
  have := heap_setCell_same w b j _ T v h
  unfold Blk
  rw [this]
  simp
theorem Blk.range {w : World} {b : Nat} {cs : List Value} {T : TypeId} (h : Blk w b cs T) {o n : Nat} : w.rangeAt b o ((cs.drop o).take n) := by
  intro j v hj
  rw [h.cell]
  rw [List.getElem?_take] at hj
  split at hj
  · rw [List.getElem?_drop] at hj; exact hj
  · cases hj
theorem Blk.there {w : World} {b : Nat} {cs : List Value} {T : TypeId} (h : Blk w b cs T) {o n : Nat} (hn : o + n ≤ cs.length) : w.there b o n := fun j hj =>
  ⟨by rw [h.cell, List.getElem?_eq_getElem (by omega)]; rfl, h.free _⟩

theorem Blk.row {w : World} {b : Nat} {cs : List Value} {T : TypeId} (h : Blk w b cs T) (cs' : List Value) : Blk (w.setRow b cs'.toArray) b cs' T := setRow_heap w b _ _ T _ h
theorem Blk.ne {w : World} {b b' : Nat} {cs cs' : List Value} {T T' : TypeId} (h : Blk w b cs T) (h' : Blk w b' cs' T') (hT : T ≠ T') : b ≠ b' := by
  intro e
  subst e
  unfold Blk at h h'
  rw [h] at h'
  simp at h'
  exact hT h'.2
theorem Blk.ne_map {w : World} {b b' : Nat} {cs : List Value} {T : TypeId} {es : Array MapEntry} {clock : Nat} (h : Blk w b cs T) (h' : w.heap[b']? = some (.map es clock)) : b' ≠ b := by
  intro e
  subst e
  unfold Blk at h
  rw [h] at h'
  simp at h'
theorem Blk.ne_row {w : World} {b g : Nat} {cs : List Value} {T : TypeId} {base : Nat} {e : TypeId} {size : Nat} {v : Value} {n : Nat} {xs : List Value} (h : Blk w b cs T) (h' : w.ownsRow base e size v n xs) (hg : v.ownBlock = some g) (hT : e ≠ T) : g ≠ b := by
  intro q
  subst q
  rcases h'.2 with h1 | ⟨g', cap, cur, hv, _, hh, _⟩
  · rw [h1.1] at hg; simp [Value.ownBlock] at hg
  · rw [hv] at hg; simp [Value.ownBlock] at hg; subst hg; unfold Blk at h; rw [h] at hh; simp at hh; exact hT hh.2.symm

theorem range_new (w : World) (l : List Value) (T : TypeId) : (w.alloc (.cells l.toArray T)).rangeAt w.heap.size 0 l := by
  intro j v hj
  rw [cell_of_row _ w.heap.size _ _ T _ (heap_alloc_new w _)]
  simpa using hj
/-- the cells that are owned, where they lie -/
theorem own_range {w : World} {base : Nat} {e : TypeId} {v : Value} {n : Nat} {xs : List Value} (h : w.ownsRow base e 1 v n xs) (hn : 0 < n) : ∃ g cap, v = .slice (some ⟨g, 0, none⟩) n cap ∧ g < w.heap.size ∧ w.rangeAt g 0 xs := by
  rcases h.2 with h1 | ⟨g, cap, cur, hv, _, hh, _, _, _, htk⟩
  · omega
  · refine ⟨g, cap, hv, (Array.getElem?_eq_some_iff.1 hh).1, fun j v hj => ?_⟩
    rw [cell_of_row w g _ _ _ _ hh]
    rw [← htk, List.getElem?_take] at hj
    split at hj
    · simpa using hj
    · cases hj
/-- cells of bytes -/
def bv (b : UInt8) : Value := .int .u8 b.toNat
def bvs (l : List UInt8) : List Value := l.map bv
@[simp] theorem bvs_length (l : List UInt8) : (bvs l).length = l.length := by simp [bvs]
theorem bvs_append (a b : List UInt8) : bvs (a ++ b) = bvs a ++ bvs b := by simp [bvs]
theorem bvs_take (a : List UInt8) (n : Nat) : (bvs a).take n = bvs (a.take n) := by simp [bvs, List.map_take]
theorem bvs_drop (a : List UInt8) (n : Nat) : (bvs a).drop n = bvs (a.drop n) := by simp [bvs, List.map_drop]
theorem bvs_one (l : List UInt8) : ∀ v ∈ bvs l, v.oneCell' = true := by
  intro v hv
  obtain ⟨b, _, rfl⟩ := List.mem_map.1 hv
  rfl
end Go.Proofs.YteklldbfdmaafaaDoor
/-
  Parts of memory: what a call owns, as a list of claims on blocks of its own. Plain lemmas on worlds, no program in sight.
-/
namespace Go.Proofs.YteklldbfdmaafaaDoor
open Go Go.RowKit
/-- a part of memory: some blocks and what lies there -/
abbrev Hl := Nat → Option Obj
def Hl.le (h g : Hl) : Prop := ∀ k o, h k = some o → g k = some o
def Hl.dj (h g : Hl) : Prop := ∀ k o, h k = some o → g k = none
def Hl.cup (h g : Hl) : Hl := fun k => (h k).or (g k)
def Hl.one (b : Nat) (o : Obj) : Hl := fun k => if k = b then some o else none

/-- a claim on a part of memory; the tag and the key tell two claims apart at a glance -/
structure SP where
  tag : Nat
  key : Nat
  ok : Hl → Prop

def starL : List SP → Hl → Prop
  | [], _ => True
  | A :: H, h => ∃ h1 h2, Hl.dj h1 h2 ∧ Hl.le h1 h ∧ Hl.le h2 h ∧ A.ok h1 ∧ starL H h2

theorem Hl.le.trans {a b c : Hl} (h : Hl.le a b) (k : Hl.le b c) : Hl.le a c := fun i o q => k i o (h i o q)
theorem Hl.le.rfl {a : Hl} : Hl.le a a := fun _ _ q => q
theorem Hl.dj.symm {h g : Hl} (H : Hl.dj h g) : Hl.dj g h := fun k o q => by
  cases hh : h k with
  | none => rfl
  | some o' => have := H k o' hh; rw [q] at this; cases this
theorem Hl.dj.mono {h g h' g' : Hl} (H : Hl.dj h g) (a : Hl.le h' h) (b : Hl.le g' g) : Hl.dj h' g' := fun k o q => by
  have := H k o (a k o q)
  cases hh : g' k with
  | none => rfl
  | some o' => rw [b k o' hh] at this; cases this
theorem Hl.le_cup_left {h g : Hl} : Hl.le h (Hl.cup h g) := fun k o q => by simp [Hl.cup, q]
theorem Hl.le_cup_right {h g : Hl} (H : Hl.dj h g) : Hl.le g (Hl.cup h g) := fun k o q => by simp [Hl.cup, H.symm k o q, q]
theorem Hl.cup_le {h g c : Hl} (a : Hl.le h c) (b : Hl.le g c) : Hl.le (Hl.cup h g) c := fun k o q => by
  unfold Hl.cup at q
  cases hh : h k with
  | none => rw [hh] at q; exact b k o q
  | some o' => rw [hh] at q; cases q; exact a k _ hh
theorem Hl.dj_cup {h g c : Hl} (a : Hl.dj h c) (b : Hl.dj g c) : Hl.dj (Hl.cup h g) c := fun k o q => by
  unfold Hl.cup at q
  cases hh : h k with
  | none => rw [hh] at q; exact b k o q
  | some o' => exact a k _ hh

theorem starL_le {H : List SP} : ∀ {h g : Hl}, Hl.le h g → starL H h → starL H g := by
  cases H with
  | nil => intros; trivial
  | cons A H => intro h g hg ⟨h1, h2, a, b, c, d, e⟩; exact ⟨h1, h2, a, b.trans hg, c.trans hg, d, e⟩
theorem starL_cons_mono {A : SP} {H H' : List SP} (f : ∀ h, starL H h → starL H' h) : ∀ h, starL (A :: H) h → starL (A :: H') h :=
  fun _ ⟨h1, h2, a, b, c, d, e⟩ => ⟨h1, h2, a, b, c, d, f _ e⟩
theorem starL_swap {A B : SP} {H : List SP} (h : Hl) : starL (A :: B :: H) h → starL (B :: A :: H) h := by
  intro ⟨h1, h2, a, b, c, d, h3, h4, a', b', c', d', e⟩
  have x1 : Hl.dj h1 h3 := a.mono .rfl b'
  have x2 : Hl.dj h1 h4 := a.mono .rfl c'
  exact ⟨h3, Hl.cup h1 h4, (Hl.dj_cup x1 a'.symm).symm, b'.trans c, Hl.cup_le b (c'.trans c), d', h1, h4, x2, Hl.le_cup_left, Hl.le_cup_right x2, d, e⟩
theorem starL_perm {H H' : List SP} (p : H.Perm H') : ∀ h, starL H h → starL H' h := by
  induction p with
  | nil => exact fun _ q => q
  | cons x _ ih => exact starL_cons_mono ih
  | swap x y l => exact starL_swap
  | trans _ _ ih1 ih2 => exact fun h q => ih2 h (ih1 h q)
theorem starL_append {A B : List SP} : ∀ h, starL (A ++ B) h ↔ ∃ h1 h2, Hl.dj h1 h2 ∧ Hl.le h1 h ∧ Hl.le h2 h ∧ starL A h1 ∧ starL B h2 := by
  induction A with
  | nil =>
    intro h
    constructor
    · intro q; exact ⟨fun _ => none, h, (fun _ _ q => by cases q), (fun _ _ q => by cases q), .rfl, trivial, q⟩
    · intro ⟨h1, h2, _, _, c, _, e⟩; exact starL_le c e
  | cons X A ih =>
    intro h
    constructor
    · intro ⟨h1, h2, a, b, c, d, e⟩
      obtain ⟨h3, h4, a', b', c', d', e'⟩ := (ih h2).1 e
      have x1 : Hl.dj h1 h3 := a.mono .rfl b'
      have x2 : Hl.dj h1 h4 := a.mono .rfl c'
      exact ⟨Hl.cup h1 h3, h4, Hl.dj_cup x2 a', Hl.cup_le b (b'.trans c), c'.trans c, ⟨h1, h3, x1, Hl.le_cup_left, Hl.le_cup_right x1, d, d'⟩, e'⟩
    · intro ⟨g1, g2, a, b, c, ⟨h1, h3, a', b', c', d', e'⟩, e⟩
      have x1 : Hl.dj h1 g2 := a.mono b' .rfl
      have x2 : Hl.dj h3 g2 := a.mono c' .rfl
      exact ⟨h1, Hl.cup h3 g2, (Hl.dj_cup a'.symm x1.symm).symm, b'.trans b, Hl.cup_le (c'.trans b) c, d', (ih _).2 ⟨h3, g2, x2, Hl.le_cup_left, Hl.le_cup_right x2, e', e⟩⟩

/-- the part h lies in the world w, above all that W had -/
def Lies (W w : World) (h : Hl) : Prop := ∀ k o, h k = some o → W.heap.size ≤ k ∧ w.heap[k]? = some o
/-- what was there when all began (W) is as it was, and H is owned -/
structure St (W : World) (H : List SP) (w : World) : Prop where
  below : Below W.heap.size W w
  own : ∃ h, starL H h ∧ Lies W w h

variable {W w w' : World}
theorem Lies.lt {h : Hl} (H : Lies W w h) {k : Nat} {o : Obj} (q : h k = some o) : k < w.heap.size := (Array.getElem?_eq_some_iff.1 (H k o q).2).1
theorem Lies.mono {h g : Hl} (H : Lies W w g) (le : Hl.le h g) : Lies W w h := fun k o q => H k o (le k o q)
theorem St.start (W : World) : St W [] W := ⟨.refl _ _, fun _ => none, trivial, fun _ _ q => by cases q⟩
theorem St.perm {H H' : List SP} (s : St W H w) (p : H.Perm H') : St W H' w := ⟨s.below, s.own.imp fun _ q => ⟨starL_perm p _ q.1, q.2⟩⟩
theorem St.mono {H H' : List SP} (s : St W H w) (f : ∀ h, starL H h → starL H' h) : St W H' w := ⟨s.below, s.own.imp fun _ q => ⟨f _ q.1, q.2⟩⟩
theorem St.right {A B : List SP} (s : St W (A ++ B) w) : St W B w := by
  obtain ⟨h, a, l⟩ := s.own
  obtain ⟨h1, h2, _, _, le, _, b⟩ := (starL_append h).1 a
  exact ⟨s.below, h2, b, l.mono le⟩
theorem St.left {A B : List SP} (s : St W (A ++ B) w) : St W A w := by
  obtain ⟨h, a, l⟩ := s.own
  obtain ⟨h1, h2, _, le, _, b, _⟩ := (starL_append h).1 a
  exact ⟨s.below, h1, b, l.mono le⟩
theorem St.size {H : List SP} (s : St W H w) : W.heap.size ≤ w.heap.size := s.below.size
theorem St.drawn {H : List SP} (s : St W H w) (n : Nat) : St W H { w with drawn := n } := ⟨⟨s.below.os, s.below.tape, s.below.output, s.below.size, s.below.block⟩, s.own⟩

/-- One step that touches the part A alone, and makes B of it. -/
theorem St.act {A B H : List SP} (s : St W (A ++ H) w) (os : w'.os = w.os) (tape : w'.tape = w.tape) (output : w'.output = w.output) (size : w.heap.size ≤ w'.heap.size)
    (hact : ∀ h1, starL A h1 → Lies W w h1 → ∃ h2, starL B h2 ∧ (∀ k o, h2 k = some o → w'.heap[k]? = some o) ∧ (∀ k o, h2 k = some o → (∃ o', h1 k = some o') ∨ w.heap.size ≤ k) ∧ (∀ k, k < w.heap.size → h1 k = none → w'.heap[k]? = w.heap[k]?)) : St W (B ++ H) w' := by
  obtain ⟨h, a, l⟩ := s.own
  obtain ⟨h1, h2, dj, le1, le2, hA, hH⟩ := (starL_append h).1 a
  obtain ⟨g, hB, q1, q2, q3⟩ := hact h1 hA (l.mono le1)
  have lw : ∀ k o, h k = some o → k < w.heap.size := fun k o q => l.lt q
  have djg : Hl.dj g h2 := fun k o q => by
    rcases q2 k o q with ⟨o', ho'⟩ | hk
    · exact dj k o' ho'
    · cases hh : h2 k with
      | none => rfl
      | some o' => have := lw k o' (le2 k o' hh); omega
  refine ⟨s.below.trans ⟨os, tape, output, size, fun k hk => q3 k (by have := s.size; omega) ?_⟩, Hl.cup g h2, (starL_append _).2 ⟨g, h2, djg, Hl.le_cup_left, Hl.le_cup_right djg, hB, hH⟩, fun k o q => ?_⟩
  · cases hh : h1 k with
    | none => rfl
    | some o => have := (l k o (le1 k o hh)).1; omega
  · unfold Hl.cup at q
    cases hg : g k with
    | none =>
      rw [hg] at q
      have q : h2 k = some o := by simpa using q
      have l2 := l k o (le2 k o q)
      refine ⟨l2.1, (q3 k (lw k o (le2 k o q)) ?_).trans l2.2⟩
      exact dj.symm k o q
    | some o' =>
      rw [hg] at q
      have q : o' = o := by simpa using q
      subst q
      refine ⟨?_, q1 k o' hg⟩
      rcases q2 k o' hg with ⟨o2, h2'⟩ | hk
      · exact (l k o2 (le1 k o2 h2')).1
      · have := s.size; omega

/-- the parts that A and H own -/
theorem St.split {A H : List SP} (s : St W (A ++ H) w) : ∃ h1 h2, Hl.dj h1 h2 ∧ starL A h1 ∧ starL H h2 ∧ Lies W w h1 ∧ Lies W w h2 := by
  obtain ⟨h, a, l⟩ := s.own
  obtain ⟨h1, h2, dj, le1, le2, hA, hH⟩ := (starL_append h).1 a
  exact ⟨h1, h2, dj, hA, hH, l.mono le1, l.mono le2⟩
/-- behind a step that touches h1 alone, and makes g of it -/
theorem St.join {B H : List SP} {h1 h2 g : Hl} (sb : Below W.heap.size W w) (dj : Hl.dj h1 h2) (hH : starL H h2) (l1 : Lies W w h1) (l2 : Lies W w h2) (hB : starL B g) (os : w'.os = w.os) (tape : w'.tape = w.tape) (output : w'.output = w.output) (size : w.heap.size ≤ w'.heap.size)
    (q1 : ∀ k o, g k = some o → w'.heap[k]? = some o) (q2 : ∀ k o, g k = some o → (∃ o', h1 k = some o') ∨ w.heap.size ≤ k) (q3 : ∀ k, k < w.heap.size → h1 k = none → w'.heap[k]? = w.heap[k]?) : St W (B ++ H) w' := by
  have djg : Hl.dj g h2 := fun k o q => by
    rcases q2 k o q with ⟨o', ho'⟩ | hk
    · exact dj k o' ho'
    · cases hh : h2 k with
      | none => rfl
      | some o' => have := l2.lt hh; omega
  refine ⟨sb.trans ⟨os, tape, output, size, fun k hk => q3 k (by have := sb.size; omega) ?_⟩, Hl.cup g h2, (starL_append _).2 ⟨g, h2, djg, Hl.le_cup_left, Hl.le_cup_right djg, hB, hH⟩, fun k o q => ?_⟩
  · cases hh : h1 k with
    | none => rfl
    | some o => have := (l1 k o hh).1; omega
  · unfold Hl.cup at q
    cases hg : g k with
    | none =>
      rw [hg] at q
      have q : h2 k = some o := by simpa using q
      have h3 := l2 k o q
      refine ⟨h3.1, (q3 k (l2.lt q) ?_).trans h3.2⟩
      exact dj.symm k o q
    | some o' =>
      rw [hg] at q
      have q : o' = o := by simpa using q
      subst q
      refine ⟨?_, q1 k o' hg⟩
      rcases q2 k o' hg with ⟨o2, h2'⟩ | hk
      · exact (l1 k o2 h2').1
      · have := sb.size; omega

/-- a block known whole -/
def cellsP (b : Nat) (cs : List Value) (T : TypeId) : SP := ⟨0, b, fun h => h b = some (.cells cs.toArray T (0, 0))⟩
/-- an object of another kind (a map) -/
def objP (b : Nat) (o : Obj) : SP := ⟨1, b, fun h => h b = some o⟩
/-- a slice's row: nil, or a row of its own whose first cells are known -/
def rowP (v : Value) (e : TypeId) (size n : Nat) (xs : List Value) : SP := ⟨2, 0, fun h => xs.length = n * size ∧
  ((v = .slice none 0 0 ∧ n = 0) ∨ ∃ g cap cur, v = .slice (some ⟨g, 0, none⟩) n cap ∧ h g = some (.cells cur e (0, 0)) ∧ n ≤ cap ∧ cap ≤ maxLen ∧ cur.size = cap * size ∧ cur.toList.take (n * size) = xs)⟩
/-- a plain fact among the claims -/
def factP (p : Prop) : SP := ⟨3, 0, fun _ => p⟩

theorem starL_one {A : SP} {h : Hl} (q : A.ok h) : starL [A] h := ⟨h, fun _ => none, (fun _ _ _ => rfl), .rfl, (fun _ _ q => by cases q), q, trivial⟩
theorem starL_one' {A : SP} (up : ∀ h g, Hl.le h g → A.ok h → A.ok g) {h : Hl} (q : starL [A] h) : A.ok h := by
  obtain ⟨h1, _, _, le, _, a, _⟩ := q
  exact up _ _ le a
theorem cellsP_up {b : Nat} {cs : List Value} {T : TypeId} : ∀ h g, Hl.le h g → (cellsP b cs T).ok h → (cellsP b cs T).ok g := fun _ _ le q => le _ _ q
theorem objP_up {b : Nat} {o : Obj} : ∀ h g, Hl.le h g → (objP b o).ok h → (objP b o).ok g := fun _ _ le q => le _ _ q
theorem rowP_up {v : Value} {e : TypeId} {size n : Nat} {xs : List Value} : ∀ h g, Hl.le h g → (rowP v e size n xs).ok h → (rowP v e size n xs).ok g := by
  intro h g le ⟨l, q⟩
  refine ⟨l, ?_⟩
  rcases q with q | ⟨g', cap, cur, a, b, c⟩
  · exact .inl q
  · exact .inr ⟨g', cap, cur, a, le _ _ b, c⟩
theorem Hl.one_self (b : Nat) (o : Obj) : Hl.one b o b = some o := by simp [Hl.one]
theorem Hl.one_some {b k : Nat} {o o' : Obj} (h : Hl.one b o k = some o') : k = b ∧ o' = o := by
  unfold Hl.one at h
  split at h
  · cases h; exact ⟨by assumption, rfl⟩
  · cases h

/-- one of the claims, and the others -/
inductive Sel (A : SP) : List SP → List SP → Prop
  | here {H : List SP} : Sel A (A :: H) H
  | there {B : SP} {H H' : List SP} : Sel A H H' → Sel A (B :: H) (B :: H')
theorem Sel.perm {A : SP} {H H' : List SP} (s : Sel A H H') : H.Perm (A :: H') := by
  induction s with
  | here => exact .refl _
  | there _ ih => exact (List.Perm.cons _ ih).trans (.swap _ _ _)
/-- one of the claims gives way to another -/
inductive Rep (A A' : SP) : List SP → List SP → Prop
  | here {H : List SP} : Rep A A' (A :: H) (A' :: H)
  | there {B : SP} {H H' : List SP} : Rep A A' H H' → Rep A A' (B :: H) (B :: H')
theorem Rep.split {A A' : SP} {H H' : List SP} (s : Rep A A' H H') : ∃ R, H.Perm (A :: R) ∧ (A' :: R).Perm H' := by
  induction s with
  | here => exact ⟨_, .refl _, .refl _⟩
  | there _ ih =>
    obtain ⟨R, p, q⟩ := ih
    exact ⟨_ :: R, (List.Perm.cons _ p).trans (.swap _ _ _), (List.Perm.swap _ _ _).trans (List.Perm.cons _ q)⟩
/-- some of the claims, and the others -/
inductive Pick : List SP → List SP → List SP → Prop
  | nil {H : List SP} : Pick [] H H
  | cons {A : SP} {As H H1 H2 : List SP} : Sel A H H1 → Pick As H1 H2 → Pick (A :: As) H H2
theorem Pick.perm {As H R : List SP} (p : Pick As H R) : H.Perm (As ++ R) := by
  induction p with
  | nil => exact .refl _
  | cons s _ ih => exact s.perm.trans (List.Perm.cons _ ih)

theorem xS {A : SP} {H R : List SP} (h : Sel A H R := by (repeat' (first | exact Sel.here | apply Sel.there)); first | done | fail) : Sel A H R := h
theorem xR {A B : SP} {H R : List SP} (h : Rep A B H R := by (repeat' (first | exact Rep.here | apply Rep.there)); first | done | fail) : Rep A B H R := h
theorem xP {As H R : List SP} (h : Pick As H R := by (repeat' (first | exact Pick.nil | apply Pick.cons | exact Sel.here | apply Sel.there)); first | done | fail) : Pick As H R := h
theorem St.sel {A : SP} {H R : List SP} (s : St W H w) (p : Sel A H R) (up : ∀ h g, Hl.le h g → A.ok h → A.ok g) : ∃ h, A.ok h ∧ Lies W w h := by
  obtain ⟨h, a, l⟩ := ((s.perm p.perm).left (A := [A])).own
  exact ⟨h, starL_one' up a, l⟩
theorem St.blk {b : Nat} {cs : List Value} {T : TypeId} {H R : List SP} (s : St W H w) (p : Sel (cellsP b cs T) H R) : W.heap.size ≤ b ∧ Blk w b cs T := by
  obtain ⟨h, a, l⟩ := s.sel p cellsP_up
  exact l b _ a
theorem St.obj {b : Nat} {o : Obj} {H R : List SP} (s : St W H w) (p : Sel (objP b o) H R) : W.heap.size ≤ b ∧ w.heap[b]? = some o := by
  obtain ⟨h, a, l⟩ := s.sel p objP_up
  exact l b _ a
theorem St.row {v : Value} {e : TypeId} {size n : Nat} {xs : List Value} {H R : List SP} (s : St W H w) (p : Sel (rowP v e size n xs) H R) : w.ownsRow W.heap.size e size v n xs := by
  obtain ⟨h, ⟨q, a⟩, l⟩ := s.sel p rowP_up
  refine ⟨q, ?_⟩
  rcases a with a | ⟨g, cap, cur, a, b, c⟩
  · exact .inl a
  · exact .inr ⟨g, cap, cur, a, (l g _ b).1, (l g _ b).2, c⟩
theorem St.fact {p : Prop} {H R : List SP} (s : St W H w) (q : Sel (factP p) H R) : p := by
  obtain ⟨h, a, _⟩ := s.sel q (fun _ _ _ x => x)
  exact a
/-- a block of one's own turns, and nothing else -/
theorem St.turn {b : Nat} {o o' : Obj} {A A' : SP} {H H' : List SP} (s : St W H w) (r : Rep A A' H H') (hA : ∀ h, A.ok h → h b = some o) (hA' : A'.ok (Hl.one b o'))
    (os : w'.os = w.os) (tape : w'.tape = w.tape) (output : w'.output = w.output) (size : w'.heap.size = w.heap.size) (hb : w'.heap[b]? = some o') (hk : ∀ k, k ≠ b → w'.heap[k]? = w.heap[k]?) : St W H' w' := by
  obtain ⟨R, p, q⟩ := r.split
  refine St.perm (St.act (A := [A]) (B := [A']) (H := R) (s.perm p) os tape output (by omega) ?_) q
  intro h1 ⟨h, _, _, le, _, a, _⟩ l
  refine ⟨Hl.one b o', starL_one hA', fun k x hx => ?_, fun k x hx => ?_, fun k _ hn => hk k ?_⟩
  · obtain ⟨rfl, rfl⟩ := Hl.one_some hx; exact hb
  · obtain ⟨rfl, rfl⟩ := Hl.one_some hx; exact .inl ⟨_, le _ _ (hA _ a)⟩
  · intro e; subst e; rw [le _ _ (hA _ a)] at hn; cases hn
theorem St.setRow {b : Nat} {cs cs' : List Value} {T : TypeId} {H H' : List SP} (s : St W H w) (r : Rep (cellsP b cs T) (cellsP b cs' T) H H') : St W H' (w.setRow b cs'.toArray) := by
  have hb : Blk w b cs T := by
    obtain ⟨R, p, _⟩ := r.split
    exact ((s.perm p).blk .here).2
  exact s.turn r (fun h q => q) (Hl.one_self _ _) rfl rfl rfl (by simp [World.setRow]) (hb.row cs') (fun k hk => setRow_other w b k _ hk)
theorem St.setCell {b j : Nat} {cs : List Value} {v : Value} {T : TypeId} {H H' : List SP} (s : St W H w) (r : Rep (cellsP b cs T) (cellsP b (cs.set j v) T) H H') : St W H' (w.setCell ⟨b, j, none⟩ v) := by
  have hb : Blk w b cs T := by
    obtain ⟨R, p, _⟩ := r.split
    exact ((s.perm p).blk .here).2
  exact s.turn r (fun h q => q) (Hl.one_self _ _) rfl rfl rfl (by simp [World.setCell]) (hb.set j v) (fun k hk => Below.heap_setCell _ _ _ _ hk)
theorem St.alloc {A : SP} {o : Obj} {H : List SP} (s : St W H w) (hA : A.ok (Hl.one w.heap.size o)) : St W (A :: H) (w.alloc o) := by
  refine St.act (A := []) (B := [A]) (H := H) s rfl rfl rfl (by simp) ?_
  intro h1 _ _
  refine ⟨Hl.one w.heap.size o, starL_one hA, fun k x hx => ?_, fun k x hx => ?_, fun k hk _ => Below.heap_alloc _ _ _ hk⟩
  · obtain ⟨rfl, rfl⟩ := Hl.one_some hx; exact heap_alloc_new w _
  · obtain ⟨rfl, rfl⟩ := Hl.one_some hx; exact .inr (Nat.le_refl _)
theorem St.new {cs : List Value} {T : TypeId} {H : List SP} (s : St W H w) : St W (cellsP w.heap.size cs T :: H) (w.alloc (.cells cs.toArray T)) := s.alloc (Hl.one_self _ _)
/-- what was there when all began reads as it did -/
theorem St.old {H : List SP} (s : St W H w) {a : Addr} {v : Value} (h : W.cell? a = some v) : w.cell? a = some v := by
  have hb : a.block < W.heap.size := World.block_lt_of_cell? W a h
  rw [s.below.cell hb]; exact h
end Go.Proofs.YteklldbfdmaafaaDoor
/-
  The walk over code by slots that are known and parts that are owned: one rule a form of code, one rule an operation.
-/
namespace Go.Proofs.YteklldbfdmaafaaDoor
open Go Go.RowKit
/-- what the program says of its types and functions, found by their numbers -/
class UIs (P : Program) (t : TypeId) (d : outParam TypeDesc) : Prop where h : P.underlying t = some d
class SzIs (P : Program) (t : TypeId) (m : outParam Nat) : Prop where h : (P.info? t).map (·.size) = some m
class ByIs (P : Program) (t : TypeId) (m : outParam Nat) : Prop where h : (P.info? t).map (·.bytes) = some m
class ZcIs (P : Program) (t : TypeId) (zs : outParam (List Value)) : Prop where h : (P.info? t).map (fun i => i.zero.map (·.cells)) = some (some zs.toArray)
class FnIs (P : Program) (f : FuncId) : Prop where h : (P.funcs[f]?).map (fun fn => fn.body.isSome && fn.name != "runtime.NumGoroutine") = some true
def isAggD : TypeDesc → Bool
  | .struct _ => true
  | .array _ _ => true
  | _ => false
/-- of one cell | of several -/
class ScIs (P : Program) (t : TypeId) : Prop where h : ∃ d, P.underlying t = some d ∧ isAggD d = false
class AgIs (P : Program) (t : TypeId) : Prop where h : ∃ d, P.underlying t = some d ∧ isAggD d = true
/-- a field: its type and its first cell -/
class FldIs (P : Program) (t : TypeId) (f : Nat) (ft off : outParam Nat) : Prop where h : ∃ fs fd, P.underlying t = some (.struct fs) ∧ fs[f]? = some fd ∧ fd.type = ft ∧ fd.offset = off

abbrev Env := List (Nat × Value)
def Env.at : Env → Nat → Option Value
  | [], _ => none
  | (k, v) :: E, t => bif Nat.beq k t then some v else Env.at E t
def Env.ev (E : Env) : Operand → Option Value
  | .tmp t => Env.at E t
  | .const v => some v
  | .global g => some (.pointer (some ⟨g, 0, none⟩))
  | .func f => some (.func (.func f) #[] #[])
def Env.put (E : Env) : Option Tmp → Value → Env
  | some d, v => (d, v) :: E
  | none, _ => E
inductive Evs (E : Env) : List Operand → List Value → Prop
  | nil : Evs E [] []
  | cons {x : Operand} {v : Value} {xs : List Operand} {vs : List Value} : Env.ev E x = some v → Evs E xs vs → Evs E (x :: xs) (v :: vs)
inductive Subs (E : Env) : Env → Prop
  | nil : Subs E []
  | cons {t : Nat} {v : Value} {E' : Env} : Env.at E t = some v → Subs E E' → Subs E ((t, v) :: E')

theorem xE {E : Env} {xs : List Operand} {vs : List Value} (h : Evs E xs vs := by (repeat' (first | exact Evs.nil | refine Evs.cons rfl ?_)); first | done | fail) : Evs E xs vs := h
theorem xB {E E' : Env} (h : Subs E E' := by (repeat' (first | exact Subs.nil | refine Subs.cons rfl ?_)); first | done | fail) : Subs E E' := h
structure Hd (n : Nat) (E : Env) (a : Act) : Prop where
  size : a.tmps.size = n
  at_ : ∀ t v, Env.at E t = some v → a.tmps[t]? = some v
def dstOk (n : Nat) : Option Tmp → Bool
  | some d => Nat.blt d n
  | none => true

section
variable {n : Nat} {E : Env} {a : Act}
theorem Hd.ev (h : Hd n E a) {x : Operand} {v : Value} (q : Env.ev E x = some v) : a.eval x = v := by
  cases x with
  | tmp t => have := h.at_ t v q; simp [Act.eval, this]
  | const u => cases q; rfl
  | global g => cases q; rfl
  | func f => cases q; rfl
theorem Hd.evs (h : Hd n E a) {xs : List Operand} {vs : List Value} (q : Evs E xs vs) : xs.map a.eval = vs := by
  induction q with
  | nil => rfl
  | cons e _ ih => rw [List.map_cons, ih, h.ev e]
theorem Env.at_cons (k : Nat) (v : Value) (E : Env) (t : Nat) : Env.at ((k, v) :: E) t = if k = t then some v else Env.at E t := by
  show (bif Nat.beq k t then some v else Env.at E t) = _
  by_cases h : k = t
  · subst h; simp
  · have : Nat.beq k t = false := by cases q : Nat.beq k t with
      | false => rfl
      | true => exact absurd (Nat.eq_of_beq_eq_true q) h
    simp [this, h]
theorem Env.at_self (t : Nat) (v : Value) (E : Env) : Env.at ((t, v) :: E) t = some v := by rw [Env.at_cons, if_pos rfl]
theorem Hd.put (h : Hd n E a) {d : Option Tmp} (hd : dstOk n d = true) (v : Value) : Hd n (Env.put E d v) (a.put d v) := by
  cases d with
  | none => exact h
  | some d =>
    have hd : d < n := Nat.le_of_ble_eq_true hd
    refine ⟨by simp [Act.put, h.size], fun t u q => ?_⟩
    have q : (if d = t then some v else Env.at E t) = some u := by rw [← Env.at_cons]; exact q
    by_cases e : d = t
    · subst e
      simp at q; subst q
      simp [Act.put, h.size, hd]
    · rw [if_neg e] at q
      show (a.tmps.setIfInBounds d v)[t]? = _
      rw [Array.getElem?_setIfInBounds_ne e]
      exact h.at_ t u q
theorem Subs.at (E E' : Env) (s : Subs E E') : ∀ t v, Env.at E' t = some v → Env.at E t = some v := by
  induction s with
  | nil => intro t v q; cases q
  | cons e _ ih =>
    intro t v q
    rw [Env.at_cons] at q
    split at q
    · rename_i h; subst h; cases q; exact e
    · exact ih t v q
theorem Hd.subs (h : Hd n E a) {E' : Env} (s : Subs E E') : Hd n E' a := ⟨h.size, fun t v q => h.at_ t v (Subs.at _ _ s t v q)⟩
end
/-- the frames of which the walk speaks: all; ro: the round that the frame is of -/
abbrev fen (ro : Option Nat) : Fence := { fn := fun _ => True, depth := none, alive := false, round := ro }
/-- what an operation's run must come to; no deferred call, no panic -/
def uponP (P : Program) (o : Oper) (a : Act) (next : Act → World → Prop) : Result Next → Prop
  | .ok (.value v) w' => next (a.put o.dst v) w'
  | .ok .skip w' => next (a.put o.dst undef) w'
  | .ok (.enter f args) w' => Calls P f args w' fun e w'' => ∃ v, e = .returned v ∧ next (a.put o.dst v) w''
  | .ok (.round l f tmps assign body) w' => RoundIn Fence.wide 0 P l f tmps assign body w' fun e w'' => ∃ v, e = .returned v ∧ next (a.put o.dst v) w''
  | _ => False
theorem semAt_of {P : Program} {o : Oper} {a : Act} {w : World} {next : Act → World → Prop} (ro : Option Nat) (h : uponP P o a next ((execOp a.eval o).run P w)) : o.semAt ro a.eval = execOp a.eval o := by
  unfold Oper.semAt
  cases ro with
  | none => rfl
  | some l =>
    cases ho : o.op with
    | defer c =>
      exfalso
      simp only [execOp, ho, Sem.run_bind, Sem.run_pure] at h
      cases hr : (resolve a.eval c o.type).run P w <;> simp [hr, Result.andThen, uponP] at h
    | _ => rfl
theorem uponP.mono {P : Program} {o : Oper} {a : Act} {next next' : Act → World → Prop} {r : Result Next} (h : uponP P o a next r) (f : ∀ a w, next a w → next' a w) : uponP P o a next' r := by
  unfold uponP at h ⊢
  split
  · exact f _ _ h
  · exact f _ _ h
  · exact h.mono fun e w ⟨v, he, hn⟩ => ⟨v, he, f _ _ hn⟩
  · exact h.mono fun e w ⟨v, he, hn⟩ => ⟨v, he, f _ _ hn⟩
  · simp_all
theorem uponP.wpIn {P : Program} {o : Oper} {a : Act} {w : World} {next : Act → World → Prop} (ro : Option Nat) (Q : Exit → Act → World → Prop) (h : uponP P o a next ((execOp a.eval o).run P w)) : o.wpIn (fen ro) 0 P a w next Q := by
  refine ⟨fun _ _ => trivial, ?_⟩
  show o.uponIn (fen ro) 0 P a next Q ((o.semAt ro a.eval).run P w)
  rw [semAt_of ro h]
  generalize (execOp a.eval o).run P w = r at h
  unfold uponP at h
  split at h
  · exact h
  · exact h
  · refine ⟨fun e => by simp at e, ?_⟩
    exact (callsIn_wide (n := 0)).2 (h.mono fun e w ⟨v, he, hn⟩ => by subst he; exact hn)
  · refine ⟨fun e => by simp at e, ?_⟩
    exact RoundIn.mono (F := Fence.wide) h fun e w ⟨v, he, hn⟩ => by subst he; exact hn
  · exact h.elim
/-- what is to be done at an exit: spelled, so that the rules find it by its form -/
inductive QQ where
  | top (Q : Exit → Act → World → Prop)
  | rnd (l : Nat) (Q : Exit → Act → World → Prop)
  | seq (P : Program) (y : Code) (q : QQ)
  | thn (K : Act → World → Prop) (q : QQ)
  | blk (id : Nat) (q : QQ)
def QQ.ro : QQ → Option Nat
  | .top _ => none
  | .rnd l _ => some l
  | .seq _ _ q => q.ro
  | .thn _ q => q.ro
  | .blk _ q => q.ro
def QQ.den : QQ → Exit → Act → World → Prop
  | .top Q => Q
  | .rnd _ Q => Q
  | .seq P y q => Exit.then (y.wpIn (fen q.ro) 0 P q.den) q.den
  | .thn K q => Exit.then K q.den
  | .blk id q => Exit.inBlock id q.den
inductive KK where
  | code (P : Program) (c : Code) (q : QQ)
  | list (P : Program) (ops : Array Oper) (q : QQ) (l : List Oper)
  | oper (P : Program) (op : Op) (d : Option Tmp) (k : KK)
  | ex (q : QQ) (e : Exit)
  | raw (K : Act → World → Prop)
def KK.den : KK → Act → World → Prop
  | .code P c q => c.wpIn (fen q.ro) 0 P q.den
  | .list P ops q l => wpListIn (fen q.ro) 0 P ops q.den l
  | .oper P op d k => fun a w => ∀ o : Oper, o.op = op → o.dst = d → uponP P o a k.den ((execOp a.eval o).run P w)
  | .ex q e => q.den e
  | .raw K => K
/-- what a frame's marks claim: the blocks for the rounds' deferred calls, of which there are none -/
def dm : List Deferred → List SP
  | [] => []
  | d :: ds => (match d.target with
    | .collected r => objP r (.deferred (some []))
    | _ => factP False) :: dm ds
/-- H is owned, and what the frame's marks claim -/
abbrev Sta (W : World) (H : List SP) (a : Act) (w : World) : Prop := St W (H ++ dm a.defers) w
theorem put_defers (a : Act) (d : Option Tmp) (v : Value) : (a.put d v).defers = a.defers := by cases d <;> rfl
theorem Sel.app {A : SP} {H R : List SP} (s : Sel A H R) (M : List SP) : Sel A (H ++ M) (R ++ M) := by
  induction s with
  | here => exact .here
  | there _ ih => exact .there ih
theorem Rep.app {A B : SP} {H R : List SP} (s : Rep A B H R) (M : List SP) : Rep A B (H ++ M) (R ++ M) := by
  induction s with
  | here => exact .here
  | there _ ih => exact .there ih
theorem star_app {H H' : List SP} (f : ∀ g, starL H g → starL H' g) (M : List SP) : ∀ g, starL (H ++ M) g → starL (H' ++ M) g := fun g q => by
  obtain ⟨h1, h2, a, b, c, d, e⟩ := (starL_append g).1 q
  exact (starL_append g).2 ⟨h1, h2, a, b, c, f _ d, e⟩
/-- what is to be done comes to its end wherever the slots are as E says and H is owned -/
structure KJ (W : World) (n : Nat) (k : KK) (E : Env) (H : List SP) : Prop where
  go : ∀ a w, Hd n E a → Sta W H a w → k.den a w

section
variable {P : Program} {W : World} {n : Nat} {k : KK} {q : QQ} {E : Env} {H : List SP} {ops : Array Oper} {l : List Oper}
theorem KJ.weak {E' : Env} {H' : List SP} (h : KJ W n k E' H') (s : Subs E E') (f : ∀ g, starL H g → starL H' g) : KJ W n k E H := ⟨fun a w p q => h.go a w (p.subs s) (q.mono (star_app f _))⟩
theorem KJ.perm {H' : List SP} (h : KJ W n k E H') (p : H.Perm H') : KJ W n k E H := ⟨fun a w q s => h.go a w q (s.perm (p.append_right _))⟩
theorem KJ_seq {x y : Code} (h : KJ W n (.code P x (.seq P y q)) E H) : KJ W n (.code P (Code.seq x y) q) E H := ⟨fun a w p s => wpIn_seq (h.go a w p s)⟩
theorem KJ_skip (h : KJ W n (.ex q .normal) E H) : KJ W n (.code P Code.skip q) E H := ⟨fun a w p s => wpIn_skip (h.go a w p s)⟩
theorem KJ_ret (h : KJ W n (.ex q .ret) E H) : KJ W n (.code P Code.ret q) E H := ⟨fun a w p s => wpIn_ret (h.go a w p s)⟩
theorem KJ_exit {id : Nat} (h : KJ W n (.ex q (.exit id)) E H) : KJ W n (.code P (Code.exit id) q) E H := ⟨fun a w p s => wpIn_exit (h.go a w p s)⟩
theorem KJ_block {id : Nat} {c : Code} (h : KJ W n (.code P c (.blk id q)) E H) : KJ W n (.code P (Code.block id c) q) E H := ⟨fun a w p s => wpIn_block (h.go a w p s)⟩
theorem KJ_cond {c : Operand} {x y : Code} {t : Bool} (hc : Env.ev E c = some (.bool t)) (ht : t = true → KJ W n (.code P x q) E H) (hf : t = false → KJ W n (.code P y q) E H) : KJ W n (.code P (Code.cond c x y) q) E H :=
  KJ.mk fun a w p s => wpIn_cond_split (p.ev hc) (fun e => (ht e).go a w p s) (fun e => (hf e).go a w p s)
theorem KJ_cond_dec {c : Operand} {x y : Code} {p : Prop} [Decidable p] (hc : Env.ev E c = some (.bool (decide p))) (ht : p → KJ W n (.code P x q) E H) (hf : ¬ p → KJ W n (.code P y q) E H) : KJ W n (.code P (Code.cond c x y) q) E H :=
  KJ_cond hc (fun e => ht (by simpa using e)) (fun e => hf (by simpa using e))
theorem KJ_cond_t {c : Operand} {x y : Code} (hc : Env.ev E c = some (.bool true)) (h : KJ W n (.code P x q) E H) : KJ W n (.code P (Code.cond c x y) q) E H := KJ_cond hc (fun _ => h) (fun e => by cases e)
theorem KJ_cond_f {c : Operand} {x y : Code} (hc : Env.ev E c = some (.bool false)) (h : KJ W n (.code P y q) E H) : KJ W n (.code P (Code.cond c x y) q) E H := KJ_cond hc (fun e => by cases e) (fun _ => h)

theorem KJ_seq_normal {y : Code} (h : KJ W n (.code P y q) E H) : KJ W n (.ex (.seq P y q) .normal) E H := ⟨h.go⟩
theorem KJ_seq_ret {y : Code} (h : KJ W n (.ex q .ret) E H) : KJ W n (.ex (.seq P y q) .ret) E H := ⟨h.go⟩
theorem KJ_seq_exit {id : Nat} {y : Code} (h : KJ W n (.ex q (.exit id)) E H) : KJ W n (.ex (.seq P y q) (.exit id)) E H := ⟨h.go⟩
theorem KJ_thn_normal {K : Act → World → Prop} (h : KJ W n (.raw K) E H) : KJ W n (.ex (.thn K q) .normal) E H := ⟨h.go⟩
theorem KJ_thn_ret {K : Act → World → Prop} (h : KJ W n (.ex q .ret) E H) : KJ W n (.ex (.thn K q) .ret) E H := ⟨h.go⟩
theorem KJ_thn_exit {id : Nat} {K : Act → World → Prop} (h : KJ W n (.ex q (.exit id)) E H) : KJ W n (.ex (.thn K q) (.exit id)) E H := ⟨h.go⟩
theorem KJ_blk_normal {id : Nat} (h : KJ W n (.ex q .normal) E H) : KJ W n (.ex (.blk id q) .normal) E H := ⟨h.go⟩
theorem KJ_blk_ret {id : Nat} (h : KJ W n (.ex q .ret) E H) : KJ W n (.ex (.blk id q) .ret) E H := ⟨h.go⟩
theorem KJ_blk_exit {id : Nat} (h : KJ W n (.ex q .normal) E H) : KJ W n (.ex (.blk id q) (.exit id)) E H := KJ.mk fun a w p s => by
  show (if id = id then q.den .normal a w else q.den (.exit id) a w)
  rw [if_pos rfl]; exact h.go a w p s
theorem KJ_blk_exit' {id id' : Nat} (hne : Nat.beq id' id = false) (h : KJ W n (.ex q (.exit id')) E H) : KJ W n (.ex (.blk id q) (.exit id')) E H := KJ.mk fun a w p s => by
  show (if id' = id then q.den .normal a w else q.den (.exit id') a w)
  rw [if_neg (Nat.ne_of_beq_eq_false hne)]; exact h.go a w p s

/-- behind a round: the slots and the claims are those of some j with a lower measure -/
def Again {ι : Type} (W : World) (n : Nat) (Ei : ι → Env) (Hi : ι → List SP) (μ : ι → Nat) (i : ι) : Act → World → Prop := fun a w => ∃ j, μ j < μ i ∧ Hd n (Ei j) a ∧ Sta W (Hi j) a w
/-- A loop: in each round the slots and the claims are those of some i; the measure falls. -/
theorem KJ_loop {ι : Type} (Ei : ι → Env) (Hi : ι → List SP) (μ : ι → Nat) (i0 : ι) {c : Code} (hE : Subs E (Ei i0)) (hH : ∀ g, starL H g → starL (Hi i0) g)
    (round : ∀ i, KJ W n (.code P c (.thn (Again W n Ei Hi μ i) q)) (Ei i) (Hi i)) : KJ W n (.code P (Code.loop c) q) E H := by
  have key : ∀ m i, μ i = m → ∀ a w, Hd n (Ei i) a → Sta W (Hi i) a w → ∀ (b : Frame) (k : List Item) (cs : List Frame), b.roundOf = q.ro →
      ∃ e a' w', q.den e a' w' ∧ ArrivesIn (Machine.fenced P (fen q.ro)) P (lone (b.atR a (.code c :: .inLoop c :: k)) cs w) b k cs e a' w' := by
    intro m
    induction m using Nat.strongRecOn with
    | _ m ih =>
      intro i hi a w p s b k cs hro
      have hroom : (fen q.ro).room (cs.length + 1 + 0) := fun _ h => by simp at h
      obtain ⟨e, a₁, w₁, hq, harr⟩ := (round i).go a w p s b (.inLoop c :: k) cs hro trivial hroom
      cases e with
      | normal =>
        obtain ⟨j, hlt, p1, q1⟩ := hq
        obtain ⟨e₂, a₂, w₂, hq₂, harr₂⟩ := ih (μ j) (hi ▸ hlt) j rfl a₁ w₁ p1 q1 b k cs hro
        exact ⟨e₂, a₂, w₂, hq₂, .of_steps (StepsIn.trans harr (.one (fenced_calm (n := 0) trivial hroom rfl) stepR_inLoop)) harr₂⟩
      | exit id => exact ⟨_, a₁, w₁, hq, .pass (x := .inLoop c) rfl (fun _ _ => .inl (by simp)) harr⟩
      | goto l => exact ⟨_, a₁, w₁, hq, .pass (x := .inLoop c) rfl (fun _ _ => .inl (by simp)) harr⟩
      | ret => exact ⟨_, a₁, w₁, hq, .pass (x := .inLoop c) rfl (fun _ _ => .inl (by simp)) harr⟩
      | panic ch => exact ⟨_, a₁, w₁, hq, .pass (x := .inLoop c) rfl (fun _ _ => .inl (by simp)) harr⟩
      | outgrown => exact ⟨_, a₁, w₁, hq, .pass (x := .inLoop c) rfl (fun _ _ => .inl (by simp)) harr⟩
  refine KJ.weak (E' := Ei i0) (H' := Hi i0) ?_ hE hH
  refine ⟨fun a w p s b k cs hro hb hr => ?_⟩
  obtain ⟨e, a', w', hq, harr⟩ := key _ i0 rfl a w p s b k cs hro
  exact ⟨e, a', w', hq, .of_steps (.one (fenced_calm (n := 0) hb hr rfl) stepR_loop) harr⟩
theorem KJ_again {ι : Type} {Ei : ι → Env} {Hi : ι → List SP} {μ : ι → Nat} {i : ι} (j : ι) (hlt : μ j < μ i) (hE : Subs E (Ei j)) (hH : ∀ g, starL H g → starL (Hi j) g) : KJ W n (.raw (Again W n Ei Hi μ i)) E H :=
  ⟨fun _ _ p s => ⟨j, hlt, p.subs hE, s.mono (star_app hH _)⟩⟩

/-- a region in the text's order -/
theorem KJ_region {id : Nat} (h : KJ W n (.list P l.toArray q l) E H) : KJ W n (.code P (Code.region id l.toArray false) q) E H := ⟨fun a w p s => wpIn_region_lit (h.go a w p s)⟩
theorem KJ_nil (h : KJ W n (.ex q .normal) E H) : KJ W n (.list P ops q []) E H := ⟨h.go⟩
section
variable {op : Op} {d : Option Tmp} {ty : TypeId} {pos : String} {af : Array Edge}
theorem KJ_plain (h : KJ W n (.oper P op d (.list P ops q l)) E H) : KJ W n (.list P ops q (⟨d, op, ty, pos, af, none⟩ :: l)) E H :=
  KJ.mk fun a w p s => wpListIn_step fun _ hK => by
    rw [if_pos (by simp [Region.wanted])]
    exact ((h.go a w p s _ rfl rfl).mono hK).wpIn _ _
theorem wanted_of {o : Oper} {j : Nat} {b : Bool} {t : Nat} {v : Value} {a : Act} (hg : o.guard = some (j, b)) (hj : (ops[j]?).bind (·.dst) = some t) (p : Hd n E a) (ht : Env.at E t = some v) : Region.wanted o (yielded ops a.tmps) = match v with | .bool c => c == b | _ => false := by
  have h1 := p.at_ t v ht
  unfold Region.wanted yielded
  rw [hg]
  simp only [hj, Option.bind_some, h1]
  cases v <;> simp
theorem KJ_guard_yes {j : Nat} {b : Bool} {t : Nat} (hj : (ops[j]?).bind (·.dst) = some t) (ht : Env.at E t = some (.bool b)) (h : KJ W n (.oper P op d (.list P ops q l)) E H) : KJ W n (.list P ops q (⟨d, op, ty, pos, af, some (j, b)⟩ :: l)) E H :=
  KJ.mk fun a w p s => wpListIn_step fun K hK => by
    rw [if_pos (by rw [wanted_of rfl hj p ht]; simp)]
    exact ((h.go a w p s _ rfl rfl).mono hK).wpIn _ _
def notB (b : Bool) : Value → Bool
  | .bool c => c != b
  | _ => true
theorem KJ_guard_no {j : Nat} {b : Bool} {t : Nat} {v : Value} (hj : (ops[j]?).bind (·.dst) = some t) (ht : Env.at E t = some v) (hv : notB b v = true) (hd : dstOk n d = true) (h : KJ W n (.list P ops q l) (Env.put E d undef) H) : KJ W n (.list P ops q (⟨d, op, ty, pos, af, some (j, b)⟩ :: l)) E H :=
  KJ.mk fun a w p s => wpListIn_step fun K hK => by
    have hw : Region.wanted (⟨d, op, ty, pos, af, some (j, b)⟩ : Oper) (yielded ops a.tmps) = false := by
      rw [wanted_of rfl hj p ht]
      cases v <;> simp_all [notB]
    rw [if_neg (by rw [hw]; simp)]
    refine ⟨fun _ _ => trivial, hK _ _ (h.go _ w (p.put hd undef) ?_)⟩
    show St W (H ++ dm (a.put d undef).defers) w
    rw [put_defers]; exact s
theorem Hd.also {a : Act} (h : Hd n E a) {t : Nat} {v : Value} (q : Env.at E t = some v) : Hd n ((t, v) :: E) a := ⟨h.size, fun u x e => by
  rw [Env.at_cons] at e
  split at e
  · rename_i ht; subst ht; cases e; exact h.at_ _ _ q
  · exact h.at_ u x e⟩
theorem KJ.also (t : Nat) {v : Value} (q : Env.at E t = some v) (h : KJ W n k ((t, v) :: E) H) : KJ W n k E H := ⟨fun a w p s => h.go a w (p.also q) s⟩
/-- a guard that is not known: both ways -/
theorem KJ_guard_split {j : Nat} {b c : Bool} {t : Nat} (hj : (ops[j]?).bind (·.dst) = some t) (ht : Env.at E t = some (.bool c)) (hd : dstOk n d = true)
    (hy : c = b → KJ W n (.oper P op d (.list P ops q l)) ((t, .bool b) :: E) H) (hn : c = !b → KJ W n (.list P ops q l) (Env.put ((t, .bool !b) :: E) d undef) H) : KJ W n (.list P ops q (⟨d, op, ty, pos, af, some (j, b)⟩ :: l)) E H := by
  by_cases h : c = b
  · subst h
    exact (KJ_guard_yes hj (Env.at_self t _ E) (hy rfl)).also t ht
  · have h : c = !b := by cases c <;> cases b <;> simp_all
    subst h
    exact (KJ_guard_no hj (Env.at_self t _ E) (by cases b <;> rfl) hd (hn rfl)).also t ht
theorem KJ_guard_dec_t {j : Nat} {t : Nat} {p : Prop} [Decidable p] (hj : (ops[j]?).bind (·.dst) = some t) (ht : Env.at E t = some (.bool (decide p))) (hd : dstOk n d = true)
    (hy : p → KJ W n (.oper P op d (.list P ops q l)) ((t, .bool true) :: E) H) (hn : ¬ p → KJ W n (.list P ops q l) (Env.put ((t, .bool false) :: E) d undef) H) : KJ W n (.list P ops q (⟨d, op, ty, pos, af, some (j, true)⟩ :: l)) E H :=
  KJ_guard_split hj ht hd (fun e => hy (by simpa using e)) (fun e => hn (by simpa using e))
theorem KJ_guard_dec_f {j : Nat} {t : Nat} {p : Prop} [Decidable p] (hj : (ops[j]?).bind (·.dst) = some t) (ht : Env.at E t = some (.bool (decide p))) (hd : dstOk n d = true)
    (hy : ¬ p → KJ W n (.oper P op d (.list P ops q l)) ((t, .bool false) :: E) H) (hn : p → KJ W n (.list P ops q l) (Env.put ((t, .bool true) :: E) d undef) H) : KJ W n (.list P ops q (⟨d, op, ty, pos, af, some (j, false)⟩ :: l)) E H :=
  KJ_guard_split hj ht hd (fun e => hy (by simpa using e)) (fun e => hn (by simpa using e))

/-- a step that the text alone tells -/
inductive Stp : KK → KK → Prop
  | seq {P : Program} {x y : Code} {q : QQ} : Stp (.code P (Code.seq x y) q) (.code P x (.seq P y q))
  | region {P : Program} {id : Nat} {l : List Oper} {q : QQ} : Stp (.code P (Code.region id l.toArray false) q) (.list P l.toArray q l)
  | plain {P : Program} {ops : Array Oper} {q : QQ} {l : List Oper} {op : Op} {d : Option Tmp} {ty : TypeId} {pos : String} {af : Array Edge} : Stp (.list P ops q (⟨d, op, ty, pos, af, none⟩ :: l)) (.oper P op d (.list P ops q l))
  | nil {P : Program} {ops : Array Oper} {q : QQ} : Stp (.list P ops q []) (.ex q .normal)
  | skip {P : Program} {q : QQ} : Stp (.code P Code.skip q) (.ex q .normal)
  | ret {P : Program} {q : QQ} : Stp (.code P Code.ret q) (.ex q .ret)
  | exit {P : Program} {q : QQ} {id : Nat} : Stp (.code P (Code.exit id) q) (.ex q (.exit id))
  | block {P : Program} {q : QQ} {id : Nat} {c : Code} : Stp (.code P (Code.block id c) q) (.code P c (.blk id q))
  | seq_normal {P : Program} {q : QQ} {y : Code} : Stp (.ex (.seq P y q) .normal) (.code P y q)
  | seq_ret {P : Program} {q : QQ} {y : Code} : Stp (.ex (.seq P y q) .ret) (.ex q .ret)
  | seq_exit {P : Program} {q : QQ} {y : Code} {id : Nat} : Stp (.ex (.seq P y q) (.exit id)) (.ex q (.exit id))
  | thn_normal {q : QQ} {K : Act → World → Prop} : Stp (.ex (.thn K q) .normal) (.raw K)
  | thn_ret {q : QQ} {K : Act → World → Prop} : Stp (.ex (.thn K q) .ret) (.ex q .ret)
  | thn_exit {q : QQ} {K : Act → World → Prop} {id : Nat} : Stp (.ex (.thn K q) (.exit id)) (.ex q (.exit id))
  | blk_normal {q : QQ} {id : Nat} : Stp (.ex (.blk id q) .normal) (.ex q .normal)
  | blk_ret {q : QQ} {id : Nat} : Stp (.ex (.blk id q) .ret) (.ex q .ret)
  | blk_exit {q : QQ} {id : Nat} : Stp (.ex (.blk id q) (.exit id)) (.ex q .normal)
theorem KJ_stp {W : World} {n : Nat} {E : Env} {H : List SP} {k k' : KK} (s : Stp k k') (h : KJ W n k' E H) : KJ W n k E H := by
  cases s
  · exact KJ_seq h
  · exact KJ_region h
  · exact KJ_plain h
  · exact KJ_nil h
  · exact KJ_skip h
  · exact KJ_ret h
  · exact KJ_exit h
  · exact KJ_block h
  · exact KJ_seq_normal h
  · exact KJ_seq_ret h
  · exact KJ_seq_exit h
  · exact KJ_thn_normal h
  · exact KJ_thn_ret h
  · exact KJ_thn_exit h
  · exact KJ_blk_normal h
  · exact KJ_blk_ret h
  · exact KJ_blk_exit h

/-- the operation only yields a value -/
structure Ev (P : Program) (W : World) (n : Nat) (E : Env) (H : List SP) (op : Op) (v : Value) : Prop where
  go : ∀ o : Oper, o.op = op → ∀ a w, Hd n E a → St W H w → (execOp a.eval o).run P w = .ok (.value v) w
theorem KJ_ev {v : Value} {d : Nat} (he : Ev P W n E H op v) (hn : Nat.blt d n = true) (h : KJ W n k ((d, v) :: E) H) : KJ W n (.oper P op (some d) k) E H := by
  refine ⟨fun a w p s o ho hd => ?_⟩
  show uponP P o a _ ((execOp a.eval o).run P w)
  rw [he.go o ho a w p s.left]
  have := h.go _ w (p.put (d := some d) hn v) s
  rw [← hd] at this
  exact this
theorem KJ_ev0 {v : Value} (he : Ev P W n E H op v) (h : KJ W n k E H) : KJ W n (.oper P op none k) E H := by
  refine ⟨fun a w p s o ho hd => ?_⟩
  show uponP P o a _ ((execOp a.eval o).run P w)
  rw [he.go o ho a w p s.left]
  have := h.go _ w (p.put (d := none) rfl v) s
  rw [← hd] at this
  exact this
end
theorem Ev_move {x : Operand} {v : Value} (hx : Env.ev E x = some v) : Ev P W n E H (.move x) v := Ev.mk fun o ho a w p _ => by simp [execOp, ho, p.ev hx, Sem.run_pure]
theorem Ev_assign {x : Operand} {v : Value} (hx : Env.ev E x = some v) : Ev P W n E H (.assign x) v := Ev.mk fun o ho a w p _ => by simp [execOp, ho, p.ev hx, Sem.run_pure]
theorem Ev_pick_t {c x y : Operand} {v : Value} (hc : Env.ev E c = some (.bool true)) (hx : Env.ev E x = some v) : Ev P W n E H (.pick c x y) v := Ev.mk fun o ho a w p _ => by simp [execOp, ho, p.ev hx, p.ev hc, asBool, Sem.run_pure]
theorem Ev_pick_f {c x y : Operand} {v : Value} (hc : Env.ev E c = some (.bool false)) (hy : Env.ev E y = some v) : Ev P W n E H (.pick c x y) v := Ev.mk fun o ho a w p _ => by simp [execOp, ho, p.ev hy, p.ev hc, asBool, Sem.run_pure]
theorem Ev_nilCheck {x : Operand} {ad : Addr} (hx : Env.ev E x = some (.pointer (some ad))) : Ev P W n E H (.nilCheck x) (.pointer (some ad)) := Ev.mk fun o ho a w p _ => by simp [execOp, ho, p.ev hx, Sem.run_pure]
theorem Ev_add {t u : TypeId} {x y : Operand} {k : IntKind} {i j : Int} (hx : Env.ev E x = some (.int k i)) (hy : Env.ev E y = some (.int k j)) : Ev P W n E H (.binOp .add t x y u) (.int k (k.wrap (i + j))) :=
  Ev.mk fun o ho a w p _ => by simp [execOp, ho, p.ev hx, p.ev hy, eqGuard, binOp, Op.intArith]
end
end Go.Proofs.YteklldbfdmaafaaDoor
/-
  The operations' rules: each yields a value and leaves memory as it was.
-/
namespace Go.Proofs.YteklldbfdmaafaaDoor
open Go Go.RowKit
section
variable {P : Program} {W : World} {n : Nat} {E : Env} {H R : List SP} {x y z : Operand} {t u : TypeId}
/-- text as a value -/
abbrev strV (l : List UInt8) : Value := .string ⟨l.toArray⟩
/-- what an operation of two operands gives, of every world -/
theorem Ev_bin {op : BinOp} {v1 v2 v : Value} (hx : Env.ev E x = some v1) (hy : Env.ev E y = some v2) (hg : ∀ w, (eqGuard op t x y v1 v2).run P w = .ok () w) (hr : ∀ w, (binOp op t v1 v2).run P w = .ok v w) : Ev P W n E H (.binOp op t x y u) v :=
  Ev.mk fun o ho a w p _ => by simp [execOp, ho, p.ev hx, p.ev hy, hg w, hr w, Result.andThen]
theorem guard_int (op : BinOp) (k k' : IntKind) (i j : Int) (w : World) : (eqGuard op t x y (.int k i) (.int k' j)).run P w = .ok () w := by
  cases op <;> rfl
theorem Ev_int {op : BinOp} {k : IntKind} {i j : Int} {v : Value} (hx : Env.ev E x = some (.int k i)) (hy : Env.ev E y = some (.int k j)) (hr : ∀ w, (binOp op t (.int k i) (.int k j)).run P w = .ok v w) : Ev P W n E H (.binOp op t x y u) v :=
  Ev_bin hx hy (guard_int op k k i j) hr
theorem i64_in (i : Int) (h : -9223372036854775808 ≤ i ∧ i ≤ 9223372036854775807) : IntKind.i64.wrap i = i := by
  have : IntKind.i64.wrap i = if i % 18446744073709551616 ≥ 9223372036854775808 then i % 18446744073709551616 - 18446744073709551616 else i % 18446744073709551616 := by
    simp [IntKind.wrap, IntKind.signed, IntKind.bits]
  rw [this]
  split <;> omega
theorem Ev_addI {i j : Int} (hx : Env.ev E x = some (.int .i64 i)) (hy : Env.ev E y = some (.int .i64 j)) (hb : -9223372036854775808 ≤ i + j ∧ i + j ≤ 9223372036854775807) : Ev P W n E H (.binOp .add t x y u) (.int .i64 (i + j)) :=
  Ev_int hx hy fun w => by simp [binOp, Op.intArith, i64_in _ hb]
theorem Ev_subI {i j : Int} (hx : Env.ev E x = some (.int .i64 i)) (hy : Env.ev E y = some (.int .i64 j)) (hb : -9223372036854775808 ≤ i - j ∧ i - j ≤ 9223372036854775807) : Ev P W n E H (.binOp .sub t x y u) (.int .i64 (i - j)) :=
  Ev_int hx hy fun w => by simp [binOp, Op.intArith, i64_in _ hb]
theorem Ev_mulI {i j : Int} (hx : Env.ev E x = some (.int .i64 i)) (hy : Env.ev E y = some (.int .i64 j)) (hb : -9223372036854775808 ≤ i * j ∧ i * j ≤ 9223372036854775807) : Ev P W n E H (.binOp .mul t x y u) (.int .i64 (i * j)) :=
  Ev_int hx hy fun w => by simp [binOp, Op.intArith, i64_in _ hb]
theorem Ev_sub {k : IntKind} {i j : Int} (hx : Env.ev E x = some (.int k i)) (hy : Env.ev E y = some (.int k j)) : Ev P W n E H (.binOp .sub t x y u) (.int k (k.wrap (i - j))) :=
  Ev_int hx hy fun w => by simp [binOp, Op.intArith]
theorem Ev_mul {k : IntKind} {i j : Int} (hx : Env.ev E x = some (.int k i)) (hy : Env.ev E y = some (.int k j)) : Ev P W n E H (.binOp .mul t x y u) (.int k (k.wrap (i * j))) :=
  Ev_int hx hy fun w => by simp [binOp, Op.intArith]
theorem Ev_quo {k : IntKind} {i j : Int} (hx : Env.ev E x = some (.int k i)) (hy : Env.ev E y = some (.int k j)) (hj : j ≠ 0) : Ev P W n E H (.binOp .quo t x y u) (.int k (k.wrap (i.tdiv j))) :=
  Ev_int hx hy fun w => by simp [binOp, Op.intDiv, hj]
theorem Ev_rem {k : IntKind} {i j : Int} (hx : Env.ev E x = some (.int k i)) (hy : Env.ev E y = some (.int k j)) (hj : j ≠ 0) : Ev P W n E H (.binOp .rem t x y u) (.int k (i.tmod j)) :=
  Ev_int hx hy fun w => by simp [binOp, Op.intDiv, hj]
/-- division of what is not below nought -/
theorem Ev_quoI {i j : Int} (hx : Env.ev E x = some (.int .i64 i)) (hy : Env.ev E y = some (.int .i64 j)) (hb : 0 ≤ i ∧ i ≤ 9223372036854775807 ∧ 0 < j) : Ev P W n E H (.binOp .quo t x y u) (.int .i64 (i / j)) :=
  Ev_int hx hy fun w => by
    have h1 : i.tdiv j = i / j := Int.tdiv_eq_ediv_of_nonneg hb.1
    have h2 : 0 ≤ i / j := Int.ediv_nonneg hb.1 (by omega)
    have h3 : i / j ≤ i := Int.ediv_le_self _ hb.1
    simp [binOp, Op.intDiv, show j ≠ 0 by omega, h1, i64_in (i / j) (by omega)]
theorem Ev_remI {k : IntKind} {i j : Int} (hx : Env.ev E x = some (.int k i)) (hy : Env.ev E y = some (.int k j)) (hb : 0 ≤ i ∧ 0 < j) : Ev P W n E H (.binOp .rem t x y u) (.int k (i % j)) :=
  Ev_int hx hy fun w => by simp [binOp, Op.intDiv, show j ≠ 0 by omega, Int.tmod_eq_emod_of_nonneg hb.1]
theorem Ev_eqlI {k : IntKind} {i j : Int} (hx : Env.ev E x = some (.int k i)) (hy : Env.ev E y = some (.int k j)) : Ev P W n E H (.binOp .eql t x y u) (.bool (decide (i = j))) :=
  Ev_int hx hy fun w => by simp [binOp, Op.intCmp]; rfl
theorem Ev_neqI {k : IntKind} {i j : Int} (hx : Env.ev E x = some (.int k i)) (hy : Env.ev E y = some (.int k j)) : Ev P W n E H (.binOp .neq t x y u) (.bool (decide (i ≠ j))) :=
  Ev_int hx hy fun w => by
    have : (i != j) = decide (i ≠ j) := by by_cases h : i = j <;> simp [h]
    simp [binOp, Op.intCmp, this]
theorem Ev_lssI {k : IntKind} {i j : Int} (hx : Env.ev E x = some (.int k i)) (hy : Env.ev E y = some (.int k j)) : Ev P W n E H (.binOp .lss t x y u) (.bool (decide (i < j))) :=
  Ev_int hx hy fun w => by simp [binOp, Op.intCmp]
theorem Ev_leqI {k : IntKind} {i j : Int} (hx : Env.ev E x = some (.int k i)) (hy : Env.ev E y = some (.int k j)) : Ev P W n E H (.binOp .leq t x y u) (.bool (decide (i ≤ j))) :=
  Ev_int hx hy fun w => by simp [binOp, Op.intCmp]
theorem Ev_gtrI {k : IntKind} {i j : Int} (hx : Env.ev E x = some (.int k i)) (hy : Env.ev E y = some (.int k j)) : Ev P W n E H (.binOp .gtr t x y u) (.bool (decide (j < i))) :=
  Ev_int hx hy fun w => by simp [binOp, Op.intCmp]
theorem Ev_geqI {k : IntKind} {i j : Int} (hx : Env.ev E x = some (.int k i)) (hy : Env.ev E y = some (.int k j)) : Ev P W n E H (.binOp .geq t x y u) (.bool (decide (j ≤ i))) :=
  Ev_int hx hy fun w => by simp [binOp, Op.intCmp]
/-- & | ^ on whole numbers of a kind, as on naturals -/
theorem Ev_bits {op : BinOp} {k : IntKind} {i j : Int} {v : Value} (hop : op = .and ∨ op = .or ∨ op = .xor ∨ op = .andNot) (hx : Env.ev E x = some (.int k i)) (hy : Env.ev E y = some (.int k j)) (hr : ∀ w, (Op.intBits op k i j).run P w = .ok v w) : Ev P W n E H (.binOp op t x y u) v :=
  Ev_int hx hy fun w => by
    rcases hop with rfl | rfl | rfl | rfl <;> simpa [binOp] using hr w
theorem Ev_shl {k yk : IntKind} {i j : Int} (hx : Env.ev E x = some (.int k i)) (hy : Env.ev E y = some (.int yk j)) (hj : 0 ≤ j) : Ev P W n E H (.binOp .shl t x y u) (.int k (k.wrap (i * 2 ^ (min j.toNat k.bits)))) :=
  Ev_bin hx hy (guard_int _ _ _ _ _) fun w => by simp [binOp, Op.shift, show ¬ j < 0 by omega]
theorem Ev_shr {k yk : IntKind} {i j : Int} (hx : Env.ev E x = some (.int k i)) (hy : Env.ev E y = some (.int yk j)) (hj : 0 ≤ j) : Ev P W n E H (.binOp .shr t x y u) (.int k (i.fdiv (2 ^ (min j.toNat k.bits)))) :=
  Ev_bin hx hy (guard_int _ _ _ _ _) fun w => by simp [binOp, Op.shift, show ¬ j < 0 by omega]
/-- strings -/
theorem guard_str (op : BinOp) (a b : ByteArray) (w : World) : (eqGuard op t x y (.string a) (.string b)).run P w = .ok () w := by cases op <;> rfl
theorem Ev_addS {a b : List UInt8} (hx : Env.ev E x = some (strV a)) (hy : Env.ev E y = some (strV b)) (hb : a.length + b.length ≤ 9223372036854775807) : Ev P W n E H (.binOp .add t x y u) (strV (a ++ b)) :=
  Ev_bin hx hy (guard_str _ _ _) fun w => by
    have h1 : ¬ (((⟨a.toArray⟩ : ByteArray).size + (⟨b.toArray⟩ : ByteArray).size : Nat) : Int) > IntKind.i64.max := by
      have : IntKind.i64.max = 9223372036854775807 := rfl
      rw [this]; simp [ByteArray.size]; omega
    have h2 : (⟨a.toArray⟩ : ByteArray) ++ ⟨b.toArray⟩ = ⟨(a ++ b).toArray⟩ := by
      apply ByteArray.ext; simp
    simp only [binOp, Op.stringOp]
    rw [if_neg h1, h2]; rfl
theorem Ev_eqlS {a b : List UInt8} (hx : Env.ev E x = some (strV a)) (hy : Env.ev E y = some (strV b)) : Ev P W n E H (.binOp .eql t x y u) (.bool (decide (a = b))) :=
  Ev_bin hx hy (guard_str _ _ _) fun w => by
    have : (a == b) = decide (a = b) := by by_cases h : a = b <;> simp [h]
    simp [binOp, Op.stringOp, this]
theorem Ev_neqS {a b : List UInt8} (hx : Env.ev E x = some (strV a)) (hy : Env.ev E y = some (strV b)) : Ev P W n E H (.binOp .neq t x y u) (.bool (decide (a ≠ b))) :=
  Ev_bin hx hy (guard_str _ _ _) fun w => by
    have : (!(a == b)) = decide (a ≠ b) := by by_cases h : a = b <;> simp [h]
    simp [binOp, Op.stringOp, this]
theorem Ev_lssS {a b : List UInt8} (hx : Env.ev E x = some (strV a)) (hy : Env.ev E y = some (strV b)) : Ev P W n E H (.binOp .lss t x y u) (.bool (Op.bytesLess a b)) :=
  Ev_bin hx hy (guard_str _ _ _) fun w => by simp [binOp, Op.stringOp]
theorem Ev_gtrS {a b : List UInt8} (hx : Env.ev E x = some (strV a)) (hy : Env.ev E y = some (strV b)) : Ev P W n E H (.binOp .gtr t x y u) (.bool (!(Op.bytesLess a b || decide (a = b)))) :=
  Ev_bin hx hy (guard_str _ _ _) fun w => by
    have : (a == b) = decide (a = b) := by by_cases h : a = b <;> simp [h]
    simp [binOp, Op.stringOp, this]
theorem Ev_geqS {a b : List UInt8} (hx : Env.ev E x = some (strV a)) (hy : Env.ev E y = some (strV b)) : Ev P W n E H (.binOp .geq t x y u) (.bool (!Op.bytesLess a b)) :=
  Ev_bin hx hy (guard_str _ _ _) fun w => by simp [binOp, Op.stringOp]
theorem Ev_leqS {a b : List UInt8} (hx : Env.ev E x = some (strV a)) (hy : Env.ev E y = some (strV b)) : Ev P W n E H (.binOp .leq t x y u) (.bool (Op.bytesLess a b || decide (a = b))) :=
  Ev_bin hx hy (guard_str _ _ _) fun w => by
    have : (a == b) = decide (a = b) := by by_cases h : a = b <;> simp [h]
    simp [binOp, Op.stringOp, this]
/-- what '==' does at the first level -/
def eqOne : TypeDesc → Value → Value → Option Bool
  | .bool, .bool a, .bool b => some (a == b)
  | .pointer _, .pointer none, .pointer b => some b.isNone
  | .pointer _, .pointer (some _), .pointer none => some false
  | .interface _, .nilIface, .nilIface => some true
  | .interface _, .nilIface, .iface _ _ => some false
  | .interface _, .iface _ _, .nilIface => some false
  | .slice _, .slice none _ _, .slice b _ _ => some b.isNone
  | .slice _, .slice (some _) _ _, .slice none _ _ => some false
  | .map _ _, .map none, .map b => some b.isNone
  | .map _ _, .map (some _), .map none => some false
  | .func _ _ _, .nilFunc, .nilFunc => some true
  | _, _, _ => none
theorem equal_one {d : TypeDesc} {v1 v2 : Value} {b : Bool} (hu : P.underlying t = some d) (h : eqOne d v1 v2 = some b) (w : World) : (Op.equal t v1 v2).run P w = .ok b w := by
  unfold Op.equal Op.maxDepth
  have key : ∀ m, (Op.equalIn (m + 1) t v1 v2).run P w = .ok b w := by
    intro m
    unfold eqOne at h
    split at h <;> first
      | (cases h; simp [Op.equalIn, run_underlying hu]; done)
      | (simp at h; subst h; simp [Op.equalIn, run_underlying hu]; done)
      | (cases h)
  exact key 9999
theorem Ev_eqlO {d : TypeDesc} {v1 v2 : Value} {b : Bool} (hx : Env.ev E x = some v1) (hy : Env.ev E y = some v2) [hu : UIs P t d] (h : eqOne d v1 v2 = some b) (hg : ∀ w, (eqGuard .eql t x y v1 v2).run P w = .ok () w) : Ev P W n E H (.binOp .eql t x y u) (.bool b) :=
  Ev_bin hx hy hg fun w => by
    have e := equal_one hu.h h w
    unfold eqOne at h
    split at h <;> simp_all [binOp, Result.andThen]
theorem Ev_neqO {d : TypeDesc} {v1 v2 : Value} {b : Bool} (hx : Env.ev E x = some v1) (hy : Env.ev E y = some v2) [hu : UIs P t d] (h : eqOne d v1 v2 = some b) (hg : ∀ w, (eqGuard .neq t x y v1 v2).run P w = .ok () w) : Ev P W n E H (.binOp .neq t x y u) (.bool (!b)) :=
  Ev_bin hx hy hg fun w => by
    have e := equal_one hu.h h w
    unfold eqOne at h
    split at h <;> simp_all [binOp, Result.andThen]
/-- an interface value against the literal nil -/
theorem Ev_eqlNil {ms : Array (String × TypeId)} {v : Value} {b : Bool} (hx : Env.ev E x = some v) [hu : UIs P t (.interface ms)] (h : eqOne (.interface ms) v .nilIface = some b) : Ev P W n E H (.binOp .eql t x (.const .nilIface) u) (.bool b) :=
  Ev_eqlO hx rfl h fun w => by cases v <;> simp_all [eqOne, eqGuard]
theorem Ev_neqNil {ms : Array (String × TypeId)} {v : Value} {b : Bool} (hx : Env.ev E x = some v) [hu : UIs P t (.interface ms)] (h : eqOne (.interface ms) v .nilIface = some b) : Ev P W n E H (.binOp .neq t x (.const .nilIface) u) (.bool (!b)) :=
  Ev_neqO hx rfl h fun w => by cases v <;> simp_all [eqOne, eqGuard]
/-- one operand -/
theorem Ev_not {b : Bool} (hx : Env.ev E x = some (.bool b)) : Ev P W n E H (.unOp .not t x) (.bool (!b)) := Ev.mk fun o ho a w p _ => by simp [execOp, ho, p.ev hx, Op.unary]
theorem Ev_notD {q : Prop} [Decidable q] (hx : Env.ev E x = some (.bool (decide q))) : Ev P W n E H (.unOp .not t x) (.bool (decide (¬ q))) := by
  have e : (!decide q) = decide (¬ q) := by by_cases h : q <;> simp [h]
  rw [← e]
  exact Ev_not hx
theorem Ev_neg {k : IntKind} {i : Int} (hx : Env.ev E x = some (.int k i)) : Ev P W n E H (.unOp .neg t x) (.int k (k.wrap (0 - i))) := Ev.mk fun o ho a w p _ => by simp [execOp, ho, p.ev hx, Op.unary, Op.intArith]
/-- conversions -/
theorem Ev_convI {s d : TypeId} {ks kd : IntKind} {k : IntKind} {i : Int} (hx : Env.ev E x = some (.int k i)) [hs : UIs P s (.int ks)] [hd : UIs P d (.int kd)] : Ev P W n E H (.convert s d x) (.int kd (kd.wrap i)) :=
  Ev.mk fun o ho a w p _ => by simp [execOp, ho, p.ev hx, convert, run_underlying hs.h, run_underlying hd.h, Conv.intToInt]
theorem Ev_convI64 {s d : TypeId} {ks k : IntKind} {i : Int} (hx : Env.ev E x = some (.int k i)) [hs : UIs P s (.int ks)] [hd : UIs P d (.int .i64)] (hb : -9223372036854775808 ≤ i ∧ i ≤ 9223372036854775807) : Ev P W n E H (.convert s d x) (.int .i64 i) :=
  Ev.mk fun o ho a w p _ => by simp [execOp, ho, p.ev hx, convert, run_underlying hs.h, run_underlying hd.h, Conv.intToInt, i64_in i hb]
theorem Ev_convS {s d : TypeId} {b : ByteArray} (hx : Env.ev E x = some (.string b)) [hs : UIs P s .string] [hd : UIs P d .string] : Ev P W n E H (.convert s d x) (.string b) :=
  Ev.mk fun o ho a w p _ => by simp [execOp, ho, p.ev hx, convert, run_underlying hs.h, run_underlying hd.h]
/-- parts of values -/
theorem Ev_extract {vs : Array Value} {i : Nat} {v : Value} (hx : Env.ev E x = some (.tuple vs)) (hv : vs[i]? = some v) : Ev P W n E H (.extract x i) v :=
  Ev.mk fun o ho a w p _ => by simp [execOp, ho, p.ev hx, Instr.extract, hv]
theorem Ev_len_str {l : List UInt8} (hx : Env.ev E x = some (strV l)) [hu : UIs P t .string] : Ev P W n E H (.call { callee := .builtin .len, args := #[x], argTypes := #[t] }) (.int .i64 l.length) :=
  Ev.mk fun o ho a w p _ => by simp [execOp, ho, resolve, invoke, builtin, p.ev hx, Builtin.len_, run_underlying hu.h, goInt]; rfl
theorem Ev_len_slice {e : TypeId} {ad : Option Addr} {m c : Nat} (hx : Env.ev E x = some (.slice ad m c)) [hu : UIs P t (.slice e)] : Ev P W n E H (.call { callee := .builtin .len, args := #[x], argTypes := #[t] }) (.int .i64 m) :=
  Ev.mk fun o ho a w p _ => by simp [execOp, ho, resolve, invoke, builtin, p.ev hx, Builtin.len_, run_underlying hu.h, goInt]
theorem Ev_len_arr {e : TypeId} {v : Value} {m : Nat} (hx : Env.ev E x = some v) [hu : UIs P t (.array m e)] : Ev P W n E H (.call { callee := .builtin .len, args := #[x], argTypes := #[t] }) (.int .i64 m) :=
  Ev.mk fun o ho a w p _ => by simp [execOp, ho, resolve, invoke, builtin, p.ev hx, Builtin.len_, run_underlying hu.h, goInt]
theorem Ev_len_map {k e : TypeId} {r : Nat} {es : Array MapEntry} {clock : Nat} (hx : Env.ev E x = some (.map (some r))) [hu : UIs P t (.map k e)] (hs : Sel (objP r (.map es clock)) H R) : Ev P W n E H (.call { callee := .builtin .len, args := #[x], argTypes := #[t] }) (.int .i64 es.size) :=
  Ev.mk fun o ho a w p q => by simp [execOp, ho, resolve, invoke, builtin, p.ev hx, Builtin.len_, run_underlying hu.h, goInt, Go.getObj, Sem.run, (q.obj hs).2, Result.andThen]
theorem Ev_min {k : IntKind} {i j : Int} {ts : Array TypeId} (hx : Env.ev E x = some (.int k i)) (hy : Env.ev E y = some (.int k j)) : Ev P W n E H (.call { callee := .builtin .min, args := #[x, y], argTypes := ts }) (.int k (min i j)) :=
  Ev.mk fun o ho a w p _ => by
    have : (if j < i then j else i) = min i j := by split <;> omega
    simp [execOp, ho, resolve, invoke, builtin, p.ev hx, p.ev hy, Builtin.min_, Builtin.min2, this]
theorem Ev_max {k : IntKind} {i j : Int} {ts : Array TypeId} (hx : Env.ev E x = some (.int k i)) (hy : Env.ev E y = some (.int k j)) : Ev P W n E H (.call { callee := .builtin .max, args := #[x, y], argTypes := ts }) (.int k (max i j)) :=
  Ev.mk fun o ho a w p _ => by
    have : (if j > i then j else i) = max i j := by split <;> omega
    simp [execOp, ho, resolve, invoke, builtin, p.ev hx, p.ev hy, Builtin.max_, Builtin.max2, this]
def notIface : TypeDesc → Bool
  | .interface _ => false
  | _ => true
theorem Ev_makeIface {d : TypeDesc} {v : Value} (hx : Env.ev E x = some v) [hu : UIs P t d] (hd : notIface d = true) : Ev P W n E H (.makeInterface t x) (.iface t v) :=
  Ev.mk fun o ho a w p _ => by cases d <;> simp_all [notIface, execOp, p.ev hx, Instr.makeInterface, run_underlying hu.h]
end
end Go.Proofs.YteklldbfdmaafaaDoor
/-
  The disk as plain data: sectors, writes under way, power. No program in sight.
-/
namespace Go.Proofs.YteklldbfdmaafaaDoor
open Go Go.RowKit
/-- the disk's state: durable bytes, the writes under way in their order, the power, the counters -/
structure Dsk where
  n : Nat
  img : List UInt8
  und : List (Nat × List UInt8)
  off : Bool
  armed : Int
  writes : Int
  flushes : Int
  life : Int

structure Dsk.ok (D : Dsk) : Prop where
  n1 : 1 ≤ D.n
  n2 : D.n ≤ 65536
  len : D.img.length = 256 * D.n
  und : ∀ x ∈ D.und, x.1 < D.n ∧ x.2.length = 256
  arm1 : -1 ≤ D.armed
  arm2 : D.armed ≤ 9223372036854775807

/-- n bytes of nought -/
def zs (n : Nat) : List UInt8 := List.replicate n 0
theorem zs_length (n : Nat) : (zs n).length = n := List.length_replicate
/-- 64 bits -/
def w64 (x : Int) : Int := Go.RowKit.wrap64 x

/-- the number of the last write of sector i -/
def lastIx (u : List (Nat × List UInt8)) (i : Nat) : Option Nat := ((u.zipIdx.filter (fun x => x.1.1 == i)).getLast?).map (·.2)
/-- the last bytes written of sector i -/
def lastW (u : List (Nat × List UInt8)) (i : Nat) : Option (List UInt8) := ((u.filter (fun x => x.1 == i)).getLast?).map (·.2)

theorem lastIx_nil (i : Nat) : lastIx [] i = none := rfl
theorem lastW_nil (i : Nat) : lastW [] i = none := rfl
theorem lastIx_snoc (u : List (Nat × List UInt8)) (j : Nat) (b : List UInt8) (i : Nat) : lastIx (u ++ [(j, b)]) i = if j = i then some u.length else lastIx u i := by
  unfold lastIx
  rw [List.zipIdx_append, List.filter_append]
  by_cases h : j = i
  · subst h; simp [List.getLast?_append]
  · have : (j == i) = false := by simpa using h
    simp [this, h]
theorem lastW_snoc (u : List (Nat × List UInt8)) (j : Nat) (b : List UInt8) (i : Nat) : lastW (u ++ [(j, b)]) i = if j = i then some b else lastW u i := by
  unfold lastW
  rw [List.filter_append]
  by_cases h : j = i
  · subst h; simp [List.getLast?_append]
  · have : (j == i) = false := by simpa using h
    simp [this, h]

theorem last_snoc_induction {α : Type} {P : List α → Prop} (h0 : P []) (h1 : ∀ l x, P l → P (l ++ [x])) (l : List α) : P l := by
  have : ∀ n (l : List α), l.length = n → P l := by
    intro n
    induction n with
    | zero => intro l hl; rw [List.eq_nil_of_length_eq_zero hl]; exact h0
    | succ n ih =>
      intro l hl
      have hne : l ≠ [] := by intro h; subst h; simp at hl
      rw [← List.dropLast_concat_getLast hne]
      exact h1 _ _ (ih _ (by simp; omega))
  exact this _ l rfl

theorem lastIx_some (u : List (Nat × List UInt8)) (i k : Nat) (h : lastIx u i = some k) : ∃ b, u[k]? = some (i, b) ∧ lastW u i = some b := by
  revert k
  refine last_snoc_induction (P := fun u => ∀ k, lastIx u i = some k → ∃ b, u[k]? = some (i, b) ∧ lastW u i = some b) ?_ ?_ u
  · intro k h; simp [lastIx_nil] at h
  · intro l x ih k h
    obtain ⟨j, b⟩ := x
    rw [lastIx_snoc] at h
    rw [lastW_snoc]
    by_cases hj : j = i
    · subst hj; simp at h; subst h; exact ⟨b, by simp, by simp⟩
    · rw [if_neg hj] at h
      obtain ⟨b', h1, h2⟩ := ih k h
      refine ⟨b', ?_, by rw [if_neg hj]; exact h2⟩
      have := (List.getElem?_eq_some_iff.1 h1).1
      rw [List.getElem?_append_left this]; exact h1
theorem lastIx_none (u : List (Nat × List UInt8)) (i : Nat) (h : lastIx u i = none) : lastW u i = none := by
  revert h
  refine last_snoc_induction (P := fun u => lastIx u i = none → lastW u i = none) (fun _ => rfl) ?_ u
  intro l x ih h
  obtain ⟨j, b⟩ := x
  rw [lastIx_snoc] at h
  rw [lastW_snoc]
  by_cases hj : j = i
  · subst hj; simp at h
  · rw [if_neg hj] at h ⊢; exact ih h
/-- n bytes of l from o on -/
def cut (l : List UInt8) (o n : Nat) : List UInt8 := (l.drop o).take n
/-- b laid over l from o on -/
def lay {α : Type} (l : List α) (o : Nat) (b : List α) : List α := l.take o ++ (b ++ l.drop (o + b.length))
theorem lay_length {α : Type} (l : List α) (o : Nat) (b : List α) (h : o + b.length ≤ l.length) : (lay l o b).length = l.length := by
  simp [lay]; omega
theorem cut_length (l : List UInt8) (o n : Nat) (h : o + n ≤ l.length) : (cut l o n).length = n := by simp [cut]; omega

theorem flat_get {α β : Type} (f : α → List β) (c : Nat) (l : List α) (hf : ∀ x ∈ l, (f x).length = c) (k : Nat) (x : α) (hk : l[k]? = some x) (j : Nat) (hj : j < c) : (l.flatMap f)[k * c + j]? = (f x)[j]? := by
  induction l generalizing k with
  | nil => simp at hk
  | cons y l ih =>
    have hy := hf y (by simp)
    cases k with
    | zero =>
      simp at hk; subst hk
      rw [List.flatMap_cons, List.getElem?_append_left (by omega)]
      simp
    | succ k =>
      rw [List.flatMap_cons, List.getElem?_append_right (by rw [hy, Nat.succ_mul]; omega)]
      rw [show (k + 1) * c + j - (f y).length = k * c + j by rw [hy, Nat.succ_mul]; omega]
      exact ih (fun z hz => hf z (by simp [hz])) k (by simpa using hk)
def Dsk.sec (D : Dsk) (i : Nat) : List UInt8 := cut D.img (i * 256) 256
def Dsk.rd (D : Dsk) (i : Nat) : List UInt8 := (lastW D.und i).getD (D.sec i)
/-- Read: the bytes and the error's number -/
def Dsk.has (D : Dsk) (i : Int) : Bool := decide (0 ≤ i ∧ i < D.n)
def Dsk.readS (D : Dsk) (i : Int) : List UInt8 := if D.off then [] else if D.has i then D.rd i.toNat else []
def Dsk.readE (D : Dsk) (i : Int) : Nat := if D.off then 12 else if D.has i then 0 else 6
/-- at this write or flush: does the power go? -/
def Dsk.dead (D : Dsk) : Bool := decide (D.armed = 0)
def Dsk.gone (D : Dsk) : Dsk := if D.armed = 0 then { D with off := true } else if 0 < D.armed then { D with armed := D.armed - 1 } else D
def Dsk.writeE (D : Dsk) (i : Int) (s : List UInt8) : Nat := if D.off then 12 else if D.has i then (if s.length = 256 then (if D.dead then 12 else 0) else 7) else 6
def Dsk.writeD (D : Dsk) (i : Int) (s : List UInt8) : Dsk :=
  if D.off then D else if D.has i then (if s.length = 256 then
    (let D1 := ({ D with und := D.und ++ [(i.toNat, s)] } : Dsk).gone
     if D.dead then D1 else { D1 with writes := w64 (D1.writes + 1) }) else D) else D
def layAll (img : List UInt8) (u : List (Nat × List UInt8)) : List UInt8 := u.foldl (fun m x => lay m (x.1 * 256) x.2) img
def Dsk.flushE (D : Dsk) : Nat := if D.off || D.dead then 12 else 0
def Dsk.flushD (D : Dsk) : Dsk :=
  if D.off then D else if D.dead then D.gone else
    { D.gone with img := layAll D.img D.und, und := [], flushes := w64 (D.flushes + 1) }
def Dsk.clr (D : Dsk) : Dsk := { D with und := [] }
def Dsk.arm (D : Dsk) (k : Int) : Dsk := { D with armed := max k (-1) }
/-- how many bytes of write number k are done -/
def done (kept : List Bool) (torn bytes : Int) (k : Nat) : Nat :=
  if (k : Int) = torn then (min (max bytes 0) 256).toNat else if kept.getD k false then 256 else 0
def layDone (img : List UInt8) (kept : List Bool) (torn bytes : Int) (u : List (Nat × List UInt8)) : List UInt8 :=
  u.zipIdx.foldl (fun m x => lay m (x.1.1 * 256) (x.1.2.take (done kept torn bytes x.2))) img
def Dsk.crash (D : Dsk) (kept : List Bool) (torn bytes : Int) : Dsk :=
  { D with img := layDone D.img kept torn bytes D.und, und := [], armed := -1, off := false, life := w64 (D.life + 1) }
def Dsk.blank (n : Nat) : Dsk := { n := n, img := zs (256 * n), und := [], off := false, armed := -1, writes := 0, flushes := 0, life := 0 }
def Dsk.of (img : List UInt8) : Dsk := { n := img.length / 256, img := img, und := [], off := false, armed := -1, writes := 0, flushes := 0, life := 0 }

theorem Dsk.gone_und (D : Dsk) : D.gone.und = D.und := by unfold Dsk.gone; split; rfl; split <;> rfl
theorem Dsk.gone_img (D : Dsk) : D.gone.img = D.img := by unfold Dsk.gone; split; rfl; split <;> rfl
theorem Dsk.gone_n (D : Dsk) : D.gone.n = D.n := by unfold Dsk.gone; split; rfl; split <;> rfl
theorem Dsk.gone_writes (D : Dsk) : D.gone.writes = D.writes := by unfold Dsk.gone; split; rfl; split <;> rfl
theorem Dsk.gone_flushes (D : Dsk) : D.gone.flushes = D.flushes := by unfold Dsk.gone; split; rfl; split <;> rfl
theorem Dsk.gone_ok {D : Dsk} (h : D.ok) : D.gone.ok := by
  unfold Dsk.gone
  have a1 := h.arm1
  have a2 := h.arm2
  split
  · exact ⟨h.n1, h.n2, h.len, h.und, a1, a2⟩
  · split
    · exact ⟨h.n1, h.n2, h.len, h.und, by show -1 ≤ D.armed - 1; omega, by show D.armed - 1 ≤ _; omega⟩
    · exact h
theorem layAll_snoc (img : List UInt8) (u : List (Nat × List UInt8)) (x : Nat × List UInt8) : layAll img (u ++ [x]) = lay (layAll img u) (x.1 * 256) x.2 := by simp [layAll]
theorem layAll_take (img : List UInt8) (u : List (Nat × List UInt8)) (k j : Nat) (b : List UInt8) (hk : u[k]? = some (j, b)) : layAll img (u.take (k + 1)) = lay (layAll img (u.take k)) (j * 256) b := by
  have h := (List.getElem?_eq_some_iff.1 hk).1
  rw [List.take_succ_eq_append_getElem h, layAll_snoc]
  have : u[k] = (j, b) := (List.getElem?_eq_some_iff.1 hk).2
  rw [this]
theorem layAll_length (u : List (Nat × List UInt8)) : ∀ (img : List UInt8) (n : Nat), img.length = 256 * n → (∀ x ∈ u, x.1 < n ∧ x.2.length = 256) → (layAll img u).length = 256 * n := by
  induction u with
  | nil => intro img n h _; exact h
  | cons x u ih =>
    intro img n h hu
    have hx := hu x (by simp)
    refine ih _ n ?_ (fun y hy => hu y (by simp [hy]))
    rw [lay_length _ _ _ (by rw [hx.2]; omega)]; exact h
theorem layDone_snoc (img : List UInt8) (kept : List Bool) (torn bytes : Int) (u : List (Nat × List UInt8)) (x : Nat × List UInt8) : layDone img kept torn bytes (u ++ [x]) = lay (layDone img kept torn bytes u) (x.1 * 256) (x.2.take (done kept torn bytes u.length)) := by
  simp [layDone, List.zipIdx_append]
theorem layDone_take (img : List UInt8) (kept : List Bool) (torn bytes : Int) (u : List (Nat × List UInt8)) (k j : Nat) (b : List UInt8) (hk : u[k]? = some (j, b)) :
    layDone img kept torn bytes (u.take (k + 1)) = lay (layDone img kept torn bytes (u.take k)) (j * 256) (b.take (done kept torn bytes k)) := by
  have h := (List.getElem?_eq_some_iff.1 hk).1
  rw [List.take_succ_eq_append_getElem h, layDone_snoc]
  have : u[k] = (j, b) := (List.getElem?_eq_some_iff.1 hk).2
  rw [this, List.length_take, Nat.min_eq_left (by omega)]
theorem lay_nil {α : Type} (l : List α) (o : Nat) : lay l o [] = l := by simp [lay]
theorem layDone_length (kept : List Bool) (torn bytes : Int) (u : List (Nat × List UInt8)) : ∀ (img : List UInt8) (n : Nat), img.length = 256 * n → (∀ x ∈ u, x.1 < n ∧ x.2.length = 256) → (layDone img kept torn bytes u).length = 256 * n := by
  intro img n h hu
  unfold layDone
  have : ∀ (z : List ((Nat × List UInt8) × Nat)), (∀ x ∈ z, x.1 ∈ u) → ∀ m : List UInt8, m.length = 256 * n → (z.foldl (fun m x => lay m (x.1.1 * 256) (x.1.2.take (done kept torn bytes x.2))) m).length = 256 * n := by
    intro z
    induction z with
    | nil => intro _ m hm; exact hm
    | cons y z ih =>
      intro hz m hm
      have hy := hu y.1 (hz y (by simp))
      refine ih (fun x hx => hz x (by simp [hx])) _ ?_
      rw [lay_length _ _ _ (by rw [List.length_take]; omega)]; exact hm
  exact this _ (fun x hx => by obtain ⟨a, b⟩ := x; exact List.fst_mem_of_mem_zipIdx hx) img h
theorem Dsk.writeD_ok {D : Dsk} (h : D.ok) (i : Int) (s : List UInt8) : (D.writeD i s).ok := by
  unfold Dsk.writeD
  split
  · exact h
  · split
    · rename_i hi
      split
      · rename_i hs
        have hi' : 0 ≤ i ∧ i < D.n := by simpa [Dsk.has] using hi
        have h1 : ({ D with und := D.und ++ [(i.toNat, s)] } : Dsk).ok := ⟨h.n1, h.n2, h.len, by
          intro x hx
          rcases List.mem_append.1 hx with hx | hx
          · exact h.und x hx
          · simp at hx; subst hx; exact ⟨by show i.toNat < D.n; omega, hs⟩, h.arm1, h.arm2⟩
        have h2 := Dsk.gone_ok h1
        dsimp only
        split
        · exact h2
        · exact ⟨h2.n1, h2.n2, h2.len, h2.und, h2.arm1, h2.arm2⟩
      · exact h
    · exact h
theorem Dsk.flushD_ok {D : Dsk} (h : D.ok) : D.flushD.ok := by
  unfold Dsk.flushD
  split
  · exact h
  · split
    · exact Dsk.gone_ok h
    · have h2 := Dsk.gone_ok h
      exact ⟨h2.n1, h2.n2, by show (layAll D.img D.und).length = 256 * D.gone.n; rw [Dsk.gone_n]; exact layAll_length _ _ _ h.len h.und, by simp, h2.arm1, h2.arm2⟩
theorem Dsk.arm_ok {D : Dsk} (h : D.ok) (k : Int) (hk : k ≤ 9223372036854775807) : (D.arm k).ok :=
  ⟨h.n1, h.n2, h.len, h.und, by show -1 ≤ max k (-1); omega, by show max k (-1) ≤ _; omega⟩
theorem Dsk.crash_ok {D : Dsk} (h : D.ok) (kept : List Bool) (torn bytes : Int) : (D.crash kept torn bytes).ok :=
  ⟨h.n1, h.n2, layDone_length _ _ _ _ _ _ h.len h.und, by simp [Dsk.crash], by simp [Dsk.crash], by simp [Dsk.crash]⟩
theorem Dsk.blank_ok (n : Nat) (h1 : 1 ≤ n) (h2 : n ≤ 65536) : (Dsk.blank n).ok := ⟨h1, h2, zs_length _, by simp [Dsk.blank], by simp [Dsk.blank], by simp [Dsk.blank]⟩
theorem Dsk.clr_ok {D : Dsk} (h : D.ok) : D.clr.ok := ⟨h.n1, h.n2, h.len, fun x hx => (by cases hx), h.arm1, h.arm2⟩
end Go.Proofs.YteklldbfdmaafaaDoor
/-
  Laws for the walk: whole arrays out of and into memory.
-/
namespace Go.Proofs.YteklldbfdmaafaaDoor
open Go Go.RowKit
variable {P : Program}
/-- a whole array is stored into the block that was laid last -/
theorem wpList_store_top {ops : Array Oper} {rest : List Oper} {op : Oper} {a : Act} {w : World} {Q : Exit → Act → World → Prop} (hgd : op.guard = none) (ty : TypeId) (x y : Operand) (ho : op.op = .store ty x y)
    (z cells : Array Value) (T : TypeId) (hx : a.eval x = .pointer (some ⟨w.heap.size, 0, none⟩)) (hy : a.eval y = .agg cells) (hz : z.size = cells.size)
    (hi : (P.info? ty).map (·.size) = some cells.size) (h1 : cells.all (·.oneCell') = true)
    (h : wpList P ops Q rest (a.put op.dst undef) (w.alloc (.cells cells T))) : wpList P ops Q (op :: rest) a (w.alloc (.cells z T)) := by
  refine wpList_store_row hgd ty x y ho w.heap.size cells hx hy T z (heap_alloc_new w _) hi hz h1 ?_
  rw [World.setRow_alloc_new]
  exact h

theorem all_bvs (l : List UInt8) : (bvs l).toArray.all (·.oneCell') = true := by
  rw [Array.all_eq_true_iff_forall_mem]
  intro v hv
  exact bvs_one l v (by simpa using hv)

/-- string(b), b's cells being the bytes l -/
theorem wpList_bytes_string {ops : Array Oper} {rest : List Oper} {op : Oper} {a : Act} {w : World} {Q : Exit → Act → World → Prop} (hgd : op.guard = none) (src dst e : TypeId) (x : Operand) (ho : op.op = .convert src dst x)
    (hs : P.underlying src = some (.slice e)) (he : P.underlying e = some (.int .u8)) (hd : P.underlying dst = some .string)
    (b o n cap : Nat) (l : List UInt8) (hx : a.eval x = .slice (some ⟨b, o, none⟩) n cap) (hn : n = l.length) (hc : w.rangeAt b o (bvs l))
    (h : wpList P ops Q rest (a.put op.dst (.string ⟨l.toArray⟩)) w) : wpList P ops Q (op :: rest) a w := by
  subst hn
  refine wpList_plain hgd fun K hK => ?_
  have hr := run_convert_bytes_back (P := P) w src dst e ⟨b, o, none⟩ cap l hs he hd (fun j hj => by
    rw [Addr.add_mid]
    exact hc j _ (by simp [bvs, bv, List.getElem?_eq_getElem hj]))
  unfold Oper.wp execOp
  simp only [ho, hx, Sem.run_bind, Sem.run_pure, Result.andThen_ok, hr]
  exact hK _ _ h
theorem run_clear_map {P : Program} (w : World) (t k e ty : TypeId) (ht : P.underlying t = some (.map k e)) (b : Nat) (es : Array MapEntry) (clock : Nat) (h : w.heap[b]? = some (.map es clock)) :
    (Builtin.clear_ #[t] ty #[.map (some b)]).run P w = .ok (.tuple #[]) { w with heap := w.heap.setIfInBounds b (.map #[] clock) } := by
  simp only [Builtin.clear_, List.getElem?_toArray, List.getElem?_cons_zero, Sem.run_bind, run_underlying ht w, Result.andThen_ok]
  simp [Go.getObj, Go.setObj, Sem.run, h]
theorem wpList_clear_map {P : Program} {ops : Array Oper} {rest : List Oper} {o : Oper} {a : Act} {w : World} {Q : Exit → Act → World → Prop} (hg : o.guard = none) (m : Operand) (t k e : TypeId) (ht : P.underlying t = some (.map k e))
    (ho : o.op = .call { callee := .builtin .clear, args := #[m], argTypes := #[t] }) (b : Nat) (es : Array MapEntry) (clock : Nat) (hm : a.eval m = .map (some b)) (hb : w.heap[b]? = some (.map es clock))
    (hK : wpList P ops Q rest (a.put o.dst (.tuple #[])) { w with heap := w.heap.setIfInBounds b (.map #[] clock) }) : wpList P ops Q (o :: rest) a w := by
  refine wpList_plain hg fun K hK' => ?_
  have hrun := run_clear_map (P := P) w t k e o.type ht b es clock hb
  unfold Oper.wp
  simp [execOp, ho, resolve, invoke, builtin, hm, hrun, Result.andThen]
  exact hK' _ _ hK

theorem run_copy_str {P : Program} (w : World) (dT sT ty elem : TypeId) (g o dLen dCap : Nat) (l : List UInt8) (cur : List Value) (t : TypeId)
    (hu : P.underlying dT = some (.slice elem)) (hs : (P.info? elem).map (·.size) = some 1) (hg : Blk w g cur t) (hfit : o + (l.take dLen).length ≤ cur.length) :
    (Builtin.copy_ #[dT, sT] ty #[.slice (some ⟨g, o, none⟩) dLen dCap, .string ⟨l.toArray⟩]).run P w =
      .ok (goInt (l.take dLen).length) (w.setRow g (lay cur o (bvs (l.take dLen))).toArray) := by
  have hst := run_storeCells_at P g o t (bvs (l.take dLen)) 0 cur.toArray w hg (by simpa using hfit) (bvs_one _)
  have hmin : Nat.min l.length dLen = (l.take dLen).length := by rw [List.length_take, Nat.min_comm]
  have htk : List.take (l.take dLen).length (List.map (fun b : UInt8 => Value.int IntKind.u8 (b.toNat : Int)) l) = bvs (l.take dLen) := by
    show List.take _ (List.map bv l) = List.map bv (List.take dLen l)
    rw [List.map_take, List.take_eq_take_iff]
    simp
  simp only [Nat.add_zero] at hst
  cases hq : P.info? elem with
  | none => simp [hq] at hs
  | some i =>
    simp [Builtin.copy_, run_underlying hu, Builtin.lenOf, Builtin.firstCells, sizeOf, typeInfo, hq, ByteArray.size]
    rw [hmin, htk, hst]
    simp [Result.andThen, lay]
/-- copy(dst, s), s a string -/
theorem wpList_copy_str {P : Program} {ops : Array Oper} {rest : List Oper} {op : Oper} {a : Act} {w : World} {Q : Exit → Act → World → Prop} (hgd : op.guard = none) (d s : Operand) (dT sT elem : TypeId)
    (ho : op.op = .call { callee := .builtin .copy, args := #[d, s], argTypes := #[dT, sT] }) (hu : P.underlying dT = some (.slice elem)) (hs : (P.info? elem).map (·.size) = some 1)
    (g o dLen dCap : Nat) (l : List UInt8) (cur : List Value) (t : TypeId) (hd : a.eval d = .slice (some ⟨g, o, none⟩) dLen dCap) (hx : a.eval s = .string ⟨l.toArray⟩) (hg : Blk w g cur t) (hfit : o + (l.take dLen).length ≤ cur.length)
    (h : wpList P ops Q rest (a.put op.dst (goInt (l.take dLen).length)) (w.setRow g (lay cur o (bvs (l.take dLen))).toArray)) : wpList P ops Q (op :: rest) a w :=
  Lib.wpList_copy_run w hgd d s dT sT ho _ _ hd hx (run_copy_str w dT sT op.type elem g o dLen dCap l cur t hu hs hg hfit) h
/-- .. into the block that was laid last -/
theorem wpList_copy_str_top {P : Program} {ops : Array Oper} {rest : List Oper} {op : Oper} {a : Act} {w : World} {Q : Exit → Act → World → Prop} (hgd : op.guard = none) (d s : Operand) (dT sT elem : TypeId)
    (ho : op.op = .call { callee := .builtin .copy, args := #[d, s], argTypes := #[dT, sT] }) (hu : P.underlying dT = some (.slice elem)) (hs : (P.info? elem).map (·.size) = some 1)
    (o dLen dCap : Nat) (l : List UInt8) (cur new : List Value) (t : TypeId) (hd : a.eval d = .slice (some ⟨w.heap.size, o, none⟩) dLen dCap) (hx : a.eval s = .string ⟨l.toArray⟩) (hfit : o + (l.take dLen).length ≤ cur.length) (hnew : lay cur o (bvs (l.take dLen)) = new)
    (h : wpList P ops Q rest (a.put op.dst (goInt (l.take dLen).length)) (w.alloc (.cells new.toArray t))) : wpList P ops Q (op :: rest) a (w.alloc (.cells cur.toArray t)) := by
  refine wpList_copy_str hgd d s dT sT elem ho hu hs w.heap.size o dLen dCap l cur t hd hx (heap_alloc_new w _) hfit ?_
  rw [World.setRow_alloc_new, hnew]
  exact h
/-- a struct literal -/
theorem wpList_build_as {P : Program} {ops : Array Oper} {rest : List Oper} {op : Oper} {a : Act} {w : World} {Q : Exit → Act → World → Prop} (hgd : op.guard = none) (t : TypeId) (parts : List (Nat × Operand)) (ho : op.op = .build t parts.toArray)
    (cells : Array Value) (hb : P.built t (parts.map fun (i, x) => (i, a.eval x)) = some cells) (h : wpList P ops Q rest (a.put op.dst (.agg cells)) w) : wpList P ops Q (op :: rest) a w := by
  have e : (parts.toArray.map fun (i, x) => (i, a.eval x)).toList = parts.map fun (i, x) => (i, a.eval x) := by simp
  exact wpList_build hgd t parts.toArray ho (by rw [e, hb]; rfl) (by rw [e, hb]; exact h)
theorem foldl_set_all (l : List Value) : ∀ (k : Nat) (base : Array Value), k + l.length ≤ base.size →
    ((l.zipIdx k).foldl (fun (cs : Array Value) (x : Value × Nat) => cs.setIfInBounds x.2 x.1) base).toList = base.toList.take k ++ (l ++ base.toList.drop (k + l.length)) := by
  induction l with
  | nil => intro k base h; simp
  | cons v l ih =>
    intro k base h
    simp only [List.length_cons] at h
    rw [List.zipIdx_cons, List.foldl_cons, ih (k + 1) _ (by simp; omega)]
    simp only [Array.toList_setIfInBounds, List.length_cons]
    have e1 : (base.toList.set k v).take (k + 1) = base.toList.take k ++ [v] := by
      rw [List.take_set]
      rw [List.take_succ_eq_append_getElem (by simp; omega), List.set_append_right _ _ (by simp; omega)]
      simp [show min k base.size = k by omega]
    have e2 : (base.toList.set k v).drop (k + 1 + l.length) = base.toList.drop (k + (l.length + 1)) := by
      rw [List.drop_set_of_lt (by omega)]
      congr 1; omega
    rw [e1, e2]
    simp
theorem fill_one (size : Nat) (v : Value) (base : Array Value) (h1 : v.cells.size = size) (h2 : base.size = size) :
    Instr.fill (fun i => some (i * size, size)) base [(0, v)] = some v.cells := by
  simp only [Instr.fill]
  rw [if_neg (by simp [h1, h2])]
  congr 1
  rw [← Array.toList_inj]
  have e := foldl_set_all v.cells.toList 0 base (by simp; omega)
  simp only [List.take_zero, List.nil_append] at e
  rw [List.drop_eq_nil_of_le (by simp; omega), List.append_nil] at e
  rw [← e]
  congr 1
  rw [← Array.foldl_toList]
  simp only [Array.toList_zipIdx, Nat.zero_mul, Nat.zero_add]
theorem run_buildSlice_one {P : Program} (w : World) (t e : TypeId) (i : TypeInfo) (z : Value) (v : Value) (ht : P.underlying t = some (.slice e)) (hi : P.info? e = some i) (hz : i.zero = some z) (hs : v.cells.size = i.size) (hsz : i.size ≤ 16777216) (h0 : 0 < i.size) :
    (Instr.buildSlice t 1 #[(0, v)]).run P w = .ok (.slice (some ⟨w.heap.size, 0, none⟩) 1 1) (w.alloc (.cells v.cells e)) := by
  have hne : ¬ i.size = 0 := by omega
  have hf := fill_one i.size v ((Array.range i.size).map fun x => z.cells[x % z.cells.size]!) hs (by simp)
  simp [Instr.buildSlice, run_underlying ht, sizeOf, typeInfo, hi, zeroValue, hz, hne, show ¬ 16777216 < i.size by omega, hf, newRow]
theorem wp_buildSlice_one {P : Program} {op : Oper} {a : Act} {w : World} {K : Act → World → Prop} {Q : Exit → Act → World → Prop} (t e : TypeId) (x : Operand) (ho : op.op = .buildSlice t 1 #[(0, x)])
    (ht : P.underlying t = some (.slice e)) (n : Nat) (hi : (P.info? e).map (fun i => (i.zero.isSome, i.size)) = some (true, n)) (v : Value) (hx : a.eval x = v) (cells : Array Value) (hc : v.cells = cells) (hs : cells.size = n) (hn : n ≤ 16777216) (h0 : 0 < n)
    (h : K (a.put op.dst (.slice (some ⟨w.heap.size, 0, none⟩) 1 1)) (w.alloc (.cells cells e))) : op.wp P a w K Q := by
  subst hc
  cases hq : P.info? e with
  | none => simp [hq] at hi
  | some i =>
    simp [hq] at hi
    obtain ⟨hi1, rfl⟩ := hi
    cases hz : i.zero with
    | none => simp [hz] at hi1
    | some z =>
      have hr := run_buildSlice_one (P := P) w t e i z v ht hq hz hs hn h0
      unfold Oper.wp execOp
      simp only [ho, List.map_toArray, List.map_cons, List.map_nil, hx, Sem.run_bind, Sem.run_pure, Result.andThen_ok, hr]
      exact h
/-- a region that draws its order: the first n operations only read, the others come in the text's order -/
theorem wp_region_tail {P : Program} {id : Nat} {Q : Exit → Act → World → Prop} {a : Act} {w : World} {l : List Oper} (n : Nat) (hm : P.follows .mixedOrders = true) (hB : Region.lexTailB .any l.toArray n = true)
    (h : wpStill P l.toArray w.drew (fun a' => wpList P l.toArray Q (l.drop n) a' w.drew) (l.take n) a) : (Code.region id l.toArray true).wp P Q a w :=
  wp_region_still_tail n hm hB h
/-- append(v, ..) onto a row of the call's own -/
theorem wpList_append_row {P : Program} {ops : Array Oper} {rest : List Oper} {op : Oper} {a : Act} {w : World} {Q : Exit → Act → World → Prop} (hgd : op.guard = none) (s x : Operand) (t e : TypeId)
    (ho : op.op = .call { callee := .builtin .append, args := #[s, x], argTypes := #[t, t] }) (ht : P.underlying t = some (.slice e)) (size bytes : Nat)
    (hi : (P.info? e).map (fun i => (i.zero.map (·.cells.size), i.size, i.bytes)) = some (some size, size, bytes)) (hsz : 0 < size)
    (v : Value) (n : Nat) (xs : List Value) (hs : a.eval s = v) (hown : w.ownsRow 0 e size v n xs) (b o m c : Nat) (news : List Value) (hx : a.eval x = .slice (some ⟨b, o, none⟩) m c) (hl : news.length = m * size)
    (hnews : w.rangeAt b o news) (h1 : ∀ u ∈ news, u.oneCell' = true) (h63 : n + m ≤ maxLen) (hbytes : (n + m) * bytes ≤ 140737488355328)
    (h : ∀ v' w', Go.RowKit.Hid (w'.ownsRow 0 e size v' (n + m) (xs ++ news) ∧ w.grownBy w' v.ownBlock ∧ (v'.ownBlock = v.ownBlock ∨ v'.ownBlock = some w.heap.size)) → wpList P ops Q rest (a.put op.dst v') w') : wpList P ops Q (op :: rest) a w := by
  cases hq : P.info? e with
  | none => simp [hq] at hi
  | some i =>
    simp [hq] at hi
    obtain ⟨⟨z, hz, hzc⟩, hs1, hb1⟩ := hi
    exact wpList_append_own_at w hgd s x t ho 0 e i z size bytes ht hq hz hs1 hb1 hzc hsz v n xs hs hown ⟨b, o, none⟩ m c news hx hl (fun j u hj => by rw [Addr.add_mid]; exact hnews j u hj) h1 h63 hbytes (Nat.zero_le _)
      (fun v' w' r1 r2 _ r4 => h v' w' ⟨r1, r2, r4⟩)
/-- a whole array is stored into the midst of a block that is known whole -/
theorem run_store_lay {P : Program} (w : World) (g o : Nat) (ty : TypeId) (cur vs : List Value) (T : TypeId) (hg : Blk w g cur T) (hfit : o + vs.length ≤ cur.length) (hi : (P.info? ty).map (·.size) = some vs.length) (h1 : ∀ v ∈ vs, v.oneCell' = true) :
    (Instr.storeAt ty (.pointer (some ⟨g, o, none⟩)) (.agg vs.toArray)).run P w = .ok () (w.setRow g (lay cur o vs).toArray) := by
  have hst := run_storeCells_at P g o T vs 0 cur.toArray w hg (by simpa using hfit) h1
  cases hq : P.info? ty with
  | none => simp [hq] at hi
  | some i =>
    have hs : vs.length = i.size := by simp [hq] at hi; omega
    simp only [Nat.add_zero] at hst
    simp [Instr.storeAt, Instr.sureAddr, storeVar, sizeOf, typeInfo, hq, Value.cells, hs, hst, lay]
theorem wpList_store_lay {P : Program} {ops : Array Oper} {rest : List Oper} {op : Oper} {a : Act} {w : World} {Q : Exit → Act → World → Prop} (hgd : op.guard = none) (ty : TypeId) (x y : Operand) (ho : op.op = .store ty x y)
    (g o : Nat) (cur vs : List Value) (T : TypeId) (hx : a.eval x = .pointer (some ⟨g, o, none⟩)) (hy : a.eval y = .agg vs.toArray) (hg : Blk w g cur T) (hfit : o + vs.length ≤ cur.length) (hi : (P.info? ty).map (·.size) = some vs.length) (h1 : ∀ v ∈ vs, v.oneCell' = true)
    (h : wpList P ops Q rest (a.put op.dst undef) (w.setRow g (lay cur o vs).toArray)) : wpList P ops Q (op :: rest) a w := by
  refine wpList_plain hgd fun K hK => ?_
  have hr := run_store_lay (P := P) w g o ty cur vs T hg hfit hi h1
  unfold Oper.wp execOp
  simp only [ho, hx, hy, Sem.run_bind, Sem.run_pure, Result.andThen_ok, hr]
  exact hK _ _ h
theorem wpList_max2 {P : Program} {ops : Array Oper} {rest : List Oper} {op : Oper} {a : Act} {w : World} {Q : Exit → Act → World → Prop} (hgd : op.guard = none) (x y : Operand) (t1 t2 : TypeId)
    (ho : op.op = .call { callee := .builtin .max, args := #[x, y], argTypes := #[t1, t2] }) (a1 b1 m : Int) (hx : a.eval x = .int .i64 a1) (hy : a.eval y = .int .i64 b1) (hm : max a1 b1 = m)
    (h : wpList P ops Q rest (a.put op.dst (.int .i64 m)) w) : wpList P ops Q (op :: rest) a w := by
  refine wpList_plain hgd fun K hK => ?_
  have hr := run_max_int2 (P := P) w #[t1, t2] op.type .i64 .i64 a1 b1
  rw [show (if b1 > a1 then b1 else a1) = m by rw [← hm]; split <;> omega] at hr
  unfold Oper.wp execOp
  simp only [ho, resolve, invoke, builtin, Sem.run_bind, Sem.run_pure, Result.andThen_ok, List.map_toArray, List.map_cons, List.map_nil, hx, hy, hr]
  exact hK _ _ h
theorem wpList_min2 {P : Program} {ops : Array Oper} {rest : List Oper} {op : Oper} {a : Act} {w : World} {Q : Exit → Act → World → Prop} (hgd : op.guard = none) (x y : Operand) (t1 t2 : TypeId)
    (ho : op.op = .call { callee := .builtin .min, args := #[x, y], argTypes := #[t1, t2] }) (a1 b1 m : Int) (hx : a.eval x = .int .i64 a1) (hy : a.eval y = .int .i64 b1) (hm : min a1 b1 = m)
    (h : wpList P ops Q rest (a.put op.dst (.int .i64 m)) w) : wpList P ops Q (op :: rest) a w := by
  refine wpList_plain hgd fun K hK => ?_
  have hr := run_min_int2 (P := P) w #[t1, t2] op.type .i64 .i64 a1 b1
  rw [show (if b1 < a1 then b1 else a1) = m by rw [← hm]; split <;> omega] at hr
  unfold Oper.wp execOp
  simp only [ho, resolve, invoke, builtin, Sem.run_bind, Sem.run_pure, Result.andThen_ok, List.map_toArray, List.map_cons, List.map_nil, hx, hy, hr]
  exact hK _ _ h
/-- copy(dst, src), both in memory, dst in a block that is known whole -/
theorem wpList_copy_mid {P : Program} {ops : Array Oper} {rest : List Oper} {op : Oper} {a : Act} {w : World} {Q : Exit → Act → World → Prop} (hgd : op.guard = none) (d s : Operand) (dT sT elem : TypeId)
    (ho : op.op = .call { callee := .builtin .copy, args := #[d, s], argTypes := #[dT, sT] }) (hu : P.underlying dT = some (.slice elem)) (hs : (P.info? elem).map (·.size) = some 1)
    (g o dLen dCap b so sLen sCap : Nat) (cur cs : List Value) (t : TypeId) (hd : a.eval d = .slice (some ⟨g, o, none⟩) dLen dCap) (hx : a.eval s = .slice (some ⟨b, so, none⟩) sLen sCap) (hg : Blk w g cur t)
    (hn : cs.length = Nat.min sLen dLen) (hsrc : w.rangeAt b so cs) (hfit : o + cs.length ≤ cur.length) (h1 : ∀ v ∈ cs, v.oneCell' = true)
    (h : wpList P ops Q rest (a.put op.dst (goInt cs.length)) (w.setRow g (lay cur o cs).toArray)) : wpList P ops Q (op :: rest) a w := by
  have hr := run_copy_row (P := P) w dT sT op.type elem g o dLen dCap ⟨b, so, none⟩ sLen sCap cur.toArray t cs hu hs hg hn (fun j v hj => by rw [Addr.add_mid]; exact hsrc j v hj) (by simpa using hfit) h1
  refine Lib.wpList_copy_run w hgd d s dT sT ho _ _ hd hx hr ?_
  simpa [lay] using h
/-- make([]T, 0, n) -/
theorem wpList_make_empty {P : Program} {ops : Array Oper} {rest : List Oper} {op : Oper} {a : Act} {w : World} {Q : Exit → Act → World → Prop} (hgd : op.guard = none) (lo c : Operand) (t e : TypeId) (ho : op.op = Op.makeSlice t lo c)
    (ht : P.underlying t = some (.slice e)) (size bytes : Nat) (hi : (P.info? e).map (fun i => (i.zero.map (·.cells.size), i.size, i.bytes)) = some (some size, size, bytes))
    (C : Int) (n : Nat) (hl : a.eval lo = .int .i64 0) (hc : a.eval c = .int .i64 C) (hC : C = (n : Int)) (hb : bytes * n ≤ 281474976710656) (h3 : n ≤ maxLen)
    (h : ∀ w', Go.RowKit.Hid (w'.ownsRow 0 e size (.slice (some ⟨w.heap.size, 0, none⟩) 0 n) 0 [] ∧ w.grownBy w' none) → wpList P ops Q rest (a.put op.dst (.slice (some ⟨w.heap.size, 0, none⟩) 0 n)) w') : wpList P ops Q (op :: rest) a w := by
  cases hq : P.info? e with
  | none => simp [hq] at hi
  | some i =>
    simp [hq] at hi
    obtain ⟨⟨z, hz, hzc⟩, hs1, hb1⟩ := hi
    exact wpList_make_own w hgd lo c t ho 0 e i z size ht hq hz hs1 .i64 .i64 C n hl hc hC (by rw [hb1]; exact hb) h3 (Nat.zero_le _) (fun w' r1 r2 => h w' ⟨r1, r2⟩)
/-- make([]T, n) -/
theorem wpList_make_zero {P : Program} {ops : Array Oper} {rest : List Oper} {op : Oper} {a : Act} {w : World} {Q : Exit → Act → World → Prop} (hgd : op.guard = none) (lo c : Operand) (t e : TypeId) (ho : op.op = Op.makeSlice t lo c)
    (ht : P.underlying t = some (.slice e)) (size bytes : Nat) (zc : Array Value) (hi : (P.info? e).map (fun i => (i.zero.map (·.cells), i.size, i.bytes)) = some (some zc, size, bytes))
    (C : Int) (n : Nat) (hl : a.eval lo = .int .i64 C) (hc : a.eval c = .int .i64 C) (hC : C = (n : Int)) (hb : bytes * n ≤ 281474976710656) (h3 : n ≤ maxLen)
    (h : ∀ w', Go.RowKit.Hid (Blk w' w.heap.size (madeCells zc (n * size)).toList e ∧ w.grownBy w' none) → wpList P ops Q rest (a.put op.dst (.slice (some ⟨w.heap.size, 0, none⟩) n n)) w') : wpList P ops Q (op :: rest) a w := by
  cases hq : P.info? e with
  | none => simp [hq] at hi
  | some i =>
    simp [hq] at hi
    obtain ⟨⟨z, hz, hzc⟩, hs1, hb1⟩ := hi
    refine wpList_make_full w hgd lo c t ho 0 e i z size ht hq hz hs1 .i64 .i64 C C n hl hc hC hC (by rw [hb1]; exact hb) h3 (Nat.zero_le _) (fun w' r1 r2 => h w' ⟨?_, r2⟩)
    rw [hzc] at r1
    rcases r1.2 with ⟨h1, _⟩ | ⟨g, cap, cur, hv, _, hh, _, _, hsz, htk⟩
    · cases h1
    · cases hv
      unfold Blk
      rw [hh]
      have : cur.toList = (madeCells zc (n * size)).toList := by rw [← htk, List.take_of_length_le (by simp [hsz])]
      rw [← this]
/-- a[i], a an array held as a value, its elements of one cell -/
theorem run_index_cell {P : Program} (w : World) (T e : TypeId) (n : Nat) (hu : P.underlying T = some (.array n e)) (hag : (isAgg e).run P w = .ok false w) (hs : (P.info? e).map (·.size) = some 1) (cs : List Value) (j : Nat) (hj : j < n) (v : Value) (hv : cs[j]? = some v) :
    (Instr.index T (.agg cs.toArray) (.int .i64 j)).run P w = .ok v w := by
  cases hq : P.info? e with
  | none => simp [hq] at hs
  | some i =>
    have hi : i.size = 1 := by simpa [hq] using hs
    simp [Instr.index, asIntOf, run_underlying hu, sizeOf, typeInfo, hq, hi, part, hag, hv, hj]
theorem wpList_index_cell {P : Program} {ops : Array Oper} {rest : List Oper} {op : Oper} {a : Act} {w : World} {Q : Exit → Act → World → Prop} (hgd : op.guard = none) (T e : TypeId) (x i : Operand) (ho : op.op = .index T x i)
    (n : Nat) (hu : P.underlying T = some (.array n e)) (hag : (isAgg e).run P w = .ok false w) (hs : (P.info? e).map (·.size) = some 1) (cs : List Value) (j : Nat) (hx : a.eval x = .agg cs.toArray) (hi : a.eval i = .int .i64 j) (hj : j < n) (v : Value) (hv : cs[j]? = some v)
    (h : wpList P ops Q rest (a.put op.dst v) w) : wpList P ops Q (op :: rest) a w := by
  refine wpList_plain hgd fun K hK => ?_
  have hr := run_index_cell (P := P) w T e n hu hag hs cs j hj v hv
  unfold Oper.wp execOp
  simp only [ho, hx, hi, Sem.run_bind, Sem.run_pure, Result.andThen_ok, hr]
  exact hK _ _ h
end Go.Proofs.YteklldbfdmaafaaDoor
/-
  The operations' rules: loads, stores, new blocks, addresses, slices.
-/
namespace Go.Proofs.YteklldbfdmaafaaDoor
open Go Go.RowKit
/-- the m cells of cs from k on -/
inductive Cut : List Value → Nat → Nat → List Value → Prop
  | nil {cs : List Value} : Cut cs 0 0 []
  | cons {c : Value} {cs vs : List Value} {m : Nat} : Cut cs 0 m vs → Cut (c :: cs) 0 (m + 1) (c :: vs)
  | skip {c : Value} {cs vs : List Value} {k m : Nat} : Cut cs k m vs → Cut (c :: cs) (k + 1) m vs
theorem Cut.spec {cs vs : List Value} {k m : Nat} (h : Cut cs k m vs) : vs.length = m ∧ ∀ j v, vs[j]? = some v → cs[k + j]? = some v := by
  induction h with
  | nil => exact ⟨rfl, fun j v h => by simp at h⟩
  | cons _ ih =>
    refine ⟨by simp [ih.1], fun j v h => ?_⟩
    cases j with
    | zero => simpa using h
    | succ j => have := ih.2 j v (by simpa using h); rw [← this]; simp
  | skip _ ih =>
    refine ⟨ih.1, fun j v h => ?_⟩
    have := ih.2 j v h
    rw [← this, Nat.add_right_comm]; simp
theorem Cut.of {cs : List Value} {k m : Nat} (h : k + m ≤ cs.length) : Cut cs k m ((cs.drop k).take m) := by
  induction cs generalizing k m with
  | nil => simp at h; obtain ⟨rfl, rfl⟩ := h; exact .nil
  | cons c cs ih =>
    cases k with
    | zero =>
      cases m with
      | zero => simpa using Cut.nil
      | succ m => simpa using Cut.cons (ih (k := 0) (m := m) (by simp at h ⊢; omega))
    | succ k => simpa using Cut.skip (ih (k := k) (m := m) (by simp at h ⊢; omega))
/-- cs with vs laid over it from k on -/
inductive Laid : List Value → Nat → List Value → List Value → Prop
  | nil {cs : List Value} : Laid cs 0 [] cs
  | cons {c v : Value} {cs vs cs' : List Value} : Laid cs 0 vs cs' → Laid (c :: cs) 0 (v :: vs) (v :: cs')
  | skip {c : Value} {cs vs cs' : List Value} {k : Nat} : Laid cs k vs cs' → Laid (c :: cs) (k + 1) vs (c :: cs')
theorem Laid.spec {cs vs cs' : List Value} {k : Nat} (h : Laid cs k vs cs') : k + vs.length ≤ cs.length ∧ cs' = lay cs k vs := by
  induction h with
  | nil => simp [lay]
  | cons _ ih => obtain ⟨a, rfl⟩ := ih; simp at a ⊢; exact ⟨a, by simp [lay]⟩
  | skip _ ih => obtain ⟨a, rfl⟩ := ih; simp at a ⊢; exact ⟨by omega, by simp [lay, Nat.add_right_comm]⟩
theorem Laid.of {cs vs : List Value} {k : Nat} (h : k + vs.length ≤ cs.length) : Laid cs k vs (lay cs k vs) := by
  induction cs generalizing k vs with
  | nil => simp at h; obtain ⟨rfl, rfl⟩ := h; simpa [lay] using Laid.nil
  | cons c cs ih =>
    cases k with
    | zero =>
      cases vs with
      | nil => simpa [lay] using Laid.nil
      | cons v vs => simpa [lay] using Laid.cons (c := c) (v := v) (ih (k := 0) (vs := vs) (by simp at h ⊢; omega))
    | succ k =>
      have := Laid.skip (c := c) (ih (k := k) (vs := vs) (by simp at h ⊢; omega))
      simpa [lay, Nat.add_right_comm] using this
inductive Ones : List Value → Prop
  | nil : Ones []
  | cons {v : Value} {vs : List Value} : v.oneCell' = true → Ones vs → Ones (v :: vs)
theorem Ones.all {vs : List Value} (h : Ones vs) : ∀ v ∈ vs, v.oneCell' = true := by
  induction h with
  | nil => intro v h; cases h
  | cons a _ ih => intro v h; rcases List.mem_cons.1 h with h | h; subst h; exact a; exact ih v h
theorem Ones.of {vs : List Value} (h : ∀ v ∈ vs, v.oneCell' = true) : Ones vs := by
  induction vs with
  | nil => exact .nil
  | cons v vs ih => exact .cons (h v (by simp)) (ih fun u hu => h u (by simp [hu]))
theorem Ones_bvs (l : List UInt8) : Ones (bvs l) := .of (bvs_one l)
theorem xC {cs vs : List Value} {k m : Nat} (h : Cut cs k m vs := by (repeat' (first | exact Cut.nil | apply Cut.cons | apply Cut.skip)); first | done | fail) : Cut cs k m vs := h
theorem xL {cs vs cs' : List Value} {k : Nat} (h : Laid cs k vs cs' := by (repeat' (first | exact Laid.nil | apply Laid.cons | apply Laid.skip)); first | done | fail) : Laid cs k vs cs' := h
theorem xO {vs : List Value} (h : Ones vs := by (repeat' (first | exact Ones.nil | exact Ones_bvs _ | refine Ones.cons rfl ?_)); first | done | fail) : Ones vs := h
/-- a value's cells as a list -/
inductive CellsOf : Value → List Value → Prop
  | agg {vs : List Value} : CellsOf (.agg vs.toArray) vs
  | one {v : Value} : v.oneCell' = true → CellsOf v [v]
theorem xF {v : Value} {vs : List Value} (h : CellsOf v vs := by first | exact CellsOf.agg | exact CellsOf.one rfl) : CellsOf v vs := h
theorem CellsOf.spec {v : Value} {vs : List Value} (h : CellsOf v vs) : v.cells = vs.toArray := by
  cases h with
  | agg => rfl
  | one h => cases v <;> first | rfl | (simp [Value.oneCell'] at h)

section
variable {P : Program} {W : World} {n : Nat} {E : Env} {H H' R : List SP} {x y z : Operand} {t u T : TypeId} {d : TypeDesc} {b off : Nat}
theorem run_isAgg_of (hu : P.underlying t = some d) (w : World) : (isAgg t).run P w = .ok (isAggD d) w := by
  unfold isAgg isAggD
  cases d <;> simp [run_underlying hu]
theorem run_loadAt_one (w : World) {v : Value} (hc : w.cell? ⟨b, off, none⟩ = some v) (hu : P.underlying t = some d) (hd : isAggD d = false) : (Instr.loadAt t (.pointer (some ⟨b, off, none⟩))).run P w = .ok v w := by
  simp [Instr.loadAt, Instr.sureAddr, loadVar, run_isAgg_of hu, hd, Go.load, Sem.run, hc, Result.andThen]
theorem isRow_of (hd : isAggD d = true) : d.isRow = true := by cases d <;> simp_all [isAggD, TypeDesc.isRow]
theorem Ev_load {cs : List Value} {v : Value} (hx : Env.ev E x = some (.pointer (some ⟨b, off, none⟩))) [hu : ScIs P t] (hs : Sel (cellsP b cs T) H R) (hv : cs[off]? = some v) : Ev P W n E H (.load t x) v :=
  Ev.mk fun o ho a w p q => by
    have hc : w.cell? ⟨b, off, none⟩ = some v := by rw [(q.blk hs).2.cell]; exact hv
    obtain ⟨d, hu, hd⟩ := hu.h
    simp [execOp, ho, p.ev hx, run_loadAt_one w hc hu hd, Result.andThen]
theorem Ev_loadOld {v : Value} (hx : Env.ev E x = some (.pointer (some ⟨b, off, none⟩))) [hu : ScIs P t] (hc : W.cell? ⟨b, off, none⟩ = some v) : Ev P W n E H (.load t x) v :=
  Ev.mk fun o ho a w p q => by
    obtain ⟨d, hu, hd⟩ := hu.h
    simp [execOp, ho, p.ev hx, run_loadAt_one w (q.old hc) hu hd, Result.andThen]
theorem Ev_loadAgg {cs vs : List Value} {m : Nat} (hx : Env.ev E x = some (.pointer (some ⟨b, off, none⟩))) [hu : AgIs P t] [hi : SzIs P t m] (hs : Sel (cellsP b cs T) H R) (hv : Cut cs off m vs) : Ev P W n E H (.load t x) (.agg vs.toArray) :=
  Ev.mk fun o ho a w p q => by
    have hc : w.rangeAt b off vs := fun j v hj => by rw [(q.blk hs).2.cell]; exact hv.spec.2 j v hj
    obtain ⟨d, hu, hd⟩ := hu.h
    have := run_loadAt_mid (P := P) w b off t vs d hc hu (isRow_of hd) (by rw [hv.spec.1]; exact hi.h)
    simp [execOp, ho, p.ev hx, this, Result.andThen]
theorem St.oldRange {w : World} (q : St W H w) {vs : List Value} (hc : W.rangeAt b off vs) : w.rangeAt b off vs := fun j v hj => q.old (hc j v hj)
theorem Ev_loadAggOld {vs : List Value} (hx : Env.ev E x = some (.pointer (some ⟨b, off, none⟩))) [hu : AgIs P t] (hc : W.rangeAt b off vs) [hi : SzIs P t vs.length] : Ev P W n E H (.load t x) (.agg vs.toArray) :=
  Ev.mk fun o ho a w p q => by
    obtain ⟨d, hu, hd⟩ := hu.h
    have := run_loadAt_mid (P := P) w b off t vs d (q.oldRange hc) hu (isRow_of hd) hi.h
    simp [execOp, ho, p.ev hx, this, Result.andThen]
/-- addresses -/
theorem Ev_field {f ft off' s : Nat} (hx : Env.ev E x = some (.pointer (some ⟨b, off, none⟩))) [hu : FldIs P t f ft off'] [hi : SzIs P ft (s + 1)] : Ev P W n E H (.fieldAddr t x f) (.pointer (some ⟨b, off + off', none⟩)) :=
  Ev.mk fun o ho a w p _ => by
    obtain ⟨fs, fd, hq1, hf, rfl, rfl⟩ := hu.h
    have hi := hi.h
    cases hq : P.info? fd.type with
    | none => simp [hq] at hi
    | some i =>
      have hi : i.size = s + 1 := by simpa [hq] using hi
      simp [execOp, ho, p.ev hx, Instr.fieldAt, run_underlying hq1, hf, Instr.sureAddr, fieldPlace, sizeOf, typeInfo, hq, hi, Addr.add_mid]
theorem Ev_fieldVal {f ft off' : Nat} {vs : List Value} {v : Value} (hx : Env.ev E x = some (.agg vs.toArray)) [hu : FldIs P t f ft off'] [hs : ScIs P ft] (hv : vs[off']? = some v) : Ev P W n E H (.field t x f) v :=
  Ev.mk fun o ho a w p _ => by
    obtain ⟨fs, fd, hq1, hf, rfl, rfl⟩ := hu.h
    obtain ⟨d, hu', hd⟩ := hs.h
    simp [execOp, ho, p.ev hx, Instr.field, run_underlying hq1, hf, asAgg, part, run_isAgg_of hu', hd, hv, Result.andThen]
theorem Ev_indexSlice {e : TypeId} {i : Int} {k : IntKind} {m c s : Nat} (hx : Env.ev E x = some (.slice (some ⟨b, off, none⟩) m c)) (hy : Env.ev E y = some (.int k i)) [hu : UIs P t (.slice e)] [hi : SzIs P e s] (hb : 0 ≤ i ∧ i < m) : Ev P W n E H (.indexAddr t x y) (.pointer (some ⟨b, off + i.toNat * s, none⟩)) :=
  Ev.mk fun o ho a w p _ => by
    have hi := hi.h
    cases hq : P.info? e with
    | none => simp [hq] at hi
    | some j =>
      have hi : j.size = s := by simpa [hq] using hi
      simp [execOp, ho, p.ev hx, p.ev hy, Instr.indexAt, asIntOf, run_underlying hu.h, sizeOf, typeInfo, hq, hi, hb, Addr.add_mid]
theorem Ev_indexArr {e : TypeId} {i : Int} {k : IntKind} {m s : Nat} (hx : Env.ev E x = some (.pointer (some ⟨b, off, none⟩))) (hy : Env.ev E y = some (.int k i)) [hu : UIs P t (.array m e)] [hi : SzIs P e s] (hb : 0 ≤ i ∧ i < m) : Ev P W n E H (.indexAddr t x y) (.pointer (some ⟨b, off + i.toNat * s, none⟩)) :=
  Ev.mk fun o ho a w p _ => by
    have hi := hi.h
    cases hq : P.info? e with
    | none => simp [hq] at hi
    | some j =>
      have hi : j.size = s := by simpa [hq] using hi
      simp [execOp, ho, p.ev hx, p.ev hy, Instr.indexAt, asIntOf, run_underlying hu.h, sizeOf, typeInfo, hq, hi, hb, Addr.add_mid, Instr.sureAddr]
theorem Ev_indexStr {l : List UInt8} {i : Int} {k : IntKind} {c : UInt8} (hx : Env.ev E x = some (strV l)) (hy : Env.ev E y = some (.int k i)) [hu : UIs P t .string] (h0 : 0 ≤ i) (hc : l[i.toNat]? = some c) : Ev P W n E H (.index t x y) (.int .u8 c.toNat) :=
  Ev.mk fun o ho a w p _ => by
    have hl : i.toNat < l.length := (List.getElem?_eq_some_iff.1 hc).1
    have : (⟨l.toArray⟩ : ByteArray)[i.toNat]? = some c := by
      rw [getElem?_pos _ _ (by simpa [ByteArray.size] using hl)]
      rw [List.getElem?_eq_getElem hl] at hc
      cases hc; rfl
    simp [execOp, ho, p.ev hx, p.ev hy, Instr.index, asIntOf, run_underlying hu.h, h0, this]
theorem bsize (l : List UInt8) : (⟨l.toArray⟩ : ByteArray).size = l.length := rfl
/-- parts of a text -/
theorem extract_mk (l : List UInt8) (i j : Nat) : (⟨l.toArray⟩ : ByteArray).extract i j = ⟨((l.take j).drop i).toArray⟩ := by
  apply ByteArray.ext
  simp [List.drop_take]
theorem Ev_sliceStr {l : List UInt8} {i j : Int} {ki kj : IntKind} (hx : Env.ev E x = some (strV l)) (hy : Env.ev E y = some (.int ki i)) (hz : Env.ev E z = some (.int kj j)) [hu : UIs P t .string] (hb : 0 ≤ i ∧ i ≤ j ∧ j ≤ l.length) : Ev P W n E H (.slice t x (some y) (some z) none) (strV ((l.take j.toNat).drop i.toNat)) :=
  Ev.mk fun o ho a w p _ => by
    have h1 : 0 ≤ j := by omega
    have h2 : i ≤ max j 0 := by omega
    simp [execOp, ho, p.ev hx, p.ev hy, p.ev hz, Instr.sliceAt, Instr.slice, run_underlying hu.h, Instr.sliceBounds, Instr.sliceBound, asIntOf, h1, hb, bsize, extract_mk, h2]
theorem Ev_sliceStrTo {l : List UInt8} {j : Int} {kj : IntKind} (hx : Env.ev E x = some (strV l)) (hz : Env.ev E z = some (.int kj j)) [hu : UIs P t .string] (hb : 0 ≤ j ∧ j ≤ l.length) : Ev P W n E H (.slice t x none (some z) none) (strV (l.take j.toNat)) :=
  Ev.mk fun o ho a w p _ => by
    simp [execOp, ho, p.ev hx, p.ev hz, Instr.sliceAt, Instr.slice, run_underlying hu.h, Instr.sliceBounds, Instr.sliceBound, asIntOf, hb, bsize, extract_mk]
theorem Ev_sliceStrFrom {l : List UInt8} {i : Int} {ki : IntKind} (hx : Env.ev E x = some (strV l)) (hy : Env.ev E y = some (.int ki i)) [hu : UIs P t .string] (hb : 0 ≤ i ∧ i ≤ l.length) : Ev P W n E H (.slice t x (some y) none none) (strV (l.drop i.toNat)) :=
  Ev.mk fun o ho a w p _ => by
    simp [execOp, ho, p.ev hx, p.ev hy, Instr.sliceAt, Instr.slice, run_underlying hu.h, Instr.sliceBounds, Instr.sliceBound, asIntOf, hb, bsize, extract_mk]
end
end Go.Proofs.YteklldbfdmaafaaDoor
/-
  The operations' rules: stores, new memory, calls; and a function's contract.
-/
namespace Go.Proofs.YteklldbfdmaafaaDoor
open Go Go.RowKit
/-- A contract: called where Hpre is owned, f returns r x for some x and leaves H' x; all else of one's own stays. -/
structure Ct (P : Program) (W : World) (f : FuncId) (args : List Value) (Hpre : List SP) {X : Type} (r : X → Value) (H' : X → List SP) : Prop where
  go : ∀ R w, St W (Hpre ++ R) w → Calls P f args.toArray w fun e w' => ∃ x, e = .returned (r x) ∧ St W (H' x ++ R) w'
/-- what a call's end must show -/
def Post (W : World) {X : Type} (r : X → Value) (H' : X → List SP) (R : List SP) : Ending → World → Prop := fun e w => ∃ x, e = .returned (r x) ∧ St W (H' x ++ R) w

def Env.ofArgs : List Value → Nat → Env
  | [], _ => []
  | v :: vs, k => (k, v) :: Env.ofArgs vs (k + 1)
theorem Env.ofArgs_at (vs : List Value) : ∀ k t v, Env.at (Env.ofArgs vs k) t = some v → k ≤ t ∧ vs[t - k]? = some v := by
  induction vs with
  | nil => intro k t v h; cases h
  | cons u vs ih =>
    intro k t v h
    simp only [Env.ofArgs] at h
    rw [Env.at_cons] at h
    split at h
    · rename_i e; subst e; cases h; exact ⟨Nat.le_refl _, by simp⟩
    · obtain ⟨h1, h2⟩ := ih (k + 1) t v h
      refine ⟨by omega, ?_⟩
      rw [show t - k = (t - (k + 1)) + 1 by omega]
      simpa using h2
section
variable {P : Program} {W : World} {n : Nat} {q : QQ} {k : KK} {op : Op} {E : Env} {H H' R : List SP} {ops : Array Oper} {l : List Oper} {x y z : Operand} {t u T : TypeId} {b off : Nat} {d : Nat} {dd : Option Tmp} {X : Type}
theorem Ct.enter {f : FuncId} {args : List Value} {Hpre : List SP} {r : X → Value} {Hp : X → List SP} {fn : Func} {c : Code} (hf : P.funcs[f]? = some fn) (hb : fn.body = some c) (hn : fn.ntmps = n) (hk : args.length ≤ n)
    (h : ∀ R, KJ W n (.code P c (.top (bodyPostM Fence.wide 0 P fn (Post W r Hp R)))) (Env.ofArgs args 0) (Hpre ++ R)) : Ct P W f args Hpre r Hp := by
  refine ⟨fun R w s => ?_⟩
  refine callsIn_wide.1 (callsIn_of_wp_marks (F := Fence.wide) (n := 0) hf hb trivial ((h R).go _ w ⟨?_, fun t v e => ?_⟩ (s.perm (by show (Hpre ++ R).Perm ((Hpre ++ R) ++ []); rw [List.append_nil]))))
  · simp [hn]; omega
  · obtain ⟨_, h2⟩ := Env.ofArgs_at args 0 t v e
    have hl := (List.getElem?_eq_some_iff.1 h2).1
    simp only [Nat.sub_zero] at h2 hl
    show (args.toArray ++ _)[t]? = _
    rw [Array.getElem?_append_left (by simpa using hl)]
    simpa using h2
theorem Ct.val {f : FuncId} {args : List Value} {Hpre : List SP} {r r' : X → Value} {Hp : X → List SP} (h : Ct P W f args Hpre r Hp) (e : ∀ x, r x = r' x) : Ct P W f args Hpre r' Hp := by
  have : r = r' := funext e
  subst this; exact h
/-- results -/
inductive Rvs (P : Program) (E : Env) (H : List SP) : List ResultVar → List Value → Prop
  | nil : Rvs P E H [] []
  | tmp {t : Nat} {v : Value} {rs : List ResultVar} {vs : List Value} : Env.at E t = some v → Rvs P E H rs vs → Rvs P E H (.tmp t :: rs) (v :: vs)
  | cell {a b T t : Nat} {v : Value} {cs : List Value} {R : List SP} {rs : List ResultVar} {vs : List Value} : Env.at E a = some (.pointer (some ⟨b, 0, none⟩)) → ScIs P t → Sel (cellsP b cs T) H R → cs[0]? = some v → Rvs P E H rs vs → Rvs P E H (.cell a t :: rs) (v :: vs)
  | agg {a b T t m : Nat} {ws cs : List Value} {R : List SP} {rs : List ResultVar} {vs : List Value} : Env.at E a = some (.pointer (some ⟨b, 0, none⟩)) → AgIs P t → SzIs P t m → Sel (cellsP b cs T) H R → Cut cs 0 m ws → Rvs P E H rs vs → Rvs P E H (.cell a t :: rs) (.agg ws.toArray :: vs)
def tupleV : List Value → Value
  | [v] => v
  | vs => .tuple vs.toArray
theorem run_loadVar_one (w : World) {v : Value} (hc : w.cell? ⟨b, off, none⟩ = some v) [hu : ScIs P t] : (loadVar t ⟨b, off, none⟩).run P w = .ok v w := by
  obtain ⟨d, hu, hd⟩ := hu.h
  have := run_loadAt_one w hc hu hd
  simpa [Instr.loadAt, Instr.sureAddr] using this
theorem run_loadVar_agg (w : World) {vs : List Value} {m : Nat} (hc : w.rangeAt b off vs) (hl : vs.length = m) [hu : AgIs P t] [hi : SzIs P t m] : (loadVar t ⟨b, off, none⟩).run P w = .ok (.agg vs.toArray) w := by
  obtain ⟨d, hu, hd⟩ := hu.h
  have := run_loadAt_mid (P := P) w b off t vs d hc hu (isRow_of hd) (by rw [hl]; exact hi.h)
  simpa [Instr.loadAt, Instr.sureAddr] using this
def resOf (tmps : Array Value) : ResultVar → Sem Value
  | .tmp t => pure (tmps.getD t undef)
  | .cell b t => do loadVar t (← asAddr (tmps.getD b undef))
theorem Rvs.run {rs : List ResultVar} {vs : List Value} (h : Rvs P E H rs vs) {a : Act} {w : World} (p : Hd n E a) (q : St W H w) :
    (rs.mapM (resOf a.tmps)).run P w = .ok vs w := by
  induction h with
  | nil => rfl
  | tmp e _ ih =>
    have h1 := p.at_ _ _ e
    rw [List.mapM_cons]
    simp [resOf, h1, ih, Result.andThen]
  | cell e sc s hv _ ih =>
    have h1 := p.at_ _ _ e
    have hc := (q.blk s).2.cell 0
    rw [hv] at hc
    have h2 := run_loadVar_one (P := P) w hc (hu := sc)
    rw [List.mapM_cons]
    simp [resOf, h1, ih, h2, asAddr, Result.andThen]
  | agg e ag si s hv _ ih =>
    have h1 := p.at_ _ _ e
    have hc : w.rangeAt _ 0 _ := fun j v hj => by rw [(q.blk s).2.cell]; exact hv.spec.2 j v hj
    have h2 := run_loadVar_agg (P := P) w hc hv.spec.1 (hu := ag) (hi := si)
    rw [List.mapM_cons]
    simp [resOf, h1, ih, h2, asAddr, Result.andThen]
theorem Rvs.results_run {fn : Func} {rs : List ResultVar} {vs : List Value} (hr : fn.results = rs.toArray) (h : Rvs P E H rs vs) {a : Act} {w : World} (p : Hd n E a) (q : St W H w) : (Go.results fn a.tmps).run P w = .ok (tupleV vs) w := by
  have h1 := h.run p q
  unfold Go.results
  rw [hr]
  have e : (rs.toArray.mapM (resOf a.tmps)) = (List.toArray <$> rs.mapM (resOf a.tmps)) := by simp
  show (do let vs ← rs.toArray.mapM (resOf a.tmps); pure (if h : vs.size = 1 then vs[0] else .tuple vs) : Sem Value).run P w = _
  rw [e]
  simp [h1, Result.andThen]
  cases vs with
  | nil => rfl
  | cons v vs => cases vs <;> simp [tupleV]
inductive DropTo (R : List SP) : List SP → Prop
  | refl : DropTo R R
  | there {A : SP} {H : List SP} : DropTo R H → DropTo R (A :: H)
theorem DropTo.star {H : List SP} (d : DropTo R H) : ∀ g, starL H g → starL R g := by
  induction d with
  | refl => exact fun _ q => q
  | there _ ih => exact fun g ⟨h1, h2, _, _, c, _, e⟩ => ih g (starL_le c e)
theorem Ent.of {As H1 : List SP} (p : Pick As H H1) (d : DropTo R H1) : ∀ g, starL H g → starL (As ++ R) g := by
  intro g q
  have := starL_perm p.perm g q
  obtain ⟨h1, h2, a, b, c, e, f⟩ := (starL_append g).1 this
  exact (starL_append g).2 ⟨h1, h2, a, b, c, e, d.star _ f⟩
theorem xN {As H1 : List SP} (p : Pick As H H1 := by (repeat' (first | exact Pick.nil | apply Pick.cons | exact Sel.here | apply Sel.there)); first | done | fail) (d : DropTo R H1 := by (repeat' (first | exact DropTo.refl | apply DropTo.there)); first | done | fail) : ∀ g, starL H g → starL (As ++ R) g := Ent.of p d
theorem leaves_marks {fn : Func} {tmps : Array Value} {v : Value} {r : X → Value} {Hp : X → List SP} (c : X) (hv : v = r c) (hE : ∀ g, starL H g → starL (Hp c ++ R) g) (hr : ∀ w, St W H w → (Go.results fn tmps).run P w = .ok v w) :
    ∀ (ds : List Deferred) (w : World), St W (H ++ dm ds) w → LeavesInM Fence.wide 0 P fn tmps (Post W r Hp R) ds .returning w := by
  intro ds
  induction ds with
  | nil =>
    intro w s
    have s : St W H w := s.left
    exact ⟨v, hr w s, c, by rw [hv], s.mono hE⟩
  | cons e ds ih =>
    intro w s
    refine ⟨by simp, .inl ?_⟩
    cases ht : e.target with
    | collected b =>
      have e1 : dm (e :: ds) = objP b (.deferred (some [])) :: dm ds := by simp [dm, ht]
      rw [e1] at s
      have s := s.perm List.perm_middle
      have hb := (s.obj .here).2
      refine ⟨b, _, rfl, run_takeDeferred hb, ih _ ?_⟩
      have s2 : St W (objP b (.deferred none) :: (H ++ dm ds)) (w.putObj b (.deferred none)) := s.turn .here (fun h q => q) (Hl.one_self _ _) rfl rfl rfl (by simp) (World.putObj_heap_same (Array.getElem?_eq_some_iff.1 hb).1) (fun k hk => World.putObj_heap_other hk)
      exact s2.right (A := [_])
    | _ =>
      exfalso
      have e1 : dm (e :: ds) = factP False :: dm ds := by simp [dm, ht]
      rw [e1] at s
      exact (s.perm List.perm_middle).fact .here
/-- the end of a call: hE: the claims that are owed are among those that are held -/
theorem KJ_done {r : X → Value} {Hp : X → List SP} {fn : Func} {rs : List ResultVar} {vs : List Value} {ex : Exit} (hex : ex = .ret ∨ ex = .normal) (hr : fn.results = rs.toArray) (hv : Rvs P E H rs vs) (c : X) (hc : tupleV vs = r c) (hE : ∀ g, starL H g → starL (Hp c ++ R) g) : KJ W n (.ex (.top (bodyPostM Fence.wide 0 P fn (Post W r Hp R))) ex) E H := by
  refine ⟨fun a w p q => ?_⟩
  have h1 := leaves_marks (P := P) (fn := fn) (tmps := a.tmps) (R := R) c hc hE (fun w s => hv.results_run hr p s) a.defers w q
  rcases hex with rfl | rfl
  · exact h1
  · exact h1

theorem xdn {r : X → Value} {Hp : X → List SP} {fn : Func} {rs : List ResultVar} {vs : List Value} {ex : Exit} (c : X) (hr : fn.results = rs.toArray := by rfl) (hex : ex = .ret ∨ ex = .normal := by first | exact Or.inl rfl | exact Or.inr rfl) (hv : Rvs P E H rs vs := by (repeat' (first | exact Rvs.nil | (apply Rvs.tmp; exact rfl))); first | done | fail) (hc : tupleV vs = r c := by rfl) (hE : ∀ g, starL H g → starL (Hp c ++ R) g := by exact xN) : KJ W n (.ex (.top (bodyPostM Fence.wide 0 P fn (Post W r Hp R))) ex) E H := KJ_done hex hr hv c hc hE
/-- a store -/
theorem KJ_store {v : Value} {vs cs cs' : List Value} {m : Nat} (hx : Env.ev E x = some (.pointer (some ⟨b, off, none⟩))) (hy : Env.ev E y = some v) [hi : SzIs P t m] (hs : Sel (cellsP b cs T) H R) (hv : CellsOf v vs) (hl : vs.length = m) (h1 : Ones vs) (hL : Laid cs off vs cs') (hr : Rep (cellsP b cs T) (cellsP b cs' T) H H')
    (h : KJ W n k E H') : KJ W n (.oper P (.store t x y) none k) E H := by
  obtain ⟨hfit, rfl⟩ := hL.spec
  refine ⟨fun a w p s o ho hd => ?_⟩
  have hrun := run_store_lay (P := P) w b off t cs vs T (s.left.blk hs).2 hfit (by rw [hl]; exact hi.h) h1.all
  have e : (Instr.storeAt t (.pointer (some ⟨b, off, none⟩)) v).run P w = (Instr.storeAt t (.pointer (some ⟨b, off, none⟩)) (.agg vs.toArray)).run P w := by
    simp only [Instr.storeAt, storeVar, hv.spec]
    rfl
  show uponP P o a _ ((execOp a.eval o).run P w)
  have e2 : (execOp a.eval o).run P w = .ok .skip (w.setRow b (lay cs off vs).toArray) := by
    simp [execOp, ho, p.ev hx, p.ev hy, e, hrun, Result.andThen]
  rw [e2]
  have := h.go _ _ (p.put (d := none) rfl undef) (s.setRow (hr.app _))
  rw [← hd] at this
  exact this
/-- a new block -/
theorem KJ_new {cs : List Value} (hr : ∀ o : Oper, o.op = op → ∀ a w, Hd n E a → St W H w → (execOp a.eval o).run P w = .ok (.value (.pointer (some ⟨w.heap.size, 0, none⟩))) (w.alloc (.cells cs.toArray T))) (hn : Nat.blt d n = true)
    (h : ∀ g, KJ W n k ((d, .pointer (some ⟨g, 0, none⟩)) :: E) (cellsP g cs T :: H)) : KJ W n (.oper P op (some d) k) E H := by
  refine ⟨fun a w p s o ho hd => ?_⟩
  show uponP P o a _ ((execOp a.eval o).run P w)
  rw [hr o ho a w p s.left]
  have := (h _).go _ _ (p.put (d := some d) hn _) s.new
  rw [← hd] at this
  exact this
theorem KJ_alloc {zs : List Value} [hz : ZcIs P t zs] (hn : Nat.blt d n = true) (h : ∀ g, KJ W n k ((d, .pointer (some ⟨g, 0, none⟩)) :: E) (cellsP g zs t :: H)) : KJ W n (.oper P (.alloc t) (some d) k) E H :=
  KJ_new (fun o ho a w p s => by
    have hz := hz.h
    cases hq : P.info? t with
    | none => simp [hq] at hz
    | some i =>
      simp [hq] at hz
      obtain ⟨z, hz1, hz2⟩ := hz
      simp [execOp, ho, Instr.alloc, zeroValue, typeInfo, hq, hz1, newVar, newRow, hz2, Go.newObj, Sem.run, Result.andThen]) hn h
theorem KJ_box {v : Value} {vs : List Value} (hy : Env.ev E y = some v) (hv : CellsOf v vs) (hn : Nat.blt d n = true) (h : ∀ g, KJ W n k ((d, .pointer (some ⟨g, 0, none⟩)) :: E) (cellsP g vs t :: H)) : KJ W n (.oper P (.box t y) (some d) k) E H :=
  KJ_new (fun o ho a w p s => by
    simp [execOp, ho, p.ev hy, Instr.box, newVar, newRow, hv.spec, Go.newObj, Sem.run, Result.andThen]) hn h
/-- a call of a function by its contract -/
theorem run_call {o : Oper} {f : FuncId} {xs : List Operand} {ts : Array TypeId} {vs : List Value} (ho : o.op = .call { callee := .value (.func f), args := xs.toArray, argTypes := ts }) (hx : Evs E xs vs) [hf : FnIs P f] {a : Act} (p : Hd n E a) (w : World) : (execOp a.eval o).run P w = .ok (.enter f vs.toArray) w := by
  have hf := hf.h
  cases hq : P.funcs[f]? with
  | none => simp [hq] at hf
  | some fn =>
    simp [hq] at hf
    obtain ⟨h1, h2⟩ := hf
    have e : a.eval (.func f) = .func (.func f) #[] #[] := rfl
    have hb : ¬ fn.body = none := by cases h : fn.body <;> simp_all
    have hv := p.evs hx
    simp [execOp, ho, resolve, e, Deferred.ofValue, invoke, callFunc, Go.program, Sem.run, hq, h2, hb, hv, Result.andThen]
theorem KJ_call' {f : FuncId} {xs : List Operand} {ts : Array TypeId} {vs : List Value} {Hpre : List SP} {r : X → Value} {Hp : X → List SP} (hx : Evs E xs vs) [hf : FnIs P f]
    (hc : Ct P W f vs Hpre r Hp) (hp : Pick Hpre H R) (hn : dstOk n dd = true) (h : ∀ c, KJ W n k (Env.put E dd (r c)) (Hp c ++ R)) : KJ W n (.oper P (.call { callee := .value (.func f), args := xs.toArray, argTypes := ts }) dd k) E H := by
  refine ⟨fun a w p s o ho hd => ?_⟩
  subst hd
  show uponP P o a _ ((execOp a.eval o).run P w)
  rw [run_call ho hx p w]
  refine (hc.go (R ++ dm a.defers) w (s.perm ((hp.perm.append_right _).trans (by rw [List.append_assoc])))).mono ?_
  rintro e w' ⟨c, rfl, s⟩
  refine ⟨_, rfl, (h c).go _ w' (p.put hn _) ?_⟩
  show St W (_ ++ dm (a.put o.dst _).defers) w'
  rw [put_defers, List.append_assoc]; exact s
theorem KJ_call {f : FuncId} {xs : List Operand} {ts : Array TypeId} {vs : List Value} {Hpre : List SP} {r : X → Value} {Hp : X → List SP} (hx : Evs E xs vs) [hf : FnIs P f]
    (hc : Ct P W f vs Hpre r Hp) (hp : Pick Hpre H R) (hn : Nat.blt d n = true) (h : ∀ c, KJ W n k ((d, r c) :: E) (Hp c ++ R)) : KJ W n (.oper P (.call { callee := .value (.func f), args := xs.toArray, argTypes := ts }) (some d) k) E H :=
  KJ_call' hx hc hp hn h
theorem KJ_call0 {f : FuncId} {xs : List Operand} {ts : Array TypeId} {vs : List Value} {Hpre : List SP} {r : X → Value} {Hp : X → List SP} (hx : Evs E xs vs) [hf : FnIs P f]
    (hc : Ct P W f vs Hpre r Hp) (hp : Pick Hpre H R) (h : ∀ c, KJ W n k E (Hp c ++ R)) : KJ W n (.oper P (.call { callee := .value (.func f), args := xs.toArray, argTypes := ts }) none k) E H :=
  KJ_call' hx hc hp rfl h
end
end Go.Proofs.YteklldbfdmaafaaDoor
/-
  A region that draws its order, walked once in the text's order: its loads come first, each yielding its value in every world that meets S; then its writes, of which those that may come ahead of a load keep S. After Derived/OrdersHeld.lean's theorem, with S asked only behind what may come ahead of a load.
-/
namespace Go.Proofs.YteklldbfdmaafaaDoor
open Go
section
variable {P : Program} {ops : Array Oper} {Q : Exit → Act → World → Prop} {md : Region.Mode} {S : World → Prop} {late : Nat → Bool}
/-- an operation that, where it stands among the loads, looks at no cell -/
def pureB (ops : Array Oper) (i : Nat) : Bool := match ops[i]? with
  | some o => match o.op with | .load .. => false | .lookup .. => false | _ => true
  | none => false
/-- whatever order is picked from here on; S holds behind each operation that is not late (behind one that looks at no cell: if it held ahead of it) -/
def wpAnyT (P : Program) (md : Region.Mode) (ops : Array Oper) (Q : Exit → Act → World → Prop) (S : World → Prop) (late : Nat → Bool) : Nat → Array Bool → Act → World → Prop
  | 0, listed, a, w => Region.ready md ops listed = [] ∧ Q .normal a w
  | fuel + 1, listed, a, w =>
    (Region.ready md ops listed = [] → Q .normal a w) ∧
    ∀ i ∈ Region.ready md ops listed, wpOp P ops Q i (fun a' w' => (late i = true ∨ (pureB ops i = true ∧ ¬ S w) ∨ S w') ∧ wpAnyT P md ops Q S late fuel (listed.setIfInBounds i true) a' w') a w

theorem wpAny_of_T : ∀ (fuel : Nat) (listed : Array Bool) (a : Act) (w : World), wpAnyT P md ops Q S late fuel listed a w → wpAny P md ops Q fuel listed a w
  | 0, _, _, _, h => h
  | fuel + 1, _, _, _, h => ⟨h.1, fun i hi => wpOp_mono (fun a' w' h' => wpAny_of_T fuel _ a' w' h'.2) (h.2 i hi)⟩

/-- what is listed has all it waits for listed -/
def Closed (md : Region.Mode) (ops : Array Oper) (listed : Array Bool) : Prop :=
  ∀ k o, ops[k]? = some o → listed.getD k false = true → ∀ e ∈ o.after, Region.binds md e = true → listed.getD e.on false = true
theorem Closed.set {listed : Array Bool} (h : Closed md ops listed) {i : Nat} (hi : i ∈ Region.ready md ops listed) : Closed md ops (listed.setIfInBounds i true) := by
  intro k o ho hk e he hb
  obtain ⟨_, oi, hoi, hall⟩ := mem_ready.1 hi
  by_cases hki : k = i
  · subst hki
    rw [hoi] at ho; cases ho
    exact getD_set_true (hall e he hb)
  · have : listed.getD k false = true := by rw [← hk]; exact (getD_set_ne false (Ne.symm hki)).symm
    exact getD_set_true (h k o ho this e he hb)
/-- does operation j wait for operation i, at one remove or more? -/
def waitsB (md : Region.Mode) (ops : Array Oper) : Nat → Nat → Nat → Bool
  | 0, _, _ => false
  | n + 1, j, i => match ops[j]? with
    | none => false
    | some o => o.after.any fun e => Region.binds md e && (e.on == i || waitsB md ops n e.on i)
theorem waits_listed {listed : Array Bool} (hc : Closed md ops listed) (i : Nat) : ∀ (n j : Nat), waitsB md ops n j i = true → (j ∈ Region.ready md ops listed ∨ listed.getD j false = true) → listed.getD i false = true
  | 0, _, h, _ => by simp [waitsB] at h
  | n + 1, j, h, hj => by
    simp only [waitsB] at h
    cases ho : ops[j]? with
    | none => simp [ho] at h
    | some o =>
      simp only [ho, Array.any_eq_true, Bool.and_eq_true, Bool.or_eq_true, beq_iff_eq] at h
      obtain ⟨k, hk, hb, h2⟩ := h
      have hm : o.after[k] ∈ o.after := Array.getElem_mem hk
      have hl : listed.getD (o.after[k]).on false = true := by
        rcases hj with hj | hj
        · obtain ⟨_, o', ho', hall⟩ := mem_ready.1 hj
          rw [ho] at ho'; cases ho'
          exact hall _ hm hb
        · exact hc j o ho hj _ hm hb
      rcases h2 with h2 | h2
      · rw [h2] at hl; exact hl
      · exact waits_listed hc i n _ h2 (.inr hl)

theorem not_both {listed : Array Bool} {i : Nat} (h0 : listed.getD i true = false) (h1 : listed.getD i false = true) : False := by
  rcases Nat.lt_or_ge i listed.size with h' | h'
  · simp [h'] at h0 h1; rw [h0] at h1; cases h1
  · simp [Array.getElem?_eq_none h'] at h1

theorem wpAnyT_first {i : Nat} {oi : Oper} {v : Value} (hi : ops[i]? = some oi) (hsel : ∀ (j : Nat) (o : Oper) cs b, ops[j]? = some o → o.op ≠ .select cs b)
    (hQ : ∀ c a w, Q (.panic c) (a.put oi.dst v) w → Q (.panic c) a w) (hlate : ∀ j, j < ops.size → late j = true → ∃ n, waitsB md ops n j i = true) :
    ∀ (fuel : Nat) (listed : Array Bool) (a : Act) (w : World), Closed md ops listed →
      (∀ j oj, ops[j]? = some oj → j ≠ i → listed.getD j true = false → (∀ e ∈ oj.after, Region.binds md e = true → e.on ≠ i) → oi.apart ops oj = true) →
      i ∈ Region.ready md ops listed → YieldsIf P ops S oi v a → S w →
      wpAnyT P md ops Q S late fuel (listed.setIfInBounds i true) (a.put oi.dst v) w → wpAnyT P md ops Q S late (fuel + 1) listed a w := by
  intro fuel
  induction fuel with
  | zero =>
    intro listed a w _ _ hr hy hS H
    refine ⟨fun h => (by rw [h] at hr; cases hr), fun j hj => ?_⟩
    by_cases hji : j = i
    · subst hji; exact hy.wpOp hi hS ⟨.inr (.inr hS), H⟩
    · have := ready_mono hj hji
      rw [H.1] at this
      cases this
  | succ fuel ih =>
    intro listed a w hcl hfree hr hy hS H
    refine ⟨fun h => (by rw [h] at hr; cases hr), fun j hj => ?_⟩
    by_cases hji : j = i
    · subst hji; exact hy.wpOp hi hS ⟨.inr (.inr hS), H⟩
    · have h1 := H.2 j (ready_mono hj hji)
      obtain ⟨hjun, oj, hoj, hall⟩ := mem_ready.1 hj
      have hnot : ∀ e ∈ oj.after, Region.binds md e = true → e.on ≠ i := fun e he hb heq => by
        have h1 := hall e he hb
        rw [heq] at h1
        exact not_both (mem_ready.1 hr).1 h1
      have hnl : late j ≠ true := fun hl => by
        obtain ⟨n, hn⟩ := hlate j (Array.getElem?_eq_some_iff.1 hoj).1 hl
        exact not_both (mem_ready.1 hr).1 (waits_listed hcl i n j hn (.inl hj))
      have h2 := wpOp_putIf hoj (hfree j oj hoj hji hjun hnot) (fun cs b => hsel i oi cs b hi) (fun cs b => hsel j oj cs b hoj) hQ hy h1
      have hfree' : ∀ k ok, ops[k]? = some ok → k ≠ i → (listed.setIfInBounds j true).getD k true = false →
          (∀ e ∈ ok.after, Region.binds md e = true → e.on ≠ i) → oi.apart ops ok = true := fun k ok hk hki hun hno => by
        refine hfree k ok hk hki ?_ hno
        by_cases hjk : j = k
        · subst hjk; exact hjun
        · rw [getD_set_ne true hjk] at hun; exact hun
      refine wpOp_mono (fun a' w' h3 => ?_) h2
      have hS' : S w' := (h3.2.1.resolve_left hnl).resolve_left (fun q => q.2 hS)
      refine ⟨.inr (.inr hS'), ih (listed.setIfInBounds j true) a' w' (hcl.set hj) hfree' (ready_mono hr (Ne.symm hji)) h3.1 hS' ?_⟩
      rw [Array.setIfInBounds_comm _ _ hji]
      exact h3.2.2

theorem wpAnyT_pure {i : Nat} {oi : Oper} {v : Value} (hi : ops[i]? = some oi) (hp : pureB ops i = true) (hsel : ∀ (j : Nat) (o : Oper) cs b, ops[j]? = some o → o.op ≠ .select cs b)
    (hQ : ∀ c a w, Q (.panic c) (a.put oi.dst v) w → Q (.panic c) a w) :
    ∀ (fuel : Nat) (listed : Array Bool) (a : Act) (w : World),
      (∀ j oj, ops[j]? = some oj → j ≠ i → listed.getD j true = false → (∀ e ∈ oj.after, Region.binds md e = true → e.on ≠ i) → oi.apart ops oj = true) →
      i ∈ Region.ready md ops listed → YieldsIf P ops (fun _ => True) oi v a →
      wpAnyT P md ops Q S late fuel (listed.setIfInBounds i true) (a.put oi.dst v) w → wpAnyT P md ops Q S late (fuel + 1) listed a w := by
  intro fuel
  have hme : ∀ w : World, late i = true ∨ (pureB ops i = true ∧ ¬ S w) ∨ S w := fun w => by
    by_cases h : S w
    · exact .inr (.inr h)
    · exact .inr (.inl ⟨hp, h⟩)
  induction fuel with
  | zero =>
    intro listed a w _ hr hy H
    refine ⟨fun h => (by rw [h] at hr; cases hr), fun j hj => ?_⟩
    by_cases hji : j = i
    · subst hji; exact hy.wpOp hi trivial ⟨hme w, H⟩
    · have := ready_mono hj hji
      rw [H.1] at this
      cases this
  | succ fuel ih =>
    intro listed a w hfree hr hy H
    refine ⟨fun h => (by rw [h] at hr; cases hr), fun j hj => ?_⟩
    by_cases hji : j = i
    · subst hji; exact hy.wpOp hi trivial ⟨hme w, H⟩
    · have h1 := H.2 j (ready_mono hj hji)
      obtain ⟨hjun, oj, hoj, hall⟩ := mem_ready.1 hj
      have hnot : ∀ e ∈ oj.after, Region.binds md e = true → e.on ≠ i := fun e he hb heq => by
        have h1 := hall e he hb
        rw [heq] at h1
        exact not_both (mem_ready.1 hr).1 h1
      have h2 := wpOp_putIf hoj (hfree j oj hoj hji hjun hnot) (fun cs b => hsel i oi cs b hi) (fun cs b => hsel j oj cs b hoj) hQ hy h1
      have hfree' : ∀ k ok, ops[k]? = some ok → k ≠ i → (listed.setIfInBounds j true).getD k true = false →
          (∀ e ∈ ok.after, Region.binds md e = true → e.on ≠ i) → oi.apart ops ok = true := fun k ok hk hki hun hno => by
        refine hfree k ok hk hki ?_ hno
        by_cases hjk : j = k
        · subst hjk; exact hjun
        · rw [getD_set_ne true hjk] at hun; exact hun
      refine wpOp_mono (fun a' w' h3 => ⟨h3.2.1, ih (listed.setIfInBounds j true) a' w' hfree' (ready_mono hr (Ne.symm hji)) h3.1 ?_⟩) h2
      rw [Array.setIfInBounds_comm _ _ hji]
      exact h3.2.2

/-- the first k operations of N are listed -/
def firstK (N k : Nat) : Array Bool := (List.replicate k true ++ List.replicate (N - k) false).toArray
theorem firstK_getD (N k j : Nat) (d : Bool) (hk : k ≤ N) : (firstK N k).getD j d = if j < k then true else if j < N then false else d := by
  unfold firstK
  simp only [Array.getD_eq_getD_getElem?, List.getElem?_toArray, List.getElem?_append, List.length_replicate, List.getElem?_replicate]
  by_cases h1 : j < k
  · simp [h1]
  · by_cases h2 : j < N
    · simp [h1, h2, show j - k < N - k by omega]
    · simp [h1, h2, show ¬ j - k < N - k by omega]
theorem firstK_set (N k : Nat) (hk : k < N) : (firstK N k).setIfInBounds k true = firstK N (k + 1) := by
  unfold firstK
  rw [List.setIfInBounds_toArray]
  congr 1
  rw [List.set_append_right _ _ (by simp)]
  simp only [List.length_replicate, Nat.sub_self]
  rw [show N - k = (N - (k + 1)) + 1 by omega, List.replicate_succ, List.set_cons_zero, List.replicate_succ' (n := k)]
  simp

/-- what the kernel reckons of a region: its first n operations may be taken in the text's order; behind them the order is forced; whoever comes from place m on waits for each of the first n -/
def readsB (ops : Array Oper) (n m : Nat) : Bool :=
  Region.noSelect ops && decide (n ≤ m) && decide (m ≤ ops.size) &&
  ((List.range n).all fun k => (Region.ready .any ops (firstK ops.size k)).contains k && Region.free .any ops (firstK ops.size k) k) &&
  ((List.range ops.size).all fun k => decide (k < n) || Region.ready .any ops (firstK ops.size k) == [k]) &&
  (Region.ready .any ops (firstK ops.size ops.size) == []) &&
  ((List.range ops.size).all fun j => decide (j < m) || (List.range n).all fun i => pureB ops i || waitsB .any ops ops.size j i) &&
  ((List.range ops.size).all fun k => match ops[k]? with | none => true | some o => o.after.all fun e => !Region.binds .any e || decide (e.on < k))

/-- the loads, in the text's order, each yielding its value in every world that meets S -/
def readsT (P : Program) (ops : Array Oper) (S : World → Prop) (R : Act → Prop) : List Oper → Act → Prop
  | [], a => R a
  | o :: rest, a => ∃ v, ((∀ i, ops[i]? = some o → pureB ops i = true) ∧ YieldsIf P ops (fun _ => True) o v a ∨ (∀ i, ops[i]? = some o → pureB ops i = false) ∧ YieldsIf P ops S o v a) ∧ readsT P ops S R rest (a.put o.dst v)
/-- the writes that may come ahead of a load -/
def earlyT (P : Program) (ops : Array Oper) (Q : Exit → Act → World → Prop) (S : World → Prop) (R : Act → World → Prop) : List Oper → Act → World → Prop
  | [], a, w => R a w
  | o :: rest, a, w => if Region.wanted o (yielded ops a.tmps) then o.wp P a w (fun a' w' => S w' ∧ earlyT P ops Q S R rest a' w') Q else S w ∧ earlyT P ops Q S R rest (a.put o.dst undef) w

theorem closed_first (hb : ∀ (k : Nat) (o : Oper), ops[k]? = some o → ∀ e ∈ o.after, Region.binds md e = true → e.on < k) (k : Nat) (hk : k ≤ ops.size) : Closed md ops (firstK ops.size k) := by
  intro j o ho hj e he hbd
  rw [firstK_getD _ _ _ _ hk] at hj ⊢
  have hjk : j < k := by
    by_cases h : j < k
    · exact h
    · by_cases h2 : j < ops.size <;> simp [h] at hj
  have := hb j o ho e he hbd
  rw [if_pos (by omega)]

theorem wpOp_of_list {l : List Oper} (k : Nat) (hkl : k < l.length) {a : Act} {w : World} (h : wpList P l.toArray Q (l.drop k) a w) : wpOp P l.toArray Q k (wpList P l.toArray Q (l.drop (k + 1))) a w := by
  rw [List.drop_eq_getElem_cons hkl] at h
  unfold wpOp
  have ho : l.toArray[k]? = some l[k] := by simp [hkl]
  simp only [ho]
  unfold wpList at h
  exact h

theorem wpAnyT_of_list {l : List Oper} {m : Nat} (hready : ∀ k, k < l.length → m ≤ k → Region.ready .any l.toArray (firstK l.length k) = [k]) (hend : Region.ready .any l.toArray (firstK l.length l.length) = []) (hlt : ∀ j, m ≤ j → late j = true) :
    ∀ (d k : Nat) (a : Act) (w : World), k + d = l.length → m ≤ k → wpList P l.toArray Q (l.drop k) a w → wpAnyT P .any l.toArray Q S late d (firstK l.length k) a w
  | 0, k, a, w, hk, _, h => by
    obtain rfl : k = l.length := by omega
    rw [List.drop_length] at h
    exact ⟨hend, h⟩
  | d + 1, k, a, w, hk, hm, h => by
    have hkl : k < l.length := by omega
    refine ⟨fun e => (by rw [hready k hkl hm] at e; cases e), fun i hi => ?_⟩
    rw [hready k hkl hm] at hi
    obtain rfl : i = k := by simpa using hi
    rw [show (firstK l.length i).setIfInBounds i true = firstK l.length (i + 1) from firstK_set _ _ hkl]
    exact wpOp_mono (fun a' w' h' => ⟨.inl (hlt i hm), wpAnyT_of_list hready hend hlt d (i + 1) a' w' (by omega) (by omega) h'⟩) (wpOp_of_list i hkl h)

theorem wpAnyT_of_early {l : List Oper} {n m : Nat} (hready : ∀ k, k < l.length → n ≤ k → Region.ready .any l.toArray (firstK l.length k) = [k]) (hend : Region.ready .any l.toArray (firstK l.length l.length) = []) (hlt : ∀ j, m ≤ j → late j = true) (hm : m ≤ l.length) (hnm : n ≤ m) :
    ∀ (e k : Nat) (a : Act) (w : World), k + e = m → n ≤ k → earlyT P l.toArray Q S (fun a' w' => wpList P l.toArray Q (l.drop m) a' w') ((l.drop k).take e) a w → wpAnyT P .any l.toArray Q S late (l.length - k) (firstK l.length k) a w
  | 0, k, a, w, hk, hn, h => by
    obtain rfl : k = m := by omega
    rw [List.take_zero] at h
    exact wpAnyT_of_list (fun j h1 h2 => hready j h1 (by omega)) hend hlt (l.length - k) k a w (by omega) (Nat.le_refl _) h
  | e + 1, k, a, w, hk, hn, h => by
    have hkl : k < l.length := by omega
    rw [show l.length - k = (l.length - (k + 1)) + 1 by omega]
    refine ⟨fun q => (by rw [hready k hkl hn] at q; cases q), fun i hi => ?_⟩
    rw [hready k hkl hn] at hi
    obtain rfl : i = k := by simpa using hi
    rw [show (firstK l.length i).setIfInBounds i true = firstK l.length (i + 1) from firstK_set _ _ hkl]
    rw [List.drop_eq_getElem_cons hkl, List.take_succ_cons] at h
    have ih := fun a' w' => wpAnyT_of_early hready hend hlt hm hnm e (i + 1) a' w' (by omega) (by omega)
    unfold earlyT at h
    unfold wpOp
    have ho : l.toArray[i]? = some l[i] := by simp [hkl]
    simp only [ho]
    split
    · rename_i hw
      rw [if_pos hw] at h
      have h' : wpOp P l.toArray Q i (fun a' w' => S w' ∧ earlyT P l.toArray Q S (fun a' w' => wpList P l.toArray Q (l.drop m) a' w') ((l.drop (i + 1)).take e) a' w') a w := by
        unfold wpOp; simp only [ho, hw, if_true]; exact .inl h
      have h2 := wpOp_mono (fun a' w' q => (⟨.inr (.inr q.1), ih a' w' q.2⟩ : (late i = true ∨ (pureB l.toArray i = true ∧ ¬ S w) ∨ S w') ∧ wpAnyT P .any l.toArray Q S late (l.length - (i + 1)) (firstK l.length (i + 1)) a' w')) h'
      unfold wpOp at h2; simp only [ho, hw, if_true] at h2; exact h2
    · rename_i hw
      rw [if_neg hw] at h
      exact ⟨.inr (.inr h.1), ih _ _ h.2⟩

theorem wpAnyT_of_reads {l : List Oper} {n : Nat} (hsel : Region.noSelect l.toArray = true) (hfirst : ∀ k, k < n → k ∈ Region.ready .any l.toArray (firstK l.length k) ∧ Region.free .any l.toArray (firstK l.length k) k = true)
    (hlate : ∀ i, i < n → pureB l.toArray i = false → ∀ j, j < l.length → late j = true → ∃ f, waitsB .any l.toArray f j i = true) (hb : ∀ (k : Nat) (o : Oper), l.toArray[k]? = some o → ∀ e ∈ o.after, Region.binds .any e = true → e.on < k) (hn : n ≤ l.length)
    (hQ : ∀ c a d v w, Q (.panic c) (Act.put a d v) w → Q (.panic c) a w) {w : World} (hS : S w) {R : Act → Prop} (hR : ∀ a, R a → wpAnyT P .any l.toArray Q S late (l.length - n) (firstK l.length n) a w) :
    ∀ (e k : Nat) (a : Act), k + e = n → readsT P l.toArray S R ((l.drop k).take e) a → wpAnyT P .any l.toArray Q S late (l.length - k) (firstK l.length k) a w
  | 0, k, a, hk, h => by
    obtain rfl : k = n := by omega
    rw [List.take_zero] at h
    exact hR a h
  | e + 1, k, a, hk, h => by
    have hkl : k < l.length := by omega
    rw [List.drop_eq_getElem_cons hkl, List.take_succ_cons] at h
    obtain ⟨v, hy, h⟩ := h
    have ih := wpAnyT_of_reads hsel hfirst hlate hb hn hQ hS hR e (k + 1) _ (by omega) h
    have ho : l.toArray[k]? = some l[k] := by simp [hkl]
    rw [show l.length - k = (l.length - (k + 1)) + 1 by omega]
    have hf := hfirst k (by omega)
    rcases hy with ⟨hp, hy⟩ | ⟨hp, hy⟩
    · refine wpAnyT_pure ho (hp k ho) (Region.noSelect_spec hsel) (fun c a w q => hQ c _ _ _ w q) _ _ _ _ (Region.free_spec ho hf.2) hf.1 hy ?_
      rw [firstK_set _ _ hkl]; exact ih
    · refine wpAnyT_first ho (Region.noSelect_spec hsel) (fun c a w q => hQ c _ _ _ w q) (hlate k (by omega) (hp k ho)) _ _ _ _ ?_ (Region.free_spec ho hf.2) hf.1 hy hS ?_
      · have := closed_first (md := .any) hb k (by simp; omega)
        simpa using this
      · rw [firstK_set _ _ hkl]; exact ih

/-- THE LAW: a region that draws its order, n loads first, then up to place m what keeps S, then the rest. -/
theorem wp_region_reads {id : Nat} {a : Act} {w : World} {l : List Oper} (n m : Nat) (S : World → Prop) (hm : P.follows .mixedOrders = true) (hB : readsB l.toArray n m = true) (hQ : ∀ c a d v w, Q (.panic c) (Act.put a d v) w → Q (.panic c) a w) (hS : S w.drew)
    (h : readsT P l.toArray S (fun a' => earlyT P l.toArray Q S (fun a' w' => wpList P l.toArray Q (l.drop m) a' w') ((l.drop n).take (m - n)) a' w.drew) (l.take n) a) : (Code.region id l.toArray true).wp P Q a w := by
  simp only [readsB, Bool.and_eq_true, decide_eq_true_eq, List.all_eq_true, List.mem_range, Bool.or_eq_true, beq_iff_eq, List.contains_iff_mem, List.size_toArray] at hB
  obtain ⟨⟨⟨⟨⟨⟨⟨hsel, hnm⟩, hml⟩, h1⟩, h2⟩, h3⟩, h4⟩, h5⟩ := hB
  have hready : ∀ k, k < l.length → n ≤ k → Region.ready .any l.toArray (firstK l.length k) = [k] := fun k hk hn => (h2 k hk).resolve_left (by omega)
  have hb : ∀ (k : Nat) (o : Oper), l.toArray[k]? = some o → ∀ e ∈ o.after, Region.binds .any e = true → e.on < k := by
    intro k o ho e he hbd
    have hk : k < l.length := by simpa using (Array.getElem?_eq_some_iff.1 ho).1
    have := h5 k hk
    rw [ho] at this
    simp only [Array.all_eq_true_iff_forall_mem, Bool.or_eq_true, Bool.not_eq_true', decide_eq_true_eq] at this
    exact (this e he).resolve_left (by rw [hbd]; decide)
  refine wp_region_any hm (wpAny_of_T (S := S) (late := fun j => decide (m ≤ j)) _ _ _ _ ?_)
  have h0 : Array.replicate l.toArray.size false = firstK l.length 0 := by simp [firstK]
  rw [h0]
  have := wpAnyT_of_reads (P := P) (Q := Q) (S := S) (late := fun j => decide (m ≤ j)) (n := n) hsel h1
    (fun i hi hp j hj hl => ⟨_, ((h4 j hj).resolve_left (by simpa using hl) i hi).resolve_left (by rw [hp]; decide)⟩) hb (by omega) hQ (w := w.drew) hS
    (fun a' ha => wpAnyT_of_early hready h3 (fun j hj => by simpa using hj) hml hnm (m - n) n a' w.drew (by omega) (Nat.le_refl _) ha) n 0 a (by omega) (by simpa using h)
  simpa using this
theorem pure_of {o : Oper} {b : Bool} (h : (match o.op with | .load .. => false | .lookup .. => false | _ => true) = b) (i : Nat) (hi : ops[i]? = some o) : pureB ops i = b := by
  unfold pureB; rw [hi]; exact h
theorem readsT_pure {R : Act → Prop} {o : Oper} {rest : List Oper} {a : Act} (hg : o.guard = none) (hp : (match o.op with | .load .. => false | .lookup .. => false | _ => true) = true) (v : Value) (hrun : ∀ w, (execOp a.eval o).run P w = .ok (.value v) w) (h : readsT P ops S R rest (a.put o.dst v)) : readsT P ops S R (o :: rest) a :=
  ⟨v, .inl ⟨pure_of hp, .inl ⟨by simp [Region.wanted, hg], fun w _ => hrun w⟩⟩, h⟩
theorem readsT_load {R : Act → Prop} {o : Oper} {rest : List Oper} {a : Act} (hg : o.guard = none) (hp : (match o.op with | .load .. => false | .lookup .. => false | _ => true) = false) (v : Value) (hrun : ∀ w, S w → (execOp a.eval o).run P w = .ok (.value v) w) (h : readsT P ops S R rest (a.put o.dst v)) : readsT P ops S R (o :: rest) a :=
  ⟨v, .inr ⟨pure_of hp, .inl ⟨by simp [Region.wanted, hg], hrun⟩⟩, h⟩
theorem readsT_move {R : Act → Prop} {o : Oper} {rest : List Oper} {a : Act} (hg : o.guard = none) (x : Operand) (ho : o.op = .move x) (v : Value) (hx : a.eval x = v) (h : readsT P ops S R rest (a.put o.dst v)) : readsT P ops S R (o :: rest) a :=
  readsT_pure hg (by rw [ho]) v (fun w => by simp [execOp, ho, hx]) h
theorem readsT_load_mid {R : Act → Prop} {op : Oper} {rest : List Oper} {a : Act} (hg : op.guard = none) (ty : TypeId) (x : Operand) (ho : op.op = .load ty x)
    (b o : Nat) (hx : a.eval x = .pointer (some ⟨b, o, none⟩)) (cs : List Value) (d : TypeDesc) (hc : ∀ w, S w → w.rangeAt b o cs) (hu : P.underlying ty = some d) (hd : d.isRow = true) (hi : (P.info? ty).map (·.size) = some cs.length)
    (h : readsT P ops S R rest (a.put op.dst (.agg cs.toArray))) : readsT P ops S R (op :: rest) a := by
  refine readsT_load hg (by rw [ho]) _ (fun w hS => ?_) h
  have hr := run_loadAt_mid (P := P) w b o ty cs d (hc w hS) hu hd hi
  unfold execOp
  simp only [ho, hx, Sem.run_bind, Sem.run_pure, Result.andThen_ok, hr]
theorem earlyT_step {R : Act → World → Prop} {o : Oper} {rest : List Oper} {a : Act} {w : World} (hg : o.guard = none) (h : o.wp P a w (fun a' w' => S w' ∧ earlyT P ops Q S R rest a' w') Q) : earlyT P ops Q S R (o :: rest) a w := by
  unfold earlyT
  rw [if_pos (by simp [Region.wanted, hg])]
  exact h
end
end Go.Proofs.YteklldbfdmaafaaDoor
/-
  A region that draws its order, walked once: operations that only yield a value (and leave what is owned as it is) may be done at any time that their edges allow; the others come one behind the other (or, where they are free of each other, in each order: alt).
-/
namespace Go.Proofs.YteklldbfdmaafaaDoor
open Go Go.RowKit
/-- the order in which the operations are walked: op: one that only yields; ef: one that turns something, and those that may still come behind it; alt: either may be the next -/
inductive Pl where
  | nil
  | op (i : Nat) (p : Pl)
  | ef (i : Nat) (U : List Nat) (p : Pl)
  | alt (a b : Pl)
def Pl.heads : Pl → List Nat
  | .nil => []
  | .op _ _ => []
  | .ef i _ _ => [i]
  | .alt a b => a.heads ++ b.heads

/-- j waits for i, at one remove or more -/
inductive Path (ops : Array Oper) : Nat → Nat → Prop
  | edge {j : Nat} {o : Oper} {e : Edge} : ops[j]? = some o → e ∈ o.after → Region.binds .any e = true → Path ops j e.on
  | step {j i : Nat} {o : Oper} {e : Edge} : ops[j]? = some o → e ∈ o.after → Region.binds .any e = true → Path ops e.on i → Path ops j i
theorem Path.listed {ops : Array Oper} {j i : Nat} (p : Path ops j i) {listed : Array Bool} (hc : Closed .any ops listed) (hj : j ∈ Region.ready .any ops listed ∨ listed.getD j false = true) : listed.getD i false = true := by
  have one : ∀ {j : Nat} {o : Oper} {e : Edge}, ops[j]? = some o → e ∈ o.after → Region.binds .any e = true → (j ∈ Region.ready .any ops listed ∨ listed.getD j false = true) → listed.getD e.on false = true := by
    intro j o e ho he hb hj
    rcases hj with hj | hj
    · obtain ⟨_, o', ho', hall⟩ := mem_ready.1 hj
      rw [ho] at ho'; cases ho'
      exact hall _ he hb
    · exact hc j o ho hj _ he hb
  induction p with
  | edge ho he hb => exact one ho he hb hj
  | step ho he hb _ ih => exact ih (.inr (one ho he hb hj))
/-- all that each operation waits for, as bits -/
def waitBits (ops : List Oper) : Array Nat := ops.foldl (fun acc o => acc.push (o.after.toList.foldl (fun s e => bif Region.binds .any e then s ||| 2 ^ e.on ||| acc.getD e.on 0 else s) 0)) #[]
def BitsOk (ops : Array Oper) (acc : Array Nat) : Prop := ∀ j i, (acc.getD j 0).testBit i = true → Path ops j i
theorem waitBits_ok (l : List Oper) : BitsOk l.toArray (waitBits l) := by
  have key : ∀ (r d : List Oper) (acc : Array Nat), d ++ r = l → acc.size = d.length → BitsOk l.toArray acc → BitsOk l.toArray (r.foldl (fun acc o => acc.push (o.after.toList.foldl (fun s e => bif Region.binds .any e then s ||| 2 ^ e.on ||| acc.getD e.on 0 else s) 0)) acc) := by
    intro r
    induction r with
    | nil => intro d acc _ _ h; exact h
    | cons o r ih =>
      intro d acc hd hs h
      refine ih (d ++ [o]) _ (by simp [hd]) (by simp [hs]) ?_
      have ho : l.toArray[d.length]? = some o := by subst hd; simp
      have inner : ∀ (es : List Edge) (s : Nat), (∀ e ∈ es, e ∈ o.after) → (∀ i, s.testBit i = true → Path l.toArray d.length i) → ∀ i, (es.foldl (fun s e => bif Region.binds .any e then s ||| 2 ^ e.on ||| acc.getD e.on 0 else s) s).testBit i = true → Path l.toArray d.length i := by
        intro es
        induction es with
        | nil => intro s _ hs i hi; exact hs i hi
        | cons e es ih2 =>
          intro s hes hs2
          refine ih2 _ (fun x hx => hes x (by simp [hx])) ?_
          intro i hi
          dsimp only at hi
          cases hb : Region.binds .any e with
          | false => rw [hb] at hi; exact hs2 i hi
          | true =>
            rw [hb] at hi
            simp only [cond_true, Nat.testBit_or, Bool.or_eq_true, Nat.testBit_two_pow, decide_eq_true_eq] at hi
            rcases hi with (hi | hi) | hi
            · exact hs2 i hi
            · subst hi; exact .edge ho (hes e (by simp)) hb
            · exact .step ho (hes e (by simp)) hb (h e.on i hi)
      intro j i hj
      by_cases hjl : j = d.length
      · subst hjl
        have e1 : (acc.push (o.after.toList.foldl (fun s e => bif Region.binds .any e then s ||| 2 ^ e.on ||| acc.getD e.on 0 else s) 0)).getD d.length 0 = o.after.toList.foldl (fun s e => bif Region.binds .any e then s ||| 2 ^ e.on ||| acc.getD e.on 0 else s) 0 := by
          rw [← hs]; simp
        rw [e1] at hj
        exact inner o.after.toList 0 (fun e he => by simpa using he) (fun i hi => by simp at hi) i hj
      · have e1 : (acc.push (o.after.toList.foldl (fun s e => bif Region.binds .any e then s ||| 2 ^ e.on ||| acc.getD e.on 0 else s) 0)).getD j 0 = acc.getD j 0 := by
          rw [Array.getD_eq_getD_getElem?, Array.getD_eq_getD_getElem?, Array.getElem?_push, if_neg (by omega)]
        rw [e1] at hj
        exact h j i hj
  exact key l [] #[] rfl rfl (fun j i h => by simp at h)

/-- i's slot is i's own, and whoever looks at it waits for i -/
def ownB (b : Array Nat) (ops : Array Oper) (i : Nat) : Bool := match ops[i]? with
  | none => false
  | some o => match o.dst with
    | none => true
    | some d => (List.range ops.size).all fun j => match ops[j]? with
      | none => true
      | some oj => (Nat.beq i j || !(oj.dst == some d)) && (!(oj.looksAt ops).contains d || (b.getD j 0).testBit i)
/-- what i waits for is among wk, and i is not -/
def depsB (ops : Array Oper) (wk : List Nat) (i : Nat) : Bool := match ops[i]? with
  | none => false
  | some o => !wk.contains i && o.after.all fun e => !Region.binds .any e || wk.contains e.on
/-- whoever is not among wk is one of hs or waits for one of them -/
def coverB (b : Array Nat) (ops : Array Oper) (wk hs : List Nat) : Bool := (List.range ops.size).all fun j => wk.contains j || hs.contains j || hs.any fun e => (b.getD j 0).testBit e
/-- all edges go back -/
def backB (ops : Array Oper) : Bool := Region.noSelect ops && (List.range ops.size).all fun k => match ops[k]? with
  | none => true
  | some o => o.after.all fun e => !Region.binds .any e || decide (e.on < k)
/-- the order is one that the edges bear out -/
def planB (b : Array Nat) (ops : Array Oper) : Pl → Bool → List Nat → List Nat → Bool
  | .nil, _, wk, _ => coverB b ops wk []
  | .op i p, t, wk, U => !t && depsB ops wk i && ownB b ops i && planB b ops p false (i :: wk) (i :: U)
  | .ef i U' p, t, wk, U => (t || coverB b ops wk [i]) && depsB ops wk i && (U.all fun u => U'.contains u || (b.getD i 0).testBit u) && (U'.all fun u => U.contains u) && planB b ops p false (i :: wk) U'
  | .alt x y, t, wk, U => !(x.heads ++ y.heads).isEmpty && (t || coverB b ops wk (x.heads ++ y.heads)) && planB b ops x true wk U && planB b ops y true wk U

section
variable (P : Program) (W : World) (n : Nat) (ops : Array Oper) (q : QQ)
/-- the operation yields v, now or later, and leaves what is owned as it is -/
structure QR (E : Env) (H : List SP) (o : Oper) (v : Value) : Prop where
  go : ∀ M a w, Hd n E a → St W (H ++ M) w → (execOp a.eval o).run P w = .ok (.value v) w ∨ ∃ f args, (execOp a.eval o).run P w = .ok (.enter f args) w ∧ Calls P f args w fun e w' => e = .returned v ∧ St W (H ++ M) w'
structure QV (E : Env) (H : List SP) (o : Oper) (v : Value) : Prop where
  go : (∀ a, Hd n E a → Region.wanted o (yielded ops a.tmps) = true) ∧ QR P W n E H o v ∨ (∀ a, Hd n E a → Region.wanted o (yielded ops a.tmps) = false) ∧ v = undef
/-- those of U that may still come yield what they did -/
inductive Rech (E : Env) (H : List SP) : List Nat → Prop
  | nil : Rech E H []
  | cons {u : Nat} {U : List Nat} {o : Oper} {v : Value} : ops[u]? = some o → (∀ d, o.dst = some d → Env.at E d = some v) → QV P W n ops E H o v → Rech E H U → Rech E H (u :: U)

/-- the walk along an order -/
def FJ : Pl → Env → List SP → Prop
  | .nil, E, H => KJ W n (.ex q .normal) E H
  | .op i p, E, H => ∃ o v, ops[i]? = some o ∧ dstOk n o.dst = true ∧ QV P W n ops E H o v ∧ FJ p (Env.put E o.dst v) H
  | .ef i U' p, E, H => ∃ o, ops[i]? = some o ∧ (∀ a, Hd n E a → Region.wanted o (yielded ops a.tmps) = true) ∧
      KJ W n (.oper P o.op o.dst (.raw fun a w => ∃ E' H', Hd n E' a ∧ Sta W H' a w ∧ Rech P W n ops E' H' U' ∧ FJ p E' H')) E H
  | .alt x y, E, H => FJ x E H ∧ FJ y E H
def FlowK (p : Pl) (U : List Nat) : Act → World → Prop := fun a w => ∃ E' H', Hd n E' a ∧ Sta W H' a w ∧ Rech P W n ops E' H' U ∧ FJ P W n ops q p E' H'
end
section
variable {P : Program} {W : World} {n : Nat} {ops : Array Oper} {q : QQ}
/-- the frame a is the frame a' but for slots of operations of U that are not done -/
def Vir (ops : Array Oper) (U : List Nat) (listed : Array Bool) (a a' : Act) : Prop :=
  a.defers = a'.defers ∧ a.tmps.size = a'.tmps.size ∧ ∀ t, a.tmps[t]? = a'.tmps[t]? ∨ ∃ u ∈ U, listed.getD u false = false ∧ ∃ o, ops[u]? = some o ∧ o.dst = some t

theorem Vir.eval {U : List Nat} {listed : Array Bool} {a a' : Act} (h : Vir ops U listed a a') {x : Operand} (hx : ∀ t, x = .tmp t → ∀ u ∈ U, listed.getD u false = false → ∀ o, ops[u]? = some o → o.dst ≠ some t) : a.eval x = a'.eval x := by
  cases x with
  | tmp t =>
    rcases h.2.2 t with e | ⟨u, hu, hl, o, ho, hd⟩
    · simp [Act.eval, e]
    · exact absurd hd (hx t rfl u hu hl o ho)
  | _ => rfl

theorem own_spec {bb : Array Nat} (hb : BitsOk ops bb) {i : Nat} (h : ownB bb ops i = true) {o : Oper} (ho : ops[i]? = some o) {d : Tmp} (hd : o.dst = some d) {j : Nat} {oj : Oper} (hj : ops[j]? = some oj) : (i = j ∨ oj.dst ≠ some d) ∧ (d ∉ oj.looksAt ops ∨ Path ops j i) := by
  unfold ownB at h
  simp only [ho, hd] at h
  have h2 := List.all_eq_true.1 h j (List.mem_range.2 (Array.getElem?_eq_some_iff.1 hj).1)
  simp only [hj, Bool.and_eq_true, Bool.or_eq_true, Bool.not_eq_true', beq_eq_false_iff_ne] at h2
  refine ⟨h2.1.imp (fun q => Nat.eq_of_beq_eq_true q) id, h2.2.imp (fun q => ?_) (hb j i)⟩
  intro hm
  have : (oj.looksAt ops).contains d = true := by simpa using hm
  rw [this] at q; cases q
/-- an operation whose deps are done looks at no slot that is not done -/
theorem Vir.sees {U : List Nat} {listed : Array Bool} {a a' : Act} (h : Vir ops U listed a a') (hc : Closed .any ops listed) {bb : Array Nat} (hb : BitsOk ops bb) (hU : ∀ u ∈ U, ownB bb ops u = true) {i : Nat} {o : Oper} (ho : ops[i]? = some o) (hr : i ∈ Region.ready .any ops listed) (hsel : ∀ cs b, o.op ≠ .select cs b) :
    execOp a.eval o = execOp a'.eval o ∧ Region.wanted o (yielded ops a.tmps) = Region.wanted o (yielded ops a'.tmps) := by
  have key : ∀ t ∈ o.looksAt ops, ∀ u ∈ U, listed.getD u false = false → ∀ ou, ops[u]? = some ou → ou.dst ≠ some t := by
    intro t ht u hu hl ou hou hd
    rcases (own_spec hb (hU u hu) hou hd ho).2 with h3 | h3
    · exact h3 ht
    · have := h3.listed hc (.inl hr)
      rw [hl] at this; cases this
  refine ⟨execOp_congr o hsel fun x hx => h.eval fun t e u hu hl ou hou => ?_, ?_⟩
  · subst e
    exact key t (List.mem_append_left _ (List.mem_filterMap.2 ⟨.tmp t, by simpa using hx, rfl⟩)) u hu hl ou hou
  · unfold Region.wanted
    cases hg : o.guard with
    | none => rfl
    | some gw =>
      obtain ⟨g, want⟩ := gw
      have hy : yielded ops a.tmps g = yielded ops a'.tmps g := by
        unfold yielded
        cases ht : (ops[g]?).bind (·.dst) with
        | none => rfl
        | some t =>
          have hm : t ∈ o.looksAt ops := by simp [Oper.looksAt, hg, ht]
          have : a.tmps[t]? = a'.tmps[t]? := by
            rcases h.2.2 t with e | ⟨u, hu, hl, ou, hou, hd⟩
            · exact e
            · exact absurd hd (key t hm u hu hl ou hou)
          simp [this]
      simp only [hy]

def cnt (l : List Bool) : Nat := (l.filter (!·)).length
theorem cnt_set : ∀ (l : List Bool) (i : Nat), (l[i]? : Option Bool) = some false → cnt (l.set i true) + 1 = cnt l
  | [], i, h => by simp at h
  | b :: l, 0, h => by simp at h; subst h; simp [cnt]
  | b :: l, i + 1, h => by
    have := cnt_set l i (by simpa using h)
    unfold cnt at this ⊢
    simp only [List.set_cons_succ, List.filter_cons]
    cases b <;> simp <;> omega
theorem cnt_zero (l : List Bool) (h : cnt l = 0) : ∀ i : Nat, (l[i]? : Option Bool) ≠ some false := by
  intro i hi
  have := cnt_set l i hi
  omega

structure FInv (bb : Array Nat) (P : Program) (W : World) (n : Nat) (ops : Array Oper) (wk U : List Nat) (E : Env) (H : List SP) (fuel : Nat) (listed : Array Bool) (a a' : Act) (w : World) : Prop where
  size : listed.size = ops.size
  closed : Closed .any ops listed
  cnt : cnt listed.toList ≤ fuel
  sub : ∀ k, listed.getD k false = true → k ∈ wk
  cov : ∀ k ∈ wk, listed.getD k false = true ∨ k ∈ U
  uwk : ∀ u ∈ U, u ∈ wk
  own : ∀ u ∈ U, ownB bb ops u = true
  hd : Hd n E a'
  rech : Rech P W n ops E H U
  st : Sta W H a' w
  vir : Vir ops U listed a a'

theorem back_spec (h : backB ops = true) : (∀ (j : Nat) (o : Oper) cs b, ops[j]? = some o → o.op ≠ .select cs b) ∧ ∀ (k : Nat) (o : Oper), ops[k]? = some o → ∀ e ∈ o.after, Region.binds .any e = true → e.on < k := by
  unfold backB at h
  simp only [Bool.and_eq_true] at h
  refine ⟨Region.noSelect_spec h.1, fun k o hk e he hb => ?_⟩
  have h2 := List.all_eq_true.1 h.2 k (List.mem_range.2 (Array.getElem?_eq_some_iff.1 hk).1)
  simp only [hk] at h2
  have h3 := (Array.all_eq_true_iff_forall_mem.1 h2) e he
  simpa [hb] using h3
/-- where none is ready, all are listed -/
theorem all_listed (hB : backB ops = true) {listed : Array Bool} (hs : listed.size = ops.size) (h : Region.ready .any ops listed = []) : ∀ k, k < ops.size → listed.getD k false = true := by
  intro k
  induction k using Nat.strongRecOn with
  | _ k ih =>
    intro hk
    cases hl : listed.getD k false with
    | true => rfl
    | false =>
      exfalso
      have : k ∈ Region.ready .any ops listed := by
        refine mem_ready.2 ⟨?_, ops[k], by simp [hk], fun e he hb => ?_⟩
        · have hk' : k < listed.size := by omega
          simp [hk'] at hl ⊢; exact hl
        · have hlt := (back_spec hB).2 k ops[k] (by simp [hk]) e he hb
          exact ih e.on hlt (by omega)
      rw [h] at this; cases this

theorem listed_set {listed : Array Bool} {i k : Nat} (h : (listed.setIfInBounds i true).getD k false = true) : k = i ∨ listed.getD k false = true := by
  by_cases e : i = k
  · exact .inl e.symm
  · right; rwa [getD_set_ne false e] at h

/-- one of those that may come at any time is done now -/
theorem FInv.quiet {wk U : List Nat} {E : Env} {H : List SP} {fuel : Nat} {listed : Array Bool} {a a' : Act} {w w' : World} {bb : Array Nat} (I : FInv bb P W n ops wk U E H (fuel + 1) listed a a' w) {i : Nat} (hr : i ∈ Region.ready .any ops listed) (hi : i ∈ wk) {o : Oper} (ho : ops[i]? = some o) {v : Value} (hv : ∀ d, o.dst = some d → Env.at E d = some v) (hw : Sta W H a' w') :
    FInv bb P W n ops wk U E H fuel (listed.setIfInBounds i true) (a.put o.dst v) a' w' := by
  obtain ⟨h0, _⟩ := mem_ready.1 hr
  have hlt : i < listed.size := by
    rcases Nat.lt_or_ge i listed.size with h | h
    · exact h
    · simp [Array.getElem?_eq_none h] at h0
  have h1 : listed.toList[i]? = some false := by simp [hlt] at h0 ⊢; exact h0
  refine ⟨by simp [I.size], I.closed.set hr, ?_, fun k hk => ?_, fun k hk => (I.cov k hk).imp getD_set_true id, I.uwk, I.own, I.hd, I.rech, hw, ?_⟩
  · have := cnt_set listed.toList i h1
    have h2 := I.cnt
    simp only [Array.toList_setIfInBounds]; omega
  · rcases listed_set hk with e | e
    · rw [e]; exact hi
    · exact I.sub k e
  · obtain ⟨v1, v2, v3⟩ := I.vir
    refine ⟨by cases hd : o.dst <;> simpa [Act.put, hd] using v1, by cases hd : o.dst <;> simpa [Act.put, hd] using v2, fun t => ?_⟩
    by_cases ht : o.dst = some t
    · left
      have h3 := I.hd.at_ t v (hv t ht)
      have h4 : t < a.tmps.size := by rw [v2]; exact (Array.getElem?_eq_some_iff.1 h3).1
      rw [h3]; simp [Act.put, ht, h4]
    · have he : (a.put o.dst v).tmps[t]? = a.tmps[t]? := by
        cases hd : o.dst with
        | none => rfl
        | some d =>
          have : d ≠ t := fun e => ht (by rw [hd, e])
          simp [Act.put, Array.getElem?_setIfInBounds_ne this]
      rw [he]
      rcases v3 t with e | ⟨u, hu, hl, ou, hou, hd⟩
      · exact .inl e
      · refine .inr ⟨u, hu, ?_, ou, hou, hd⟩
        have : i ≠ u := by
          intro e; subst e
          rw [ho] at hou; cases hou; exact ht hd
        rwa [getD_set_ne false this]

theorem wp_vir {o : Oper} {a a' : Act} {w : World} {K : Act → World → Prop} (h : uponP P o a' K ((execOp a'.eval o).run P w)) (he : execOp a.eval o = execOp a'.eval o) : uponP P o a (fun a1 w1 => ∃ v, a1 = a.put o.dst v ∧ K (a'.put o.dst v) w1) ((execOp a.eval o).run P w) := by
  rw [he]
  generalize (execOp a'.eval o).run P w = r at *
  unfold uponP at h ⊢
  split
  · exact ⟨_, rfl, h⟩
  · exact ⟨_, rfl, h⟩
  · exact h.mono fun e w ⟨v, he, hn⟩ => ⟨v, he, _, rfl, hn⟩
  · exact h.mono fun e w ⟨v, he, hn⟩ => ⟨v, he, _, rfl, hn⟩
  · simp_all

theorem Rech.get {E : Env} {H : List SP} {U : List Nat} (h : Rech P W n ops E H U) : ∀ u ∈ U, ∃ o, ops[u]? = some o ∧ ∃ v, (∀ d, o.dst = some d → Env.at E d = some v) ∧ QV P W n ops E H o v := by
  induction h with
  | nil => intro u hu; cases hu
  | cons ho hv hq _ ih =>
    intro u hu
    rcases List.mem_cons.1 hu with e | e
    · subst e; exact ⟨_, ho, _, hv, hq⟩
    · exact ih u e
theorem Rech.of {E : Env} {H : List SP} {U : List Nat} (h : ∀ u ∈ U, ∃ o, ops[u]? = some o ∧ ∃ v, (∀ d, o.dst = some d → Env.at E d = some v) ∧ QV P W n ops E H o v) : Rech P W n ops E H U := by
  induction U with
  | nil => exact .nil
  | cons u U ih =>
    obtain ⟨o, ho, v, hv, hq⟩ := h u (by simp)
    exact .cons ho hv hq (ih fun x hx => h x (by simp [hx]))

/-- at a place where one of hs comes next -/
theorem stage {wk U : List Nat} {E : Env} {H : List SP} (hB : backB ops = true) {bb : Array Nat} (hbb : BitsOk ops bb) (hs : List Nat) (hcov : coverB bb ops wk hs = true) (hne : ∀ e ∈ hs, e ∉ wk ∧ e < ops.size)
    (heff : ∀ e ∈ hs, ∀ fuel listed a a' w, FInv bb P W n ops wk U E H (fuel + 1) listed a a' w → e ∈ Region.ready .any ops listed → wpOpIn (fen q.ro) 0 P ops q.den e (fun a1 w1 => wpAnyIn (fen q.ro) 0 P .any ops q.den fuel (listed.setIfInBounds e true) a1 w1) a w)
    (hend : hs = [] → KJ W n (.ex q .normal) E H) : ∀ fuel listed a a' w, FInv bb P W n ops wk U E H fuel listed a a' w → wpAnyIn (fen q.ro) 0 P .any ops q.den fuel listed a w := by
  intro fuel
  have fin : ∀ (fuel : Nat) listed a a' w, FInv bb P W n ops wk U E H fuel listed a a' w → (∀ k, k < ops.size → listed.getD k false = true) → q.den .normal a w := by
    intro fuel listed a a' w I hall
    have hs0 : hs = [] := by
      cases hs with
      | nil => rfl
      | cons e hs =>
        have := hne e (by simp)
        exact absurd (I.sub e (hall e this.2)) this.1
    have ha : a = a' := by
      obtain ⟨v1, v2, v3⟩ := I.vir
      have : a.tmps = a'.tmps := by
        apply Array.ext_getElem?
        intro t
        rcases v3 t with e | ⟨u, hu, hl, ou, hou, _⟩
        · exact e
        · have := hall u (Array.getElem?_eq_some_iff.1 hou).1
          rw [hl] at this; cases this
      cases a; cases a'; simp_all
    subst ha
    exact (hend hs0).go a w I.hd I.st
  induction fuel with
  | zero =>
    intro listed a a' w I
    have hc : cnt listed.toList = 0 := by have := I.cnt; omega
    have hall : ∀ k, k < ops.size → listed.getD k false = true := by
      intro k hk
      have h1 := cnt_zero _ hc k
      have h2 : k < listed.size := by rw [I.size]; exact hk
      simp [h2] at h1 ⊢; exact h1
    refine ⟨?_, fin 0 listed a a' w I hall⟩
    cases hr : Region.ready .any ops listed with
    | nil => rfl
    | cons x xs =>
      have hx : x ∈ Region.ready .any ops listed := by rw [hr]; simp
      obtain ⟨h0, ox, hox, _⟩ := mem_ready.1 hx
      have h1 := hall x (Array.getElem?_eq_some_iff.1 hox).1
      exact (not_both h0 h1).elim
  | succ fuel ih =>
    intro listed a a' w I
    refine ⟨fun h0 => fin _ listed a a' w I (all_listed hB I.size h0), fun i hr => ?_⟩
    obtain ⟨h0, o, ho, _⟩ := mem_ready.1 hr
    have hilt := (Array.getElem?_eq_some_iff.1 ho).1
    by_cases hi : i ∈ wk
    · have hU : i ∈ U := by
        rcases I.cov i hi with h | h
        · exact (not_both h0 h).elim
        · exact h
      obtain ⟨o', ho', v, hv, hq⟩ := I.rech.get i hU
      rw [ho] at ho'
      cases ho'
      obtain ⟨hex, hwn⟩ := I.vir.sees I.closed hbb I.own ho hr ((back_spec hB).1 i o · · ho)
      unfold wpOpIn
      simp only [ho]
      rcases hq.go with ⟨hw, hqr⟩ | ⟨hw, rfl⟩
      · rw [if_pos (by rw [hwn]; exact hw a' I.hd)]
        refine uponP.wpIn _ _ ?_
        rw [hex]
        rcases hqr.go _ a' w I.hd I.st with hrun | ⟨f, args, hrun, hcall⟩
        · rw [hrun]
          exact ih _ _ _ _ (I.quiet hr hi ho hv I.st)
        · rw [hrun]
          refine hcall.mono ?_
          rintro e w' ⟨rfl, hst⟩
          exact ⟨_, rfl, ih _ _ _ _ (I.quiet hr hi ho hv hst)⟩
      · rw [if_neg (by rw [hwn, hw a' I.hd]; simp)]
        exact ⟨fun _ _ => trivial, ih _ _ _ _ (I.quiet hr hi ho hv I.st)⟩
    · have h2 := List.all_eq_true.1 hcov i (List.mem_range.2 hilt)
      simp only [Bool.or_eq_true, List.contains_iff_mem, List.any_eq_true] at h2
      rcases h2 with (h2 | h2) | ⟨e, he, hw⟩
      · exact absurd h2 hi
      · exact heff i h2 fuel listed a a' w I hr
      · have hl := (hbb i e hw).listed I.closed (.inl hr)
        exact absurd (I.sub e hl) (hne e he).1

theorem deps_spec {wk : List Nat} {i : Nat} (h : depsB ops wk i = true) : i ∉ wk ∧ i < ops.size := by
  unfold depsB at h
  cases ho : ops[i]? with
  | none => simp [ho] at h
  | some o =>
    simp only [ho, Bool.and_eq_true, Bool.not_eq_true'] at h
    refine ⟨fun hm => ?_, (Array.getElem?_eq_some_iff.1 ho).1⟩
    have : wk.contains i = true := by simpa using hm
    rw [this] at h; cases h.1
theorem heads_spec {bb : Array Nat} : ∀ (p : Pl) (t : Bool) (wk U : List Nat), planB bb ops p t wk U = true → ∀ e ∈ p.heads, e ∉ wk ∧ e < ops.size
  | .nil, _, _, _, _, e, he => by cases he
  | .op i p, _, _, _, _, e, he => by cases he
  | .ef i U' p, t, wk, U, h, e, he => by
    have he : e = i := by simpa [Pl.heads] using he
    subst he
    simp only [planB, Bool.and_eq_true] at h
    exact deps_spec h.1.1.1.2
  | .alt x y, t, wk, U, h, e, he => by
    simp only [planB, Bool.and_eq_true] at h
    rcases List.mem_append.1 he with he | he
    · exact heads_spec x true wk U h.1.2 e he
    · exact heads_spec y true wk U h.2 e he

/-- what does not look at a slot yields the same whatever lies there -/
theorem QV.put {E : Env} {H : List SP} {o : Oper} {v x : Value} {d : Option Tmp} (h : QV P W n ops E H o v) (hd : ∀ t, d = some t → t ∉ o.looksAt ops) (hsel : ∀ cs b, o.op ≠ .select cs b) : QV P W n ops (Env.put E d x) H o v := by
  cases d with
  | none => exact h
  | some d =>
    have key : ∀ a, Hd n ((d, x) :: E) a → ∃ u, Hd n E (a.put (some d) u) := by
      intro a p
      cases he : Env.at E d with
      | none =>
        refine ⟨a.tmps.getD d undef, ?_, fun t u q => ?_⟩
        · simpa [Act.put] using p.size
        · have hne : d ≠ t := fun e => by subst e; rw [he] at q; cases q
          have := p.at_ t u (by rw [Env.at_cons, if_neg hne]; exact q)
          simpa [Act.put, Array.getElem?_setIfInBounds_ne hne] using this
      | some u =>
        refine ⟨u, ?_, fun t u' q => ?_⟩
        · simpa [Act.put] using p.size
        · by_cases hne : d = t
          · subst hne
            rw [he] at q; cases q
            have := p.at_ d x (Env.at_self _ _ _)
            have hl := (Array.getElem?_eq_some_iff.1 this).1
            simp [Act.put, hl]
          · have := p.at_ t u' (by rw [Env.at_cons, if_neg hne]; exact q)
            simpa [Act.put, Array.getElem?_setIfInBounds_ne hne] using this
    have hd' := hd d rfl
    refine ⟨?_⟩
    rcases h.go with ⟨hw, hq⟩ | ⟨hw, rfl⟩
    · refine .inl ⟨fun a p => ?_, ⟨fun M a w p s => ?_⟩⟩
      · obtain ⟨u, pu⟩ := key a p
        rw [← hw _ pu, wanted_put o a (some d) u (fun t e => by cases e; exact hd')]
      · obtain ⟨u, pu⟩ := key a p
        have := hq.go M _ w pu s
        rwa [execOp_put o hsel a (some d) u (fun t e => by cases e; exact hd')] at this
    · refine .inr ⟨fun a p => ?_, rfl⟩
      obtain ⟨u, pu⟩ := key a p
      rw [← hw _ pu, wanted_put o a (some d) u (fun t e => by cases e; exact hd')]

theorem getD_false_of {listed : Array Bool} {i : Nat} (h : ¬ listed.getD i false = true) : listed.getD i false = false := by
  cases q : listed.getD i false with
  | false => rfl
  | true => exact absurd q h

theorem path_lt (hB : backB ops = true) {j i : Nat} (p : Path ops j i) : i < j := by
  induction p with
  | edge ho he hb => exact (back_spec hB).2 _ _ ho _ he hb
  | step ho he hb _ ih => have := (back_spec hB).2 _ _ ho _ he hb; omega
/-- with each operation of wk all that it waits for is in wk -/
def WkOk (ops : Array Oper) (wk : List Nat) : Prop := ∀ k ∈ wk, ∀ o, ops[k]? = some o → ∀ e ∈ o.after, Region.binds .any e = true → e.on ∈ wk
theorem WkOk.path {wk : List Nat} (h : WkOk ops wk) {j i : Nat} (p : Path ops j i) (hj : j ∈ wk) : i ∈ wk := by
  induction p with
  | edge ho he hb => exact h _ hj _ ho _ he hb
  | step ho he hb _ ih => exact ih (h _ hj _ ho _ he hb)
theorem WkOk.cons {wk : List Nat} (h : WkOk ops wk) {i : Nat} (hd : depsB ops wk i = true) : WkOk ops (i :: wk) := by
  intro k hk o ho e he hb
  rcases List.mem_cons.1 hk with q | q
  · subst q
    unfold depsB at hd
    simp only [ho, Bool.and_eq_true] at hd
    have := (Array.all_eq_true_iff_forall_mem.1 hd.2) e he
    simp only [hb, Bool.not_true, Bool.false_or] at this
    simp [show e.on ∈ wk by simpa using this]
  · simp [h k q o ho e he hb]
theorem set_self {listed : Array Bool} {i : Nat} (hr : i ∈ Region.ready .any ops listed) : (listed.setIfInBounds i true).getD i false = true := by
  obtain ⟨h0, _⟩ := mem_ready.1 hr
  have hlt : i < listed.size := by
    rcases Nat.lt_or_ge i listed.size with h | h
    · exact h
    · simp [Array.getElem?_eq_none h] at h0
  simp [hlt]

/-- ████ a walk along an order that the edges bear out serves for every order ████ -/
theorem FJ.sound (hB : backB ops = true) {bb : Array Nat} (hbb : BitsOk ops bb) : ∀ (p : Pl) (t : Bool) (wk U : List Nat) (E : Env) (H : List SP), planB bb ops p t wk U = true → WkOk ops wk → FJ P W n ops q p E H →
    (t = false → ∀ fuel listed a a' w, FInv bb P W n ops wk U E H fuel listed a a' w → wpAnyIn (fen q.ro) 0 P .any ops q.den fuel listed a w) ∧
    (∀ e ∈ p.heads, ∀ fuel listed a a' w, FInv bb P W n ops wk U E H (fuel + 1) listed a a' w → e ∈ Region.ready .any ops listed → wpOpIn (fen q.ro) 0 P ops q.den e (fun a1 w1 => wpAnyIn (fen q.ro) 0 P .any ops q.den fuel (listed.setIfInBounds e true) a1 w1) a w) := by
  intro p
  induction p with
  | nil =>
    intro t wk U E H hp _ h
    refine ⟨fun _ => stage hB hbb [] hp (fun e he => by cases he) (fun e he => by cases he) (fun _ => h), fun e he => by cases he⟩
  | op i p ih =>
    intro t wk U E H hp hwk h
    simp only [planB, Bool.and_eq_true, Bool.not_eq_true'] at hp
    obtain ⟨⟨⟨ht, hdeps⟩, hown⟩, hp⟩ := hp
    refine ⟨fun _ => ?_, fun e he => by cases he⟩
    obtain ⟨o, v, ho, hdst, hq, hF⟩ := h
    intro fuel listed a a' w I
    have hni := deps_spec hdeps
    have hnl : ¬ listed.getD i false = true := fun hl => hni.1 (I.sub i hl)
    refine (ih false (i :: wk) (i :: U) (Env.put E o.dst v) H hp (hwk.cons hdeps) hF).1 rfl fuel listed a (a'.put o.dst v) w ⟨I.size, I.closed, I.cnt, fun k hk => by simp [I.sub k hk], fun k hk => ?_, fun u hu => ?_, fun u hu => ?_, I.hd.put hdst v, ?_, (by show St W (H ++ dm (a'.put o.dst v).defers) w; rw [put_defers]; exact I.st), ?_⟩
    · rcases List.mem_cons.1 hk with e | e
      · right; simp [e]
      · exact (I.cov k e).imp id (fun q => by simp [q])
    · rcases List.mem_cons.1 hu with e | e
      · simp [e]
      · simp [I.uwk u e]
    · rcases List.mem_cons.1 hu with e | e
      · rw [e]; exact hown
      · exact I.own u e
    · refine Rech.of fun u hu => ?_
      have hlook : ∀ ou, ops[u]? = some ou → ∀ tt, o.dst = some tt → tt ∉ ou.looksAt ops := by
        intro ou hou tt htt hm
        rcases (own_spec hbb hown ho htt hou).2 with h1 | h1
        · exact h1 hm
        · rcases List.mem_cons.1 hu with e | e
          · subst e
            have := path_lt hB h1
            omega
          · exact hni.1 (hwk.path h1 (I.uwk u e))
      rcases List.mem_cons.1 hu with e | e
      · subst e
        refine ⟨o, ho, v, fun d hd => by rw [hd]; exact Env.at_self _ _ _, hq.put (hlook o ho) ((back_spec hB).1 _ o · · ho)⟩
      · obtain ⟨ou, hou, vu, hvu, hqu⟩ := I.rech.get u e
        refine ⟨ou, hou, vu, fun d hd => ?_, hqu.put (hlook ou hou) ((back_spec hB).1 _ ou · · hou)⟩
        have hne : o.dst ≠ some d := by
          rcases (own_spec hbb (I.own u e) hou hd ho).1 with h1 | h1
          · subst h1; exact absurd (I.uwk u e) hni.1
          · exact h1
        cases hod : o.dst with
        | none => exact hvu d hd
        | some d' =>
          show Env.at ((d', v) :: E) d = _
          rw [Env.at_cons, if_neg (fun h => hne (by rw [hod, h]))]
          exact hvu d hd
    · obtain ⟨v1, v2, v3⟩ := I.vir
      refine ⟨by cases hd : o.dst <;> simpa [Act.put, hd] using v1, by cases hd : o.dst <;> simpa [Act.put, hd] using v2, fun tt => ?_⟩
      by_cases htt : o.dst = some tt
      · exact .inr ⟨i, by simp, getD_false_of hnl, o, ho, htt⟩
      · have he : (a'.put o.dst v).tmps[tt]? = a'.tmps[tt]? := by
          cases hd : o.dst with
          | none => rfl
          | some d =>
            have : d ≠ tt := fun e => htt (by rw [hd, e])
            simp [Act.put, Array.getElem?_setIfInBounds_ne this]
        rw [he]
        exact (v3 tt).imp id fun ⟨u, hu, r⟩ => ⟨u, by simp [hu], r⟩
  | ef i U' p ih =>
    intro t wk U E H hp hwk h
    have hp0 := hp
    simp only [planB, Bool.and_eq_true, Bool.or_eq_true] at hp
    obtain ⟨⟨⟨⟨hcov, hdeps⟩, hU⟩, hU'⟩, hp⟩ := hp
    obtain ⟨o, ho, hwant, hk⟩ := h
    have hni := deps_spec hdeps
    have hsub : ∀ u ∈ U', u ∈ U := fun u hu => by simpa using List.all_eq_true.1 hU' u hu
    have heff : ∀ e ∈ (Pl.ef i U' p).heads, ∀ fuel listed a a' w, FInv bb P W n ops wk U E H (fuel + 1) listed a a' w → e ∈ Region.ready .any ops listed → wpOpIn (fen q.ro) 0 P ops q.den e (fun a1 w1 => wpAnyIn (fen q.ro) 0 P .any ops q.den fuel (listed.setIfInBounds e true) a1 w1) a w := by
      intro e he fuel listed a a' w I hr
      have he : e = i := by simpa [Pl.heads] using he
      subst he
      obtain ⟨hex, hwn⟩ := I.vir.sees I.closed hbb I.own ho hr ((back_spec hB).1 _ o · · ho)
      unfold wpOpIn
      simp only [ho]
      rw [if_pos (by rw [hwn]; exact hwant a' I.hd)]
      refine uponP.wpIn _ _ ((wp_vir (hk.go a' w I.hd I.st o rfl rfl) hex).mono ?_)
      rintro a1 w1 ⟨v, rfl, E', H', hd', st', re', fj'⟩
      obtain ⟨h0, _⟩ := mem_ready.1 hr
      have hlt : e < listed.size := by
        rcases Nat.lt_or_ge e listed.size with h | h
        · exact h
        · simp [Array.getElem?_eq_none h] at h0
      have h1 : (listed.toList[e]? : Option Bool) = some false := by simp [hlt] at h0 ⊢; exact h0
      refine (ih false (e :: wk) U' E' H' hp (hwk.cons hdeps) fj').1 rfl fuel _ _ _ w1 ⟨by simp [I.size], I.closed.set hr, ?_, fun k hk => ?_, fun k hk => ?_, fun u hu => ?_, fun u hu => I.own u (hsub u hu), hd', re', st', ?_⟩
      · have := cnt_set listed.toList e h1
        have h2 := I.cnt
        simp only [Array.toList_setIfInBounds]; omega
      · rcases listed_set hk with q | q
        · simp [q]
        · simp [I.sub k q]
      · rcases List.mem_cons.1 hk with q | q
        · subst q; exact .inl (set_self hr)
        · rcases I.cov k q with c | c
          · exact .inl (getD_set_true c)
          · have h3 := List.all_eq_true.1 hU k c
            simp only [Bool.or_eq_true, List.contains_iff_mem] at h3
            rcases h3 with h3 | h3
            · exact .inr h3
            · exact .inl (getD_set_true ((hbb e k h3).listed I.closed (.inl hr)))
      · simp [I.uwk u (hsub u hu)]
      · obtain ⟨v1, v2, v3⟩ := I.vir
        refine ⟨by cases hd : o.dst <;> simpa [Act.put, hd] using v1, by cases hd : o.dst <;> simpa [Act.put, hd] using v2, fun tt => ?_⟩
        by_cases htt : o.dst = some tt
        · left
          simp only [Act.put, htt, Array.getElem?_setIfInBounds, v2]
          simp
        · have hpt : ∀ b : Act, (b.put o.dst v).tmps[tt]? = b.tmps[tt]? := by
            intro b
            cases hd : o.dst with
            | none => rfl
            | some d =>
              have : d ≠ tt := fun e => htt (by rw [hd, e])
              simp [Act.put, Array.getElem?_setIfInBounds_ne this]
          rw [hpt, hpt]
          rcases v3 tt with c | ⟨u, hu, hl, ou, hou, hdu⟩
          · exact .inl c
          · have hne : e ≠ u := fun h => by subst h; exact hni.1 (I.uwk _ hu)
            refine .inr ⟨u, ?_, by rwa [getD_set_ne false hne], ou, hou, hdu⟩
            have h3 := List.all_eq_true.1 hU u hu
            simp only [Bool.or_eq_true, List.contains_iff_mem] at h3
            rcases h3 with h3 | h3
            · exact h3
            · have := (hbb e u h3).listed I.closed (.inl hr)
              rw [hl] at this; cases this
    refine ⟨fun htf => ?_, heff⟩
    subst htf
    exact stage hB hbb [i] (by simpa using hcov) (heads_spec (.ef i U' p) false wk U hp0) heff (fun h => by cases h)
  | alt x y ihx ihy =>
    intro t wk U E H hp hwk h
    have hp0 := hp
    simp only [planB, Bool.and_eq_true, Bool.or_eq_true] at hp
    obtain ⟨⟨⟨hnil, hcov⟩, hx⟩, hy⟩ := hp
    have heff : ∀ e ∈ (Pl.alt x y).heads, ∀ fuel listed a a' w, FInv bb P W n ops wk U E H (fuel + 1) listed a a' w → e ∈ Region.ready .any ops listed → wpOpIn (fen q.ro) 0 P ops q.den e (fun a1 w1 => wpAnyIn (fen q.ro) 0 P .any ops q.den fuel (listed.setIfInBounds e true) a1 w1) a w := by
      intro e he
      rcases List.mem_append.1 he with he | he
      · exact (ihx true wk U E H hx hwk h.1).2 e he
      · exact (ihy true wk U E H hy hwk h.2).2 e he
    refine ⟨fun htf => ?_, heff⟩
    subst htf
    exact stage hB hbb (x.heads ++ y.heads) (by simpa using hcov) (heads_spec (.alt x y) false wk U hp0) heff (fun h => by rw [h] at hnil; cases hnil)
end
section
variable {P : Program} {W : World} {n : Nat} {ops : Array Oper} {q : QQ} {E : Env} {H : List SP} {l : List Oper} {op : Op} {d : Nat} {dd : Option Tmp} {ty : TypeId} {pos : String} {af : Array Edge} {p : Pl} {i : Nat}
def drawB (ops : List Oper) (p : Pl) : Bool := backB ops.toArray && planB (waitBits ops) ops.toArray p false [] []
theorem cnt_replicate (m : Nat) : cnt (List.replicate m false) = m := by
  unfold cnt
  induction m with
  | zero => rfl
  | succ m ih => simp [List.replicate_succ] at ih ⊢
/-- a region that draws its order -/
theorem KJ_drawn {id : Nat} (p : Pl) (hm : P.follows .mixedOrders = true) (hB : drawB l p = true) (h : FJ P W n l.toArray q p E H) : KJ W n (.code P (Code.region id l.toArray true) q) E H := by
  simp only [drawB, Bool.and_eq_true] at hB
  refine ⟨fun a w hd st => ?_⟩
  refine wpIn_region_any hm ?_
  refine (FJ.sound hB.1 (waitBits_ok l) p false [] [] E H hB.2 (fun k hk => by cases hk) h).1 rfl _ _ a a _ ⟨by simp, fun k o _ hl => (by rw [getD_replicate_false] at hl; cases hl), ?_, fun k hk => (by rw [getD_replicate_false] at hk; cases hk), fun k hk => (by cases hk), fun u hu => (by cases hu), fun u hu => (by cases hu), hd, .nil, st.drawn _, rfl, rfl, fun t => .inl rfl⟩
  rw [Array.toList_replicate, cnt_replicate]
  exact Nat.le_refl _

theorem QV.ev {v : Value} {o : Oper} (hg : o.guard = none) (h : Ev P W n E H o.op v) : QV P W n ops E H o v :=
  ⟨.inl ⟨fun a _ => by simp [Region.wanted, hg], ⟨fun _ a w p s => .inl (h.go o rfl a w p s.left)⟩⟩⟩
theorem QV.evg {v : Value} {o : Oper} {j t : Nat} {b : Bool} (hg : o.guard = some (j, b)) (hj : (ops[j]?).bind (·.dst) = some t) (ht : Env.at E t = some (.bool b)) (h : Ev P W n E H o.op v) : QV P W n ops E H o v :=
  ⟨.inl ⟨fun a p => by rw [wanted_of hg hj p ht]; simp, ⟨fun _ a w p s => .inl (h.go o rfl a w p s.left)⟩⟩⟩
theorem QV.no {o : Oper} {j t : Nat} {b : Bool} {v : Value} (hg : o.guard = some (j, b)) (hj : (ops[j]?).bind (·.dst) = some t) (ht : Env.at E t = some v) (hv : notB b v = true) : QV P W n ops E H o undef :=
  ⟨.inr ⟨fun a p => by rw [wanted_of hg hj p ht]; cases v <;> simp_all [notB], rfl⟩⟩
/-- a call that leaves what is owned as it is -/
theorem QR.call {o : Oper} {f : FuncId} {xs : List Operand} {ts : Array TypeId} {vs : List Value} {Hpre R : List SP} {v : Value} {X : Type} (ho : o.op = .call { callee := .value (.func f), args := xs.toArray, argTypes := ts }) (hx : Evs E xs vs) [hf : FnIs P f]
    (hc : Ct P W f vs Hpre (fun _ : X => v) (fun _ => Hpre)) (hp : Pick Hpre H R) : QR P W n E H o v :=
  ⟨fun M _ w p s => .inr ⟨f, _, run_call ho hx p w, (hc.go (R ++ M) w (s.perm ((hp.perm.append_right _).trans (by rw [List.append_assoc])))).mono fun _ _ ⟨_, he, hs⟩ => ⟨he, hs.perm ((show (Hpre ++ (R ++ M)).Perm ((Hpre ++ R) ++ M) by rw [List.append_assoc]).trans (hp.perm.symm.append_right _))⟩⟩⟩
theorem QV.call {f : FuncId} {xs : List Operand} {ts : Array TypeId} {vs : List Value} {Hpre R : List SP} {v : Value} {X : Type} {o : Oper} (hg : o.guard = none) (ho : o.op = .call { callee := .value (.func f), args := xs.toArray, argTypes := ts }) (hx : Evs E xs vs) [hf : FnIs P f]
    (hc : Ct P W f vs Hpre (fun _ : X => v) (fun _ => Hpre)) (hp : Pick Hpre H R) : QV P W n ops E H o v :=
  ⟨.inl ⟨fun a _ => by simp [Region.wanted, hg], QR.call ho hx hc hp⟩⟩
theorem QV.callg {f : FuncId} {xs : List Operand} {ts : Array TypeId} {vs : List Value} {Hpre R : List SP} {v : Value} {X : Type} {o : Oper} {j t : Nat} {b : Bool} (hg : o.guard = some (j, b)) (hj : (ops[j]?).bind (·.dst) = some t) (ht : Env.at E t = some (.bool b)) (ho : o.op = .call { callee := .value (.func f), args := xs.toArray, argTypes := ts }) (hx : Evs E xs vs) [hf : FnIs P f]
    (hc : Ct P W f vs Hpre (fun _ : X => v) (fun _ => Hpre)) (hp : Pick Hpre H R) : QV P W n ops E H o v :=
  ⟨.inl ⟨fun a p => by rw [wanted_of hg hj p ht]; simp, QR.call ho hx hc hp⟩⟩

/-- the walk along an order, as a form of its own -/
structure FW (P : Program) (W : World) (n : Nat) (ops : Array Oper) (q : QQ) (p : Pl) (E : Env) (H : List SP) : Prop where
  go : FJ P W n ops q p E H
/-- the next operation laid open -/
structure FO (P : Program) (W : World) (n : Nat) (ops : Array Oper) (q : QQ) (o : Oper) (p : Pl) (E : Env) (H : List SP) : Prop where
  go : ∃ v, dstOk n o.dst = true ∧ QV P W n ops E H o v ∧ FJ P W n ops q p (Env.put E o.dst v) H
structure RO (P : Program) (W : World) (n : Nat) (ops : Array Oper) (o : Oper) (U : List Nat) (E : Env) (H : List SP) : Prop where
  go : ∃ v, (∀ d, o.dst = some d → Env.at E d = some v) ∧ QV P W n ops E H o v ∧ Rech P W n ops E H U
theorem KJ_draws {id : Nat} (p : Pl) (hm : P.follows .mixedOrders = true) (hB : drawB l p = true) (h : FW P W n l.toArray q p E H) : KJ W n (.code P (Code.region id l.toArray true) q) E H := KJ_drawn p hm hB h.go
theorem FW_nil (h : KJ W n (.ex q .normal) E H) : FW P W n ops q .nil E H := ⟨h⟩
theorem FW_open {o : Oper} (ho : ops[i]? = some o) (h : FO P W n ops q o p E H) : FW P W n ops q (.op i p) E H := by
  obtain ⟨v, h1, h2, h3⟩ := h.go
  exact ⟨⟨o, v, ho, h1, h2, h3⟩⟩
theorem FO_op {v : Value} (hv : Ev P W n E H op v) (hn : Nat.blt d n = true) (h : FW P W n ops q p ((d, v) :: E) H) : FO P W n ops q ⟨some d, op, ty, pos, af, none⟩ p E H := ⟨⟨v, hn, QV.ev rfl hv, h.go⟩⟩
theorem FO_yes {j t : Nat} {b : Bool} {v : Value} (hj : (ops[j]?).bind (·.dst) = some t) (ht : Env.at E t = some (.bool b)) (hv : Ev P W n E H op v) (hn : Nat.blt d n = true) (h : FW P W n ops q p ((d, v) :: E) H) : FO P W n ops q ⟨some d, op, ty, pos, af, some (j, b)⟩ p E H := ⟨⟨v, hn, QV.evg rfl hj ht hv, h.go⟩⟩
theorem FO_no {j t : Nat} {b : Bool} {v : Value} (hj : (ops[j]?).bind (·.dst) = some t) (ht : Env.at E t = some v) (hv : notB b v = true) (hn : dstOk n dd = true) (h : FW P W n ops q p (Env.put E dd undef) H) : FO P W n ops q ⟨dd, op, ty, pos, af, some (j, b)⟩ p E H := ⟨⟨undef, hn, QV.no rfl hj ht hv, h.go⟩⟩
theorem FO_call {f : FuncId} {xs : List Operand} {ts : Array TypeId} {vs : List Value} {Hpre R : List SP} {v : Value} {X : Type} (hx : Evs E xs vs) [hf : FnIs P f]
    (hc : Ct P W f vs Hpre (fun _ : X => v) (fun _ => Hpre)) (hp : Pick Hpre H R) (hn : Nat.blt d n = true) (h : FW P W n ops q p ((d, v) :: E) H) : FO P W n ops q ⟨some d, .call { callee := .value (.func f), args := xs.toArray, argTypes := ts }, ty, pos, af, none⟩ p E H := ⟨⟨v, hn, QV.call rfl rfl hx hc hp, h.go⟩⟩
theorem FO_callg {f : FuncId} {xs : List Operand} {ts : Array TypeId} {vs : List Value} {Hpre R : List SP} {v : Value} {X : Type} {j t : Nat} {b : Bool} (hj : (ops[j]?).bind (·.dst) = some t) (ht : Env.at E t = some (.bool b)) (hx : Evs E xs vs) [hf : FnIs P f]
    (hc : Ct P W f vs Hpre (fun _ : X => v) (fun _ => Hpre)) (hp : Pick Hpre H R) (hn : Nat.blt d n = true) (h : FW P W n ops q p ((d, v) :: E) H) : FO P W n ops q ⟨some d, .call { callee := .value (.func f), args := xs.toArray, argTypes := ts }, ty, pos, af, some (j, b)⟩ p E H := ⟨⟨v, hn, QV.callg rfl hj ht rfl hx hc hp, h.go⟩⟩
theorem FW_ef {U : List Nat} (ho : ops[i]? = some ⟨dd, op, ty, pos, af, none⟩) (h : KJ W n (.oper P op dd (.raw (FlowK P W n ops q p U))) E H) : FW P W n ops q (.ef i U p) E H := ⟨⟨_, ho, fun a _ => by simp [Region.wanted], h⟩⟩
theorem FW_efg {U : List Nat} {j t : Nat} {b : Bool} (ho : ops[i]? = some ⟨dd, op, ty, pos, af, some (j, b)⟩) (hj : (ops[j]?).bind (·.dst) = some t) (ht : Env.at E t = some (.bool b)) (h : KJ W n (.oper P op dd (.raw (FlowK P W n ops q p U))) E H) : FW P W n ops q (.ef i U p) E H := ⟨⟨_, ho, fun a p => by rw [wanted_of rfl hj p ht]; simp, h⟩⟩
theorem FW_alt {x y : Pl} (hx : FW P W n ops q x E H) (hy : FW P W n ops q y E H) : FW P W n ops q (.alt x y) E H := ⟨⟨hx.go, hy.go⟩⟩
theorem KJ_flow {U : List Nat} (hr : Rech P W n ops E H U) (h : FW P W n ops q p E H) : KJ W n (.raw (FlowK P W n ops q p U)) E H := ⟨fun _ _ hd st => ⟨E, H, hd, st, hr, h.go⟩⟩
theorem Rech_open {u : Nat} {U : List Nat} {o : Oper} (ho : ops[u]? = some o) (h : RO P W n ops o U E H) : Rech P W n ops E H (u :: U) := by
  obtain ⟨v, h1, h2, h3⟩ := h.go
  exact .cons ho h1 h2 h3
theorem RO_op {U : List Nat} {v : Value} (hd : Env.at E d = some v) (hv : Ev P W n E H op v) (h : Rech P W n ops E H U) : RO P W n ops ⟨some d, op, ty, pos, af, none⟩ U E H := ⟨⟨v, fun _ e => by cases e; exact hd, QV.ev rfl hv, h⟩⟩
theorem RO_yes {U : List Nat} {j t : Nat} {b : Bool} {v : Value} (hd : Env.at E d = some v) (hj : (ops[j]?).bind (·.dst) = some t) (ht : Env.at E t = some (.bool b)) (hv : Ev P W n E H op v) (h : Rech P W n ops E H U) : RO P W n ops ⟨some d, op, ty, pos, af, some (j, b)⟩ U E H := ⟨⟨v, fun _ e => by cases e; exact hd, QV.evg rfl hj ht hv, h⟩⟩
theorem RO_no {U : List Nat} {j t : Nat} {b : Bool} {v : Value} (hd : Env.at E d = some undef) (hj : (ops[j]?).bind (·.dst) = some t) (ht : Env.at E t = some v) (hv : notB b v = true) (h : Rech P W n ops E H U) : RO P W n ops ⟨some d, op, ty, pos, af, some (j, b)⟩ U E H := ⟨⟨undef, fun _ e => by cases e; exact hd, QV.no rfl hj ht hv, h⟩⟩
/-- a guard that is not known: both ways -/
theorem QV.congr {E1 : Env} {o : Oper} {v : Value} (he : ∀ t, Env.at E t = Env.at E1 t) (h : QV P W n ops E1 H o v) : QV P W n ops E H o v := by
  have k : ∀ a, Hd n E a → Hd n E1 a := fun a p => ⟨p.size, fun t u q => p.at_ t u (by rw [he]; exact q)⟩
  exact ⟨h.go.imp (fun ⟨a, b⟩ => ⟨fun x p => a x (k x p), ⟨fun M x w p s => b.go M x w (k x p) s⟩⟩) (fun ⟨a, b⟩ => ⟨fun x p => a x (k x p), b⟩)⟩
theorem FJ_congr : ∀ (p : Pl) {E E1 : Env}, (∀ t, Env.at E t = Env.at E1 t) → FJ P W n ops q p E1 H → FJ P W n ops q p E H
  | .nil, E, E1, he, h => by
    have k : ∀ a, Hd n E a → Hd n E1 a := fun a p => ⟨p.size, fun t u q => p.at_ t u (by rw [he]; exact q)⟩
    exact KJ.mk fun a w p s => KJ.go h a w (k a p) s
  | .op i p, E, E1, he, ⟨o, v, ho, hd, hq, hF⟩ => ⟨o, v, ho, hd, hq.congr he, FJ_congr p (fun t => by
      cases hod : o.dst with
      | none => exact he t
      | some d => show Env.at ((d, v) :: E) t = Env.at ((d, v) :: E1) t; rw [Env.at_cons, Env.at_cons, he]) hF⟩
  | .ef i U p, E, E1, he, ⟨o, ho, hw, hk⟩ => by
    have k : ∀ a, Hd n E a → Hd n E1 a := fun a p => ⟨p.size, fun t u q => p.at_ t u (by rw [he]; exact q)⟩
    exact ⟨o, ho, fun a p => hw a (k a p), ⟨fun a w p s => hk.go a w (k a p) s⟩⟩
  | .alt x y, E, E1, he, h => ⟨FJ_congr x he h.1, FJ_congr y he h.2⟩
theorem FO_congr {o : Oper} {E1 : Env} (he : ∀ t, Env.at E t = Env.at E1 t) (h : FO P W n ops q o p E1 H) : FO P W n ops q o p E H := by
  obtain ⟨v, h1, h2, h3⟩ := h.go
  refine ⟨⟨v, h1, h2.congr he, FJ_congr p (fun t => ?_) h3⟩⟩
  cases hod : o.dst with
  | none => exact he t
  | some d => show Env.at ((d, v) :: E) t = Env.at ((d, v) :: E1) t; rw [Env.at_cons, Env.at_cons, he]
theorem FO_also {o : Oper} {t : Nat} {v : Value} (ht : Env.at E t = some v) (h : FO P W n ops q o p ((t, v) :: E) H) : FO P W n ops q o p E H := FO_congr (fun u => by
  rw [Env.at_cons]
  split
  · rename_i e; subst e; exact ht
  · rfl) h
theorem FO_split {t j : Nat} {b c : Bool} (hj : (ops[j]?).bind (·.dst) = some t) (ht : Env.at E t = some (.bool c)) (hy : c = b → FO P W n ops q ⟨dd, op, ty, pos, af, some (j, b)⟩ p ((t, .bool b) :: E) H) (hn : c = !b → FO P W n ops q ⟨dd, op, ty, pos, af, some (j, b)⟩ p ((t, .bool !b) :: E) H) : FO P W n ops q ⟨dd, op, ty, pos, af, some (j, b)⟩ p E H := by
  have _ := hj
  by_cases h : c = b
  · subst h; exact FO_also ht (hy rfl)
  · have h : c = !b := by cases c <;> cases b <;> simp_all
    subst h; exact FO_also ht (hn rfl)
theorem FO_dec_t {t j : Nat} {pr : Prop} [Decidable pr] (hj : (ops[j]?).bind (·.dst) = some t) (ht : Env.at E t = some (.bool (decide pr))) (hy : pr → FO P W n ops q ⟨dd, op, ty, pos, af, some (j, true)⟩ p ((t, .bool true) :: E) H) (hn : ¬ pr → FO P W n ops q ⟨dd, op, ty, pos, af, some (j, true)⟩ p ((t, .bool false) :: E) H) : FO P W n ops q ⟨dd, op, ty, pos, af, some (j, true)⟩ p E H :=
  FO_split hj ht (fun e => hy (by simpa using e)) (fun e => hn (by simpa using e))
theorem FO_dec_f {t j : Nat} {pr : Prop} [Decidable pr] (hj : (ops[j]?).bind (·.dst) = some t) (ht : Env.at E t = some (.bool (decide pr))) (hy : ¬ pr → FO P W n ops q ⟨dd, op, ty, pos, af, some (j, false)⟩ p ((t, .bool false) :: E) H) (hn : pr → FO P W n ops q ⟨dd, op, ty, pos, af, some (j, false)⟩ p ((t, .bool true) :: E) H) : FO P W n ops q ⟨dd, op, ty, pos, af, some (j, false)⟩ p E H :=
  FO_split hj ht (fun e => hy (by simpa using e)) (fun e => hn (by simpa using e))
end
end Go.Proofs.YteklldbfdmaafaaDoor
/-
  Guards of the walk: each lets by just one form of goal.
-/
namespace Go.Proofs.YteklldbfdmaafaaDoor
open Go Go.RowKit
section
variable {P : Program} {W : World} {n : Nat} {ops : Array Oper} {q : QQ} {E : Env} {H R : List SP} {l : List Oper} {k : KK} {d : Option Tmp} {v : Value}
theorem is_list (h : KJ W n (.list P ops q l) E H) : KJ W n (.list P ops q l) E H := h
theorem is_oper {op : Op} (h : KJ W n (.oper P op d k) E H) : KJ W n (.oper P op d k) E H := h
theorem is_code {c : Code} (h : KJ W n (.code P c q) E H) : KJ W n (.code P c q) E H := h
theorem is_ex {e : Exit} (h : KJ W n (.ex q e) E H) : KJ W n (.ex q e) E H := h
theorem is_fw {p : Pl} (h : FW P W n ops q p E H) : FW P W n ops q p E H := h
theorem is_fo {o : Oper} {p : Pl} (h : FO P W n ops q o p E H) : FO P W n ops q o p E H := h
theorem is_ro {o : Oper} {U : List Nat} (h : RO P W n ops o U E H) : RO P W n ops o U E H := h
/-- the operation yields a value of which C holds -/
structure EK (P : Program) (W : World) (n : Nat) (E : Env) (H : List SP) (op : Op) (C : Value → Prop) : Prop where
  go : ∃ v, Ev P W n E H op v ∧ C v
theorem EK_ev {op : Op} {C : Value → Prop} {v : Value} (he : Ev P W n E H op v) (h : C v) : EK P W n E H op C := ⟨⟨v, he, h⟩⟩
theorem KJ_ek {op : Op} {d : Nat} (hn : Nat.blt d n = true) (h : EK P W n E H op fun v => KJ W n k ((d, v) :: E) H) : KJ W n (.oper P op (some d) k) E H := by
  obtain ⟨v, he, h⟩ := h.go
  exact KJ_ev he hn h
theorem KJ_ek0 {op : Op} (h : EK P W n E H op fun _ => KJ W n k E H) : KJ W n (.oper P op none k) E H := by
  obtain ⟨v, he, h⟩ := h.go
  exact KJ_ev0 he h
section
variable {op : Op} {d : Nat} {ty : TypeId} {pos : String} {af : Array Edge} {p : Pl} {U : List Nat} {j t : Nat} {b : Bool}
theorem FO_ek (hn : Nat.blt d n = true) (h : EK P W n E H op fun v => FW P W n ops q p ((d, v) :: E) H) : FO P W n ops q ⟨some d, op, ty, pos, af, none⟩ p E H := by
  obtain ⟨v, he, h⟩ := h.go
  exact FO_op he hn h
theorem FO_ekg (hj : (ops[j]?).bind (·.dst) = some t) (ht : Env.at E t = some (.bool b)) (hn : Nat.blt d n = true) (h : EK P W n E H op fun v => FW P W n ops q p ((d, v) :: E) H) : FO P W n ops q ⟨some d, op, ty, pos, af, some (j, b)⟩ p E H := by
  obtain ⟨v, he, h⟩ := h.go
  exact FO_yes hj ht he hn h
/-- the value found again in the slots -/
def AtR (P : Program) (W : World) (n : Nat) (ops : Array Oper) (E : Env) (H : List SP) (U : List Nat) (d : Nat) (v : Value) : Prop := Env.at E d = some v ∧ Rech P W n ops E H U
theorem AtR_mk {v : Value} (h1 : Env.at E d = some v) (h2 : Rech P W n ops E H U) : AtR P W n ops E H U d v := ⟨h1, h2⟩
theorem RO_ek (h : EK P W n E H op (AtR P W n ops E H U d)) : RO P W n ops ⟨some d, op, ty, pos, af, none⟩ U E H := by
  obtain ⟨v, he, h⟩ := h.go
  exact RO_op h.1 he h.2
theorem RO_ekg (hj : (ops[j]?).bind (·.dst) = some t) (ht : Env.at E t = some (.bool b)) (h : EK P W n E H op (AtR P W n ops E H U d)) : RO P W n ops ⟨some d, op, ty, pos, af, some (j, b)⟩ U E H := by
  obtain ⟨v, he, h⟩ := h.go
  exact RO_yes h.1 hj ht he h.2
end
theorem is_ek {op : Op} {C : Value → Prop} (h : EK P W n E H op C) : EK P W n E H op C := h
theorem ek_move {x : Operand} {C : Value → Prop} (h : EK P W n E H (.move x) C) : EK P W n E H (.move x) C := h
theorem ek_assign {x : Operand} {C : Value → Prop} (h : EK P W n E H (.assign x) C) : EK P W n E H (.assign x) C := h
theorem ek_pick {c x y : Operand} {C : Value → Prop} (h : EK P W n E H (.pick c x y) C) : EK P W n E H (.pick c x y) C := h
theorem ek_nilCheck {x : Operand} {C : Value → Prop} (h : EK P W n E H (.nilCheck x) C) : EK P W n E H (.nilCheck x) C := h
theorem ek_fieldAddr {t : TypeId} {x : Operand} {f : Nat} {C : Value → Prop} (h : EK P W n E H (.fieldAddr t x f) C) : EK P W n E H (.fieldAddr t x f) C := h
theorem ek_load {t : TypeId} {x : Operand} {C : Value → Prop} (h : EK P W n E H (.load t x) C) : EK P W n E H (.load t x) C := h
theorem ek_un {o : UnOp} {t : TypeId} {x : Operand} {C : Value → Prop} (h : EK P W n E H (.unOp o t x) C) : EK P W n E H (.unOp o t x) C := h
theorem ek_conv {s d : TypeId} {x : Operand} {C : Value → Prop} (h : EK P W n E H (.convert s d x) C) : EK P W n E H (.convert s d x) C := h
theorem ek_extract {x : Operand} {i : Nat} {C : Value → Prop} (h : EK P W n E H (.extract x i) C) : EK P W n E H (.extract x i) C := h
theorem ek_indexAddr {t : TypeId} {x y : Operand} {C : Value → Prop} (h : EK P W n E H (.indexAddr t x y) C) : EK P W n E H (.indexAddr t x y) C := h
theorem ek_index {t : TypeId} {x y : Operand} {C : Value → Prop} (h : EK P W n E H (.index t x y) C) : EK P W n E H (.index t x y) C := h
theorem ek_slice {t : TypeId} {x : Operand} {a b c : Option Operand} {C : Value → Prop} (h : EK P W n E H (.slice t x a b c) C) : EK P W n E H (.slice t x a b c) C := h
theorem ek_field {t : TypeId} {x : Operand} {f : Nat} {C : Value → Prop} (h : EK P W n E H (.field t x f) C) : EK P W n E H (.field t x f) C := h
theorem ek_mkIface {t : TypeId} {x : Operand} {C : Value → Prop} (h : EK P W n E H (.makeInterface t x) C) : EK P W n E H (.makeInterface t x) C := h
theorem ek_mkFunc {f : Fn} {a b : Array Operand} {C : Value → Prop} (h : EK P W n E H (.makeFunc f a b) C) : EK P W n E H (.makeFunc f a b) C := h
theorem ek_build {t : TypeId} {ps : Array (Nat × Operand)} {C : Value → Prop} (h : EK P W n E H (.build t ps) C) : EK P W n E H (.build t ps) C := h
theorem ek_len {xs : Array Operand} {ts : Array TypeId} {C : Value → Prop} (h : EK P W n E H (.call { callee := .builtin .len, args := xs, argTypes := ts }) C) : EK P W n E H (.call { callee := .builtin .len, args := xs, argTypes := ts }) C := h
theorem ek_min {xs : Array Operand} {ts : Array TypeId} {C : Value → Prop} (h : EK P W n E H (.call { callee := .builtin .min, args := xs, argTypes := ts }) C) : EK P W n E H (.call { callee := .builtin .min, args := xs, argTypes := ts }) C := h
theorem ek_max {xs : Array Operand} {ts : Array TypeId} {C : Value → Prop} (h : EK P W n E H (.call { callee := .builtin .max, args := xs, argTypes := ts }) C) : EK P W n E H (.call { callee := .builtin .max, args := xs, argTypes := ts }) C := h
theorem ek_add {t u : TypeId} {x y : Operand} {C : Value → Prop} (h : EK P W n E H (.binOp .add t x y u) C) : EK P W n E H (.binOp .add t x y u) C := h
theorem ek_sub {t u : TypeId} {x y : Operand} {C : Value → Prop} (h : EK P W n E H (.binOp .sub t x y u) C) : EK P W n E H (.binOp .sub t x y u) C := h
theorem ek_mul {t u : TypeId} {x y : Operand} {C : Value → Prop} (h : EK P W n E H (.binOp .mul t x y u) C) : EK P W n E H (.binOp .mul t x y u) C := h
theorem ek_quo {t u : TypeId} {x y : Operand} {C : Value → Prop} (h : EK P W n E H (.binOp .quo t x y u) C) : EK P W n E H (.binOp .quo t x y u) C := h
theorem ek_rem {t u : TypeId} {x y : Operand} {C : Value → Prop} (h : EK P W n E H (.binOp .rem t x y u) C) : EK P W n E H (.binOp .rem t x y u) C := h
theorem ek_and {t u : TypeId} {x y : Operand} {C : Value → Prop} (h : EK P W n E H (.binOp .and t x y u) C) : EK P W n E H (.binOp .and t x y u) C := h
theorem ek_or {t u : TypeId} {x y : Operand} {C : Value → Prop} (h : EK P W n E H (.binOp .or t x y u) C) : EK P W n E H (.binOp .or t x y u) C := h
theorem ek_xor {t u : TypeId} {x y : Operand} {C : Value → Prop} (h : EK P W n E H (.binOp .xor t x y u) C) : EK P W n E H (.binOp .xor t x y u) C := h
theorem ek_shl {t u : TypeId} {x y : Operand} {C : Value → Prop} (h : EK P W n E H (.binOp .shl t x y u) C) : EK P W n E H (.binOp .shl t x y u) C := h
theorem ek_shr {t u : TypeId} {x y : Operand} {C : Value → Prop} (h : EK P W n E H (.binOp .shr t x y u) C) : EK P W n E H (.binOp .shr t x y u) C := h
theorem ek_eql {t u : TypeId} {x y : Operand} {C : Value → Prop} (h : EK P W n E H (.binOp .eql t x y u) C) : EK P W n E H (.binOp .eql t x y u) C := h
theorem ek_neq {t u : TypeId} {x y : Operand} {C : Value → Prop} (h : EK P W n E H (.binOp .neq t x y u) C) : EK P W n E H (.binOp .neq t x y u) C := h
theorem ek_lss {t u : TypeId} {x y : Operand} {C : Value → Prop} (h : EK P W n E H (.binOp .lss t x y u) C) : EK P W n E H (.binOp .lss t x y u) C := h
theorem ek_leq {t u : TypeId} {x y : Operand} {C : Value → Prop} (h : EK P W n E H (.binOp .leq t x y u) C) : EK P W n E H (.binOp .leq t x y u) C := h
theorem ek_gtr {t u : TypeId} {x y : Operand} {C : Value → Prop} (h : EK P W n E H (.binOp .gtr t x y u) C) : EK P W n E H (.binOp .gtr t x y u) C := h
theorem ek_geq {t u : TypeId} {x y : Operand} {C : Value → Prop} (h : EK P W n E H (.binOp .geq t x y u) C) : EK P W n E H (.binOp .geq t x y u) C := h
theorem is_store {t : TypeId} {x y : Operand} {dd : Option Tmp} (h : KJ W n (.oper P (.store t x y) dd k) E H) : KJ W n (.oper P (.store t x y) dd k) E H := h
theorem is_alloc {t : TypeId} {dd : Option Tmp} (h : KJ W n (.oper P (.alloc t) dd k) E H) : KJ W n (.oper P (.alloc t) dd k) E H := h
theorem is_box {t : TypeId} {x : Operand} {dd : Option Tmp} (h : KJ W n (.oper P (.box t x) dd k) E H) : KJ W n (.oper P (.box t x) dd k) E H := h
theorem is_call {f : FuncId} {xs : Array Operand} {ts : Array TypeId} {dd : Option Tmp} (h : KJ W n (.oper P (.call { callee := .value (.func f), args := xs, argTypes := ts }) dd k) E H) : KJ W n (.oper P (.call { callee := .value (.func f), args := xs, argTypes := ts }) dd k) E H := h
theorem is_append {xs : Array Operand} {ts : Array TypeId} {dd : Option Tmp} (h : KJ W n (.oper P (.call { callee := .builtin .append, args := xs, argTypes := ts }) dd k) E H) : KJ W n (.oper P (.call { callee := .builtin .append, args := xs, argTypes := ts }) dd k) E H := h
theorem is_copy {xs : Array Operand} {ts : Array TypeId} {dd : Option Tmp} (h : KJ W n (.oper P (.call { callee := .builtin .copy, args := xs, argTypes := ts }) dd k) E H) : KJ W n (.oper P (.call { callee := .builtin .copy, args := xs, argTypes := ts }) dd k) E H := h
theorem is_mkSlice {t : TypeId} {x y : Operand} {dd : Option Tmp} (h : KJ W n (.oper P (.makeSlice t x y) dd k) E H) : KJ W n (.oper P (.makeSlice t x y) dd k) E H := h
theorem is_bslice {t : TypeId} {m : Nat} {ps : Array (Nat × Operand)} {dd : Option Tmp} (h : KJ W n (.oper P (.buildSlice t m ps) dd k) E H) : KJ W n (.oper P (.buildSlice t m ps) dd k) E H := h
theorem is_econv {s d : TypeId} {x : Operand} {dd : Option Tmp} (h : KJ W n (.oper P (.convert s d x) dd k) E H) : KJ W n (.oper P (.convert s d x) dd k) E H := h
end
end Go.Proofs.YteklldbfdmaafaaDoor
/-
  More of the operations' rules: struct values, bytes, rows that grow.
-/
namespace Go.Proofs.YteklldbfdmaafaaDoor
open Go Go.RowKit
/-- how a struct is built: its cells of nought, and each field's place -/
class BuIs (P : Program) (t : TypeId) (zs : outParam (List Value)) (places : outParam (List (Nat × Nat))) : Prop where h : ∀ parts, P.built t parts = Instr.fill (places.toArray[·]?) zs.toArray parts
inductive EvP (E : Env) : List (Nat × Operand) → List (Nat × Value) → Prop
  | nil : EvP E [] []
  | cons {i : Nat} {x : Operand} {v : Value} {ps : List (Nat × Operand)} {vs : List (Nat × Value)} : Env.ev E x = some v → EvP E ps vs → EvP E ((i, x) :: ps) ((i, v) :: vs)
inductive Fills (places : List (Nat × Nat)) : List Value → List (Nat × Value) → List Value → Prop
  | nil {zs : List Value} : Fills places zs [] zs
  | cons {i off m : Nat} {v : Value} {zs zs' ws vs : List Value} {ps : List (Nat × Value)} : places[i]? = some (off, m) → CellsOf v ws → ws.length = m → Laid zs off ws zs' → Fills places zs' ps vs → Fills places zs ((i, v) :: ps) vs
theorem xV {E : Env} {ps : List (Nat × Operand)} {pv : List (Nat × Value)} (h : EvP E ps pv := by (repeat' (first | exact EvP.nil | (apply EvP.cons; exact rfl))); first | done | fail) : EvP E ps pv := h
theorem xW {places : List (Nat × Nat)} {zs vs : List Value} {ps : List (Nat × Value)} (h : Fills places zs ps vs := by (repeat' (first | exact Fills.nil | (apply Fills.cons; exact rfl; (first | exact CellsOf.agg | exact CellsOf.one rfl); exact rfl; (repeat' (first | exact Laid.nil | apply Laid.cons | apply Laid.skip))))); first | done | fail) : Fills places zs ps vs := h
theorem Fills.fill {places : List (Nat × Nat)} {zs vs : List Value} {ps : List (Nat × Value)} (h : Fills places zs ps vs) : Instr.fill (places.toArray[·]?) zs.toArray ps = some vs.toArray := by
  induction h with
  | nil => rfl
  | cons hp hv hl hL hf ih =>
    rename_i i off m v zs zs' ws vs ps
    obtain ⟨hfit, rfl⟩ := hL.spec
    have hc := hv.spec
    unfold Instr.fill
    have hp' : places.toArray[i]? = some (off, m) := by simpa using hp
    simp only [hp']
    rw [if_neg (by simp [hc, hl]; omega)]
    rw [hc]
    have e : ((ws.toArray.zipIdx).foldl (fun cs (x : Value × Nat) => cs.setIfInBounds (off + x.2) x.1) zs.toArray) = (lay zs off ws).toArray := by
      rw [← Array.foldl_toList]
      simp only [Array.toList_zipIdx]
      have key : ∀ (l : List Value) (k : Nat) (base : Array Value), off + k + l.length ≤ base.size → ((l.zipIdx k).foldl (fun cs (x : Value × Nat) => cs.setIfInBounds (off + x.2) x.1) base).toList = base.toList.take (off + k) ++ (l ++ base.toList.drop (off + k + l.length)) := by
        intro l
        induction l with
        | nil => intro k base h; simp
        | cons v l ih2 =>
          intro k base h
          simp only [List.length_cons] at h
          rw [List.zipIdx_cons, List.foldl_cons, ih2 (k + 1) _ (by simp; omega)]
          simp only [Array.toList_setIfInBounds, List.length_cons]
          have e1 : (base.toList.set (off + k) v).take (off + (k + 1)) = base.toList.take (off + k) ++ [v] := by
            rw [List.take_set, show off + (k + 1) = off + k + 1 by omega]
            rw [List.take_succ_eq_append_getElem (by simp; omega), List.set_append_right _ _ (by simp; omega)]
            simp [show min (off + k) base.size = off + k by omega]
          have e2 : (base.toList.set (off + k) v).drop (off + (k + 1) + l.length) = base.toList.drop (off + k + (l.length + 1)) := by
            rw [List.drop_set_of_lt (by omega)]
            congr 1; omega
          rw [e1, e2]
          simp
      have := key ws 0 zs.toArray (by simpa using hfit)
      rw [← Array.toList_inj]
      simpa [lay] using this
    rw [e]
    exact ih

section
variable {P : Program} {W : World} {n : Nat} {E : Env} {H R : List SP} {k : KK} {x y z : Operand} {t e T : TypeId} {b off d m c : Nat}
theorem EvP.map {a : Act} (p : Hd n E a) {ps : List (Nat × Operand)} {pv : List (Nat × Value)} (h : EvP E ps pv) : ps.map (fun (i, x) => (i, a.eval x)) = pv := by
  induction h with
  | nil => rfl
  | cons hx _ ih => simp [p.ev hx, ih]
theorem Ev_build {ps : List (Nat × Operand)} {pv : List (Nat × Value)} {zs vs : List Value} {places : List (Nat × Nat)} (hp : EvP E ps pv) [hb : BuIs P t zs places] (hf : Fills places zs pv vs) : Ev P W n E H (.build t ps.toArray) (.agg vs.toArray) :=
  Ev.mk fun o ho a w p _ => by
    have e : (ps.toArray.map fun (i, x) => (i, a.eval x)).toList = pv := by
      rw [← hp.map p]; simp
    have h1 := run_build (P := P) w t (ps.toArray.map fun (i, x) => (i, a.eval x)) vs.toArray (by rw [e, hb.h]; exact hf.fill)
    simp only [execOp, ho, Sem.run_bind, h1, Result.andThen_ok, Sem.run_pure]

/-- make([]byte, m) -/
theorem replicate_bvs (m : Nat) : (madeCells #[Value.int .u8 0] m).toList = bvs (List.replicate m 0) := by
  apply List.ext_getElem
  · simp [madeCells]
  · intro i h1 h2
    simp [madeCells, bvs, bv, Nat.mod_one]
theorem KJ_makeBytes {C : Int} (hx : Env.ev E x = some (.int .i64 C)) (hy : Env.ev E y = some (.int .i64 C)) [hu : UIs P t (.slice e)] [hs : SzIs P e 1] [hb : ByIs P e 1] [hz : ZcIs P e [.int .u8 0]] (hC : C = (m : Int)) (hm : m ≤ 140737488355328) (hn : Nat.blt d n = true)
    (h : ∀ g, KJ W n k ((d, .slice (some ⟨g, 0, none⟩) m m) :: E) (cellsP g (bvs (List.replicate m 0)) e :: H)) : KJ W n (.oper P (.makeSlice t x y) (some d) k) E H := by
  refine ⟨fun a w p s o ho hd => ?_⟩
  have hz := hz.h
  have hs := hs.h
  have hb := hb.h
  cases hq : P.info? e with
  | none => simp [hq] at hz
  | some i =>
    simp [hq] at hz hs hb
    obtain ⟨zv, hz1, hz2⟩ := hz
    obtain ⟨w', h1, h2, h3⟩ := run_make_full (P := P) w 0 t e i zv 1 hu.h hq hz1 hs .i64 .i64 m (by rw [hb]; omega) (by unfold maxLen; omega) (Nat.zero_le _)
    show uponP P o a _ ((execOp a.eval o).run P w)
    have hrun : (execOp a.eval o).run P w = .ok (.value (.slice (some ⟨w.heap.size, 0, none⟩) m m)) w' := by
      simp only [execOp, ho, p.ev hx, p.ev hy, hC, Sem.run_bind, h1, Result.andThen_ok, Sem.run_pure]
    rw [hrun]
    have hblk : w'.heap[w.heap.size]? = some (.cells (bvs (List.replicate m 0)).toArray e (0, 0)) := by
      rw [hz2] at h2
      rcases h2.2 with ⟨q, _⟩ | ⟨g, cap, cur, hv, _, hh, _, _, hsz, htk⟩
      · cases q
      · cases hv
        rw [hh]
        have : cur.toList = bvs (List.replicate m 0) := by
          rw [← replicate_bvs, ← Nat.mul_one m, ← htk, List.take_of_length_le (by simp [hsz])]
        rw [← this]
    have st : St W (cellsP w.heap.size (bvs (List.replicate m 0)) e :: (H ++ dm a.defers)) w' := by
      obtain ⟨h1', h2', dj, hA, hH, l1, l2⟩ := (show St W ([] ++ (H ++ dm a.defers)) w from s).split
      exact St.join (B := [cellsP w.heap.size (bvs (List.replicate m 0)) e]) (g := Hl.one w.heap.size (.cells (bvs (List.replicate m 0)).toArray e (0, 0))) s.below dj hH l1 l2 (starL_one (Hl.one_self _ _)) h3.os h3.tape h3.output h3.size
        (fun k o q => by obtain ⟨rfl, rfl⟩ := Hl.one_some q; exact hblk) (fun k o q => by obtain ⟨rfl, rfl⟩ := Hl.one_some q; exact .inr (Nat.le_refl _)) (fun k hk _ => h3.block k hk (by simp))
    have := (h w.heap.size).go _ w' (p.put (d := some d) hn _) st
    rw [← hd] at this
    exact this
/-- string(b), the bytes known -/
theorem Ev_bytesStr {s u : TypeId} {l : List UInt8} (hx : Env.ev E x = some (.slice (some ⟨b, off, none⟩) m c)) [hs : UIs P s (.slice e)] [he : UIs P e (.int .u8)] [hd : UIs P u .string] (hs' : Sel (cellsP b (bvs l) T) H R) (hm : off + m ≤ l.length) : Ev P W n E H (.convert s u x) (strV ((l.drop off).take m)) :=
  Ev.mk fun o ho a w p q => by
    have hlen : ((l.drop off).take m).length = m := by simp; omega
    have hr := run_convert_bytes_back (P := P) w s u e ⟨b, off, none⟩ c ((l.drop off).take m) hs.h he.h hd.h (fun j hj => by
      rw [Addr.add_mid, (q.blk hs').2.cell]
      rw [hlen] at hj
      simp [bvs, bv, show off + j < l.length by omega])
    rw [hlen] at hr
    simp only [execOp, ho, p.ev hx, Sem.run_bind, hr, Result.andThen_ok, Sem.run_pure]
/-- a test whose answer is known -/
theorem Ev_eqlS_t {u : TypeId} {a b : List UInt8} (hx : Env.ev E x = some (strV a)) (hy : Env.ev E y = some (strV b)) (h : a = b) : Ev P W n E H (.binOp .eql t x y u) (.bool true) := by
  have := Ev_eqlS (P := P) (W := W) (n := n) (E := E) (H := H) (t := t) (u := u) hx hy
  rw [decide_eq_true h] at this; exact this
theorem Ev_neqS_f {u : TypeId} {a b : List UInt8} (hx : Env.ev E x = some (strV a)) (hy : Env.ev E y = some (strV b)) (h : a = b) : Ev P W n E H (.binOp .neq t x y u) (.bool false) := by
  have := Ev_neqS (P := P) (W := W) (n := n) (E := E) (H := H) (t := t) (u := u) hx hy
  rw [decide_eq_false (by simpa using h)] at this; exact this
theorem Ev_eqlI_t {u : TypeId} {kd : IntKind} {i j : Int} (hx : Env.ev E x = some (.int kd i)) (hy : Env.ev E y = some (.int kd j)) (h : i = j) : Ev P W n E H (.binOp .eql t x y u) (.bool true) := by
  have := Ev_eqlI (P := P) (W := W) (n := n) (E := E) (H := H) (t := t) (u := u) hx hy
  rw [decide_eq_true h] at this; exact this
theorem Ev_neqI_f {u : TypeId} {kd : IntKind} {i j : Int} (hx : Env.ev E x = some (.int kd i)) (hy : Env.ev E y = some (.int kd j)) (h : i = j) : Ev P W n E H (.binOp .neq t x y u) (.bool false) := by
  have := Ev_neqI (P := P) (W := W) (n := n) (E := E) (H := H) (t := t) (u := u) hx hy
  rw [decide_eq_false (by simpa using h)] at this; exact this
/-- where appended cells lie -/
structure Src (W : World) (H : List SP) (xa : Option Addr) (news : List Value) : Prop where
  go : news ≠ [] → ∃ b o, xa = some ⟨b, o, none⟩ ∧ ∀ w, St W H w → w.rangeAt b o news
theorem Src.cells {cs news : List Value} {i : Nat} (hs : Sel (cellsP b cs T) H R) (hc : Cut cs off i news) : Src W H (some ⟨b, off, none⟩) news := ⟨fun _ => ⟨b, off, rfl, fun w q j v hj => by rw [(q.blk hs).2.cell]; exact hc.spec.2 j v hj⟩⟩
theorem Src.old {news : List Value} (hc : W.rangeAt b off news) : Src W H (some ⟨b, off, none⟩) news := ⟨fun _ => ⟨b, off, rfl, fun _ q => q.oldRange hc⟩⟩
theorem Src.nil {xa : Option Addr} : Src W H xa [] := ⟨fun h => absurd rfl h⟩
/-- append to a row of one's own -/
theorem KJ_append {v : Value} {i l size bytes : Nat} {xs news : List Value} {a2 c2 : Nat} {xa : Option Addr} (hx : Env.ev E x = some v) (hy : Env.ev E y = some (.slice xa l c2)) [hu : UIs P t (.slice e)] [hs : SzIs P e size] [hb : ByIs P e bytes] {zs : List Value} [hz : ZcIs P e zs] (hsz : zs.length = size) (h0 : 0 < size) (hsel : Sel (rowP v e size i xs) H R)
    (hsrc : Src W H xa news) (hl : news.length = l * size) (hl0 : 0 < l) (h1 : Ones news) (h63 : (i + l) * bytes ≤ 140737488355328) (h64 : i + l ≤ 9223372036854775807) (hn : Nat.blt d n = true) (_ha : a2 = a2)
    (h : ∀ g c, KJ W n k ((d, .slice (some ⟨g, 0, none⟩) (i + l) c) :: E) (rowP (.slice (some ⟨g, 0, none⟩) (i + l) c) e size (i + l) (xs ++ news) :: R)) : KJ W n (.oper P (.call { callee := .builtin .append, args := #[x, y], argTypes := #[t, t] }) (some d) k) E H := by
  refine ⟨fun a w p s o ho hd => ?_⟩
  have hz := hz.h
  have hs := hs.h
  have hb := hb.h
  replace hsel := hsel.app (dm a.defers)
  have hrow := s.row hsel
  have hne : news ≠ [] := by intro q; subst q; have := Nat.mul_pos hl0 h0; simp at hl; omega
  obtain ⟨sb, so, rfl, hrange⟩ := hsrc.go hne
  cases hq : P.info? e with
  | none => simp [hq] at hz
  | some it =>
    simp [hq] at hz hs hb
    obtain ⟨zv, hz1, hz2⟩ := hz
    obtain ⟨v', w', hrun, hown, hgrow, -, hloc⟩ := run_append_own_at (P := P) w W.heap.size t o.type e it zv size bytes hu.h hq hz1 hs hb (by rw [hz2]; simpa using hsz) h0 v i xs hrow ⟨sb, so, none⟩ l c2 news hl (fun j u hj => by rw [Addr.add_mid]; exact hrange w s.left j u hj) h1.all (by unfold maxLen; omega) h63 s.size
    have hshape : ∃ g c, v' = .slice (some ⟨g, 0, none⟩) (i + l) c := by
      rcases hown.2 with ⟨_, q⟩ | ⟨g, cap, cur, hv, _⟩
      · omega
      · exact ⟨g, cap, hv⟩
    obtain ⟨g, cc, rfl⟩ := hshape
    show uponP P o a _ ((execOp a.eval o).run P w)
    have hr2 : (execOp a.eval o).run P w = .ok (.value (.slice (some ⟨g, 0, none⟩) (i + l) cc)) w' := by
      simp only [execOp, ho, resolve, invoke, builtin, Sem.run_bind, Sem.run_pure, Result.andThen_ok, List.map_toArray, List.map_cons, List.map_nil, p.ev hx, p.ev hy, hrun]
    rw [hr2]
    have st : St W (rowP (.slice (some ⟨g, 0, none⟩) (i + l) cc) e size (i + l) (xs ++ news) :: (R ++ dm a.defers)) w' := by
      obtain ⟨g1, g2, dj, hA, hH, l1, l2⟩ := (show St W ([rowP v e size i xs] ++ (R ++ dm a.defers)) w from s.perm hsel.perm).split
      rcases hown.2 with ⟨_, q⟩ | ⟨g', cap, cur, hv, hbase, hh, hrest⟩
      · omega
      · cases hv
        have hold : ∀ gg, v.ownBlock = some gg → ∃ o, g1 gg = some o := by
          intro gg hgg
          obtain ⟨ha, _, _, le, _, ⟨_, hd⟩, _⟩ := hA
          rcases hd with ⟨hv0, _⟩ | ⟨g'', cap', cur', hv0, hh0, _⟩
          · rw [hv0] at hgg; simp [Value.ownBlock] at hgg
          · rw [hv0] at hgg; simp [Value.ownBlock] at hgg; subst hgg; exact ⟨_, le _ _ hh0⟩
        refine St.join (B := [rowP (.slice (some ⟨g, 0, none⟩) (i + l) cc) e size (i + l) (xs ++ news)]) (g := Hl.one g (.cells cur e (0, 0))) s.below dj hH l1 l2 (starL_one ⟨hown.1, .inr ⟨g, cc, cur, rfl, Hl.one_self _ _, hrest⟩⟩) hgrow.os hgrow.tape hgrow.output hgrow.size ?_ ?_ ?_
        · intro kk o q; obtain ⟨rfl, rfl⟩ := Hl.one_some q; exact hh
        · intro kk o q
          obtain ⟨rfl, rfl⟩ := Hl.one_some q
          rcases hloc with hl | hl
          · exact .inl (hold kk (by rw [← hl]; rfl))
          · have : kk = w.heap.size := by simpa [Value.ownBlock] using hl
            exact .inr (by omega)
        · intro kk hk hnone
          refine hgrow.block kk hk (fun e => ?_)
          obtain ⟨o, ho⟩ := hold kk e.symm
          rw [hnone] at ho; cases ho
    have := (h g cc).go _ w' (p.put (d := some d) hn _) st
    rw [← hd] at this
    exact this
/-- a cell of a row -/
theorem Ev_loadRow {g i size : Nat} {xs : List Value} {v : Value} (hx : Env.ev E x = some (.pointer (some ⟨g, off, none⟩))) [hu : ScIs P t] (hs : Sel (rowP (.slice (some ⟨g, 0, none⟩) i c) e size i xs) H R) (hv : xs[off]? = some v) : Ev P W n E H (.load t x) v :=
  Ev.mk fun o ho a w p q => by
    obtain ⟨d, hu, hd⟩ := hu.h
    have hr := q.row hs
    have hc : w.cell? ⟨g, off, none⟩ = some v := by
      have := hr.cells (g := g) rfl off v hv
      rwa [Addr.add_mid, Nat.zero_add] at this
    simp [execOp, ho, p.ev hx, run_loadAt_one w hc hu hd, Result.andThen]
theorem Ev_loadRowAgg {g i size : Nat} {xs vs : List Value} (hx : Env.ev E x = some (.pointer (some ⟨g, off, none⟩))) [hu : AgIs P t] [hi : SzIs P t m] (hs : Sel (rowP (.slice (some ⟨g, 0, none⟩) i c) e size i xs) H R) (hv : ∀ j v, vs[j]? = some v → xs[off + j]? = some v) (hl : vs.length = m) : Ev P W n E H (.load t x) (.agg vs.toArray) :=
  Ev.mk fun o ho a w p q => by
    obtain ⟨d, hu, hd⟩ := hu.h
    have hr := q.row hs
    have hc : w.rangeAt g off vs := fun j v hj => by
      have := hr.cells (g := g) rfl (off + j) v (hv j v hj)
      rwa [Addr.add_mid, Nat.zero_add] at this
    have := run_loadAt_mid (P := P) w g off t vs d hc hu (isRow_of hd) (by rw [hl]; exact hi.h)
    simp [execOp, ho, p.ev hx, this, Result.andThen]
/-- []T{v}, of one element -/
theorem KJ_bslice1 {v : Value} {vs : List Value} (hx : Env.ev E x = some v) [hu : UIs P t (.slice e)] [hs : SzIs P e m] {zs : List Value} [hz : ZcIs P e zs] (hv : CellsOf v vs) (hl : vs.length = m) (hm : 0 < m ∧ m ≤ 16777216) (hn : Nat.blt d n = true)
    (h : ∀ g, KJ W n k ((d, .slice (some ⟨g, 0, none⟩) 1 1) :: E) (cellsP g vs e :: H)) : KJ W n (.oper P (.buildSlice t 1 #[(0, x)]) (some d) k) E H := by
  refine ⟨fun a w p s o ho hd => ?_⟩
  have hz := hz.h
  have hs := hs.h
  cases hq : P.info? e with
  | none => simp [hq] at hz
  | some it =>
    simp [hq] at hz hs
    obtain ⟨zv, hz1, hz2⟩ := hz
    have hr := run_buildSlice_one (P := P) w t e it zv v hu.h hq hz1 (by rw [hv.spec]; simp; omega) (by omega) (by omega)
    show uponP P o a _ ((execOp a.eval o).run P w)
    have hr2 : (execOp a.eval o).run P w = .ok (.value (.slice (some ⟨w.heap.size, 0, none⟩) 1 1)) (w.alloc (.cells vs.toArray e)) := by
      rw [hv.spec] at hr
      simp only [execOp, ho, List.map_toArray, List.map_cons, List.map_nil, p.ev hx, Sem.run_bind, Sem.run_pure, Result.andThen_ok, hr]
    rw [hr2]
    have := (h w.heap.size).go _ _ (p.put (d := some d) hn _) s.new
    rw [← hd] at this
    exact this
end
end Go.Proofs.YteklldbfdmaafaaDoor
/-
  The walk's steps, each a theorem whose proof is found by default (printed by genwk.py).
-/
namespace Go.Proofs.YteklldbfdmaafaaDoor
open Go Go.RowKit
/-- what is to be shown next: no rule finds it by itself -/
structure Later (A : Prop) : Prop where
  go : A
theorem xst {A G : Prop} (g : A) (h : Later A → G := by
  intro h
  first
  | (refine KJ_stp (by first | constructor | fail) ?_; exact h.go)
  | (refine is_ek ?_
     first
       | (refine ek_move ?_; first | refine EK_ev (Ev_move rfl) ?_)
       | (refine ek_assign ?_; first | refine EK_ev (Ev_assign rfl) ?_)
       | (refine ek_pick ?_; first | refine EK_ev (Ev_pick_t rfl rfl) ?_ | refine EK_ev (Ev_pick_f rfl rfl) ?_)
       | (refine ek_nilCheck ?_; first | refine EK_ev (Ev_nilCheck rfl) ?_)
       | (refine ek_fieldAddr ?_; first | refine EK_ev (Ev_field rfl) ?_)
       | (refine ek_load ?_; first | refine EK_ev (Ev_load rfl xS (by rfl)) ?_ | refine EK_ev (Ev_loadOld rfl (by assumption)) ?_ | refine EK_ev (Ev_loadAgg rfl xS xC) ?_)
       | (refine ek_un ?_; first | refine EK_ev (Ev_notD rfl) ?_ | refine EK_ev (Ev_not rfl) ?_ | refine EK_ev (Ev_neg rfl) ?_)
       | (refine ek_conv ?_; first | refine EK_ev (Ev_convI64 rfl (by omega)) ?_ | refine EK_ev (Ev_convI rfl) ?_ | refine EK_ev (Ev_convS rfl) ?_)
       | (refine ek_extract ?_; first | refine EK_ev (Ev_extract rfl rfl) ?_)
       | (refine ek_indexAddr ?_; first | refine EK_ev (Ev_indexSlice rfl rfl (by omega)) ?_ | refine EK_ev (Ev_indexArr rfl rfl (by omega)) ?_)
       | (refine ek_field ?_; first | refine EK_ev (Ev_fieldVal rfl rfl) ?_)
       | (refine ek_mkIface ?_; first | refine EK_ev (Ev_makeIface rfl rfl) ?_)
       | (refine ek_len ?_; first | refine EK_ev (Ev_len_str rfl) ?_ | refine EK_ev (Ev_len_slice rfl) ?_ | refine EK_ev (Ev_len_arr rfl) ?_ | refine EK_ev (Ev_len_map rfl xS) ?_)
       | (refine ek_min ?_; first | refine EK_ev (Ev_min rfl rfl) ?_)
       | (refine ek_max ?_; first | refine EK_ev (Ev_max rfl rfl) ?_)
       | (refine ek_add ?_; first | refine EK_ev (Ev_addI rfl rfl (by omega)) ?_ | refine EK_ev (Ev_addS rfl rfl (by simp <;> omega)) ?_ | refine EK_ev (Ev_add rfl rfl) ?_)
       | (refine ek_sub ?_; first | refine EK_ev (Ev_subI rfl rfl (by omega)) ?_ | refine EK_ev (Ev_sub rfl rfl) ?_)
       | (refine ek_mul ?_; first | refine EK_ev (Ev_mulI rfl rfl (by omega)) ?_ | refine EK_ev (Ev_mul rfl rfl) ?_)
       | (refine ek_quo ?_; first | refine EK_ev (Ev_quoI rfl rfl (by omega)) ?_ | refine EK_ev (Ev_quo rfl rfl (by omega)) ?_)
       | (refine ek_rem ?_; first | refine EK_ev (Ev_remI rfl rfl (by omega)) ?_ | refine EK_ev (Ev_rem rfl rfl (by omega)) ?_)
       | (refine ek_shl ?_; first | refine EK_ev (Ev_shl rfl rfl (by omega)) ?_)
       | (refine ek_shr ?_; first | refine EK_ev (Ev_shr rfl rfl (by omega)) ?_)
       | (refine ek_eql ?_; first | refine EK_ev (Ev_eqlI rfl rfl) ?_ | refine EK_ev (Ev_eqlS rfl rfl) ?_ | refine EK_ev (Ev_eqlNil rfl rfl) ?_ | refine EK_ev (Ev_eqlB rfl rfl) ?_ | refine EK_ev (Ev_eqlO rfl rfl rfl (fun _ => rfl)) ?_)
       | (refine ek_neq ?_; first | refine EK_ev (Ev_neqI rfl rfl) ?_ | refine EK_ev (Ev_neqS rfl rfl) ?_ | refine EK_ev (Ev_neqNil rfl rfl) ?_ | refine EK_ev (Ev_neqB rfl rfl) ?_ | refine EK_ev (Ev_neqO rfl rfl rfl (fun _ => rfl)) ?_)
       | (refine ek_lss ?_; first | refine EK_ev (Ev_lssI rfl rfl) ?_ | refine EK_ev (Ev_lssS rfl rfl) ?_)
       | (refine ek_leq ?_; first | refine EK_ev (Ev_leqI rfl rfl) ?_ | refine EK_ev (Ev_leqS rfl rfl) ?_)
       | (refine ek_gtr ?_; first | refine EK_ev (Ev_gtrI rfl rfl) ?_ | refine EK_ev (Ev_gtrS rfl rfl) ?_)
       | (refine ek_geq ?_; first | refine EK_ev (Ev_geqI rfl rfl) ?_ | refine EK_ev (Ev_geqS rfl rfl) ?_)
     exact h.go)
  | (refine is_ex ?_; refine KJ_blk_exit' rfl ?_; exact h.go)
  | (refine is_fw ?_; (first | refine FW_open rfl ?_ | refine FW_nil ?_ | refine FW_ef rfl ?_ | refine FW_efg rfl rfl rfl ?_); exact h.go)
  | (refine AtR_mk rfl ?_; exact h.go)
  | (refine Rech_open rfl ?_; exact h.go)) : G := h ⟨g⟩
theorem xsa {A G : Prop} (g : A) (h : Later A → G := by
  intro h
  refine is_oper ?_
  first | (refine is_alloc ?_; refine KJ_alloc rfl ?_) | (refine is_box ?_; refine KJ_box rfl xF rfl ?_)
  exact h.go) : G := h ⟨g⟩
theorem xsb {A B G : Prop} (a : A) (b : B) (h : Later A → Later B → G := by
  intro h1 h2
  first
  | (refine is_code ?_; refine KJ_cond_dec rfl ?_ ?_ <;> first | exact h1.go | exact h2.go)
  | (refine is_list ?_; first | (refine KJ_guard_dec_t rfl rfl rfl ?_ ?_ <;> first | exact h1.go | exact h2.go) | (refine KJ_guard_dec_f rfl rfl rfl ?_ ?_ <;> first | exact h1.go | exact h2.go))
  | (refine is_fo ?_; first | (refine FO_dec_t rfl rfl ?_ ?_ <;> first | exact h1.go | exact h2.go) | (refine FO_dec_f rfl rfl ?_ ?_ <;> first | exact h1.go | exact h2.go))) : G := h ⟨a⟩ ⟨b⟩
theorem xsc {A G : Prop} (g : A) (h : Later A → G := by
  intro h
  first
  | (refine is_oper ?_; (first | (refine is_store ?_; refine KJ_store rfl rfl xS xF (by rfl) xO xL xR ?_) | refine KJ_ek rfl ?_ | refine KJ_ek0 ?_); exact h.go)
  | (refine is_code ?_; (first | refine KJ_cond_t rfl ?_ | refine KJ_cond_f rfl ?_); exact h.go)
  | (refine is_list ?_; (first | refine KJ_guard_yes rfl rfl ?_ | refine KJ_guard_no rfl rfl rfl rfl ?_); exact h.go)
  | (refine is_fo ?_; (first | refine FO_no rfl rfl rfl rfl ?_ | refine FO_ekg rfl rfl rfl ?_ | refine FO_ek rfl ?_); exact h.go)
  | (refine is_ro ?_; (first | refine RO_no rfl rfl rfl rfl ?_ | refine RO_ekg rfl rfl ?_ | refine RO_ek ?_); exact h.go)) : G := h ⟨g⟩
end Go.Proofs.YteklldbfdmaafaaDoor
