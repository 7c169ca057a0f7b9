/-
  Sep.
-/
import Derived.WalkKit
import Derived.Deep.MidRow
import Derived.Deep.Quiet
import Derived.Test.YtmlnegmabfnaaaaBAA
/-
  Parts of memory: what a call owns, as a list of claims on blocks of its own. Plain lemmas on worlds, no program in sight.
-/
namespace Go.Proofs.Ytmlnegmabfnaaaa
open Go Go.RowKit
/-- a part of memory: some blocks and what lies there -/
abbrev Hl := Nat → Option Obj
def Hl.le (h g : Hl) : Prop := ∀ k o, h k = some o → g k = some o
def Hl.dj (h g : Hl) : Prop := ∀ k o, h k = some o → g k = none
def Hl.cup (h g : Hl) : Hl := fun k => (h k).or (g k)
def Hl.one (b : Nat) (o : Obj) : Hl := fun k => if k = b then some o else none

/-- a claim on a part of memory; the tag and the key tell two claims apart at a glance -/
structure SP where
  tag : Nat
  key : Nat
  ok : Hl → Prop

def starL : List SP → Hl → Prop
  | [], _ => True
  | A :: H, h => ∃ h1 h2, Hl.dj h1 h2 ∧ Hl.le h1 h ∧ Hl.le h2 h ∧ A.ok h1 ∧ starL H h2

theorem Hl.le.trans {a b c : Hl} (h : Hl.le a b) (k : Hl.le b c) : Hl.le a c := fun i o q => k i o (h i o q)
theorem Hl.le.rfl {a : Hl} : Hl.le a a := fun _ _ q => q
theorem Hl.dj.symm {h g : Hl} (H : Hl.dj h g) : Hl.dj g h := fun k o q => by
  cases hh : h k with
  | none => rfl
  | some o' => have := H k o' hh; rw [q] at this; cases this
theorem Hl.dj.mono {h g h' g' : Hl} (H : Hl.dj h g) (a : Hl.le h' h) (b : Hl.le g' g) : Hl.dj h' g' := fun k o q => by
  have := H k o (a k o q)
  cases hh : g' k with
  | none => rfl
  | some o' => rw [b k o' hh] at this; cases this
theorem Hl.le_cup_left {h g : Hl} : Hl.le h (Hl.cup h g) := fun k o q => by simp [Hl.cup, q]
theorem Hl.le_cup_right {h g : Hl} (H : Hl.dj h g) : Hl.le g (Hl.cup h g) := fun k o q => by simp [Hl.cup, H.symm k o q, q]
theorem Hl.cup_le {h g c : Hl} (a : Hl.le h c) (b : Hl.le g c) : Hl.le (Hl.cup h g) c := fun k o q => by
  unfold Hl.cup at q
  cases hh : h k with
  | none => rw [hh] at q; exact b k o q
  | some o' => rw [hh] at q; cases q; exact a k _ hh
theorem Hl.dj_cup {h g c : Hl} (a : Hl.dj h c) (b : Hl.dj g c) : Hl.dj (Hl.cup h g) c := fun k o q => by
  unfold Hl.cup at q
  cases hh : h k with
  | none => rw [hh] at q; exact b k o q
  | some o' => exact a k _ hh

theorem starL_le {H : List SP} : ∀ {h g : Hl}, Hl.le h g → starL H h → starL H g := by
  cases H with
  | nil => intros; trivial
  | cons A H => intro h g hg ⟨h1, h2, a, b, c, d, e⟩; exact ⟨h1, h2, a, b.trans hg, c.trans hg, d, e⟩
theorem starL_cons_mono {A : SP} {H H' : List SP} (f : ∀ h, starL H h → starL H' h) : ∀ h, starL (A :: H) h → starL (A :: H') h :=
  fun _ ⟨h1, h2, a, b, c, d, e⟩ => ⟨h1, h2, a, b, c, d, f _ e⟩
theorem starL_swap {A B : SP} {H : List SP} (h : Hl) : starL (A :: B :: H) h → starL (B :: A :: H) h := by
  intro ⟨h1, h2, a, b, c, d, h3, h4, a', b', c', d', e⟩
  have x1 : Hl.dj h1 h3 := a.mono .rfl b'
  have x2 : Hl.dj h1 h4 := a.mono .rfl c'
  exact ⟨h3, Hl.cup h1 h4, (Hl.dj_cup x1 a'.symm).symm, b'.trans c, Hl.cup_le b (c'.trans c), d', h1, h4, x2, Hl.le_cup_left, Hl.le_cup_right x2, d, e⟩
theorem starL_perm {H H' : List SP} (p : H.Perm H') : ∀ h, starL H h → starL H' h := by
  induction p with
  | nil => exact fun _ q => q
  | cons x _ ih => exact starL_cons_mono ih
  | swap x y l => exact starL_swap
  | trans _ _ ih1 ih2 => exact fun h q => ih2 h (ih1 h q)
theorem starL_append {A B : List SP} : ∀ h, starL (A ++ B) h ↔ ∃ h1 h2, Hl.dj h1 h2 ∧ Hl.le h1 h ∧ Hl.le h2 h ∧ starL A h1 ∧ starL B h2 := by
  induction A with
  | nil =>
    intro h
    constructor
    · intro q; exact ⟨fun _ => none, h, (fun _ _ q => by cases q), (fun _ _ q => by cases q), .rfl, trivial, q⟩
    · intro ⟨h1, h2, _, _, c, _, e⟩; exact starL_le c e
  | cons X A ih =>
    intro h
    constructor
    · intro ⟨h1, h2, a, b, c, d, e⟩
      obtain ⟨h3, h4, a', b', c', d', e'⟩ := (ih h2).1 e
      have x1 : Hl.dj h1 h3 := a.mono .rfl b'
      have x2 : Hl.dj h1 h4 := a.mono .rfl c'
      exact ⟨Hl.cup h1 h3, h4, Hl.dj_cup x2 a', Hl.cup_le b (b'.trans c), c'.trans c, ⟨h1, h3, x1, Hl.le_cup_left, Hl.le_cup_right x1, d, d'⟩, e'⟩
    · intro ⟨g1, g2, a, b, c, ⟨h1, h3, a', b', c', d', e'⟩, e⟩
      have x1 : Hl.dj h1 g2 := a.mono b' .rfl
      have x2 : Hl.dj h3 g2 := a.mono c' .rfl
      exact ⟨h1, Hl.cup h3 g2, (Hl.dj_cup a'.symm x1.symm).symm, b'.trans b, Hl.cup_le (c'.trans b) c, d', (ih _).2 ⟨h3, g2, x2, Hl.le_cup_left, Hl.le_cup_right x2, e', e⟩⟩

/-- the part h lies in the world w, above all that W had -/
def Lies (W w : World) (h : Hl) : Prop := ∀ k o, h k = some o → W.heap.size ≤ k ∧ w.heap[k]? = some o
/-- what was there when all began (W) is as it was, and H is owned -/
structure St (W : World) (H : List SP) (w : World) : Prop where
  below : Below W.heap.size W w
  own : ∃ h, starL H h ∧ Lies W w h

variable {W w w' : World}
theorem Lies.lt {h : Hl} (H : Lies W w h) {k : Nat} {o : Obj} (q : h k = some o) : k < w.heap.size := (Array.getElem?_eq_some_iff.1 (H k o q).2).1
theorem Lies.mono {h g : Hl} (H : Lies W w g) (le : Hl.le h g) : Lies W w h := fun k o q => H k o (le k o q)
theorem St.start (W : World) : St W [] W := ⟨.refl _ _, fun _ => none, trivial, fun _ _ q => by cases q⟩
theorem St.perm {H H' : List SP} (s : St W H w) (p : H.Perm H') : St W H' w := ⟨s.below, s.own.imp fun _ q => ⟨starL_perm p _ q.1, q.2⟩⟩
theorem St.mono {H H' : List SP} (s : St W H w) (f : ∀ h, starL H h → starL H' h) : St W H' w := ⟨s.below, s.own.imp fun _ q => ⟨f _ q.1, q.2⟩⟩
theorem St.right {A B : List SP} (s : St W (A ++ B) w) : St W B w := by
  obtain ⟨h, a, l⟩ := s.own
  obtain ⟨h1, h2, _, _, le, _, b⟩ := (starL_append h).1 a
  exact ⟨s.below, h2, b, l.mono le⟩
theorem St.left {A B : List SP} (s : St W (A ++ B) w) : St W A w := by
  obtain ⟨h, a, l⟩ := s.own
  obtain ⟨h1, h2, _, le, _, b, _⟩ := (starL_append h).1 a
  exact ⟨s.below, h1, b, l.mono le⟩
theorem St.size {H : List SP} (s : St W H w) : W.heap.size ≤ w.heap.size := s.below.size
theorem St.drawn {H : List SP} (s : St W H w) (n : Nat) : St W H { w with drawn := n } := ⟨⟨s.below.os, s.below.tape, s.below.output, s.below.size, s.below.block⟩, s.own⟩

/-- One step that touches the part A alone, and makes B of it. -/
theorem St.act {A B H : List SP} (s : St W (A ++ H) w) (os : w'.os = w.os) (tape : w'.tape = w.tape) (output : w'.output = w.output) (size : w.heap.size ≤ w'.heap.size)
    (hact : ∀ h1, starL A h1 → Lies W w h1 → ∃ h2, starL B h2 ∧ (∀ k o, h2 k = some o → w'.heap[k]? = some o) ∧ (∀ k o, h2 k = some o → (∃ o', h1 k = some o') ∨ w.heap.size ≤ k) ∧ (∀ k, k < w.heap.size → h1 k = none → w'.heap[k]? = w.heap[k]?)) : St W (B ++ H) w' := by
  obtain ⟨h, a, l⟩ := s.own
  obtain ⟨h1, h2, dj, le1, le2, hA, hH⟩ := (starL_append h).1 a
  obtain ⟨g, hB, q1, q2, q3⟩ := hact h1 hA (l.mono le1)
  have lw : ∀ k o, h k = some o → k < w.heap.size := fun k o q => l.lt q
  have djg : Hl.dj g h2 := fun k o q => by
    rcases q2 k o q with ⟨o', ho'⟩ | hk
    · exact dj k o' ho'
    · cases hh : h2 k with
      | none => rfl
      | some o' => have := lw k o' (le2 k o' hh); omega
  refine ⟨s.below.trans ⟨os, tape, output, size, fun k hk => q3 k (by have := s.size; omega) ?_⟩, Hl.cup g h2, (starL_append _).2 ⟨g, h2, djg, Hl.le_cup_left, Hl.le_cup_right djg, hB, hH⟩, fun k o q => ?_⟩
  · cases hh : h1 k with
    | none => rfl
    | some o => have := (l k o (le1 k o hh)).1; omega
  · unfold Hl.cup at q
    cases hg : g k with
    | none =>
      rw [hg] at q
      have q : h2 k = some o := by simpa using q
      have l2 := l k o (le2 k o q)
      refine ⟨l2.1, (q3 k (lw k o (le2 k o q)) ?_).trans l2.2⟩
      exact dj.symm k o q
    | some o' =>
      rw [hg] at q
      have q : o' = o := by simpa using q
      subst q
      refine ⟨?_, q1 k o' hg⟩
      rcases q2 k o' hg with ⟨o2, h2'⟩ | hk
      · exact (l k o2 (le1 k o2 h2')).1
      · have := s.size; omega

/-- the parts that A and H own -/
theorem St.split {A H : List SP} (s : St W (A ++ H) w) : ∃ h1 h2, Hl.dj h1 h2 ∧ starL A h1 ∧ starL H h2 ∧ Lies W w h1 ∧ Lies W w h2 := by
  obtain ⟨h, a, l⟩ := s.own
  obtain ⟨h1, h2, dj, le1, le2, hA, hH⟩ := (starL_append h).1 a
  exact ⟨h1, h2, dj, hA, hH, l.mono le1, l.mono le2⟩
/-- behind a step that touches h1 alone, and makes g of it -/
theorem St.join {B H : List SP} {h1 h2 g : Hl} (sb : Below W.heap.size W w) (dj : Hl.dj h1 h2) (hH : starL H h2) (l1 : Lies W w h1) (l2 : Lies W w h2) (hB : starL B g) (os : w'.os = w.os) (tape : w'.tape = w.tape) (output : w'.output = w.output) (size : w.heap.size ≤ w'.heap.size)
    (q1 : ∀ k o, g k = some o → w'.heap[k]? = some o) (q2 : ∀ k o, g k = some o → (∃ o', h1 k = some o') ∨ w.heap.size ≤ k) (q3 : ∀ k, k < w.heap.size → h1 k = none → w'.heap[k]? = w.heap[k]?) : St W (B ++ H) w' := by
  have djg : Hl.dj g h2 := fun k o q => by
    rcases q2 k o q with ⟨o', ho'⟩ | hk
    · exact dj k o' ho'
    · cases hh : h2 k with
      | none => rfl
      | some o' => have := l2.lt hh; omega
  refine ⟨sb.trans ⟨os, tape, output, size, fun k hk => q3 k (by have := sb.size; omega) ?_⟩, Hl.cup g h2, (starL_append _).2 ⟨g, h2, djg, Hl.le_cup_left, Hl.le_cup_right djg, hB, hH⟩, fun k o q => ?_⟩
  · cases hh : h1 k with
    | none => rfl
    | some o => have := (l1 k o hh).1; omega
  · unfold Hl.cup at q
    cases hg : g k with
    | none =>
      rw [hg] at q
      have q : h2 k = some o := by simpa using q
      have h3 := l2 k o q
      refine ⟨h3.1, (q3 k (l2.lt q) ?_).trans h3.2⟩
      exact dj.symm k o q
    | some o' =>
      rw [hg] at q
      have q : o' = o := by simpa using q
      subst q
      refine ⟨?_, q1 k o' hg⟩
      rcases q2 k o' hg with ⟨o2, h2'⟩ | hk
      · exact (l1 k o2 h2').1
      · have := sb.size; omega

/-- a block known whole -/
def cellsP (b : Nat) (cs : List Value) (T : TypeId) : SP := ⟨0, b, fun h => h b = some (.cells cs.toArray T (0, 0))⟩
/-- an object of another kind (a map) -/
def objP (b : Nat) (o : Obj) : SP := ⟨1, b, fun h => h b = some o⟩
/-- a slice's row: nil, or a row of its own whose first cells are known -/
def rowP (v : Value) (e : TypeId) (size n : Nat) (xs : List Value) : SP := ⟨2, 0, fun h => xs.length = n * size ∧
  ((v = .slice none 0 0 ∧ n = 0) ∨ ∃ g cap cur, v = .slice (some ⟨g, 0, none⟩) n cap ∧ h g = some (.cells cur e (0, 0)) ∧ n ≤ cap ∧ cap ≤ maxLen ∧ cur.size = cap * size ∧ cur.toList.take (n * size) = xs)⟩
/-- a plain fact among the claims -/
def factP (p : Prop) : SP := ⟨3, 0, fun _ => p⟩

theorem starL_one {A : SP} {h : Hl} (q : A.ok h) : starL [A] h := ⟨h, fun _ => none, (fun _ _ _ => rfl), .rfl, (fun _ _ q => by cases q), q, trivial⟩
theorem starL_one' {A : SP} (up : ∀ h g, Hl.le h g → A.ok h → A.ok g) {h : Hl} (q : starL [A] h) : A.ok h := by
  obtain ⟨h1, _, _, le, _, a, _⟩ := q
  exact up _ _ le a
theorem cellsP_up {b : Nat} {cs : List Value} {T : TypeId} : ∀ h g, Hl.le h g → (cellsP b cs T).ok h → (cellsP b cs T).ok g := fun _ _ le q => le _ _ q
theorem objP_up {b : Nat} {o : Obj} : ∀ h g, Hl.le h g → (objP b o).ok h → (objP b o).ok g := fun _ _ le q => le _ _ q
theorem rowP_up {v : Value} {e : TypeId} {size n : Nat} {xs : List Value} : ∀ h g, Hl.le h g → (rowP v e size n xs).ok h → (rowP v e size n xs).ok g := by
  intro h g le ⟨l, q⟩
  refine ⟨l, ?_⟩
  rcases q with q | ⟨g', cap, cur, a, b, c⟩
  · exact .inl q
  · exact .inr ⟨g', cap, cur, a, le _ _ b, c⟩
theorem Hl.one_self (b : Nat) (o : Obj) : Hl.one b o b = some o := by simp [Hl.one]
theorem Hl.one_some {b k : Nat} {o o' : Obj} (h : Hl.one b o k = some o') : k = b ∧ o' = o := by
  unfold Hl.one at h
  split at h
  · cases h; exact ⟨by assumption, rfl⟩
  · cases h

/-- one of the claims, and the others -/
inductive Sel (A : SP) : List SP → List SP → Prop
  | here {H : List SP} : Sel A (A :: H) H
  | there {B : SP} {H H' : List SP} : Sel A H H' → Sel A (B :: H) (B :: H')
theorem Sel.perm {A : SP} {H H' : List SP} (s : Sel A H H') : H.Perm (A :: H') := by
  induction s with
  | here => exact .refl _
  | there _ ih => exact (List.Perm.cons _ ih).trans (.swap _ _ _)
/-- one of the claims gives way to another -/
inductive Rep (A A' : SP) : List SP → List SP → Prop
  | here {H : List SP} : Rep A A' (A :: H) (A' :: H)
  | there {B : SP} {H H' : List SP} : Rep A A' H H' → Rep A A' (B :: H) (B :: H')
theorem Rep.split {A A' : SP} {H H' : List SP} (s : Rep A A' H H') : ∃ R, H.Perm (A :: R) ∧ (A' :: R).Perm H' := by
  induction s with
  | here => exact ⟨_, .refl _, .refl _⟩
  | there _ ih =>
    obtain ⟨R, p, q⟩ := ih
    exact ⟨_ :: R, (List.Perm.cons _ p).trans (.swap _ _ _), (List.Perm.swap _ _ _).trans (List.Perm.cons _ q)⟩
/-- some of the claims, and the others -/
inductive Pick : List SP → List SP → List SP → Prop
  | nil {H : List SP} : Pick [] H H
  | cons {A : SP} {As H H1 H2 : List SP} : Sel A H H1 → Pick As H1 H2 → Pick (A :: As) H H2
theorem Pick.perm {As H R : List SP} (p : Pick As H R) : H.Perm (As ++ R) := by
  induction p with
  | nil => exact .refl _
  | cons s _ ih => exact s.perm.trans (List.Perm.cons _ ih)

theorem xS {A : SP} {H R : List SP} (h : Sel A H R := by (repeat' (first | exact Sel.here | apply Sel.there)); first | done | fail) : Sel A H R := h
theorem xR {A B : SP} {H R : List SP} (h : Rep A B H R := by (repeat' (first | exact Rep.here | apply Rep.there)); first | done | fail) : Rep A B H R := h
theorem xP {As H R : List SP} (h : Pick As H R := by (repeat' (first | exact Pick.nil | apply Pick.cons | exact Sel.here | apply Sel.there)); first | done | fail) : Pick As H R := h
theorem St.sel {A : SP} {H R : List SP} (s : St W H w) (p : Sel A H R) (up : ∀ h g, Hl.le h g → A.ok h → A.ok g) : ∃ h, A.ok h ∧ Lies W w h := by
  obtain ⟨h, a, l⟩ := ((s.perm p.perm).left (A := [A])).own
  exact ⟨h, starL_one' up a, l⟩
theorem St.blk {b : Nat} {cs : List Value} {T : TypeId} {H R : List SP} (s : St W H w) (p : Sel (cellsP b cs T) H R) : W.heap.size ≤ b ∧ Blk w b cs T := by
  obtain ⟨h, a, l⟩ := s.sel p cellsP_up
  exact l b _ a
theorem St.obj {b : Nat} {o : Obj} {H R : List SP} (s : St W H w) (p : Sel (objP b o) H R) : W.heap.size ≤ b ∧ w.heap[b]? = some o := by
  obtain ⟨h, a, l⟩ := s.sel p objP_up
  exact l b _ a
theorem St.row {v : Value} {e : TypeId} {size n : Nat} {xs : List Value} {H R : List SP} (s : St W H w) (p : Sel (rowP v e size n xs) H R) : w.ownsRow W.heap.size e size v n xs := by
  obtain ⟨h, ⟨q, a⟩, l⟩ := s.sel p rowP_up
  refine ⟨q, ?_⟩
  rcases a with a | ⟨g, cap, cur, a, b, c⟩
  · exact .inl a
  · exact .inr ⟨g, cap, cur, a, (l g _ b).1, (l g _ b).2, c⟩
theorem St.fact {p : Prop} {H R : List SP} (s : St W H w) (q : Sel (factP p) H R) : p := by
  obtain ⟨h, a, _⟩ := s.sel q (fun _ _ _ x => x)
  exact a
/-- a block of one's own turns, and nothing else -/
theorem St.turn {b : Nat} {o o' : Obj} {A A' : SP} {H H' : List SP} (s : St W H w) (r : Rep A A' H H') (hA : ∀ h, A.ok h → h b = some o) (hA' : A'.ok (Hl.one b o'))
    (os : w'.os = w.os) (tape : w'.tape = w.tape) (output : w'.output = w.output) (size : w'.heap.size = w.heap.size) (hb : w'.heap[b]? = some o') (hk : ∀ k, k ≠ b → w'.heap[k]? = w.heap[k]?) : St W H' w' := by
  obtain ⟨R, p, q⟩ := r.split
  refine St.perm (St.act (A := [A]) (B := [A']) (H := R) (s.perm p) os tape output (by omega) ?_) q
  intro h1 ⟨h, _, _, le, _, a, _⟩ l
  refine ⟨Hl.one b o', starL_one hA', fun k x hx => ?_, fun k x hx => ?_, fun k _ hn => hk k ?_⟩
  · obtain ⟨rfl, rfl⟩ := Hl.one_some hx; exact hb
  · obtain ⟨rfl, rfl⟩ := Hl.one_some hx; exact .inl ⟨_, le _ _ (hA _ a)⟩
  · intro e; subst e; rw [le _ _ (hA _ a)] at hn; cases hn
theorem St.setRow {b : Nat} {cs cs' : List Value} {T : TypeId} {H H' : List SP} (s : St W H w) (r : Rep (cellsP b cs T) (cellsP b cs' T) H H') : St W H' (w.setRow b cs'.toArray) := by
  have hb : Blk w b cs T := by
    obtain ⟨R, p, _⟩ := r.split
    exact ((s.perm p).blk .here).2
  exact s.turn r (fun h q => q) (Hl.one_self _ _) rfl rfl rfl (by simp [World.setRow]) (hb.row cs') (fun k hk => setRow_other w b k _ hk)
theorem St.setCell {b j : Nat} {cs : List Value} {v : Value} {T : TypeId} {H H' : List SP} (s : St W H w) (r : Rep (cellsP b cs T) (cellsP b (cs.set j v) T) H H') : St W H' (w.setCell ⟨b, j, none⟩ v) := by
  have hb : Blk w b cs T := by
    obtain ⟨R, p, _⟩ := r.split
    exact ((s.perm p).blk .here).2
  exact s.turn r (fun h q => q) (Hl.one_self _ _) rfl rfl rfl (by simp [World.setCell]) (hb.set j v) (fun k hk => Below.heap_setCell _ _ _ _ hk)
theorem St.alloc {A : SP} {o : Obj} {H : List SP} (s : St W H w) (hA : A.ok (Hl.one w.heap.size o)) : St W (A :: H) (w.alloc o) := by
  refine St.act (A := []) (B := [A]) (H := H) s rfl rfl rfl (by simp) ?_
  intro h1 _ _
  refine ⟨Hl.one w.heap.size o, starL_one hA, fun k x hx => ?_, fun k x hx => ?_, fun k hk _ => Below.heap_alloc _ _ _ hk⟩
  · obtain ⟨rfl, rfl⟩ := Hl.one_some hx; exact heap_alloc_new w _
  · obtain ⟨rfl, rfl⟩ := Hl.one_some hx; exact .inr (Nat.le_refl _)
theorem St.new {cs : List Value} {T : TypeId} {H : List SP} (s : St W H w) : St W (cellsP w.heap.size cs T :: H) (w.alloc (.cells cs.toArray T)) := s.alloc (Hl.one_self _ _)
/-- what was there when all began reads as it did -/
theorem St.old {H : List SP} (s : St W H w) {a : Addr} {v : Value} (h : W.cell? a = some v) : w.cell? a = some v := by
  have hb : a.block < W.heap.size := World.block_lt_of_cell? W a h
  rw [s.below.cell hb]; exact h
end Go.Proofs.Ytmlnegmabfnaaaa
