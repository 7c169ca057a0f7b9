/-
  Mor5, AreL, AreT, Open9, Kpt.
-/
import Derived.Deep.Upon
import Derived.Test.YteklldbfdmaafaaDoorGD
import Derived.Test.YteklldbfdmaafaaDoorGK
import Derived.Test.YteklldbfdmaafaaDoorGH
/-
  Rules of the walk with a value of one's choice.
-/
namespace Go.Proofs.YteklldbfdmaafaaDoor
open Go Go.RowKit
section
variable {P : Program} {W : World} {n : Nat} {E : Env} {H : List SP} {t u : TypeId} {x y : Operand} {kd : IntKind}
theorem Ev_rem_w {i j r : Int} (hx : Env.ev E x = some (.int kd i)) (hy : Env.ev E y = some (.int kd j)) (hb : 0 ≤ i ∧ 0 < j) (h : i % j = r) : Ev P W n E H (.binOp .rem t x y u) (.int kd r) := by subst h; exact Ev_remI hx hy hb
theorem Ev_add_w {i j r : Int} (hx : Env.ev E x = some (.int kd i)) (hy : Env.ev E y = some (.int kd j)) (h : kd.wrap (i + j) = r) : Ev P W n E H (.binOp .add t x y u) (.int kd r) := by subst h; exact Ev_add hx hy
theorem Ev_quo_w {i j r : Int} (hx : Env.ev E x = some (.int .i64 i)) (hy : Env.ev E y = some (.int .i64 j)) (hb : 0 ≤ i ∧ i ≤ 9223372036854775807 ∧ 0 < j) (h : i / j = r) : Ev P W n E H (.binOp .quo t x y u) (.int .i64 r) := by
  subst h; exact Ev_quoI hx hy hb
theorem Ev_max_w {i j m : Int} {ts : Array TypeId} (hx : Env.ev E x = some (.int kd i)) (hy : Env.ev E y = some (.int kd j)) (h : max i j = m) : Ev P W n E H (.call { callee := .builtin .max, args := #[x, y], argTypes := ts }) (.int kd m) := by subst h; exact Ev_max hx hy
end
end Go.Proofs.YteklldbfdmaafaaDoor
/-
  The package area, as plain data: there and back; a write that the power cuts off.
-/
namespace Go.Proofs.YteklldbfdmaafaaDoor
open Go Go.RowKit

/-! ### laid sectors -/
theorem take_lay (l b : List UInt8) (o m : Nat) (h : o + b.length ≤ l.length) (hm : m ≤ o) : (lay l o b).take m = l.take m := by
  unfold lay
  rw [List.take_append_of_le_length (by simp; omega), List.take_take, Nat.min_eq_left hm]
theorem drop_lay (l b : List UInt8) (o m : Nat) (h : o + b.length ≤ l.length) (hm : o + b.length ≤ m) : (lay l o b).drop m = l.drop m := by
  unfold lay
  rw [← List.append_assoc, List.drop_append, List.drop_of_length_le (by simp; omega), List.nil_append, List.drop_drop]
  congr 1
  simp
  omega
theorem layAll_cons (img : List UInt8) (x : Nat × List UInt8) (u : List (Nat × List UInt8)) : layAll img (x :: u) = layAll (lay img (x.1 * 256) x.2) u := rfl
theorem layAll_app (img : List UInt8) (u w : List (Nat × List UInt8)) : layAll img (u ++ w) = layAll (layAll img u) w := by unfold layAll; rw [List.foldl_append]
theorem layAll_lo (n a : Nat) : ∀ (u : List (Nat × List UInt8)) (img : List UInt8), img.length = 256 * n → (∀ x ∈ u, a ≤ x.1 ∧ x.1 < n ∧ x.2.length ≤ 256) → (layAll img u).take (256 * a) = img.take (256 * a) := by
  intro u
  induction u with
  | nil => intro img _ _; rfl
  | cons x u ih =>
    intro img hl h
    obtain ⟨h1, h2, h3⟩ := h x (by simp)
    have hb : x.1 * 256 + x.2.length ≤ img.length := by omega
    rw [layAll_cons, ih _ (by rw [lay_length _ _ _ hb]; exact hl) (fun y hy => h y (by simp [hy])), take_lay _ _ _ _ hb (by omega)]
theorem layAll_hi (n b : Nat) : ∀ (u : List (Nat × List UInt8)) (img : List UInt8), img.length = 256 * n → (∀ x ∈ u, x.1 < b ∧ x.1 < n ∧ x.2.length ≤ 256) → (layAll img u).drop (256 * b) = img.drop (256 * b) := by
  intro u
  induction u with
  | nil => intro img _ _; rfl
  | cons x u ih =>
    intro img hl h
    obtain ⟨h1, h2, h3⟩ := h x (by simp)
    have hb : x.1 * 256 + x.2.length ≤ img.length := by omega
    rw [layAll_cons, ih _ (by rw [lay_length _ _ _ hb]; exact hl) (fun y hy => h y (by simp [hy])), drop_lay _ _ _ _ hb (by omega)]
set_option maxRecDepth 10000 in
theorem layAll_off (n j : Nat) : ∀ (u : List (Nat × List UInt8)) (img : List UInt8), img.length = 256 * n → (∀ x ∈ u, x.1 ≠ j ∧ x.1 < n ∧ x.2.length ≤ 256) → cut (layAll img u) (j * 256) 256 = cut img (j * 256) 256 := by
  intro u
  induction u with
  | nil => intro img _ _; rfl
  | cons x u ih =>
    intro img hl h
    obtain ⟨h1, h2, h3⟩ := h x (by simp)
    have hb : x.1 * 256 + x.2.length ≤ img.length := by omega
    rw [layAll_cons, ih _ (by rw [lay_length _ _ _ hb]; exact hl) (fun y hy => h y (by simp [hy]))]
    clear ih h
    rcases Nat.lt_or_ge j x.1 with hlt | hge
    · have hh : j * 256 + 256 ≤ x.1 * 256 := by omega
      exact cut_lay_before _ _ _ _ _ hb hh
    · have hh : x.1 * 256 + x.2.length ≤ j * 256 := by omega
      exact cut_lay_behind _ _ _ _ _ hb hh
theorem cut_lay_torn (img s : List UInt8) (o d : Nat) (hs : s.length = 256) (hd : d ≤ 256) (h : o + 256 ≤ img.length) : cut (lay img o (s.take d)) o 256 = tornB s (cut img o 256) d := by
  have htl : (s.take d).length = d := by rw [List.length_take]; omega
  unfold cut lay tornB
  rw [List.drop_left' (by simp; omega), htl, List.take_append, htl, List.take_of_length_le (by omega), List.drop_take, List.drop_drop]

/-! ### the pieces -/
/-- so many sectors -/
def nsec (l : Nat) : Nat := (l + 233) / 234
/-- the sealed pieces of a value, from sector a on -/
def pcs (stamp : Int) : Nat → Nat → List UInt8 → List (Nat × List UInt8)
  | 0, _, _ => []
  | f + 1, a, v => if v = [] then [] else (a, sealB stamp (v.take 234)) :: pcs stamp f (a + 1) (v.drop 234)
theorem pcs_nil (stamp : Int) (f a : Nat) : pcs stamp f a [] = [] := by cases f <;> simp [pcs]
theorem pcs_cons (stamp : Int) (f a : Nat) (v : List UInt8) (h : v ≠ []) : pcs stamp (f + 1) a v = (a, sealB stamp (v.take 234)) :: pcs stamp f (a + 1) (v.drop 234) := by
  show (if v = [] then _ else _) = _
  rw [if_neg h]
theorem pcs_in (stamp : Int) : ∀ (f a : Nat) (v : List UInt8), ∀ x ∈ pcs stamp f a v, a ≤ x.1 ∧ x.1 < a + nsec v.length ∧ x.2.length = 256 := by
  intro f
  induction f with
  | zero => intro a v x hx; cases hx
  | succ f ih =>
    intro a v x hx
    by_cases hv : v = []
    · rw [hv, pcs_nil] at hx; cases hx
    · rw [pcs_cons _ _ _ _ hv] at hx
      have hp := List.length_pos_iff.2 hv
      rcases List.mem_cons.1 hx with rfl | hx
      · exact ⟨Nat.le_refl _, by unfold nsec; dsimp only; omega, sealB_length _ _ (by rw [List.length_take]; omega)⟩
      · obtain ⟨h1, h2, h3⟩ := ih (a + 1) (v.drop 234) x hx
        rw [List.length_drop] at h2
        unfold nsec at h2 ⊢
        exact ⟨by omega, by omega, h3⟩
/-- cut off pieces -/
def cutP (dn : Nat → Nat) (u : List (Nat × List UInt8)) (s : Nat) : List (Nat × List UInt8) := (u.zipIdx s).map fun x => (x.1.1, x.1.2.take (dn x.2))
theorem cutP_cons (dn : Nat → Nat) (x : Nat × List UInt8) (u : List (Nat × List UInt8)) (s : Nat) : cutP dn (x :: u) s = (x.1, x.2.take (dn s)) :: cutP dn u (s + 1) := rfl
theorem cutP_in (dn : Nat → Nat) : ∀ (u : List (Nat × List UInt8)) (s : Nat), ∀ x ∈ cutP dn u s, ∃ y ∈ u, x.1 = y.1 ∧ x.2.length ≤ y.2.length := by
  intro u
  induction u with
  | nil => intro s x hx; cases hx
  | cons y u ih =>
    intro s x hx
    rw [cutP_cons] at hx
    rcases List.mem_cons.1 hx with rfl | hx
    · exact ⟨y, by simp, rfl, by dsimp only; rw [List.length_take]; omega⟩
    · obtain ⟨z, hz, h⟩ := ih (s + 1) x hx
      exact ⟨z, by simp [hz], h⟩
theorem cutP_full (dn : Nat → Nat) (hd : ∀ k, dn k = 256) : ∀ (u : List (Nat × List UInt8)) (s : Nat), (∀ x ∈ u, x.2.length = 256) → cutP dn u s = u := by
  intro u
  induction u with
  | nil => intro s _; rfl
  | cons y u ih =>
    intro s h
    rw [cutP_cons, ih (s + 1) (fun x hx => h x (by simp [hx])), hd, List.take_of_length_le (by have := h y (by simp); omega)]
theorem layDone_eq (img : List UInt8) (kept : List Bool) (torn bytes : Int) (u : List (Nat × List UInt8)) : layDone img kept torn bytes u = layAll img (cutP (done kept torn bytes) u 0) := by
  unfold layDone layAll cutP
  rw [List.foldl_map]
theorem doneK_le (kept : List Bool) (torn bytes : Int) (k : Nat) : done kept torn bytes k ≤ 256 := by
  unfold done
  split
  · omega
  · split <;> omega
/-- each sector of a value that was cut off: some of the new bytes, then the old ones -/
theorem torn_pcs (stamp : Int) (n : Nat) (dn : Nat → Nat) (hd : ∀ k, dn k ≤ 256) : ∀ (f a m s : Nat) (v img : List UInt8), img.length = 256 * n → a + nsec v.length ≤ n →
    ∀ k, 234 * k < v.length → ∃ d, d ≤ 256 ∧ cut (layAll img (cutP dn ((pcs stamp f a v).take m) s)) ((a + k) * 256) 256 = tornB (sealB stamp ((v.drop (234 * k)).take 234)) (cut img ((a + k) * 256) 256) d ∧ ((∀ k, dn k = 256) → v.length ≤ 234 * f → (pcs stamp f a v).length ≤ m → d = 256) := by
  intro f
  induction f with
  | zero => intro a m s v img hl hn k hk; exact ⟨0, by omega, by simp [pcs, cutP, tornB, layAll], fun _ h => by omega⟩
  | succ f ih =>
    intro a m s v img hl hn k hk
    have hv : v ≠ [] := by rintro rfl; simp at hk
    have hp := List.length_pos_iff.2 hv
    cases m with
    | zero => exact ⟨0, by omega, by simp [cutP, tornB, layAll], fun _ _ h => by rw [pcs_cons _ _ _ _ hv] at h; simp at h⟩
    | succ m =>
      have hs : (v.take 234).length ≤ 234 := by rw [List.length_take]; omega
      have hS := sealB_length stamp _ hs
      have hn' : a + 1 ≤ n ∧ a + 1 + nsec (v.drop 234).length ≤ n := by
        rw [List.length_drop]
        unfold nsec at hn ⊢
        omega
      rw [pcs_cons _ _ _ _ hv, List.take_succ_cons, cutP_cons, layAll_cons]
      dsimp only
      have htl : ((sealB stamp (v.take 234)).take (dn s)).length = dn s := by rw [List.length_take]; have := hd s; omega
      have hb : a * 256 + ((sealB stamp (v.take 234)).take (dn s)).length ≤ img.length := by rw [htl]; have := hd s; omega
      cases k with
      | zero =>
        refine ⟨dn s, hd s, ?_, fun h _ _ => h s⟩
        show cut _ (a * 256) 256 = tornB (sealB stamp (v.take 234)) (cut img (a * 256) 256) (dn s)
        rw [layAll_off n a _ _ (by rw [lay_length _ _ _ hb]; exact hl) (fun x hx => ?_)]
        · exact cut_lay_torn _ _ _ _ hS (hd s) (by omega)
        · obtain ⟨y, hy, e1, e2⟩ := cutP_in _ _ _ _ hx
          obtain ⟨h1, h2, h3⟩ := pcs_in _ _ _ _ y (List.mem_of_mem_take hy)
          exact ⟨by omega, by omega, by omega⟩
      | succ k =>
        obtain ⟨d, h1, h2, h3⟩ := ih (a + 1) m (s + 1) (v.drop 234) (lay img (a * 256) ((sealB stamp (v.take 234)).take (dn s))) (by rw [lay_length _ _ _ hb]; exact hl) hn'.2 k (by rw [List.length_drop]; omega)
        refine ⟨d, h1, ?_, fun q1 q2 q3 => h3 q1 (by rw [List.length_drop]; omega) (by simpa using q3)⟩
        have e1 : (a + 1 + k) * 256 = (a + (k + 1)) * 256 := by omega
        rw [e1, List.drop_drop, show 234 + 234 * k = 234 * (k + 1) by omega, cut_lay_behind _ _ _ _ _ hb (by have := hd s; omega)] at h2
        exact h2
theorem torn_full (new old : List UInt8) (h : new.length = 256) (h2 : old.length = 256) : tornB new old 256 = new := by
  unfold tornB
  rw [List.take_of_length_le (by omega), List.drop_of_length_le (by omega), List.append_nil]

/-! ### Write's ways -/
theorem write_ways {D : Dsk} (h : D.off = false) (i : Nat) (hi : i < D.n) (s : List UInt8) (hs : s.length = 256) :
    ((D.writeE i s = 0 ∧ (D.writeD i s).off = false) ∨ D.writeE i s = 12) ∧ (D.writeD i s).und = D.und ++ [(i, s)] ∧ (D.writeD i s).img = D.img ∧ (D.writeD i s).n = D.n ∧ (D.armed = -1 → D.writeE i s = 0 ∧ (D.writeD i s).armed = -1) := by
  have hhas : D.has (i : Int) = true := by unfold Dsk.has; exact decide_eq_true (by omega)
  obtain ⟨n, img, und, off, armed, wr, fl, lf⟩ := D
  obtain rfl : off = false := h
  by_cases h0 : armed = 0
  · subst h0
    simp [Dsk.writeE, Dsk.writeD, Dsk.dead, Dsk.gone, hhas, hs]
  · by_cases hp : 0 < armed
    · simp [Dsk.writeE, Dsk.writeD, Dsk.dead, Dsk.gone, hhas, hs, h0, hp]
      omega
    · simp [Dsk.writeE, Dsk.writeD, Dsk.dead, Dsk.gone, hhas, hs, h0, hp]
theorem flush_ways {D : Dsk} (h : D.off = false) :
    ((D.flushE = 0 ∧ D.flushD.off = false ∧ D.flushD.und = [] ∧ D.flushD.img = layAll D.img D.und) ∨ (D.flushE = 12 ∧ D.flushD.und = D.und ∧ D.flushD.img = D.img)) ∧ D.flushD.n = D.n ∧ (D.armed = -1 → D.flushE = 0 ∧ D.flushD.armed = -1) := by
  obtain ⟨n, img, und, off, armed, wr, fl, lf⟩ := D
  obtain rfl : off = false := h
  by_cases h0 : armed = 0
  · subst h0
    simp [Dsk.flushE, Dsk.flushD, Dsk.dead, Dsk.gone]
  · by_cases hp : 0 < armed
    · simp [Dsk.flushE, Dsk.flushD, Dsk.dead, Dsk.gone, h0, hp]
      omega
    · simp [Dsk.flushE, Dsk.flushD, Dsk.dead, Dsk.gone, h0, hp]
/-- all of it, or the power goes at a write or at the flush -/
theorem aw_ways (stamp : Int) (at_ : Nat) : ∀ (f : Nat) (D : Dsk) (i : Nat) (v : List UInt8), D.off = false → D.ok → v.length ≤ 234 * f → at_ + i + nsec v.length ≤ D.n →
    (((awGo at_ stamp f D i v).1 = 0 ∧ (awGo at_ stamp f D i v).2.off = false ∧ (awGo at_ stamp f D i v).2.und = [] ∧ (awGo at_ stamp f D i v).2.img = layAll D.img (D.und ++ pcs stamp f (at_ + i) v)) ∨
      ((awGo at_ stamp f D i v).1 = 12 ∧ (awGo at_ stamp f D i v).2.img = D.img ∧ ∃ m, (awGo at_ stamp f D i v).2.und = D.und ++ (pcs stamp f (at_ + i) v).take m)) ∧
    (awGo at_ stamp f D i v).2.n = D.n ∧ (awGo at_ stamp f D i v).2.ok ∧ (D.armed = -1 → (awGo at_ stamp f D i v).1 = 0 ∧ (awGo at_ stamp f D i v).2.armed = -1) := by
  have hnil : ∀ (f : Nat) (D : Dsk) (i : Nat), D.off = false → D.ok → (((awGo at_ stamp f D i []).1 = 0 ∧ (awGo at_ stamp f D i []).2.off = false ∧ (awGo at_ stamp f D i []).2.und = [] ∧ (awGo at_ stamp f D i []).2.img = layAll D.img (D.und ++ pcs stamp f (at_ + i) [])) ∨
      ((awGo at_ stamp f D i []).1 = 12 ∧ (awGo at_ stamp f D i []).2.img = D.img ∧ ∃ m, (awGo at_ stamp f D i []).2.und = D.und ++ (pcs stamp f (at_ + i) []).take m)) ∧
    (awGo at_ stamp f D i []).2.n = D.n ∧ (awGo at_ stamp f D i []).2.ok ∧ (D.armed = -1 → (awGo at_ stamp f D i []).1 = 0 ∧ (awGo at_ stamp f D i []).2.armed = -1) := by
    intro f D i ho hk
    rw [awGo_nil, pcs_nil]
    obtain ⟨h1, h2, h3⟩ := flush_ways ho
    refine ⟨?_, h2, Dsk.flushD_ok hk, h3⟩
    rcases h1 with ⟨a, b, c, d⟩ | ⟨a, b, c⟩
    · exact .inl ⟨a, b, c, by rw [List.append_nil]; exact d⟩
    · exact .inr ⟨a, c, 0, by simpa using b⟩
  intro f
  induction f with
  | zero =>
    intro D i v ho hk hv hn
    have : v = [] := List.length_eq_zero_iff.1 (by omega)
    subst this
    exact hnil 0 D i ho hk
  | succ f ih =>
    intro D i v ho hk hv hn
    by_cases h0 : v = []
    · subst h0; exact hnil (f + 1) D i ho hk
    have hp := List.length_pos_iff.2 h0
    have hn' : at_ + i < D.n ∧ at_ + (i + 1) + nsec (v.drop 234).length ≤ D.n := by
      rw [List.length_drop]
      unfold nsec at hn ⊢
      omega
    have hS := sealB_length stamp (v.take 234) (by rw [List.length_take]; omega)
    obtain ⟨w1, w2, w3, w4, w5⟩ := write_ways ho (at_ + i) hn'.1 _ hS
    have hok := Dsk.writeD_ok hk ((at_ + i : Nat) : Int) (sealB stamp (v.take 234))
    have hu : awGo at_ stamp (f + 1) D i v = if D.writeE ((at_ + i : Nat) : Int) (sealB stamp (v.take 234)) ≠ 0 then (D.writeE ((at_ + i : Nat) : Int) (sealB stamp (v.take 234)), D.writeD ((at_ + i : Nat) : Int) (sealB stamp (v.take 234)))
      else awGo at_ stamp f (D.writeD ((at_ + i : Nat) : Int) (sealB stamp (v.take 234))) ((i + 1 : Nat) : Int) (v.drop 234) := by
      show (if v = [] then _ else _) = _
      rw [if_neg h0]
      rfl
    rw [hu, pcs_cons _ _ _ _ h0]
    clear hu
    rcases w1 with ⟨a, b⟩ | a
    · rw [if_neg (by rw [a]; simp)]
      obtain ⟨r1, r2, r3, r4⟩ := ih (D.writeD ((at_ + i : Nat) : Int) (sealB stamp (v.take 234))) (i + 1) (v.drop 234) b hok (by rw [List.length_drop]; omega) (by rw [w4]; exact hn'.2)
      refine ⟨?_, by rw [r2, w4], r3, fun q => r4 (w5 q).2⟩
      rcases r1 with ⟨c1, c2, c3, c4⟩ | ⟨c1, c2, m, c3⟩
      · refine .inl ⟨c1, c2, c3, ?_⟩
        rw [c4, w3, w2, List.append_assoc]
        rfl
      · refine .inr ⟨c1, by rw [c2, w3], m + 1, ?_⟩
        rw [c3, w2, List.append_assoc]
        rfl
    · rw [if_pos (by rw [a]; simp)]
      exact ⟨.inr ⟨a, w3, 1, by rw [w2]; rfl⟩, w4, hok, fun q => by rw [(w5 q).1] at a; cases a⟩

/-! ### Read -/
/-- every sector is there, whole: the value -/
theorem ar_back {D : Dsk} (hoff : D.off = false) (hund : D.und = []) (at_ stamp : Nat) (h0 : stamp ≠ 0) : ∀ (f i : Nat) (v acc : List UInt8) (bytes : Int), f = nsec v.length → at_ + i + f ≤ D.n → (0 < v.length → bytes = 234 * (i : Int) + v.length) →
    (∀ k, 234 * k < v.length → D.sec (at_ + i + k) = sealB stamp ((v.drop (234 * k)).take 234)) → arGo D at_ stamp bytes f i acc = (acc ++ v, 0) := by
  intro f
  induction f with
  | zero =>
    intro i v acc bytes hf hn hb hs
    have : v = [] := List.length_eq_zero_iff.1 (by unfold nsec at hf; omega)
    subst this
    simp [arGo]
  | succ f ih =>
    intro i v acc bytes hf hn hb hs
    have hp : 0 < v.length := by unfold nsec at hf; omega
    have hb := hb hp
    have hi : D.has ((at_ + i : Nat) : Int) = true := by unfold Dsk.has; exact decide_eq_true (by omega)
    have hE : D.readE ((at_ : Int) + i) = 0 := by
      show D.readE ((at_ + i : Nat) : Int) = 0
      unfold Dsk.readE
      rw [hoff, hi]
      rfl
    have hS : D.readS ((at_ : Int) + i) = D.sec (at_ + i) := by
      show D.readS ((at_ + i : Nat) : Int) = D.sec (at_ + i)
      unfold Dsk.readS Dsk.rd
      rw [hoff, hi, hund]
      rfl
    have h1 := hs 0 (by omega)
    rw [Nat.add_zero, Nat.mul_zero, List.drop_zero] at h1
    have hl : (v.take 234).length ≤ 234 := by rw [List.length_take]; omega
    have ho := seal_open stamp (v.take 234) hl h0
    unfold arGo
    rw [hE, hS, h1, ho, if_neg (by simp)]
    dsimp only
    rw [if_neg (by rw [List.length_take]; omega), ih (i + 1) (v.drop 234) (acc ++ v.take 234) bytes (by rw [List.length_drop]; unfold nsec at hf ⊢; omega) (by omega) (fun q => by rw [List.length_drop] at q ⊢; omega) (fun k hk => ?_), List.append_assoc, List.take_append_drop]
    have h2 := hs (k + 1) (by rw [List.length_drop] at hk; omega)
    rw [List.drop_drop, show 234 + 234 * k = 234 * (k + 1) by omega, ← h2]
    congr 1
    omega
/-- every sector is there, whole, or does not open: the value, or ErrCorrupt -/
theorem ar_mix {D : Dsk} (hoff : D.off = false) (hund : D.und = []) (at_ stamp : Nat) (h0 : stamp ≠ 0) : ∀ (f i : Nat) (v acc : List UInt8) (bytes : Int), f = nsec v.length → at_ + i + f ≤ D.n → (0 < v.length → bytes = 234 * (i : Int) + v.length) →
    (∀ k, 234 * k < v.length → D.sec (at_ + i + k) = sealB stamp ((v.drop (234 * k)).take 234) ∨ openS stamp (D.sec (at_ + i + k)) = none) → arGo D at_ stamp bytes f i acc = (acc ++ v, 0) ∨ arGo D at_ stamp bytes f i acc = ([], 15) := by
  intro f
  induction f with
  | zero =>
    intro i v acc bytes hf hn hb hs
    have : v = [] := List.length_eq_zero_iff.1 (by unfold nsec at hf; omega)
    subst this
    simp [arGo]
  | succ f ih =>
    intro i v acc bytes hf hn hb hs
    have hp : 0 < v.length := by unfold nsec at hf; omega
    have hb := hb hp
    have hi : D.has ((at_ + i : Nat) : Int) = true := by unfold Dsk.has; exact decide_eq_true (by omega)
    have hE : D.readE ((at_ : Int) + i) = 0 := by
      show D.readE ((at_ + i : Nat) : Int) = 0
      unfold Dsk.readE
      rw [hoff, hi]
      rfl
    have hS : D.readS ((at_ : Int) + i) = D.sec (at_ + i) := by
      show D.readS ((at_ + i : Nat) : Int) = D.sec (at_ + i)
      unfold Dsk.readS Dsk.rd
      rw [hoff, hi, hund]
      rfl
    have h1 := hs 0 (by omega)
    rw [Nat.add_zero, Nat.mul_zero, List.drop_zero] at h1
    have hl : (v.take 234).length ≤ 234 := by rw [List.length_take]; omega
    have ho := seal_open stamp (v.take 234) hl h0
    unfold arGo
    rw [hE, hS, if_neg (by simp)]
    rcases h1 with h1 | h1
    · rw [h1, ho]
      dsimp only
      rw [if_neg (by rw [List.length_take]; omega)]
      have := ih (i + 1) (v.drop 234) (acc ++ v.take 234) bytes (by rw [List.length_drop]; unfold nsec at hf ⊢; omega) (by omega) (fun q => by rw [List.length_drop] at q ⊢; omega) (fun k hk => ?_)
      · rwa [List.append_assoc, List.take_append_drop] at this
      have h2 := hs (k + 1) (by rw [List.length_drop] at hk; omega)
      rw [List.drop_drop, show 234 + 234 * k = 234 * (k + 1) by omega, show at_ + (i + 1) + k = at_ + i + (k + 1) by omega]
      exact h2
    · rw [h1]; exact .inr rfl
end Go.Proofs.YteklldbfdmaafaaDoor
/-
  The package area behind crashes, as plain data: a torn sector opens under the newest stamp only if it is whole.
-/
namespace Go.Proofs.YteklldbfdmaafaaDoor
open Go Go.RowKit

/-- the low bytes of a greater number before the high bytes of a smaller one -/
theorem mix_tail (s v j : Nat) (hv : v < s) : ∃ w, w ≤ s ∧ ∀ i, i < 8 → byteAt (w : Int) i = if i < j then byteAt (s : Int) i else byteAt (v : Int) i := by
  obtain ⟨B, hB⟩ : ∃ B, B = 2 ^ (8 * j) := ⟨_, rfl⟩
  have hBp : 0 < B := by rw [hB]; exact Nat.two_pow_pos _
  have hr : s % B < B := Nat.mod_lt _ hBp
  refine ⟨B * (v / B) + s % B, ?_, fun i hi => ?_⟩
  · have h1 := Nat.div_le_div_right (c := B) (Nat.le_of_lt hv)
    have h2 := Nat.div_add_mod s B
    have h3 := Nat.mul_le_mul_left B h1
    omega
  · apply UInt8.toNat_inj.1
    split
    · rename_i hlt
      obtain ⟨e, he⟩ : ∃ e, j = i + 1 + e := ⟨j - i - 1, by omega⟩
      rw [byteAt_val _ _ hi, byteAt_val _ _ hi]
      obtain ⟨A, hA⟩ : ∃ A, A = 2 ^ (8 * i) := ⟨_, rfl⟩
      obtain ⟨C, hC⟩ : ∃ C, C = 2 ^ (8 * e) := ⟨_, rfl⟩
      have hAp : 0 < A := by rw [hA]; exact Nat.two_pow_pos _
      have hB2 : B = A * (256 * C) := by
        rw [hB, hA, hC, he, show 8 * (i + 1 + e) = 8 * i + (8 + 8 * e) by omega, Nat.pow_add, Nat.pow_add]
      have k : ∀ q r, (B * q + r) / A % 256 = r / A % 256 := by
        intro q r
        rw [hB2, Nat.mul_assoc, Nat.mul_add_div hAp, Nat.mul_assoc, Nat.mul_add_mod]
      rw [← hA, k]
      have := k (s / B) (s % B)
      rw [Nat.div_add_mod] at this
      exact this.symm
    · obtain ⟨e, he⟩ : ∃ e, i = j + e := ⟨i - j, by omega⟩
      rw [byteAt_val _ _ hi, byteAt_val _ _ hi]
      have e2 : 2 ^ (8 * i) = B * 2 ^ (8 * e) := by rw [hB, he, Nat.mul_add, Nat.pow_add]
      rw [e2, ← Nat.div_div_eq_div_mul, ← Nat.div_div_eq_div_mul, Nat.mul_add_div hBp, Nat.div_eq_of_lt hr, Nat.add_zero]
theorem torn_tail {s t d : Nat} {p old : List UInt8} (hs : s < 2 ^ 64) (ht : t < s) (hp : p.length ≤ 234) (ho : old.length = 256) (hd : d ≤ 256) (htail : getB (old.drop 248) 8 ≤ (t : Int)) :
    getB ((tornB (sealB s p) old d).drop 248) 8 ≤ (s : Int) ∧ (tornB (sealB s p) old d = sealB s p ∨ openS s (tornB (sealB s p) old d) = none) := by
  have hl := sealB_length (s : Int) p hp
  have hl2 := torn_length hl ho hd
  obtain ⟨v, hv, hg, hb⟩ := getB_bytes (old.drop 248) 8 (by omega)
  rw [hg] at htail
  obtain ⟨w, hw, hwb⟩ := mix_tail s v (d - 248) (by omega)
  have hT : ∀ i, i < 8 → ((tornB (sealB s p) old d).drop 248).getD i 0 = byteAt (w : Int) i := by
    intro i hi
    rw [getD_drop, torn_get hl hd, hwb i hi]
    by_cases h : 248 + i < d
    · rw [if_pos h, if_pos (by omega), seal_tail s p hp _ (by omega) (by omega), Nat.add_sub_cancel_left]
    · rw [if_neg h, if_neg (by omega), ← hb i hi, getD_drop]
  have hG : getB ((tornB (sealB s p) old d).drop 248) 8 = (w : Int) := by
    rw [getB_of _ w 8 (by omega) hT, Nat.mod_eq_of_lt (by omega)]
  refine ⟨by omega, ?_⟩
  by_cases hws : w = s
  · left
    subst hws
    have hdd : 248 < d := by
      rcases Nat.lt_or_ge 248 d with h | h
      · exact h
      · exfalso
        have h1 := getB_of (old.drop 248) w 8 (by omega) (fun i hi => by rw [hb i hi, hwb i hi, if_neg (by omega)])
        rw [hg, Nat.mod_eq_of_lt (by omega)] at h1
        omega
    refine ext_getD _ _ (by rw [hl, hl2]) fun i hi => ?_
    rw [hl2] at hi
    by_cases h : i < d
    · rw [torn_get hl hd, if_pos h]
    · have h1 := hT (i - 248) (by omega)
      rw [getD_drop, show 248 + (i - 248) = i by omega] at h1
      rw [h1, seal_tail w p hp i (by omega) hi]
  · right
    unfold openS
    split
    · rfl
    split
    · rfl
    split
    · rfl
    split
    · rename_i h234 heq
      exfalso
      have hpl : (openP (tornB (sealB s p) old d)).length ≤ 234 := by
        unfold openP
        rw [List.length_drop, List.length_take]
        omega
      have h1 := seal_getT s (openP (tornB (sealB s p) old d)) hpl hs
      rw [heq, hG] at h1
      omega
    · rfl
theorem pcs_length (stamp : Int) : ∀ (f a : Nat) (v : List UInt8), (pcs stamp f a v).length ≤ nsec v.length := by
  intro f
  induction f with
  | zero => intro a v; simp [pcs]
  | succ f ih =>
    intro a v
    by_cases hv : v = []
    · rw [hv, pcs_nil]; simp
    · rw [pcs_cons _ _ _ _ hv, List.length_cons]
      have h := ih (a + 1) (v.drop 234)
      have hp := List.length_pos_iff.2 hv
      rw [List.length_drop] at h
      unfold nsec at h ⊢
      omega

/-- eight sectors at rest whose tails tell no stamp above c -/
structure Ar9 (c : Nat) (D : Dsk) : Prop where
  off : D.off = false
  und : D.und = []
  ok : D.ok
  n : D.n = 8
  tails : ∀ j, j < 8 → getB ((D.sec j).drop 248) 8 ≤ (c : Int)
theorem zs_tail0 : getB ((zs 256).drop 248) 8 = 0 := by kernel_rfl
theorem Ar9.start : Ar9 0 (Dsk.blank 8) := ⟨rfl, rfl, Dsk.blank_ok 8 (by omega) (by omega), rfl, fun j hj => by rw [blank_sec 8 j hj, zs_tail0]; omega⟩
theorem Ar9.step {c : Nat} {D : Dsk} (h : Ar9 c D) (hc : c + 1 < 2 ^ 64) (k : Int) (hk : k ≤ 9223372036854775807) (v : List UInt8) (hv : v.length ≤ 1404) (kept : List Bool) (torn bytes : Int) :
    ((areaW (D.arm k) 2 6 (c + 1 : Nat) v).1 = 0 ∨ (areaW (D.arm k) 2 6 (c + 1 : Nat) v).1 = 12) ∧ (areaW (D.arm k) 2 6 (c + 1 : Nat) v).2.und.length ≤ 6 ∧ (areaW (D.arm k) 2 6 (c + 1 : Nat) v).2.ok ∧ (areaW (D.arm k) 2 6 (c + 1 : Nat) v).2.n = 8 ∧
    Ar9 (c + 1) ((areaW (D.arm k) 2 6 (c + 1 : Nat) v).2.crash kept torn bytes) ∧
    (areaR ((areaW (D.arm k) 2 6 (c + 1 : Nat) v).2.crash kept torn bytes) 2 6 (c + 1 : Nat) v.length = (v, 0) ∨
      areaR ((areaW (D.arm k) 2 6 (c + 1 : Nat) v).2.crash kept torn bytes) 2 6 (c + 1 : Nat) v.length = ([], 15) ∧ (areaW (D.arm k) 2 6 (c + 1 : Nat) v).1 = 12) := by
  have hn := h.n
  have hlen := h.ok.len
  rw [hn] at hlen
  have hroom : roomI 6 = 1404 := rfl
  have hns : nsec v.length ≤ 6 := by unfold nsec; omega
  have e1 : areaW (D.arm k) 2 6 (c + 1 : Nat) v = awGo ((2 : Nat) : Int) (c + 1 : Nat) v.length (D.arm k) ((0 : Nat) : Int) v := by
    unfold areaW
    have hm : (D.arm k).mayB 2 6 = true := by unfold Dsk.mayB; exact decide_eq_true (by rw [show (D.arm k).n = D.n from rfl, hn]; omega)
    rw [if_neg (by rw [hm]; simp), if_neg (by omega), if_neg (by rw [hroom]; omega), if_neg (by rw [show (D.arm k).off = D.off from rfl, h.off]; simp)]
    rfl
  obtain ⟨w1, w2, w3, -⟩ := aw_ways (c + 1 : Nat) 2 v.length (D.arm k) 0 v h.off (Dsk.arm_ok h.ok k hk) (by omega) (by rw [show (D.arm k).n = D.n from rfl, hn]; omega)
  rw [← e1] at w1 w2 w3
  clear e1
  rw [show (D.arm k).n = D.n from rfl, hn] at w2
  obtain ⟨r, hr⟩ : ∃ r, r = areaW (D.arm k) 2 6 (c + 1 : Nat) v := ⟨_, rfl⟩
  rw [← hr] at w1 w2 w3 ⊢
  rw [show (D.arm k).und = D.und from rfl, show (D.arm k).img = D.img from rfl, h.und, List.nil_append] at w1
  clear hr
  have hpl := pcs_length (c + 1 : Nat) v.length (2 + 0) v
  have hund : r.2.und.length ≤ 6 := by
    rcases w1 with ⟨_, _, q, _⟩ | ⟨_, _, m, q⟩
    · rw [q]; simp
    · rw [q, List.nil_append, List.length_take]; omega
  have he : r.1 = 0 ∨ r.1 = 12 := by
    rcases w1 with ⟨q, _⟩ | ⟨q, _⟩
    · exact .inl q
    · exact .inr q
  have hok2 := Dsk.crash_ok w3 kept torn bytes
  have hn2 : (r.2.crash kept torn bytes).n = 8 := w2
  obtain ⟨dn, m, hdn, himg, hfull⟩ : ∃ (dn : Nat → Nat) (m : Nat), (∀ k, dn k ≤ 256) ∧ (r.2.crash kept torn bytes).img = layAll D.img (cutP dn ((pcs (c + 1 : Nat) v.length (2 + 0) v).take m) 0) ∧ (r.1 = 0 → (∀ k, dn k = 256) ∧ (pcs (c + 1 : Nat) v.length (2 + 0) v).length ≤ m) := by
    rcases w1 with ⟨q1, q2, q3, q4⟩ | ⟨q1, q2, m, q3⟩
    · refine ⟨fun _ => 256, _, fun _ => Nat.le_refl _, ?_, fun _ => ⟨fun _ => rfl, Nat.le_refl _⟩⟩
      rw [crash_clean _ q3, q4, List.take_of_length_le (Nat.le_refl _), cutP_full _ (fun _ => rfl) _ _ (fun x hx => (pcs_in _ _ _ _ x hx).2.2)]
    · refine ⟨done kept torn bytes, m, doneK_le kept torn bytes, ?_, fun q => by rw [q1] at q; cases q⟩
      show layDone _ _ _ _ _ = _
      rw [layDone_eq, q2, q3, List.nil_append]
  obtain ⟨D2, hD2⟩ : ∃ D2, D2 = r.2.crash kept torn bytes := ⟨_, rfl⟩
  have hoff2 : D2.off = false := by rw [hD2]; rfl
  have hund2 : D2.und = [] := by rw [hD2]; rfl
  rw [← hD2] at hok2 hn2 himg ⊢
  clear hD2
  have hsecs : ∀ k, 234 * k < v.length → ∃ d, d ≤ 256 ∧ D2.sec (2 + k) = tornB (sealB (c + 1 : Nat) ((v.drop (234 * k)).take 234)) (D.sec (2 + k)) d ∧ (r.1 = 0 → d = 256) := by
    intro k hk
    obtain ⟨d, a1, a2, a3⟩ := torn_pcs (c + 1 : Nat) 8 dn hdn v.length (2 + 0) m 0 v D.img hlen (by omega) k hk
    refine ⟨d, a1, ?_, fun q => a3 (hfull q).1 (by omega) (hfull q).2⟩
    unfold Dsk.sec
    rw [himg]
    exact a2
  have hpk : ∀ k, ((v.drop (234 * k)).take 234).length ≤ 234 := fun k => by rw [List.length_take]; omega
  have hsl : ∀ j, j < 8 → (D.sec j).length = 256 := fun j hj => cut_length _ _ _ (by omega)
  have hA : areaR D2 2 6 (c + 1 : Nat) v.length = arGo D2 ((2 : Nat) : Int) (c + 1 : Nat) v.length (nsec v.length) 0 [] := by
    unfold areaR
    have hm : D2.mayB 2 6 = true := by unfold Dsk.mayB; exact decide_eq_true (by rw [hn2]; omega)
    rw [if_neg (by rw [hm]; simp), if_neg (by omega), if_neg (by omega), if_neg (by rw [hroom]; omega), if_neg (by rw [hoff2]; simp)]
    have : (sectorsI v.length).toNat = nsec v.length := by unfold sectorsI nsec; split <;> omega
    rw [this]
    rfl
  refine ⟨he, hund, w3, w2, ⟨hoff2, hund2, hok2, hn2, fun j hj => ?_⟩, ?_⟩
  · by_cases hin : 2 ≤ j ∧ 234 * (j - 2) < v.length
    · obtain ⟨d, a1, a2, _⟩ := hsecs (j - 2) hin.2
      rw [show 2 + (j - 2) = j by omega] at a2
      rw [a2]
      exact (torn_tail hc (by omega) (hpk _) (hsl j hj) a1 (h.tails j hj)).1
    · have : D2.sec j = D.sec j := by
        unfold Dsk.sec
        rw [himg]
        refine layAll_off 8 j _ _ hlen fun x hx => ?_
        obtain ⟨y, hy, b1, b2⟩ := cutP_in _ _ _ _ hx
        obtain ⟨c1, c2, c3⟩ := pcs_in _ _ _ _ y (List.mem_of_mem_take hy)
        unfold nsec at c2 hns
        exact ⟨by omega, by omega, by omega⟩
      rw [this]
      have := h.tails j hj
      omega
  · rw [hA]
    have hmix : ∀ k, 234 * k < v.length → D2.sec (2 + 0 + k) = sealB (c + 1 : Nat) ((v.drop (234 * k)).take 234) ∨ openS (c + 1 : Nat) (D2.sec (2 + 0 + k)) = none := by
      intro k hk
      obtain ⟨d, a1, a2, _⟩ := hsecs k hk
      rw [Nat.add_zero, a2]
      have hj : 2 + k < 8 := by omega
      exact (torn_tail hc (by omega) (hpk k) (hsl _ hj) a1 (h.tails _ hj)).2
    rcases he with he | he
    · left
      refine ar_back hoff2 hund2 2 (c + 1) (by omega) (nsec v.length) 0 v [] v.length rfl (by rw [hn2]; omega) (fun _ => by omega) fun k hk => ?_
      obtain ⟨d, a1, a2, a3⟩ := hsecs k hk
      rw [a3 he, torn_full _ _ (sealB_length _ _ (hpk k)) (hsl _ (by omega))] at a2
      exact a2
    · rcases ar_mix hoff2 hund2 2 (c + 1) (by omega) (nsec v.length) 0 v [] v.length rfl (by rw [hn2]; omega) (fun _ => by omega) hmix with q | q
      · left; rw [q]; rfl
      · right; exact ⟨q, he⟩
end Go.Proofs.YteklldbfdmaafaaDoor
/-
  Arguments of chapter 9 opened: an op, scripts of ops, tries; with what the bound gives of their sizes.
-/
namespace Go.Proofs.YteklldbfdmaafaaDoor
open Go Go.RowKit Go.ChangeShapes Go.WideShapes Go.Deep

/-- an Op of chapter 9 -/
structure AOp where
  kind : Int
  at_ : Int
  n : Int
  stamp : Int
  bytes : Int
  seed : Int
  kept : List Bool
  torn : Int
  fb : Int
instance : Inhabited AOp := ⟨⟨0, 0, 0, 0, 0, 0, [], 0, 0⟩⟩
def AOp.cells (o : AOp) (kv : Value) : List Value := [.int .i64 o.kind, .int .i64 o.at_, .int .i64 o.n, .int .u64 o.stamp, .int .i64 o.bytes, .int .u64 o.seed, kv, .int .i64 o.torn, .int .i64 o.fb]
structure AOp.wf (o : AOp) : Prop where
  kind : (Lit.int .i64 o.kind).wf = true
  at_ : (Lit.int .i64 o.at_).wf = true
  n : (Lit.int .i64 o.n).wf = true
  stamp : (Lit.int .u64 o.stamp).wf = true
  bytes : (Lit.int .i64 o.bytes).wf = true
  seed : (Lit.int .u64 o.seed).wf = true
  torn : (Lit.int .i64 o.torn).wf = true
  fb : (Lit.int .i64 o.fb).wf = true
/-- a Try -/
structure ATry where
  bytes : Int
  seed : Int
  arm : Int
  kept : List Bool
  torn : Int
  fb : Int
instance : Inhabited ATry := ⟨⟨0, 0, 0, [], 0, 0⟩⟩
def ATry.cells (o : ATry) (kv : Value) : List Value := [.int .i64 o.bytes, .int .u64 o.seed, .int .i64 o.arm, kv, .int .i64 o.torn, .int .i64 o.fb]
structure ATry.wf (o : ATry) : Prop where
  bytes : (Lit.int .i64 o.bytes).wf = true
  seed : (Lit.int .u64 o.seed).wf = true
  arm : (Lit.int .i64 o.arm).wf = true
def AOpsAt (w : World) (v : Value) (l : List AOp) : Prop :=
  ∃ a c, v = .slice a l.length c ∧ (l ≠ [] → ∃ b o, a = some ⟨b, o, none⟩ ∧ b < w.heap.size ∧ ∀ k op, l[k]? = some op → ∃ kv, w.rangeAt b (o + 9 * k) (op.cells kv) ∧ BoolsAt w kv op.kept)
def TriesAt (w : World) (v : Value) (l : List ATry) : Prop :=
  ∃ a c, v = .slice a l.length c ∧ (l ≠ [] → ∃ b o, a = some ⟨b, o, none⟩ ∧ b < w.heap.size ∧ ∀ k op, l[k]? = some op → ∃ kv, w.rangeAt b (o + 6 * k) (op.cells kv) ∧ BoolsAt w kv op.kept)
theorem cellsU64 : Tryd.prog.cellsOf 79 = 1 := by kernel_rfl
theorem cellsAOp : Tryd.prog.cellsOf 81 = 9 := by kernel_rfl
theorem cellsATry : Tryd.prog.cellsOf 91 = 6 := by kernel_rfl
section
variable {H : Type} {enc : TypeId × Value → H} {W : World} {base : Nat} {held : Bool}
set_option maxRecDepth 100000 in
theorem aop_cells {n : Nat} {cs : List Value} {x : DataW H × List MemPlace} (h : DataW.trod enc Tryd.prog W base (fun _ => true) held n 81 cs = some x) :
    ∃ (op : AOp) (kv : Value), cs = op.cells kv ∧ BoolsAt W kv op.kept ∧ op.kept.length ≤ Rows.uptoBulk x.1 ∧ op.wf := by
  obtain ⟨xs, m, _, rfl, hl, hxl, hf⟩ := DataW.trod_struct Tryd.underlying81 h
  rw [cellsAOp] at hl
  match cs, hl with
  | [c0, c1, c2, c3, c4, c5, c6, c7, c8], _ =>
    match xs, hxl with
    | [y0, y1, y2, y3, y4, y5, y6], _ =>
      have h0 : DataW.trod enc Tryd.prog W base (fun _ => true) held m 3 [c0] = some y0 := field_of hf 0 rfl cellsInt
      have h1 : DataW.trod enc Tryd.prog W base (fun _ => true) held m 3 [c1] = some y1 := field_of hf 1 rfl cellsInt
      have h2 : DataW.trod enc Tryd.prog W base (fun _ => true) held m 3 [c2] = some y2 := field_of hf 2 rfl cellsInt
      have h3 : DataW.trod enc Tryd.prog W base (fun _ => true) held m 79 [c3] = some y3 := field_of hf 3 rfl cellsU64
      have h4 : DataW.trod enc Tryd.prog W base (fun _ => true) held m 3 [c4] = some y4 := field_of hf 4 rfl cellsInt
      have h5 : DataW.trod enc Tryd.prog W base (fun _ => true) held m 79 [c5] = some y5 := field_of hf 5 rfl cellsU64
      have h6 : DataW.trod enc Tryd.prog W base (fun _ => true) held m 25 [c6, c7, c8] = some y6 := field_of hf 6 rfl cellsFate
      obtain ⟨n0, e0, _, w0⟩ := DataW.trod_int Tryd.underlying3 h0
      obtain ⟨n1, e1, _, w1⟩ := DataW.trod_int Tryd.underlying3 h1
      obtain ⟨n2, e2, _, w2⟩ := DataW.trod_int Tryd.underlying3 h2
      obtain ⟨n3, e3, _, w3⟩ := DataW.trod_int Tryd.underlying79 h3
      obtain ⟨n4, e4, _, w4⟩ := DataW.trod_int Tryd.underlying3 h4
      obtain ⟨n5, e5, _, w5⟩ := DataW.trod_int Tryd.underlying79 h5
      obtain ⟨kv, kept, torn, bytes, e6, hb, hbl, w6, w7⟩ := fate_cells h6
      simp only [List.cons.injEq, and_true] at e0 e1 e2 e3 e4 e5 e6
      obtain ⟨rfl, rfl, rfl⟩ := e6
      subst e0; subst e1; subst e2; subst e3; subst e4; subst e5
      have a1 := agg_parts (H := H) ([y0, y1, y2, y3, y4, y5, y6].map (·.1))
      have a2 := part_le (H := H) (d := y6.1) (l := [y0, y1, y2, y3, y4, y5, y6].map (·.1)) (by simp)
      refine ⟨⟨n0, n1, n2, n3, n4, n5, kept, torn, bytes⟩, _, rfl, hb, ?_, ⟨w0, w1, w2, w3, w4, w5, w6, w7⟩⟩
      show kept.length ≤ Rows.uptoBulk (.agg ([y0, y1, y2, y3, y4, y5, y6].map (·.1)))
      omega
set_option maxRecDepth 100000 in
/-- an op that is a parameter -/
theorem aop_of {r : Reach} {b0 : Nat} {v : Value} {d : DataW H} {p : List MemPlace} (hv : Value.okWide Tryd.prog W r b0 81 v) (h : DataW.Trod enc Tryd.prog W base (fun _ => true) held 81 v d p) :
    ∃ (op : AOp) (kv : Value), v = .agg ⟨op.cells kv⟩ ∧ BoolsAt W kv op.kept ∧ op.kept.length ≤ Rows.uptoBulk d ∧ op.wf := by
  obtain ⟨cs, rfl, hsz⟩ := okWide_struct Tryd.underlying81 hv
  obtain ⟨fuel, hf⟩ := h
  obtain ⟨op, kv, e, h1, h2, h3⟩ := aop_cells hf
  obtain ⟨l⟩ := cs
  have e' : l = op.cells kv := e
  subst e'
  exact ⟨op, kv, rfl, h1, h2, h3⟩
set_option maxRecDepth 100000 in
/-- a script of chapter 9 -/
theorem script09_of {r : Reach} {b0 : Nat} {v : Value} {d : DataW H} {p : List MemPlace} (hv : Value.okWide Tryd.prog W r b0 93 v) (h : DataW.Trod enc Tryd.prog W base (fun _ => true) held 93 v d p) :
    ∃ l : List AOp, AOpsAt W v l ∧ l.length ≤ Rows.uptoBulk d ∧ ∀ o ∈ l, o.kept.length ≤ Rows.uptoBulk d ∧ o.wf := by
  obtain ⟨n, hf⟩ := param_slice Tryd.underlying93 hv h
  obtain ⟨l, ad, c, e, hb, -, -, -, hx⟩ := elems_of (α := AOp) Tryd.underlying93 cellsAOp (by omega) (fun s cs D => ∃ kv, cs = s.cells kv ∧ BoolsAt W kv s.kept ∧ s.kept.length ≤ Rows.uptoBulk D ∧ s.wf) (fun n cs x hx => by
    obtain ⟨op, kv, e, h1, h2, h3⟩ := aop_cells hx
    exact ⟨op, kv, e, h1, h2, h3⟩) hf
  simp only [List.cons.injEq, and_true] at e
  refine ⟨l, ⟨ad, c, e, fun hne => ?_⟩, hb, fun o ho => ?_⟩
  · obtain ⟨b, o, h1, h2, h3⟩ := hx hne
    refine ⟨b, o, h1, h2, fun k op hop => ?_⟩
    obtain ⟨cs, D, ⟨kv', rfl, hq, _⟩, _, _, h4⟩ := h3 k op hop
    exact ⟨kv', h4, hq⟩
  · obtain ⟨i, hi⟩ := List.mem_iff_getElem?.1 ho
    obtain ⟨_, _, _, _, h3⟩ := hx (by intro q; subst q; simp at ho)
    obtain ⟨cs, D, ⟨kv, _, _, hkl, hw⟩, hD, _⟩ := h3 i o hi
    have hD' : Rows.uptoBulk D ≤ Rows.uptoBulk d := hD
    exact ⟨by omega, hw⟩
set_option maxRecDepth 100000 in
/-- tries -/
theorem tries_of {r : Reach} {b0 : Nat} {v : Value} {d : DataW H} {p : List MemPlace} (hv : Value.okWide Tryd.prog W r b0 89 v) (h : DataW.Trod enc Tryd.prog W base (fun _ => true) held 89 v d p) :
    ∃ l : List ATry, TriesAt W v l ∧ l.length ≤ Rows.uptoBulk d ∧ ∀ o ∈ l, o.kept.length ≤ Rows.uptoBulk d ∧ o.wf := by
  obtain ⟨n, hf⟩ := param_slice Tryd.underlying89 hv h
  obtain ⟨l, ad, c, e, hb, -, -, -, hx⟩ := elems_of (α := ATry) Tryd.underlying89 cellsATry (by omega) (fun s cs D => ∃ kv, cs = s.cells kv ∧ BoolsAt W kv s.kept ∧ s.kept.length ≤ Rows.uptoBulk D ∧ s.wf) (fun n cs x hx => by
    obtain ⟨xs, m, _, rfl, hl, hxl, hf⟩ := DataW.trod_struct Tryd.underlying91 hx
    rw [cellsATry] at hl
    match cs, hl with
    | [c0, c1, c2, c3, c4, c5], _ =>
      match xs, hxl with
      | [y0, y1, y2, y3], _ =>
        have h0 : DataW.trod enc Tryd.prog W base (fun _ => true) held m 3 [c0] = some y0 := field_of hf 0 rfl cellsInt
        have h1 : DataW.trod enc Tryd.prog W base (fun _ => true) held m 79 [c1] = some y1 := field_of hf 1 rfl cellsU64
        have h2 : DataW.trod enc Tryd.prog W base (fun _ => true) held m 3 [c2] = some y2 := field_of hf 2 rfl cellsInt
        have h3 : DataW.trod enc Tryd.prog W base (fun _ => true) held m 25 [c3, c4, c5] = some y3 := field_of hf 3 rfl cellsFate
        obtain ⟨n0, e0, _, w0⟩ := DataW.trod_int Tryd.underlying3 h0
        obtain ⟨n1, e1, _, w1⟩ := DataW.trod_int Tryd.underlying79 h1
        obtain ⟨n2, e2, _, w2⟩ := DataW.trod_int Tryd.underlying3 h2
        obtain ⟨kv, kept, torn, bytes, e3, hb, hbl, w4, w5⟩ := fate_cells h3
        simp only [List.cons.injEq, and_true] at e0 e1 e2 e3
        obtain ⟨rfl, rfl, rfl⟩ := e3
        subst e0; subst e1; subst e2
        have a1 := agg_parts (H := H) ([y0, y1, y2, y3].map (·.1))
        have a2 := part_le (H := H) (d := y3.1) (l := [y0, y1, y2, y3].map (·.1)) (by simp)
        refine ⟨⟨n0, n1, n2, kept, torn, bytes⟩, _, rfl, hb, ?_, ⟨w0, w1, w2⟩⟩
        show kept.length ≤ Rows.uptoBulk (.agg ([y0, y1, y2, y3].map (·.1)))
        omega) hf
  simp only [List.cons.injEq, and_true] at e
  refine ⟨l, ⟨ad, c, e, fun hne => ?_⟩, hb, fun o ho => ?_⟩
  · obtain ⟨b, o, h1, h2, h3⟩ := hx hne
    refine ⟨b, o, h1, h2, fun k op hop => ?_⟩
    obtain ⟨cs, D, ⟨kv', rfl, hq, _⟩, _, _, h4⟩ := h3 k op hop
    exact ⟨kv', h4, hq⟩
  · obtain ⟨i, hi⟩ := List.mem_iff_getElem?.1 ho
    obtain ⟨_, _, _, _, h3⟩ := hx (by intro q; subst q; simp at ho)
    obtain ⟨cs, D, ⟨kv, _, _, hkl, hw⟩, hD, _⟩ := h3 i o hi
    have hD' : Rows.uptoBulk D ≤ Rows.uptoBulk d := hD
    exact ⟨by omega, hw⟩
end
end Go.Proofs.YteklldbfdmaafaaDoor
/-
  A fate whose Kept was copied: append([]bool(nothing), kept...), and Crash with the copy.
-/
namespace Go.Proofs.YteklldbfdmaafaaDoor
open Go Go.RowKit
section
variable {P : Program} {W : World} {n d : Nat} {E : Env} {H R : List SP} {t e : TypeId} {x y : Operand} {k : KK}
/-- nothing is appended -/
theorem KJ_appendNo {base xa : Option Addr} {sLen sCap l c2 : Nat} {size : Nat} (hx : Env.ev E x = some (.slice base sLen sCap)) (hy : Env.ev E y = some (.slice xa l c2)) [hu : UIs P t (.slice e)] [hs : SzIs P e size] (hl : l = 0) (hle : sLen ≤ sCap) (hn : Nat.blt d n = true)
    (h : KJ W n k ((d, .slice base sLen sCap) :: E) H) : KJ W n (.oper P (.call { callee := .builtin .append, args := #[x, y], argTypes := #[t, t] }) (some d) k) E H := by
  refine ⟨fun a w p s o ho hd Q => ?_⟩
  subst hl
  have hs := hs.h
  cases hq : P.info? e with
  | none => simp [hq] at hs
  | some it =>
    have hsrc : Go.Src P it.size t (.slice xa 0 c2) 0 [] w := by
      cases xa with
      | none => exact Go.Src.ofNil w hu.h c2
      | some a => exact Go.Src.ofSlice w hu.h a 0 c2 [] (by simp) (fun j u hj => by simp at hj) (fun u hj => by cases hj)
    have hrun := run_append_nothing (P := P) w t t o.type e it hu.h hq base sLen sCap hle _ hsrc
    show o.upon P a _ _ ((execOp a.eval o).run P w)
    have hr2 : (execOp a.eval o).run P w = .ok (.value (.slice base sLen sCap)) w := by
      simp only [execOp, ho, resolve, invoke, builtin, Sem.run_bind, Sem.run_pure, Result.andThen_ok, List.map_toArray, List.map_cons, List.map_nil, p.ev hx, p.ev hy, hrun]
    rw [hr2]
    have := h.go _ w (p.put (d := some d) hn _) s
    rw [← hd] at this
    exact this
/-- a copy of a slice of bools -/
theorem KJ_boolsCopy {g kc : Nat} {ka : Option Addr} {kept : List Bool} (hk : BoolsAt W (.slice ka kept.length kc) kept) (hkl : kept.length ≤ 140737488355328) (hx : Env.ev E x = some (.slice (some ⟨g, 0, none⟩) 0 0)) (hy : Env.ev E y = some (.slice ka kept.length kc)) [hu : UIs P t (.slice e)] [hs : SzIs P e 1] [hb : ByIs P e 1] [hz : ZcIs P e [.bool false]]
    (hsel : Sel (rowP (.slice (some ⟨g, 0, none⟩) 0 0) e 1 0 []) H R) (hn : Nat.blt d n = true)
    (h : ∀ g' c', KJ W n k ((d, .slice (some ⟨g', 0, none⟩) kept.length c') :: E) (rowP (.slice (some ⟨g', 0, none⟩) kept.length c') e 1 kept.length (kept.map .bool) :: R)) : KJ W n (.oper P (.call { callee := .builtin .append, args := #[x, y], argTypes := #[t, t] }) (some d) k) E H := by
  by_cases h0 : kept = []
  · subst h0
    refine KJ_appendNo (hs := hs) hx hy rfl (Nat.le_refl 0) hn ⟨fun a w q s => (h g 0).go a w q (s.perm hsel.perm)⟩
  · obtain ⟨a, c, hv, hr, -⟩ := hk
    obtain ⟨b, o, ha, hb2, hrr⟩ := hr h0
    cases hv
    subst ha
    have hp := List.length_pos_iff.2 h0
    have ho : ∀ l : List Bool, Ones (l.map Value.bool) := fun l => by
      induction l with
      | nil => exact Ones.nil
      | cons z l ih => exact Ones.cons rfl ih
    refine KJ_append (i := 0) (xs := []) (news := kept.map .bool) (a2 := 0) (zs := [.bool false]) (bytes := 1) (size := 1) hx hy rfl (by omega) hsel (Src.old hrr) (by simp) hp (ho kept) (by omega) (by omega) hn rfl (fun g' c' => ?_)
    have := h g' c'
    rw [Nat.zero_add]
    exact this
end
/-- Crash with the copy -/
theorem crash_copy {W : World} {p : Nat} {D : Dsk} (g c : Nat) (kept : List Bool) (torn bytes : Int) (hul : D.und.length < 1073741824) :
    Ct Tryd.prog W 29 [.pointer (some ⟨p, 0, none⟩), .agg #[.slice (some ⟨g, 0, none⟩) kept.length c, .int .i64 torn, .int .i64 bytes]] [DiskP p D, rowP (.slice (some ⟨g, 0, none⟩) kept.length c) 4 1 kept.length (kept.map .bool)] (fun _ : Unit => .tuple #[]) (fun _ => [DiskP p (D.crash kept torn bytes), rowP (.slice (some ⟨g, 0, none⟩) kept.length c) 4 1 kept.length (kept.map .bool)]) := by
  refine crash_gen [rowP (.slice (some ⟨g, 0, none⟩) kept.length c) 4 1 kept.length (kept.map .bool)] _ kept torn bytes (fun w h b hs hl => ?_) hul
  obtain ⟨h1, _, _, le, _, ⟨hlen, hd⟩, _⟩ := hs
  rcases hd with ⟨q, _⟩ | ⟨g', cap, cur, hv, hh, h3, h4, h5, h6⟩
  · cases q
  · cases hv
    refine ⟨⟨_, _, rfl, fun _ => ⟨g, 0, rfl, hl.lt (le _ _ hh), fun j v hj => ?_⟩, fun q => (by cases q), by omega, h4⟩, fun _ k hk => ?_⟩
    · rw [cell_of_row w g _ _ _ _ (hl g _ (le _ _ hh)).2]
      have e : (cur.toList.take (kept.length * 1))[j]? = some v := by
        rw [h6]
        simpa using hj
      rw [List.getElem?_take] at e
      split at e
      · simpa using e
      · cases e
    · have : g = k := by simpa [Value.ownBlock] using hk
      exact .inl ⟨_, by rw [← this]; exact le _ _ hh⟩
end Go.Proofs.YteklldbfdmaafaaDoor
