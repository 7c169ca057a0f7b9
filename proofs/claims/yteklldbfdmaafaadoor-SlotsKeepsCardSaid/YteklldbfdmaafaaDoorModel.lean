/-
  The disk as plain data: sectors, writes under way, power. No program in sight.
-/
import Derived.WalkKit
import Derived.Test.YteklldbfdmaafaaDoorMem
namespace Go.Proofs.YteklldbfdmaafaaDoor
open Go Go.RowKit

/-- the disk's state: durable bytes, the writes under way in their order, the power, the counters -/
structure Dsk where
  n : Nat
  img : List UInt8
  und : List (Nat × List UInt8)
  off : Bool
  armed : Int
  writes : Int
  flushes : Int
  life : Int

structure Dsk.ok (D : Dsk) : Prop where
  n1 : 1 ≤ D.n
  n2 : D.n ≤ 65536
  len : D.img.length = 256 * D.n
  und : ∀ x ∈ D.und, x.1 < D.n ∧ x.2.length = 256
  arm1 : -1 ≤ D.armed
  arm2 : D.armed ≤ 9223372036854775807

/-- n bytes of nought -/
def zs (n : Nat) : List UInt8 := List.replicate n 0
theorem zs_length (n : Nat) : (zs n).length = n := List.length_replicate
/-- 64 bits -/
def w64 (x : Int) : Int := Go.RowKit.wrap64 x

/-- the number of the last write of sector i -/
def lastIx (u : List (Nat × List UInt8)) (i : Nat) : Option Nat := ((u.zipIdx.filter (fun x => x.1.1 == i)).getLast?).map (·.2)
/-- the last bytes written of sector i -/
def lastW (u : List (Nat × List UInt8)) (i : Nat) : Option (List UInt8) := ((u.filter (fun x => x.1 == i)).getLast?).map (·.2)

theorem lastIx_nil (i : Nat) : lastIx [] i = none := rfl
theorem lastW_nil (i : Nat) : lastW [] i = none := rfl
theorem lastIx_snoc (u : List (Nat × List UInt8)) (j : Nat) (b : List UInt8) (i : Nat) : lastIx (u ++ [(j, b)]) i = if j = i then some u.length else lastIx u i := by
  unfold lastIx
  rw [List.zipIdx_append, List.filter_append]
  by_cases h : j = i
  · subst h; simp [List.getLast?_append]
  · have : (j == i) = false := by simpa using h
    simp [this, h]
theorem lastW_snoc (u : List (Nat × List UInt8)) (j : Nat) (b : List UInt8) (i : Nat) : lastW (u ++ [(j, b)]) i = if j = i then some b else lastW u i := by
  unfold lastW
  rw [List.filter_append]
  by_cases h : j = i
  · subst h; simp [List.getLast?_append]
  · have : (j == i) = false := by simpa using h
    simp [this, h]

theorem last_snoc_induction {α : Type} {P : List α → Prop} (h0 : P []) (h1 : ∀ l x, P l → P (l ++ [x])) (l : List α) : P l := by
  have : ∀ n (l : List α), l.length = n → P l := by
    intro n
    induction n with
    | zero => intro l hl; rw [List.eq_nil_of_length_eq_zero hl]; exact h0
    | succ n ih =>
      intro l hl
      have hne : l ≠ [] := by intro h; subst h; simp at hl
      rw [← List.dropLast_concat_getLast hne]
      exact h1 _ _ (ih _ (by simp; omega))
  exact this _ l rfl

theorem lastIx_some (u : List (Nat × List UInt8)) (i k : Nat) (h : lastIx u i = some k) : ∃ b, u[k]? = some (i, b) ∧ lastW u i = some b := by
  revert k
  refine last_snoc_induction (P := fun u => ∀ k, lastIx u i = some k → ∃ b, u[k]? = some (i, b) ∧ lastW u i = some b) ?_ ?_ u
  · intro k h; simp [lastIx_nil] at h
  · intro l x ih k h
    obtain ⟨j, b⟩ := x
    rw [lastIx_snoc] at h
    rw [lastW_snoc]
    by_cases hj : j = i
    · subst hj; simp at h; subst h; exact ⟨b, by simp, by simp⟩
    · rw [if_neg hj] at h
      obtain ⟨b', h1, h2⟩ := ih k h
      refine ⟨b', ?_, by rw [if_neg hj]; exact h2⟩
      have := (List.getElem?_eq_some_iff.1 h1).1
      rw [List.getElem?_append_left this]; exact h1
theorem lastIx_none (u : List (Nat × List UInt8)) (i : Nat) (h : lastIx u i = none) : lastW u i = none := by
  revert h
  refine last_snoc_induction (P := fun u => lastIx u i = none → lastW u i = none) (fun _ => rfl) ?_ u
  intro l x ih h
  obtain ⟨j, b⟩ := x
  rw [lastIx_snoc] at h
  rw [lastW_snoc]
  by_cases hj : j = i
  · subst hj; simp at h
  · rw [if_neg hj] at h ⊢; exact ih h
theorem lastW_mem (u : List (Nat × List UInt8)) (i : Nat) (b : List UInt8) (h : lastW u i = some b) : (i, b) ∈ u := by
  unfold lastW at h
  cases h2 : (u.filter (fun x => x.1 == i)).getLast? with
  | none => rw [h2] at h; cases h
  | some y =>
    rw [h2] at h
    have hy := List.mem_of_getLast? h2
    rw [List.mem_filter] at hy
    obtain ⟨a, b'⟩ := y
    simp at h hy
    obtain ⟨h3, rfl⟩ := hy
    rw [← h]; exact h3

/-- n bytes of l from o on -/
def cut (l : List UInt8) (o n : Nat) : List UInt8 := (l.drop o).take n
/-- b laid over l from o on -/
def lay {α : Type} (l : List α) (o : Nat) (b : List α) : List α := l.take o ++ (b ++ l.drop (o + b.length))
theorem lay_length {α : Type} (l : List α) (o : Nat) (b : List α) (h : o + b.length ≤ l.length) : (lay l o b).length = l.length := by
  simp [lay]; omega
theorem cut_length (l : List UInt8) (o n : Nat) (h : o + n ≤ l.length) : (cut l o n).length = n := by simp [cut]; omega

theorem flat_get {α β : Type} (f : α → List β) (c : Nat) (l : List α) (hf : ∀ x ∈ l, (f x).length = c) (k : Nat) (x : α) (hk : l[k]? = some x) (j : Nat) (hj : j < c) : (l.flatMap f)[k * c + j]? = (f x)[j]? := by
  induction l generalizing k with
  | nil => simp at hk
  | cons y l ih =>
    have hy := hf y (by simp)
    cases k with
    | zero =>
      simp at hk; subst hk
      rw [List.flatMap_cons, List.getElem?_append_left (by omega)]
      simp
    | succ k =>
      rw [List.flatMap_cons, List.getElem?_append_right (by rw [hy, Nat.succ_mul]; omega)]
      rw [show (k + 1) * c + j - (f y).length = k * c + j by rw [hy, Nat.succ_mul]; omega]
      exact ih (fun z hz => hf z (by simp [hz])) k (by simpa using hk)
theorem flat_length {α β : Type} (f : α → List β) (c : Nat) (l : List α) (hf : ∀ x ∈ l, (f x).length = c) : (l.flatMap f).length = l.length * c := by
  induction l with
  | nil => simp
  | cons y l ih => rw [List.flatMap_cons, List.length_append, hf y (by simp), ih (fun z hz => hf z (by simp [hz])), List.length_cons, Nat.succ_mul]; omega

def Dsk.sec (D : Dsk) (i : Nat) : List UInt8 := cut D.img (i * 256) 256
def Dsk.rd (D : Dsk) (i : Nat) : List UInt8 := (lastW D.und i).getD (D.sec i)
/-- Read: the bytes and the error's number -/
def Dsk.has (D : Dsk) (i : Int) : Bool := decide (0 ≤ i ∧ i < D.n)
def Dsk.readS (D : Dsk) (i : Int) : List UInt8 := if D.off then [] else if D.has i then D.rd i.toNat else []
def Dsk.readE (D : Dsk) (i : Int) : Nat := if D.off then 12 else if D.has i then 0 else 6
/-- at this write or flush: does the power go? -/
def Dsk.dead (D : Dsk) : Bool := decide (D.armed = 0)
def Dsk.gone (D : Dsk) : Dsk := if D.armed = 0 then { D with off := true } else if 0 < D.armed then { D with armed := D.armed - 1 } else D
def Dsk.writeE (D : Dsk) (i : Int) (s : List UInt8) : Nat := if D.off then 12 else if D.has i then (if s.length = 256 then (if D.dead then 12 else 0) else 7) else 6
def Dsk.writeD (D : Dsk) (i : Int) (s : List UInt8) : Dsk :=
  if D.off then D else if D.has i then (if s.length = 256 then
    (let D1 := ({ D with und := D.und ++ [(i.toNat, s)] } : Dsk).gone
     if D.dead then D1 else { D1 with writes := w64 (D1.writes + 1) }) else D) else D
def layAll (img : List UInt8) (u : List (Nat × List UInt8)) : List UInt8 := u.foldl (fun m x => lay m (x.1 * 256) x.2) img
def Dsk.flushE (D : Dsk) : Nat := if D.off || D.dead then 12 else 0
def Dsk.flushD (D : Dsk) : Dsk :=
  if D.off then D else if D.dead then D.gone else
    { D.gone with img := layAll D.img D.und, und := [], flushes := w64 (D.flushes + 1) }
def Dsk.clr (D : Dsk) : Dsk := { D with und := [] }
def Dsk.arm (D : Dsk) (k : Int) : Dsk := { D with armed := max k (-1) }
/-- how many bytes of write number k are done -/
def done (kept : List Bool) (torn bytes : Int) (k : Nat) : Nat :=
  if (k : Int) = torn then (min (max bytes 0) 256).toNat else if kept.getD k false then 256 else 0
def layDone (img : List UInt8) (kept : List Bool) (torn bytes : Int) (u : List (Nat × List UInt8)) : List UInt8 :=
  u.zipIdx.foldl (fun m x => lay m (x.1.1 * 256) (x.1.2.take (done kept torn bytes x.2))) img
def Dsk.crash (D : Dsk) (kept : List Bool) (torn bytes : Int) : Dsk :=
  { D with img := layDone D.img kept torn bytes D.und, und := [], armed := -1, off := false, life := w64 (D.life + 1) }
def Dsk.blank (n : Nat) : Dsk := { n := n, img := zs (256 * n), und := [], off := false, armed := -1, writes := 0, flushes := 0, life := 0 }
def Dsk.of (img : List UInt8) : Dsk := { n := img.length / 256, img := img, und := [], off := false, armed := -1, writes := 0, flushes := 0, life := 0 }

theorem Dsk.gone_und (D : Dsk) : D.gone.und = D.und := by unfold Dsk.gone; split; rfl; split <;> rfl
theorem Dsk.gone_img (D : Dsk) : D.gone.img = D.img := by unfold Dsk.gone; split; rfl; split <;> rfl
theorem Dsk.gone_n (D : Dsk) : D.gone.n = D.n := by unfold Dsk.gone; split; rfl; split <;> rfl
theorem Dsk.gone_life (D : Dsk) : D.gone.life = D.life := by unfold Dsk.gone; split; rfl; split <;> rfl
theorem Dsk.gone_writes (D : Dsk) : D.gone.writes = D.writes := by unfold Dsk.gone; split; rfl; split <;> rfl
theorem Dsk.gone_flushes (D : Dsk) : D.gone.flushes = D.flushes := by unfold Dsk.gone; split; rfl; split <;> rfl
theorem Dsk.gone_ok {D : Dsk} (h : D.ok) : D.gone.ok := by
  unfold Dsk.gone
  have a1 := h.arm1
  have a2 := h.arm2
  split
  · exact ⟨h.n1, h.n2, h.len, h.und, a1, a2⟩
  · split
    · exact ⟨h.n1, h.n2, h.len, h.und, by show -1 ≤ D.armed - 1; omega, by show D.armed - 1 ≤ _; omega⟩
    · exact h
theorem layAll_snoc (img : List UInt8) (u : List (Nat × List UInt8)) (x : Nat × List UInt8) : layAll img (u ++ [x]) = lay (layAll img u) (x.1 * 256) x.2 := by simp [layAll]
theorem layAll_take (img : List UInt8) (u : List (Nat × List UInt8)) (k j : Nat) (b : List UInt8) (hk : u[k]? = some (j, b)) : layAll img (u.take (k + 1)) = lay (layAll img (u.take k)) (j * 256) b := by
  have h := (List.getElem?_eq_some_iff.1 hk).1
  rw [List.take_succ_eq_append_getElem h, layAll_snoc]
  have : u[k] = (j, b) := (List.getElem?_eq_some_iff.1 hk).2
  rw [this]
theorem layAll_length (u : List (Nat × List UInt8)) : ∀ (img : List UInt8) (n : Nat), img.length = 256 * n → (∀ x ∈ u, x.1 < n ∧ x.2.length = 256) → (layAll img u).length = 256 * n := by
  induction u with
  | nil => intro img n h _; exact h
  | cons x u ih =>
    intro img n h hu
    have hx := hu x (by simp)
    refine ih _ n ?_ (fun y hy => hu y (by simp [hy]))
    rw [lay_length _ _ _ (by rw [hx.2]; omega)]; exact h
theorem layDone_snoc (img : List UInt8) (kept : List Bool) (torn bytes : Int) (u : List (Nat × List UInt8)) (x : Nat × List UInt8) : layDone img kept torn bytes (u ++ [x]) = lay (layDone img kept torn bytes u) (x.1 * 256) (x.2.take (done kept torn bytes u.length)) := by
  simp [layDone, List.zipIdx_append]
theorem layDone_take (img : List UInt8) (kept : List Bool) (torn bytes : Int) (u : List (Nat × List UInt8)) (k j : Nat) (b : List UInt8) (hk : u[k]? = some (j, b)) :
    layDone img kept torn bytes (u.take (k + 1)) = lay (layDone img kept torn bytes (u.take k)) (j * 256) (b.take (done kept torn bytes k)) := by
  have h := (List.getElem?_eq_some_iff.1 hk).1
  rw [List.take_succ_eq_append_getElem h, layDone_snoc]
  have : u[k] = (j, b) := (List.getElem?_eq_some_iff.1 hk).2
  rw [this, List.length_take, Nat.min_eq_left (by omega)]
theorem lay_nil {α : Type} (l : List α) (o : Nat) : lay l o [] = l := by simp [lay]
theorem layDone_length (kept : List Bool) (torn bytes : Int) (u : List (Nat × List UInt8)) : ∀ (img : List UInt8) (n : Nat), img.length = 256 * n → (∀ x ∈ u, x.1 < n ∧ x.2.length = 256) → (layDone img kept torn bytes u).length = 256 * n := by
  intro img n h hu
  unfold layDone
  have : ∀ (z : List ((Nat × List UInt8) × Nat)), (∀ x ∈ z, x.1 ∈ u) → ∀ m : List UInt8, m.length = 256 * n → (z.foldl (fun m x => lay m (x.1.1 * 256) (x.1.2.take (done kept torn bytes x.2))) m).length = 256 * n := by
    intro z
    induction z with
    | nil => intro _ m hm; exact hm
    | cons y z ih =>
      intro hz m hm
      have hy := hu y.1 (hz y (by simp))
      refine ih (fun x hx => hz x (by simp [hx])) _ ?_
      rw [lay_length _ _ _ (by rw [List.length_take]; omega)]; exact hm
  exact this _ (fun x hx => by obtain ⟨a, b⟩ := x; exact List.fst_mem_of_mem_zipIdx hx) img h
theorem Dsk.writeD_ok {D : Dsk} (h : D.ok) (i : Int) (s : List UInt8) : (D.writeD i s).ok := by
  unfold Dsk.writeD
  split
  · exact h
  · split
    · rename_i hi
      split
      · rename_i hs
        have hi' : 0 ≤ i ∧ i < D.n := by simpa [Dsk.has] using hi
        have h1 : ({ D with und := D.und ++ [(i.toNat, s)] } : Dsk).ok := ⟨h.n1, h.n2, h.len, by
          intro x hx
          rcases List.mem_append.1 hx with hx | hx
          · exact h.und x hx
          · simp at hx; subst hx; exact ⟨by show i.toNat < D.n; omega, hs⟩, h.arm1, h.arm2⟩
        have h2 := Dsk.gone_ok h1
        dsimp only
        split
        · exact h2
        · exact ⟨h2.n1, h2.n2, h2.len, h2.und, h2.arm1, h2.arm2⟩
      · exact h
    · exact h
theorem Dsk.flushD_ok {D : Dsk} (h : D.ok) : D.flushD.ok := by
  unfold Dsk.flushD
  split
  · exact h
  · split
    · exact Dsk.gone_ok h
    · have h2 := Dsk.gone_ok h
      exact ⟨h2.n1, h2.n2, by show (layAll D.img D.und).length = 256 * D.gone.n; rw [Dsk.gone_n]; exact layAll_length _ _ _ h.len h.und, by simp, h2.arm1, h2.arm2⟩
theorem Dsk.arm_ok {D : Dsk} (h : D.ok) (k : Int) (hk : k ≤ 9223372036854775807) : (D.arm k).ok :=
  ⟨h.n1, h.n2, h.len, h.und, by show -1 ≤ max k (-1); omega, by show max k (-1) ≤ _; omega⟩
theorem Dsk.crash_ok {D : Dsk} (h : D.ok) (kept : List Bool) (torn bytes : Int) : (D.crash kept torn bytes).ok :=
  ⟨h.n1, h.n2, layDone_length _ _ _ _ _ _ h.len h.und, by simp [Dsk.crash], by simp [Dsk.crash], by simp [Dsk.crash]⟩
theorem Dsk.blank_ok (n : Nat) (h1 : 1 ≤ n) (h2 : n ≤ 65536) : (Dsk.blank n).ok := ⟨h1, h2, zs_length _, by simp [Dsk.blank], by simp [Dsk.blank], by simp [Dsk.blank]⟩
theorem Dsk.clr_ok {D : Dsk} (h : D.ok) : D.clr.ok := ⟨h.n1, h.n2, h.len, fun x hx => (by cases hx), h.arm1, h.arm2⟩
theorem Dsk.rd_length {D : Dsk} (h : D.ok) (i : Nat) (hi : i < D.n) : (D.rd i).length = 256 := by
  unfold Dsk.rd
  cases hl : lastW D.und i with
  | none => simp only [Option.getD_none, Dsk.sec]; exact cut_length _ _ _ (by have := h.len; omega)
  | some b => exact (h.und _ (lastW_mem _ _ _ hl)).2
end Go.Proofs.YteklldbfdmaafaaDoor
