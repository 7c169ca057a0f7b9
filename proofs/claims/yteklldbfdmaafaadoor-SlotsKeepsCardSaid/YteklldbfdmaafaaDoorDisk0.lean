/-
  The disk in memory; the small methods of the disk.
-/
import Derived.Test.YteklldbfdmaafaaDoorModel
import Derived.Test.YteklldbfdmaafaaDoorProg
import Derived.WalkKit
import Derived.WalkLawsBesides
import Derived.WalkSpells
import Derived.Maps.OwnSet
import Derived.KernelRfl
import Derived.BigQuiet
import Derived.Deep.QuietTactic
import Derived.Lib.Hide
namespace Go.Proofs.YteklldbfdmaafaaDoor
open Go Go.RowKit

/-- so many package-level variables: the first blocks -/
def gB : Nat := 38
/-- block b is the map that tells of each sector the number of its last write -/
def LastAt (w : World) (b : Nat) (u : List (Nat × List UInt8)) : Prop :=
  ∃ M : DataW Unit, w.ownsMap Tryd.prog 3 (plainElem Tryd.prog 3) b u.length M ∧
    ∀ i : Nat, Maps.has M (.int .i64 i) = (lastIx u i).isSome ∧ M.atKey (.int .i64 i) (.lit (.int .i64 0)) = .lit (.int .i64 ((lastIx u i).getD 0 : Nat))

/-- a write under way, as cells -/
def wayCells (x : Nat × List UInt8) : List Value := .int .i64 x.1 :: bvs x.2
def undCells (u : List (Nat × List UInt8)) : List Value := u.flatMap wayCells

theorem wayCells_length (u : List (Nat × List UInt8)) (n : Nat) (hu : ∀ x ∈ u, x.1 < n ∧ x.2.length = 256) : ∀ x ∈ u, (wayCells x).length = 257 := by
  intro x hx; simp [wayCells, (hu x hx).2]
/-- write number k, as it lies in memory -/
theorem under_at {w : World} {v : Value} {T : TypeId} {u : List (Nat × List UInt8)} {n : Nat} (h : w.ownsRow 0 T 257 v u.length (undCells u)) (hu : ∀ x ∈ u, x.1 < n ∧ x.2.length = 256) (k i : Nat) (b : List UInt8) (hk : u[k]? = some (i, b)) :
    ∃ g cap, v = .slice (some ⟨g, 0, none⟩) u.length cap ∧ u.length ≤ cap ∧ cap ≤ maxLen ∧ g < w.heap.size ∧ w.rangeAt g (k * 257) (wayCells (i, b)) := by
  have hlt := (List.getElem?_eq_some_iff.1 hk).1
  rcases h.2 with h1 | ⟨g, cap, cur, hv, _, hh, h3, h4, h5, h6⟩
  · omega
  · refine ⟨g, cap, hv, h3, h4, (Array.getElem?_eq_some_iff.1 hh).1, fun j z hz => ?_⟩
    have hj : j < 257 := by
      have := (List.getElem?_eq_some_iff.1 hz).1
      rw [wayCells_length u n hu _ (List.mem_of_getElem? hk)] at this; exact this
    have e := flat_get wayCells 257 u (wayCells_length u n hu) k (i, b) hk j hj
    rw [hz] at e
    have e2 : (cur.toList.take (u.length * 257))[k * 257 + j]? = some z := by rw [h6]; exact e
    rw [List.getElem?_take, if_pos (by omega)] at e2
    rw [cell_of_row w g _ _ T _ hh]
    simpa using e2

/-- The disk D lies in memory at block p; its blocks are blocks of F. -/
def DiskAt (w : World) (F : Nat → Prop) (p : Nat) (D : Dsk) : Prop :=
  ∃ (pd pm : Nat) (uv : Value),
    Blk w p [.slice (some ⟨pd, 0, none⟩) D.n D.n, uv, .map (some pm), .bool D.off, .int .i64 D.armed, .int .i64 D.writes, .int .i64 D.flushes, .int .i64 D.life] 134 ∧
    Blk w pd (bvs D.img) 136 ∧
    w.ownsRow 0 138 257 uv D.und.length (undCells D.und) ∧ LastAt w pm D.und ∧
    (F p ∧ F pd ∧ F pm ∧ ∀ g, uv.ownBlock = some g → F g) ∧ (∀ k, F k → gB ≤ k ∧ k < w.heap.size) ∧ D.ok

theorem ownsRow_keep {w w' : World} {base : Nat} {e : TypeId} {size : Nat} {v : Value} {n : Nat} {xs : List Value} (h : w.ownsRow base e size v n xs) (hb : ∀ g, v.ownBlock = some g → w'.heap[g]? = w.heap[g]?) : w'.ownsRow base e size v n xs := by
  obtain ⟨h1, h2⟩ := h
  refine ⟨h1, ?_⟩
  rcases h2 with h2 | ⟨g, cap, cur, hv, hg, hh, r⟩
  · exact Or.inl h2
  · exact Or.inr ⟨g, cap, cur, hv, hg, by rw [hb g (by rw [hv]; rfl)]; exact hh, r⟩
theorem LastAt.keep {w w' : World} {b : Nat} {u : List (Nat × List UInt8)} (h : LastAt w b u) (e : w'.heap[b]? = w.heap[b]?) : LastAt w' b u := by
  obtain ⟨M, ⟨es, clock, hb, r⟩, h2⟩ := h
  exact ⟨M, ⟨es, clock, e.trans hb, r⟩, h2⟩
theorem LastAt.lt {w : World} {b : Nat} {u : List (Nat × List UInt8)} (h : LastAt w b u) : b < w.heap.size := by
  obtain ⟨M, h, _⟩ := h; exact h.lt

/-- what does not touch the disk's blocks leaves the disk -/
theorem DiskAt.keep {w w' : World} {F : Nat → Prop} {p : Nat} {D : Dsk} (hd : DiskAt w F p D) (hs : w.heap.size ≤ w'.heap.size) (h : ∀ k, F k → w'.heap[k]? = w.heap[k]?) : DiskAt w' F p D := by
  obtain ⟨pd, pm, uv, hp, hpd, hu, hm, hF, hb, hok⟩ := hd
  exact ⟨pd, pm, uv, hp.keep (h _ hF.1), hpd.keep (h _ hF.2.1), ownsRow_keep hu (fun g hg => h _ (hF.2.2.2 g hg)), hm.keep (h _ hF.2.2.1), hF, fun k hk => ⟨(hb k hk).1, Nat.lt_of_lt_of_le (hb k hk).2 hs⟩, hok⟩
theorem DiskAt.fr {w w' : World} {F G : Nat → Prop} {p : Nat} {D : Dsk} (hd : DiskAt w F p D) (h : Fr G w w') (hG : ∀ k, F k → ¬ G k) : DiskAt w' F p D :=
  hd.keep h.size fun k hk => h.block k (by obtain ⟨_, _, _, _, _, _, _, _, hb, _⟩ := hd; exact (hb k hk).2) (hG k hk)
theorem DiskAt.bound {w : World} {F : Nat → Prop} {p : Nat} {D : Dsk} (hd : DiskAt w F p D) : ∀ k, F k → gB ≤ k ∧ k < w.heap.size := by
  obtain ⟨_, _, _, _, _, _, _, _, hb, _⟩ := hd; exact hb
theorem DiskAt.good {w : World} {F : Nat → Prop} {p : Nat} {D : Dsk} (hd : DiskAt w F p D) : D.ok := by
  obtain ⟨_, _, _, _, _, _, _, _, _, h⟩ := hd; exact h
theorem DiskAt.has {w : World} {F : Nat → Prop} {p : Nat} {D : Dsk} (hd : DiskAt w F p D) : F p := by
  obtain ⟨_, _, _, _, _, _, _, hF, _, _⟩ := hd; exact hF.1
theorem DiskAt.cell {w : World} {F : Nat → Prop} {p : Nat} {D : Dsk} (hd : DiskAt w F p D) :
    w.cell? ⟨p, 3, none⟩ = some (.bool D.off) ∧ w.cell? ⟨p, 4, none⟩ = some (.int .i64 D.armed) ∧ w.cell? ⟨p, 5, none⟩ = some (.int .i64 D.writes) ∧ w.cell? ⟨p, 6, none⟩ = some (.int .i64 D.flushes) ∧ w.cell? ⟨p, 7, none⟩ = some (.int .i64 D.life) ∧
    (∀ j, w.frozen? ⟨p, j, none⟩ = false) := by
  obtain ⟨pd, pm, uv, hp, _⟩ := hd
  exact ⟨by rw [hp.cell]; rfl, by rw [hp.cell]; rfl, by rw [hp.cell]; rfl, by rw [hp.cell]; rfl, by rw [hp.cell]; rfl, hp.free⟩

/-- a plain field is stored -/
theorem DiskAt.store {w : World} {F : Nat → Prop} {p : Nat} {D : Dsk} (hd : DiskAt w F p D) (j : Nat) (v : Value) (D' : Dsk) (hn : D'.n = D.n) (hi : D'.img = D.img) (hu : D'.und = D.und)
    (hs : ∀ a u m : Value, [a, u, m, .bool D.off, .int .i64 D.armed, .int .i64 D.writes, .int .i64 D.flushes, .int .i64 D.life].set j v = [a, u, m, .bool D'.off, .int .i64 D'.armed, .int .i64 D'.writes, .int .i64 D'.flushes, .int .i64 D'.life]) (hok' : D'.ok) :
    DiskAt (w.setCell ⟨p, j, none⟩ v) F p D' := by
  obtain ⟨pd, pm, uv, hp, hpd, hu1, hm, hF, hb, hok⟩ := hd
  have hp' := hp.set j v
  rw [hs] at hp'
  have n1 : pd ≠ p := hpd.ne hp (by decide)
  have n2 : pm ≠ p := by obtain ⟨_, ⟨_, _, h, _⟩, _⟩ := hm; exact hp.ne_map h
  have n3 : ∀ g, uv.ownBlock = some g → g ≠ p := fun g hg => hp.ne_row hu1 hg (by decide)
  have keep : ∀ k, k ≠ p → (w.setCell ⟨p, j, none⟩ v).heap[k]? = w.heap[k]? := fun k hk => heap_setCell_other _ _ _ _ hk
  refine ⟨pd, pm, uv, by rw [hn]; exact hp', by rw [hi]; exact hpd.keep (keep _ n1), by rw [hu]; exact ownsRow_keep hu1 (fun g hg => keep _ (n3 g hg)), by rw [hu]; exact hm.keep (keep _ n2), hF, fun k hk => ⟨(hb k hk).1, by simpa [World.setCell] using (hb k hk).2⟩, hok'⟩

theorem goes_any (w : World) (F : Nat → Prop) (p : Nat) (D : Dsk) (hd : DiskAt w F p D) :
    Calls Tryd.prog 76 #[.pointer (some ⟨p, 0, none⟩)] w fun e w' => e = .returned (.bool D.dead) ∧ DiskAt w' F p D.gone ∧ Fr F w w' := by
  have hFp := hd.has
  obtain ⟨c3, c4, c5, c6, c7, fr⟩ := hd.cell
  have hok := hd.good
  have f3 := fr 3
  have f4 := fr 4
  have a1 := hok.arm1
  have a2 := hok.arm2
  have H : Hid (DiskAt w F p D ∧ F p ∧ D.ok) := ⟨hd, hFp, hok⟩
  clear hd hFp hok fr c5 c6 c7
  go_enter Tryd.func76, Tryd.ntmps76
  go_wp2
  · have h0 : D.armed = 0 := by have : (D.armed == 0) = true := by assumption
                                simpa using this
    go_ret
    obtain ⟨hd, hFp, hok⟩ := H
    refine ⟨by simp [Dsk.dead, h0], hd.store 3 _ D.gone D.gone_n D.gone_img D.gone_und ?_ (Dsk.gone_ok hok), (Fr.refl _ _).setCell (.inl hFp) _⟩
    intro a u m; simp [Dsk.gone, h0]
  · have h0 : ¬ D.armed = 0 := by have : (D.armed == 0) = false := by assumption
                                  simpa using this
    have h1 : 0 < D.armed := by assumption
    go_ret
    obtain ⟨hd, hFp, hok⟩ := H
    refine ⟨by simp [Dsk.dead, h0], hd.store 4 _ D.gone D.gone_n D.gone_img D.gone_und ?_ (Dsk.gone_ok hok), (Fr.refl _ _).setCell (.inl hFp) _⟩
    intro a u m; simp [Dsk.gone, h0, h1]
  · have h0 : ¬ D.armed = 0 := by have : (D.armed == 0) = false := by assumption
                                  simpa using this
    have h1 : ¬ 0 < D.armed := by have : D.armed ≤ 0 := by assumption
                                  omega
    go_ret
    obtain ⟨hd, hFp, hok⟩ := H
    exact ⟨by simp [Dsk.dead, h0], by have : D.gone = D := by simp [Dsk.gone, h0, h1]
                                      rw [this]; exact hd, Fr.refl _ _⟩
end Go.Proofs.YteklldbfdmaafaaDoor
