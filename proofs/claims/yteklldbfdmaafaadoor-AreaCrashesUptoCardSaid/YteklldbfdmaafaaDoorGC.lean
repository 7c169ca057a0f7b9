/-
  Disk0, Disk1, Disk2, Disk3, Disk4, Disk5, Disk6, Disk7, Disk8, Disk9, DiskA, Num, Sect, Spare, Script, DiskC.
-/
import Derived.Test.YteklldbfdmaafaaDoorProg
import Derived.WalkKit
import Derived.WalkLawsBesides
import Derived.WalkSpells
import Derived.Maps.OwnSet
import Derived.KernelRfl
import Derived.BigQuiet
import Derived.Deep.QuietTactic
import Derived.Lib.Hide
import Derived.Deep.Cut
import Derived.Deep.CutBlock
import Derived.Deep.CutRange
import Derived.Outline
import Derived.Maps.RangeWalk
import Derived.StillTailTactics
import Derived.Deep.RegionHeld3
import Derived.Test.YteklldbfdmaafaaDoorGA
import Derived.Test.YteklldbfdmaafaaDoorGB
/-
  The disk in memory; the small methods of the disk.
-/
namespace Go.Proofs.YteklldbfdmaafaaDoor
open Go Go.RowKit

/-- so many package-level variables: the first blocks -/
def gB : Nat := 38
/-- block b is the map that tells of each sector the number of its last write -/
def LastAt (w : World) (b : Nat) (u : List (Nat × List UInt8)) : Prop :=
  ∃ M : DataW Unit, w.ownsMap Tryd.prog 3 (plainElem Tryd.prog 3) b u.length M ∧
    ∀ i : Nat, Maps.has M (.int .i64 i) = (lastIx u i).isSome ∧ M.atKey (.int .i64 i) (.lit (.int .i64 0)) = .lit (.int .i64 ((lastIx u i).getD 0 : Nat))

/-- a write under way, as cells -/
def wayCells (x : Nat × List UInt8) : List Value := .int .i64 x.1 :: bvs x.2
def undCells (u : List (Nat × List UInt8)) : List Value := u.flatMap wayCells

theorem wayCells_length (u : List (Nat × List UInt8)) (n : Nat) (hu : ∀ x ∈ u, x.1 < n ∧ x.2.length = 256) : ∀ x ∈ u, (wayCells x).length = 257 := by
  intro x hx; simp [wayCells, (hu x hx).2]
/-- write number k, as it lies in memory -/
theorem under_at {w : World} {v : Value} {T : TypeId} {u : List (Nat × List UInt8)} {n : Nat} (h : w.ownsRow 0 T 257 v u.length (undCells u)) (hu : ∀ x ∈ u, x.1 < n ∧ x.2.length = 256) (k i : Nat) (b : List UInt8) (hk : u[k]? = some (i, b)) :
    ∃ g cap, v = .slice (some ⟨g, 0, none⟩) u.length cap ∧ u.length ≤ cap ∧ cap ≤ maxLen ∧ g < w.heap.size ∧ w.rangeAt g (k * 257) (wayCells (i, b)) := by
  have hlt := (List.getElem?_eq_some_iff.1 hk).1
  rcases h.2 with h1 | ⟨g, cap, cur, hv, _, hh, h3, h4, h5, h6⟩
  · omega
  · refine ⟨g, cap, hv, h3, h4, (Array.getElem?_eq_some_iff.1 hh).1, fun j z hz => ?_⟩
    have hj : j < 257 := by
      have := (List.getElem?_eq_some_iff.1 hz).1
      rw [wayCells_length u n hu _ (List.mem_of_getElem? hk)] at this; exact this
    have e := flat_get wayCells 257 u (wayCells_length u n hu) k (i, b) hk j hj
    rw [hz] at e
    have e2 : (cur.toList.take (u.length * 257))[k * 257 + j]? = some z := by rw [h6]; exact e
    rw [List.getElem?_take, if_pos (by omega)] at e2
    rw [cell_of_row w g _ _ T _ hh]
    simpa using e2

/-- The disk D lies in memory at block p; its blocks are blocks of F. -/
def DiskAt (w : World) (F : Nat → Prop) (p : Nat) (D : Dsk) : Prop :=
  ∃ (pd pm : Nat) (uv : Value),
    Blk w p [.slice (some ⟨pd, 0, none⟩) D.n D.n, uv, .map (some pm), .bool D.off, .int .i64 D.armed, .int .i64 D.writes, .int .i64 D.flushes, .int .i64 D.life] 134 ∧
    Blk w pd (bvs D.img) 136 ∧
    w.ownsRow 0 138 257 uv D.und.length (undCells D.und) ∧ LastAt w pm D.und ∧
    (F p ∧ F pd ∧ F pm ∧ ∀ g, uv.ownBlock = some g → F g) ∧ (∀ k, F k → gB ≤ k ∧ k < w.heap.size) ∧ D.ok

theorem ownsRow_keep {w w' : World} {base : Nat} {e : TypeId} {size : Nat} {v : Value} {n : Nat} {xs : List Value} (h : w.ownsRow base e size v n xs) (hb : ∀ g, v.ownBlock = some g → w'.heap[g]? = w.heap[g]?) : w'.ownsRow base e size v n xs := by
  obtain ⟨h1, h2⟩ := h
  refine ⟨h1, ?_⟩
  rcases h2 with h2 | ⟨g, cap, cur, hv, hg, hh, r⟩
  · exact Or.inl h2
  · exact Or.inr ⟨g, cap, cur, hv, hg, by rw [hb g (by rw [hv]; rfl)]; exact hh, r⟩
theorem LastAt.keep {w w' : World} {b : Nat} {u : List (Nat × List UInt8)} (h : LastAt w b u) (e : w'.heap[b]? = w.heap[b]?) : LastAt w' b u := by
  obtain ⟨M, ⟨es, clock, hb, r⟩, h2⟩ := h
  exact ⟨M, ⟨es, clock, e.trans hb, r⟩, h2⟩
theorem LastAt.lt {w : World} {b : Nat} {u : List (Nat × List UInt8)} (h : LastAt w b u) : b < w.heap.size := by
  obtain ⟨M, h, _⟩ := h; exact h.lt

/-- what does not touch the disk's blocks leaves the disk -/
theorem DiskAt.keep {w w' : World} {F : Nat → Prop} {p : Nat} {D : Dsk} (hd : DiskAt w F p D) (hs : w.heap.size ≤ w'.heap.size) (h : ∀ k, F k → w'.heap[k]? = w.heap[k]?) : DiskAt w' F p D := by
  obtain ⟨pd, pm, uv, hp, hpd, hu, hm, hF, hb, hok⟩ := hd
  exact ⟨pd, pm, uv, hp.keep (h _ hF.1), hpd.keep (h _ hF.2.1), ownsRow_keep hu (fun g hg => h _ (hF.2.2.2 g hg)), hm.keep (h _ hF.2.2.1), hF, fun k hk => ⟨(hb k hk).1, Nat.lt_of_lt_of_le (hb k hk).2 hs⟩, hok⟩
theorem DiskAt.fr {w w' : World} {F G : Nat → Prop} {p : Nat} {D : Dsk} (hd : DiskAt w F p D) (h : Fr G w w') (hG : ∀ k, F k → ¬ G k) : DiskAt w' F p D :=
  hd.keep h.size fun k hk => h.block k (by obtain ⟨_, _, _, _, _, _, _, _, hb, _⟩ := hd; exact (hb k hk).2) (hG k hk)
theorem DiskAt.bound {w : World} {F : Nat → Prop} {p : Nat} {D : Dsk} (hd : DiskAt w F p D) : ∀ k, F k → gB ≤ k ∧ k < w.heap.size := by
  obtain ⟨_, _, _, _, _, _, _, _, hb, _⟩ := hd; exact hb
theorem DiskAt.good {w : World} {F : Nat → Prop} {p : Nat} {D : Dsk} (hd : DiskAt w F p D) : D.ok := by
  obtain ⟨_, _, _, _, _, _, _, _, _, h⟩ := hd; exact h
theorem DiskAt.has {w : World} {F : Nat → Prop} {p : Nat} {D : Dsk} (hd : DiskAt w F p D) : F p := by
  obtain ⟨_, _, _, _, _, _, _, hF, _, _⟩ := hd; exact hF.1
theorem DiskAt.cell {w : World} {F : Nat → Prop} {p : Nat} {D : Dsk} (hd : DiskAt w F p D) :
    w.cell? ⟨p, 3, none⟩ = some (.bool D.off) ∧ w.cell? ⟨p, 4, none⟩ = some (.int .i64 D.armed) ∧ w.cell? ⟨p, 5, none⟩ = some (.int .i64 D.writes) ∧ w.cell? ⟨p, 6, none⟩ = some (.int .i64 D.flushes) ∧ w.cell? ⟨p, 7, none⟩ = some (.int .i64 D.life) ∧
    (∀ j, w.frozen? ⟨p, j, none⟩ = false) := by
  obtain ⟨pd, pm, uv, hp, _⟩ := hd
  exact ⟨by rw [hp.cell]; rfl, by rw [hp.cell]; rfl, by rw [hp.cell]; rfl, by rw [hp.cell]; rfl, by rw [hp.cell]; rfl, hp.free⟩

/-- a plain field is stored -/
theorem DiskAt.store {w : World} {F : Nat → Prop} {p : Nat} {D : Dsk} (hd : DiskAt w F p D) (j : Nat) (v : Value) (D' : Dsk) (hn : D'.n = D.n) (hi : D'.img = D.img) (hu : D'.und = D.und)
    (hs : ∀ a u m : Value, [a, u, m, .bool D.off, .int .i64 D.armed, .int .i64 D.writes, .int .i64 D.flushes, .int .i64 D.life].set j v = [a, u, m, .bool D'.off, .int .i64 D'.armed, .int .i64 D'.writes, .int .i64 D'.flushes, .int .i64 D'.life]) (hok' : D'.ok) :
    DiskAt (w.setCell ⟨p, j, none⟩ v) F p D' := by
  obtain ⟨pd, pm, uv, hp, hpd, hu1, hm, hF, hb, hok⟩ := hd
  have hp' := hp.set j v
  rw [hs] at hp'
  have n1 : pd ≠ p := hpd.ne hp (by decide)
  have n2 : pm ≠ p := by obtain ⟨_, ⟨_, _, h, _⟩, _⟩ := hm; exact hp.ne_map h
  have n3 : ∀ g, uv.ownBlock = some g → g ≠ p := fun g hg => hp.ne_row hu1 hg (by decide)
  have keep : ∀ k, k ≠ p → (w.setCell ⟨p, j, none⟩ v).heap[k]? = w.heap[k]? := fun k hk => heap_setCell_other _ _ _ _ hk
  refine ⟨pd, pm, uv, by rw [hn]; exact hp', by rw [hi]; exact hpd.keep (keep _ n1), by rw [hu]; exact ownsRow_keep hu1 (fun g hg => keep _ (n3 g hg)), by rw [hu]; exact hm.keep (keep _ n2), hF, fun k hk => ⟨(hb k hk).1, by simpa [World.setCell] using (hb k hk).2⟩, hok'⟩

theorem goes_any (w : World) (F : Nat → Prop) (p : Nat) (D : Dsk) (hd : DiskAt w F p D) :
    Calls Tryd.prog 76 #[.pointer (some ⟨p, 0, none⟩)] w fun e w' => e = .returned (.bool D.dead) ∧ DiskAt w' F p D.gone ∧ Fr F w w' := by
  have hFp := hd.has
  obtain ⟨c3, c4, c5, c6, c7, fr⟩ := hd.cell
  have hok := hd.good
  have f3 := fr 3
  have f4 := fr 4
  have a1 := hok.arm1
  have a2 := hok.arm2
  have H : Hid (DiskAt w F p D ∧ F p ∧ D.ok) := ⟨hd, hFp, hok⟩
  clear hd hFp hok fr c5 c6 c7
  go_enter Tryd.func76, Tryd.ntmps76
  go_wp2
  · have h0 : D.armed = 0 := by have : (D.armed == 0) = true := by assumption
                                simpa using this
    go_ret
    obtain ⟨hd, hFp, hok⟩ := H
    refine ⟨by simp [Dsk.dead, h0], hd.store 3 _ D.gone D.gone_n D.gone_img D.gone_und ?_ (Dsk.gone_ok hok), (Fr.refl _ _).setCell (.inl hFp) _⟩
    intro a u m; simp [Dsk.gone, h0]
  · have h0 : ¬ D.armed = 0 := by have : (D.armed == 0) = false := by assumption
                                  simpa using this
    have h1 : 0 < D.armed := by assumption
    go_ret
    obtain ⟨hd, hFp, hok⟩ := H
    refine ⟨by simp [Dsk.dead, h0], hd.store 4 _ D.gone D.gone_n D.gone_img D.gone_und ?_ (Dsk.gone_ok hok), (Fr.refl _ _).setCell (.inl hFp) _⟩
    intro a u m; simp [Dsk.gone, h0, h1]
  · have h0 : ¬ D.armed = 0 := by have : (D.armed == 0) = false := by assumption
                                  simpa using this
    have h1 : ¬ 0 < D.armed := by have : D.armed ≤ 0 := by assumption
                                  omega
    go_ret
    obtain ⟨hd, hFp, hok⟩ := H
    exact ⟨by simp [Dsk.dead, h0], by have : D.gone = D := by simp [Dsk.gone, h0, h1]
                                      rw [this]; exact hd, Fr.refl _ _⟩
end Go.Proofs.YteklldbfdmaafaaDoor
/-
  The disk's small methods.
-/
namespace Go.Proofs.YteklldbfdmaafaaDoor
open Go Go.RowKit

/-- the global variable in which error number k lies -/
def errG : Nat → Nat
  | 1 => 7 | 2 => 8 | 3 => 0 | 4 => 9 | 5 => 10 | 6 => 3 | 7 => 4
  | 8 => 11 | 9 => 12 | 10 => 13 | 11 => 14 | 12 => 2 | 13 => 15 | 14 => 1
  | 15 => 5 | 16 => 16 | 17 => 6 | 18 => 17 | 19 => 18 | 20 => 19 | 21 => 20
  | 22 => 21 | 23 => 22 | 24 => 23 | 25 => 24 | 26 => 25 | 27 => 26 | 28 => 27
  | 29 => 28 | 30 => 29 | 31 => 30 | 32 => 31 | 33 => 32 | 34 => 33 | 35 => 34
  | 36 => 35 | 37 => 36 | _ => 1000000
/-- the error value of number k; 0: nil -/
def errV (E : Nat → Addr) (k : Nat) : Value := if k = 0 then .nilIface else .iface 204 (.pointer (some (E k)))
theorem errV_zero (E : Nat → Addr) : errV E 0 = .nilIface := rfl
/-- error number k lies in its variable -/
def ErrAt (w : World) (E : Nat → Addr) (k : Nat) : Prop := w.cell? ⟨errG k, 0, none⟩ = some (errV E k)
theorem ErrAt.keep {w w' : World} {E : Nat → Addr} {k : Nat} (h : ErrAt w E k) {F : Nat → Prop} (hf : Fr F w w') (hF : ∀ i, F i → gB ≤ i) (hk : errG k < gB) : ErrAt w' E k := by
  unfold ErrAt at h ⊢
  have hb := block_lt_of_cell h
  rw [hf.cell hb (fun q => by have h1 : gB ≤ errG k := hF _ q; omega)]
  exact h

theorem zero_int (w : World) : (zeroValue 3).run Tryd.prog w = .ok (.int .i64 0) w := by kernel_rfl
theorem intKey (i : Nat) (hi : i ≤ 65536) : keyOf Tryd.prog 3 (.int .i64 i) = some (.int .i64 i) :=
  Maps.keyOf_int_mk Tryd.underlying3 (WalkArith.wf_i64 (by omega))

/-- the number of the last write of a sector is looked up -/
theorem wpList_lookup_last {ops : Array Oper} {rest : List Oper} {o : Oper} {a : Act} {w : World} {Q : Exit → Act → World → Prop} (hg : o.guard = none) (m x : Operand) (hop : o.op = Op.lookup 132 m x true)
    (b : Nat) (u : List (Nat × List UInt8)) (i : Nat) (hm : a.eval m = .map (some b)) (hx : a.eval x = .int .i64 i) (hL : LastAt w b u) (hi : i ≤ 65536)
    (hK : wpList Tryd.prog ops Q rest (a.put o.dst (.tuple #[.int .i64 ((lastIx u i).getD 0 : Nat), .bool (lastIx u i).isSome])) w) : wpList Tryd.prog ops Q (o :: rest) a w := by
  obtain ⟨M, hM, hs⟩ := hL
  refine wpList_lookup_own_ok_int w hg m x 132 hop 3 3 .i64 (Maps.int_keyed Tryd.underlying3) Tryd.underlying132 Tryd.underlying3 (zero_int _) b _ M hm hM _ _ hx (intKey i hi) ?_
  intro c hc _
  rw [(hs i).2] at hc
  injection hc with hc
  injection hc with _ hc
  subst hc
  rw [(hs i).1]
  exact hK

theorem wpList_lookup_none {ops : Array Oper} {rest : List Oper} {o : Oper} {a : Act} {w : World} {Q : Exit → Act → World → Prop} (hg : o.guard = none) (m x : Operand) (hop : o.op = Op.lookup 132 m x true)
    (b : Nat) (u : List (Nat × List UInt8)) (i : Nat) (hm : a.eval m = .map (some b)) (hx : a.eval x = .int .i64 i) (hL : LastAt w b u) (hi : i ≤ 65536) (hl : lastIx u i = none)
    (hK : wpList Tryd.prog ops Q rest (a.put o.dst (.tuple #[.int .i64 0, .bool false])) w) : wpList Tryd.prog ops Q (o :: rest) a w :=
  wpList_lookup_last hg m x hop b u i hm hx hL hi (by rw [hl]; exact hK)
theorem wpList_lookup_some {ops : Array Oper} {rest : List Oper} {o : Oper} {a : Act} {w : World} {Q : Exit → Act → World → Prop} (hg : o.guard = none) (m x : Operand) (hop : o.op = Op.lookup 132 m x true)
    (b : Nat) (u : List (Nat × List UInt8)) (i : Nat) (hm : a.eval m = .map (some b)) (hx : a.eval x = .int .i64 i) (hL : LastAt w b u) (hi : i ≤ 65536) (k : Nat) (hl : lastIx u i = some k)
    (hK : wpList Tryd.prog ops Q rest (a.put o.dst (.tuple #[.int .i64 k, .bool true])) w) : wpList Tryd.prog ops Q (o :: rest) a w :=
  wpList_lookup_last hg m x hop b u i hm hx hL hi (by rw [hl]; exact hK)

/-- the number of a new write is noted -/
theorem wpList_update_last {ops : Array Oper} {rest : List Oper} {o : Oper} {a : Act} {w : World} {Q : Exit → Act → World → Prop} (hg : o.guard = none) (m x v : Operand) (hop : o.op = Op.mapUpdate 132 m x v)
    (b : Nat) (u : List (Nat × List UInt8)) (i : Nat) (s : List UInt8) (hm : a.eval m = .map (some b)) (hx : a.eval x = .int .i64 i) (hv : a.eval v = .int .i64 u.length) (hL : LastAt w b u) (hi : i ≤ 65536) (hul : u.length < 1073741824)
    (hK : ∀ w', Hid (LastAt w' b (u ++ [(i, s)]) ∧ w.grownBy w' (some b)) → wpList Tryd.prog ops Q rest (a.put o.dst undef) w') : wpList Tryd.prog ops Q (o :: rest) a w := by
  obtain ⟨M, hM, hs⟩ := hL
  refine wpList_mapUpdate_own w hg m x v 132 hop 3 3 (Maps.int_keyed Tryd.underlying3) Tryd.underlying132 (plainElem Tryd.prog 3) b _ M hm hM (by unfold maxLen; omega) _ _ _ hx hv (intKey i hi) _ []
    (plainElem_int Tryd.underlying3 (WalkArith.wf_i64 (by omega))) ?_
  intro w' hM' hgr
  refine hK w' ⟨⟨_, by rw [List.length_append]; exact hM', fun j => ?_⟩, hgr⟩
  rw [lastIx_snoc]
  by_cases hij : i = j
  · subst hij
    rw [Maps.has_put_same (k := .int .i64 (i : Int)) hM.isMap trivial, Maps.atKey_put_same (k := .int .i64 (i : Int)) hM.isMap trivial]
    simp
  · have hne : (Lit.int IntKind.i64 (j : Int)) ≠ .int .i64 i := by
      intro e; injection e with _ e; omega
    rw [Maps.has_put_other hne, Maps.atKey_put_other hne, if_neg hij]
    exact hs j

theorem has_any (w : World) (F : Nat → Prop) (p : Nat) (D : Dsk) (hd : DiskAt w F p D) (i : Int) :
    Calls Tryd.prog 78 #[.pointer (some ⟨p, 0, none⟩), .int .i64 i] w fun e w' => e = .returned (.bool (D.has i)) ∧ w = w' := by
  have hok := hd.good
  obtain ⟨pd, pm, uv, hp, -⟩ := hd
  have c0 : w.cell? ⟨p, 0, none⟩ = some (.slice (some ⟨pd, 0, none⟩) D.n D.n) := by rw [hp.cell]; rfl
  have b2 := hok.n2
  clear hp hok
  by_cases h0 : 0 ≤ i
  · have h0' : decide ((0 : Int) ≤ i) = true := by simpa using h0
    by_cases h1 : i < D.n
    · go_enter Tryd.func78, Tryd.ntmps78
      go_wp2
      all_goals go_ret
      all_goals exact ⟨by simp [Dsk.has, h0, h1], rfl⟩
    · go_enter Tryd.func78, Tryd.ntmps78
      go_wp2
      all_goals go_ret
      all_goals exact ⟨by simp [Dsk.has, h0, h1], rfl⟩
  · go_enter Tryd.func78, Tryd.ntmps78
    go_wp2
    all_goals go_ret
    all_goals exact ⟨by have h0' : ¬ 0 ≤ i := by omega
                        simp [Dsk.has, h0'], rfl⟩

theorem size_any (w : World) (F : Nat → Prop) (p : Nat) (D : Dsk) (hd : DiskAt w F p D) :
    Calls Tryd.prog 40 #[.pointer (some ⟨p, 0, none⟩)] w fun e w' => e = .returned (.int .i64 D.n) ∧ w = w' := by
  have hok := hd.good
  obtain ⟨pd, pm, uv, hp, -⟩ := hd
  have c0 : w.cell? ⟨p, 0, none⟩ = some (.slice (some ⟨pd, 0, none⟩) D.n D.n) := by rw [hp.cell]; rfl
  have b2 := hok.n2
  clear hp hok
  go_enter Tryd.func40, Tryd.ntmps40
  go_wp2
  go_ret
  exact ⟨rfl, rfl⟩
theorem pending_any (w : World) (F : Nat → Prop) (p : Nat) (D : Dsk) (hd : DiskAt w F p D) :
    Calls Tryd.prog 25 #[.pointer (some ⟨p, 0, none⟩)] w fun e w' => e = .returned (.int .i64 D.und.length) ∧ w = w' := by
  obtain ⟨pd, pm, uv, hp, -, hu, -⟩ := hd
  have c0 : w.cell? ⟨p, 1, none⟩ = some uv := by rw [hp.cell]; rfl
  have huv : ∃ a c, uv = .slice a D.und.length c := by
    rcases hu.2 with h | ⟨g, cap, cur, hv, _⟩
    · exact ⟨none, 0, by rw [h.1, h.2]⟩
    · exact ⟨_, _, hv⟩
  obtain ⟨a, c, rfl⟩ := huv
  clear hp hu
  go_enter Tryd.func25, Tryd.ntmps25
  go_wp2
  go_ret
  exact ⟨rfl, rfl⟩
theorem off_any (w : World) (F : Nat → Prop) (p : Nat) (D : Dsk) (hd : DiskAt w F p D) :
    Calls Tryd.prog 30 #[.pointer (some ⟨p, 0, none⟩)] w fun e w' => e = .returned (.bool D.off) ∧ w = w' := by
  obtain ⟨c3, -⟩ := hd.cell
  clear hd
  go_enter Tryd.func30, Tryd.ntmps30
  go_wp2
  go_ret
  exact ⟨rfl, rfl⟩
theorem life_any (w : World) (F : Nat → Prop) (p : Nat) (D : Dsk) (hd : DiskAt w F p D) :
    Calls Tryd.prog 41 #[.pointer (some ⟨p, 0, none⟩)] w fun e w' => e = .returned (.int .i64 D.life) ∧ w = w' := by
  obtain ⟨-, -, -, -, c7, -⟩ := hd.cell
  clear hd
  go_enter Tryd.func41, Tryd.ntmps41
  go_wp2
  go_ret
  exact ⟨rfl, rfl⟩
theorem counts_any (w : World) (F : Nat → Prop) (p : Nat) (D : Dsk) (hd : DiskAt w F p D) :
    Calls Tryd.prog 38 #[.pointer (some ⟨p, 0, none⟩)] w fun e w' => e = .returned (.tuple #[.int .i64 D.writes, .int .i64 D.flushes]) ∧ ∃ n, w' = w.drewN n := by
  obtain ⟨-, -, c5, c6, -, -⟩ := hd.cell
  clear hd
  go_enter Tryd.func38, Tryd.ntmps38
  go_wp2
  go_quiet (fail)
  all_goals go_wp2
  all_goals go_ret2
  all_goals exact ⟨rfl, _, rfl⟩
theorem arm_any (w : World) (F : Nat → Prop) (p : Nat) (D : Dsk) (hd : DiskAt w F p D) (k : Int) (hk : k ≤ 9223372036854775807) :
    Calls Tryd.prog 37 #[.pointer (some ⟨p, 0, none⟩), .int .i64 k] w fun e w' => e = .returned (.tuple #[]) ∧ DiskAt w' F p (D.arm k) ∧ Fr F w w' := by
  obtain ⟨-, c4, -, -, -, fr⟩ := hd.cell
  have f4 := fr 4
  have hFp := hd.has
  have hok := hd.good
  have H : Hid (DiskAt w F p D ∧ F p ∧ D.ok) := ⟨hd, hFp, hok⟩
  clear hd fr hFp hok
  by_cases hk1 : -1 < k
  · go_enter Tryd.func37, Tryd.ntmps37
    go_wp2
    all_goals go_end0
    all_goals
      obtain ⟨hd, hFp, hok⟩ := H
      refine ⟨rfl, hd.store 4 _ (D.arm k) rfl rfl rfl ?_ (Dsk.arm_ok hok k hk), (Fr.refl _ _).setCell (.inl hFp) _⟩
      intro a u m
      have : max k (-1) = k := by omega
      simp [Dsk.arm, this]
  · go_enter Tryd.func37, Tryd.ntmps37
    go_wp2
    all_goals go_end0
    all_goals
      obtain ⟨hd, hFp, hok⟩ := H
      refine ⟨rfl, hd.store 4 _ (D.arm k) rfl rfl rfl ?_ (Dsk.arm_ok hok k hk), (Fr.refl _ _).setCell (.inl hFp) _⟩
      intro a u m
      have : max k (-1) = -1 := by omega
      simp [Dsk.arm, this]
      try omega
end Go.Proofs.YteklldbfdmaafaaDoor
/-
  The disk's Read.
-/
namespace Go.Proofs.YteklldbfdmaafaaDoor
open Go Go.RowKit

theorem info_block : (Tryd.prog.info? 136).map (·.size) = some 256 := by kernel_rfl

theorem read_none (w : World) (F : Nat → Prop) (p : Nat) (D : Dsk) (hd : DiskAt w F p D) (i : Nat) (hoff : D.off = false) (hi : i < D.n) (hl : lastIx D.und i = none) :
    Calls Tryd.prog 26 #[.pointer (some ⟨p, 0, none⟩), .int .i64 i] w fun e w' => e = .returned (.tuple #[.string ⟨(D.rd i).toArray⟩, .nilIface]) ∧ Fr noB w w' := by
  have hok := hd.good
  have hhas : D.has i = true := by simp [Dsk.has, hi]
  have Hc := Lib.hid (has_any w F p D hd i)
  obtain ⟨pd, pm, uv, hp, hpd, hu, hm, hF, hb, -⟩ := hd
  have hrd : D.rd i = D.sec i := by rw [Dsk.rd, lastIx_none _ _ hl]; rfl
  have hlen : (D.sec i).length = 256 := by have := hok.len; exact cut_length _ _ _ (by omega)
  have c0 : w.cell? ⟨p, 0, none⟩ = some (.slice (some ⟨pd, 0, none⟩) D.n D.n) := by rw [hp.cell]; rfl
  have c2 : w.cell? ⟨p, 2, none⟩ = some (.map (some pm)) := by rw [hp.cell]; rfl
  have c3 : w.cell? ⟨p, 3, none⟩ = some (.bool false) := by rw [hp.cell, ← hoff]; rfl
  have b2 := hok.n2
  have lp := hp.lt
  have hr : w.rangeAt pd (i * 256) (bvs (D.sec i)) := by
    have := hpd.range (o := i * 256) (n := 256)
    rwa [bvs_drop, bvs_take] at this
  rw [hhas] at Hc
  have H : Hid (w.rangeAt pd (i * 256) (bvs (D.sec i)) ∧ LastAt (w.alloc (.cells (bvs (D.sec i)).toArray 136)) pm D.und ∧ (D.sec i).length = 256 ∧ D.rd i = D.sec i ∧ lastIx D.und i = none) :=
    ⟨hr, hm.keep (Below.heap_alloc _ _ _ hm.lt), hlen, hrd, hl⟩
  clear hp hpd hu hm hF hb hok hoff hhas hr hrd hlen hl
  go_enter Tryd.func26, Tryd.ntmps26
  go_upto_region 5 with (first | (go_at_call 78; refine Hc.out.mono ?_; rintro e w' ⟨rfl, rfl⟩))
  go_upto_region 6 with (first | ((with_reducible refine wpList_load_mid ?_ 136 (.tmp 24) ?_ pd (i * 256) ?_ (bvs (D.sec i)) _ H.out.1 Tryd.underlying136 rfl ?hi ?_); (rfl); (rfl); (rfl)) | ((with_reducible refine wpList_store_top ?_ 136 (.tmp 6) (.tmp 25) ?_ _ (bvs (D.sec i)).toArray _ ?_ ?_ ?hz ?hi2 (all_bvs _) ?_); (rfl); (rfl); (rfl); (rfl)))
  case hi => rw [info_block, bvs_length, H.out.2.2.1]
  case hz => simp [Tryd.zeroCells136_size, H.out.2.2.1]
  case hi2 => rw [info_block]; simp [H.out.2.2.1]
  go_frame
  go_wp2_with (first | (at_lookup; (with_reducible refine wpList_lookup_none ?_ (.tmp 30) (.tmp 31) ?_ pm D.und i ?_ ?_ H.out.2.1 (by omega) H.out.2.2.2.2 ?_); (rfl); (rfl); (rfl); (rfl)) | ((with_reducible refine wpList_bytes_string ?_ 112 9 5 (.tmp 44) ?_ Tryd.underlying112 Tryd.underlying5 Tryd.underlying9 w.heap.size 0 256 256 (D.sec i) ?_ H.out.2.2.1.symm ?hc ?_); (rfl); (rfl); (rfl)))
  case hc => exact range_new _ _ _
  go_ret2
  exact ⟨congrArg (fun l : List UInt8 => Ending.returned (.tuple #[.string ⟨l.toArray⟩, .nilIface])) H.out.2.2.2.1.symm, (Fr.refl _ _).alloc _⟩

theorem read_some (w : World) (F : Nat → Prop) (p : Nat) (D : Dsk) (hd : DiskAt w F p D) (i : Nat) (hoff : D.off = false) (hi : i < D.n) (k : Nat) (hl : lastIx D.und i = some k) :
    Calls Tryd.prog 26 #[.pointer (some ⟨p, 0, none⟩), .int .i64 i] w fun e w' => e = .returned (.tuple #[.string ⟨(D.rd i).toArray⟩, .nilIface]) ∧ Fr noB w w' := by
  have hok := hd.good
  have hhas : D.has i = true := by simp [Dsk.has, hi]
  have Hc := Lib.hid (has_any w F p D hd i)
  obtain ⟨pd, pm, uv, hp, hpd, hu, hm, hF, hb, -⟩ := hd
  obtain ⟨b, hk, hW⟩ := lastIx_some _ _ _ hl
  have hrd : D.rd i = b := by rw [Dsk.rd, hW]; rfl
  have hbl : b.length = 256 := (hok.und _ (List.mem_of_getElem? hk)).2
  have hkl : k < D.und.length := (List.getElem?_eq_some_iff.1 hk).1
  obtain ⟨g, cap, rfl, hc1, hc2, hgl, hg⟩ := under_at hu hok.und k i b hk
  have hlen : (D.sec i).length = 256 := by have := hok.len; exact cut_length _ _ _ (by omega)
  have c0 : w.cell? ⟨p, 0, none⟩ = some (.slice (some ⟨pd, 0, none⟩) D.n D.n) := by rw [hp.cell]; rfl
  have c1 : w.cell? ⟨p, 1, none⟩ = some (.slice (some ⟨g, 0, none⟩) D.und.length cap) := by rw [hp.cell]; rfl
  have c2 : w.cell? ⟨p, 2, none⟩ = some (.map (some pm)) := by rw [hp.cell]; rfl
  have c3 : w.cell? ⟨p, 3, none⟩ = some (.bool false) := by rw [hp.cell, ← hoff]; rfl
  have b2 := hok.n2
  have lp := hp.lt
  have hr : w.rangeAt pd (i * 256) (bvs (D.sec i)) := by
    have := hpd.range (o := i * 256) (n := 256)
    rwa [bvs_drop, bvs_take] at this
  have hg2 : (w.alloc (.cells (bvs (D.sec i)).toArray 136)).rangeAt g (k * 257 + 1) (bvs b) := by
    refine World.rangeAt_alloc (fun j v hj => ?_) _
    have := hg (j + 1) v (by simpa [wayCells] using hj)
    rw [show k * 257 + 1 + j = k * 257 + (j + 1) by omega]; exact this
  rw [hhas] at Hc
  unfold maxLen at hc2
  have H : Hid (w.rangeAt pd (i * 256) (bvs (D.sec i)) ∧ LastAt (w.alloc (.cells (bvs (D.sec i)).toArray 136)) pm D.und ∧ (D.sec i).length = 256 ∧ D.rd i = b ∧ lastIx D.und i = some k ∧ (w.alloc (.cells (bvs (D.sec i)).toArray 136)).rangeAt g (k * 257 + 1) (bvs b) ∧ b.length = 256) :=
    ⟨hr, hm.keep (Below.heap_alloc _ _ _ hm.lt), hlen, hrd, hl, hg2, hbl⟩
  clear hp hpd hu hm hF hb hok hoff hhas hr hrd hlen hl hg hg2 hbl hk hW
  go_enter Tryd.func26, Tryd.ntmps26
  go_upto_region 5 with (first | (go_at_call 78; refine Hc.out.mono ?_; rintro e w' ⟨rfl, rfl⟩))
  go_upto_region 6 with (first | ((with_reducible refine wpList_load_mid ?_ 136 (.tmp 24) ?_ pd (i * 256) ?_ (bvs (D.sec i)) _ H.out.1 Tryd.underlying136 rfl ?hi ?_); (rfl); (rfl); (rfl)) | ((with_reducible refine wpList_store_top ?_ 136 (.tmp 6) (.tmp 25) ?_ _ (bvs (D.sec i)).toArray _ ?_ ?_ ?hz ?hi2 (all_bvs _) ?_); (rfl); (rfl); (rfl); (rfl)))
  case hi => rw [info_block, bvs_length, H.out.2.2.1]
  case hz => simp [Tryd.zeroCells136_size, H.out.2.2.1]
  case hi2 => rw [info_block]; simp [H.out.2.2.1]
  go_frame
  go_upto_region 8 with (first | (at_lookup; (with_reducible refine wpList_lookup_some ?_ (.tmp 30) (.tmp 31) ?_ pm D.und i ?_ ?_ H.out.2.1 (by omega) k H.out.2.2.2.2.1 ?_); (rfl); (rfl); (rfl); (rfl)))
  go_upto_region 9 with (first | ((with_reducible refine wpList_load_mid ?_ 136 (.tmp 42) ?_ g (k * 257 + 1) ?_ (bvs b) _ H.out.2.2.2.2.2.1 Tryd.underlying136 rfl ?hi3 ?_); (rfl); (rfl); (rfl)) | ((with_reducible refine wpList_store_top ?_ 136 (.tmp 6) (.tmp 43) ?_ _ (bvs b).toArray _ ?_ ?_ ?hz4 ?hi4 (all_bvs _) ?_); (rfl); (rfl); (rfl); (rfl)))
  case hi3 => rw [info_block, bvs_length, H.out.2.2.2.2.2.2]
  case hz4 => simp [H.out.2.2.1, H.out.2.2.2.2.2.2]
  case hi4 => rw [info_block]; simp [H.out.2.2.2.2.2.2]
  go_frame
  go_wp2_with (first | ((with_reducible refine wpList_bytes_string ?_ 112 9 5 (.tmp 44) ?_ Tryd.underlying112 Tryd.underlying5 Tryd.underlying9 w.heap.size 0 256 256 b ?_ H.out.2.2.2.2.2.2.symm ?hc ?_); (rfl); (rfl); (rfl)))
  case hc => exact range_new _ _ _
  go_ret2
  exact ⟨congrArg (fun l : List UInt8 => Ending.returned (.tuple #[.string ⟨l.toArray⟩, .nilIface])) H.out.2.2.2.1.symm, (Fr.refl _ _).alloc _⟩

theorem read_off (w : World) (F : Nat → Prop) (p : Nat) (D : Dsk) (E : Nat → Addr) (hd : DiskAt w F p D) (i : Int) (h12 : ErrAt w E 12) (ho : D.off = true) :
    Calls Tryd.prog 26 #[.pointer (some ⟨p, 0, none⟩), .int .i64 i] w fun e w' => e = .returned (.tuple #[.string ⟨#[]⟩, errV E 12]) ∧ Fr noB w w' := by
  obtain ⟨c3, -⟩ := hd.cell
  have e12 : w.cell? ⟨2, 0, none⟩ = some (errV E 12) := h12
  rw [ho] at c3
  clear h12 hd ho
  go_enter Tryd.func26, Tryd.ntmps26
  go_wp2
  go_quiet (fail)
  all_goals go_wp2
  all_goals go_ret2
  all_goals exact ⟨rfl, (Fr.refl _ _).drewN _⟩
theorem read_out (w : World) (F : Nat → Prop) (p : Nat) (D : Dsk) (E : Nat → Addr) (hd : DiskAt w F p D) (i : Int) (h6 : ErrAt w E 6) (ho : D.off = false) (hh : D.has i = false) :
    Calls Tryd.prog 26 #[.pointer (some ⟨p, 0, none⟩), .int .i64 i] w fun e w' => e = .returned (.tuple #[.string ⟨#[]⟩, errV E 6]) ∧ Fr noB w w' := by
  have Hc := Lib.hid (has_any w F p D hd i)
  obtain ⟨c3, -⟩ := hd.cell
  have e6 : w.cell? ⟨3, 0, none⟩ = some (errV E 6) := h6
  rw [ho] at c3
  rw [hh] at Hc
  clear h6 hd ho hh
  go_enter Tryd.func26, Tryd.ntmps26
  go_wp2_with (first | (go_at_call 78; refine Hc.out.mono ?_; rintro e w' ⟨rfl, rfl⟩))
  go_quiet (fail)
  all_goals go_wp2
  all_goals go_ret2
  all_goals exact ⟨rfl, (Fr.refl _ _).drewN _⟩

theorem read_any (w : World) (F : Nat → Prop) (p : Nat) (D : Dsk) (E : Nat → Addr) (hd : DiskAt w F p D) (i : Int) (h12 : ErrAt w E 12) (h6 : ErrAt w E 6) :
    Calls Tryd.prog 26 #[.pointer (some ⟨p, 0, none⟩), .int .i64 i] w fun e w' => e = .returned (.tuple #[.string ⟨(D.readS i).toArray⟩, errV E (D.readE i)]) ∧ Fr noB w w' := by
  by_cases ho : D.off = true
  · have e1 : D.readS i = [] := by simp [Dsk.readS, ho]
    have e2 : D.readE i = 12 := by simp [Dsk.readE, ho]
    rw [e1, e2]
    exact read_off w F p D E hd i h12 ho
  have ho : D.off = false := by simpa using ho
  by_cases hh : D.has i = true
  · have hi : 0 ≤ i ∧ i < D.n := by simpa [Dsk.has] using hh
    obtain ⟨j, rfl⟩ := Int.eq_ofNat_of_zero_le hi.1
    have e1 : D.readS j = D.rd j := by simp [Dsk.readS, ho, hh]
    have e2 : D.readE j = 0 := by simp [Dsk.readE, ho, hh]
    rw [e1, e2]
    cases hl : lastIx D.und j with
    | none => exact read_none w F p D hd j ho (by omega) hl
    | some k => exact read_some w F p D hd j ho (by omega) k hl
  · have hh : D.has i = false := by simpa using hh
    have e1 : D.readS i = [] := by simp [Dsk.readS, ho, hh]
    have e2 : D.readE i = 6 := by simp [Dsk.readE, ho, hh]
    rw [e1, e2]
    exact read_out w F p D E hd i h6 ho hh
end Go.Proofs.YteklldbfdmaafaaDoor
/-
  The disk's settled and Write.
-/
namespace Go.Proofs.YteklldbfdmaafaaDoor
open Go Go.RowKit

theorem wpList_clear_last {ops : Array Oper} {rest : List Oper} {o : Oper} {a : Act} {w : World} {Q : Exit → Act → World → Prop} (hg : o.guard = none) (m : Operand)
    (ho : o.op = .call { callee := .builtin .clear, args := #[m], argTypes := #[132] }) (b : Nat) (u : List (Nat × List UInt8)) (hm : a.eval m = .map (some b)) (hL : LastAt w b u)
    (hK : ∀ w', Hid (LastAt w' b [] ∧ w.grownBy w' (some b)) → wpList Tryd.prog ops Q rest (a.put o.dst (.tuple #[])) w') : wpList Tryd.prog ops Q (o :: rest) a w := by
  obtain ⟨M, ⟨es, clock, hb, _⟩, _⟩ := hL
  have hlt : b < w.heap.size := (Array.getElem?_eq_some_iff.1 hb).1
  refine wpList_clear_map hg m _ _ _ Tryd.underlying132 ho b es clock hm hb (hK _ ⟨⟨.map [], ⟨#[], clock, ?_, ⟨Nat.zero_le _, MapKept.stamped_empty _, fun x hx => by cases hx⟩, Nat.le_refl _, rfl⟩, ?_⟩, ⟨rfl, rfl, rfl, by simp, ?_⟩⟩)
  · simp [hlt]
  · intro i; exact ⟨rfl, rfl⟩
  · intro k hk hne
    simp only [ne_eq, Option.some.injEq] at hne
    simp [Ne.symm hne]

theorem settled_any (w : World) (F : Nat → Prop) (p : Nat) (D : Dsk) (hd : DiskAt w F p D) :
    Calls Tryd.prog 77 #[.pointer (some ⟨p, 0, none⟩)] w fun e w' => e = .returned (.tuple #[]) ∧ DiskAt w' F p D.clr ∧ Fr F w w' := by
  obtain ⟨pd, pm, uv, hp, hpd, hu, hm, hF, hb, hok⟩ := hd
  have c1 : w.cell? ⟨p, 1, none⟩ = some uv := by rw [hp.cell]; rfl
  have c2 : w.cell? ⟨p, 2, none⟩ = some (.map (some pm)) := by rw [hp.cell]; rfl
  have f1 := hp.free 1
  have H : Hid (Blk w p [.slice (some ⟨pd, 0, none⟩) D.n D.n, uv, .map (some pm), .bool D.off, .int .i64 D.armed, .int .i64 D.writes, .int .i64 D.flushes, .int .i64 D.life] 134 ∧ Blk w pd (bvs D.img) 136 ∧ LastAt w pm D.und ∧ (F p ∧ F pd ∧ F pm ∧ ∀ g, uv.ownBlock = some g → F g) ∧ (∀ k, F k → gB ≤ k ∧ k < w.heap.size) ∧ D.ok) := ⟨hp, hpd, hm, hF, hb, hok⟩
  have Hm : Hid (LastAt (w.setCell ⟨p, 1, none⟩ (.slice none 0 0)) pm D.und) := hm.keep (heap_setCell_other _ _ _ _ (by obtain ⟨_, ⟨_, _, h, _⟩, _⟩ := hm; exact hp.ne_map h))
  clear hp hpd hu hm hF hb hok
  go_enter Tryd.func77, Tryd.ntmps77
  go_upto_region 1 with (fail)
  go_wp2_with ((with_reducible refine wpList_clear_last ?_ (.tmp 8) ?_ pm D.und ?_ Hm.out ?_); (rfl); (rfl); (rfl); (intro w1 hw1))
  go_end0
  obtain ⟨hp, hpd, hm, hF, hb, hok⟩ := H
  obtain ⟨hm1, hg⟩ := hw1
  have n1 : pd ≠ p := hpd.ne hp (by decide)
  have n2 : pm ≠ p := by obtain ⟨_, ⟨_, _, h, _⟩, _⟩ := hm; exact hp.ne_map h
  have n3 : pm ≠ pd := by obtain ⟨_, ⟨_, _, h, _⟩, _⟩ := hm; exact hpd.ne_map h
  have hs : (w.setCell ⟨p, 1, none⟩ (Value.slice none 0 0)).heap.size = w.heap.size := by simp [World.setCell]
  have k1 : ∀ k, k < w.heap.size → k ≠ pm → w1.heap[k]? = (w.setCell ⟨p, 1, none⟩ (Value.slice none 0 0)).heap[k]? := fun k hk hne => hg.block k (by rw [hs]; exact hk) (by simpa using hne)
  have hp' := (hp.set 1 (.slice none 0 0)).keep (k1 p hp.lt (Ne.symm n2))
  refine ⟨rfl, ⟨pd, pm, .slice none 0 0, hp', ?_, World.ownsRow_nil _ _ _ _, hm1, ⟨hF.1, hF.2.1, hF.2.2.1, fun g hg => by simp [Value.ownBlock] at hg⟩, fun k hk => ⟨(hb k hk).1, Nat.lt_of_lt_of_le (hb k hk).2 (by have := hg.size; rw [hs] at this; exact this)⟩, Dsk.clr_ok hok⟩, ?_⟩
  · exact hpd.keep ((k1 pd hpd.lt (Ne.symm n3)).trans (heap_setCell_other _ _ _ _ n1))
  · exact ((Fr.refl F w).setCell (.inl hF.1) _).grown hg (fun k hk => by cases hk; exact .inl hF.2.2.1)
end Go.Proofs.YteklldbfdmaafaaDoor
/-
  The disk's Write.
-/
namespace Go.Proofs.YteklldbfdmaafaaDoor
open Go Go.RowKit

theorem built_write (v : Int) : Tryd.prog.built 138 [(0, .int .i64 v)] = some (.int .i64 v :: bvs (zs 256)).toArray := by kernel_rfl
theorem info_write : (Tryd.prog.info? 138).map (·.size) = some 257 := by kernel_rfl
theorem info_byte : (Tryd.prog.info? 5).map (·.size) = some 1 := by kernel_rfl
/-- a write's cells before its bytes are there -/
def rawWay (i : Nat) : List Value := .int .i64 i :: bvs (zs 256)
theorem rawWay_length (i : Nat) : (rawWay i).length = 257 := by rw [rawWay, List.length_cons, bvs_length, zs_length]
theorem rawWay_one (i : Nat) : (rawWay i).toArray.all (·.oneCell') = true := by
  rw [Array.all_eq_true_iff_forall_mem]
  intro v hv
  rcases List.mem_cons.1 (show v ∈ _ :: bvs _ by simpa only [List.mem_toArray, rawWay] using hv) with h | h
  · subst h; rfl
  · exact bvs_one _ v h
theorem wayCells_len (i : Nat) (s : List UInt8) (hs : s.length = 256) : (wayCells (i, s)).length = 257 := by simp [wayCells, hs]
theorem wayCells_one (x : Nat × List UInt8) : ∀ u ∈ wayCells x, u.oneCell' = true := by
  intro v hv
  rcases List.mem_cons.1 hv with h | h
  · subst h; rfl
  · exact bvs_one _ v h
theorem lay_way (i : Nat) (s : List UInt8) (hs : s.length = 256) : lay (rawWay i) 1 (bvs (s.take 256)) = wayCells (i, s) := by
  have : s.take 256 = s := List.take_of_length_le (by omega)
  rw [this]
  unfold lay rawWay wayCells
  rw [List.drop_eq_nil_of_le (by rw [List.length_cons, bvs_length, bvs_length, zs_length]; omega)]
  simp

theorem own_shape {w : World} {base : Nat} {e : TypeId} {size : Nat} {v : Value} {n : Nat} {xs : List Value} (h : w.ownsRow base e size v n xs) : ∃ a c, v = .slice a n c := by
  rcases h.2 with h | ⟨g, cap, cur, hv, _⟩
  · exact ⟨none, 0, by rw [h.1, h.2]⟩
  · exact ⟨_, _, hv⟩
/-- the blocks of F and the new ones -/
def grow (F : Nat → Prop) (w w' : World) : Nat → Prop := fun k => F k ∨ (w.heap.size ≤ k ∧ k < w'.heap.size)
def Dsk.push (D : Dsk) (i : Nat) (s : List UInt8) : Dsk := { D with und := D.und ++ [(i, s)] }
theorem Dsk.push_ok {D : Dsk} (h : D.ok) (i : Nat) (s : List UInt8) (hi : i < D.n) (hs : s.length = 256) : (D.push i s).ok := ⟨h.n1, h.n2, h.len, by
  intro x hx
  rcases List.mem_append.1 hx with hx | hx
  · exact h.und x hx
  · simp at hx; subst hx; exact ⟨hi, hs⟩, h.arm1, h.arm2⟩

/-- what the write's two statements leave: the new write lies behind the others -/
theorem pushed {w w1 w3 : World} {F : Nat → Prop} {p pd pm : Nat} {uv v' : Value} {D : Dsk} {i : Nat} {s : List UInt8} {A B : Obj}
    (hp : Blk w p [.slice (some ⟨pd, 0, none⟩) D.n D.n, uv, .map (some pm), .bool D.off, .int .i64 D.armed, .int .i64 D.writes, .int .i64 D.flushes, .int .i64 D.life] 134)
    (hpd : Blk w pd (bvs D.img) 136) (hu : w.ownsRow 0 138 257 uv D.und.length (undCells D.und)) (hm : LastAt w pm D.und)
    (hF : F p ∧ F pd ∧ F pm ∧ ∀ g, uv.ownBlock = some g → F g) (hb : ∀ k, F k → gB ≤ k ∧ k < w.heap.size) (hok : D.ok) (hi : i < D.n) (hs : s.length = 256)
    (hw1 : LastAt w1 pm (D.und ++ [(i, s)]) ∧ (w.alloc A).drew.grownBy w1 (some pm))
    (hw3 : w3.ownsRow 0 138 257 v' (D.und.length + 1) (undCells D.und ++ wayCells (i, s)) ∧ (w1.drew.alloc B).grownBy w3 uv.ownBlock ∧ (v'.ownBlock = uv.ownBlock ∨ v'.ownBlock = some (w1.drew.alloc B).heap.size)) :
    DiskAt (w3.setCell ⟨p, 1, none⟩ v') (grow F w (w3.setCell ⟨p, 1, none⟩ v')) p (D.push i s) ∧ Fr F w (w3.setCell ⟨p, 1, none⟩ v') ∧
      w3.cell? ⟨p, 1, none⟩ = some uv ∧ w3.frozen? ⟨p, 1, none⟩ = false := by
  have n1 : pd ≠ p := hpd.ne hp (by decide)
  have n2 : pm ≠ p := by obtain ⟨_, ⟨_, _, h, _⟩, _⟩ := hm; exact hp.ne_map h
  have n3 : pm ≠ pd := by obtain ⟨_, ⟨_, _, h, _⟩, _⟩ := hm; exact hpd.ne_map h
  have n4 : ∀ g, uv.ownBlock = some g → g ≠ p := fun g hg => hp.ne_row hu hg (by decide)
  have n5 : ∀ g, uv.ownBlock = some g → g ≠ pd := fun g hg => hpd.ne_row hu hg (by decide)
  have n6 : ∀ g, uv.ownBlock = some g → g ≠ pm := fun g hg => by
    obtain ⟨_, ⟨_, _, h, _⟩, _⟩ := hm
    intro e; subst e
    rcases hu.2 with h1 | ⟨g', cap, cur, hv, _, hh, _⟩
    · rw [h1.1] at hg; simp [Value.ownBlock] at hg
    · rw [hv] at hg; simp [Value.ownBlock] at hg; subst hg; rw [h] at hh; cases hh
  obtain ⟨hL, g1⟩ := hw1
  obtain ⟨ho, g3, hloc⟩ := hw3
  have s1 : w.heap.size + 1 ≤ w1.heap.size := by have := g1.size; simpa using this
  have s3 : w1.heap.size + 1 ≤ w3.heap.size := by have := g3.size; simpa using this
  have k1 : ∀ k, k < w.heap.size → k ≠ pm → w1.heap[k]? = w.heap[k]? := fun k hk hne =>
    (g1.block k (by simp; omega) (by simpa using hne)).trans (Below.heap_alloc w A k hk)
  have k3 : ∀ k, k < w1.heap.size → (∀ g, uv.ownBlock = some g → g ≠ k) → w3.heap[k]? = w1.heap[k]? := fun k hk hne =>
    (g3.block k (by simp; omega) (by intro e; exact hne k e.symm rfl)).trans (Below.heap_alloc w1.drew B k (by simpa using hk))
  have lp := hp.lt
  have lpd := hpd.lt
  have lpm := hm.lt
  have b3 : Blk w3 p _ _ := hp.keep ((k3 p (by omega) (fun g hg => n4 g hg)).trans (k1 p lp (Ne.symm n2)))
  have bd3 : Blk w3 pd _ _ := hpd.keep ((k3 pd (by omega) (fun g hg => n5 g hg)).trans (k1 pd lpd (Ne.symm n3)))
  have L3 : LastAt w3 pm _ := hL.keep (k3 pm (by omega) (fun g hg => n6 g hg))
  have hs4 : (w3.setCell ⟨p, 1, none⟩ v').heap.size = w3.heap.size := by simp [World.setCell]
  have q : ∀ k, k ≠ p → (w3.setCell ⟨p, 1, none⟩ v').heap[k]? = w3.heap[k]? := fun k hk => heap_setCell_other _ _ _ _ hk
  have hv' : ∀ g, v'.ownBlock = some g → g ≠ p ∧ grow F w (w3.setCell ⟨p, 1, none⟩ v') g := fun g hg => by
    have hlt := (ho.lt g hg).2
    rcases hloc with h | h
    · rw [h] at hg; exact ⟨n4 g hg, .inl (hF.2.2.2 g hg)⟩
    · rw [h] at hg
      simp at hg
      exact ⟨by omega, .inr ⟨by omega, by rw [hs4]; exact hlt⟩⟩
  refine ⟨⟨pd, pm, v', b3.set 1 v', bd3.keep (q _ n1), ?_, L3.keep (q _ n2), ⟨.inl hF.1, .inl hF.2.1, .inl hF.2.2.1, fun g hg => (hv' g hg).2⟩, ?_, Dsk.push_ok hok i s hi hs⟩, ?_, by rw [b3.cell]; rfl, b3.free 1⟩
  · have e : undCells (D.push i s).und = undCells D.und ++ wayCells (i, s) := by simp [undCells, Dsk.push]
    have e2 : (D.push i s).und.length = D.und.length + 1 := by simp [Dsk.push]
    rw [e, e2]
    exact ownsRow_keep ho (fun g hg => q g (hv' g hg).1)
  · intro k hk
    have := hb p hF.1
    rcases hk with hk | hk
    · have := hb k hk; rw [hs4]; omega
    · rw [hs4] at hk ⊢; omega
  · have f1 : Fr F w w1 := ((Fr.refl F w).alloc A).drew.grown g1 (fun k hk => by cases hk; exact .inl hF.2.2.1)
    have f3 : Fr F w w3 := (f1.drew.alloc B).grown g3 (fun k hk => .inl (hF.2.2.2 k hk))
    exact f3.setCell (.inl hF.1) _

set_option maxRecDepth 100000 in
set_option maxHeartbeats 400000 in
theorem write_ok (w : World) (F : Nat → Prop) (p : Nat) (D : Dsk) (E : Nat → Addr) (hd : DiskAt w F p D) (i : Nat) (s : List UInt8) (h12 : ErrAt w E 12) (hoff : D.off = false) (hi : i < D.n) (hs : s.length = 256) (hul : D.und.length < 1073741824) :
    Calls Tryd.prog 32 #[.pointer (some ⟨p, 0, none⟩), .int .i64 i, .string ⟨s.toArray⟩] w fun e w' => e = .returned (errV E (D.writeE i s)) ∧ ∃ F', DiskAt w' F' p (D.writeD i s) ∧ Fr F w w' ∧ ∀ k, F' k → F k ∨ w.heap.size ≤ k := by
  have hok := hd.good
  have hhas : D.has i = true := by simp [Dsk.has, hi]
  have Hc := Lib.hid (has_any w F p D hd i)
  rw [hhas] at Hc
  obtain ⟨c3, -⟩ := hd.cell
  rw [hoff] at c3
  have Hs := Lib.hid hs
  have hs1 : ((s.length : Int) != 256) = false := by rw [hs]; rfl
  have hb2 := hok.n2
  obtain ⟨pd, pm, uv, hp, hpd, hu, hm, hF, hb, -⟩ := hd
  have c1 : w.cell? ⟨p, 1, none⟩ = some uv := by rw [hp.cell]; rfl
  have c2 : w.cell? ⟨p, 2, none⟩ = some (.map (some pm)) := by rw [hp.cell]; rfl
  have huv : ∃ a c, uv = .slice a D.und.length c := by
    rcases hu.2 with h | ⟨g, cap, cur, hv, _⟩
    · exact ⟨none, 0, by rw [h.1, h.2]⟩
    · exact ⟨_, _, hv⟩
  obtain ⟨ua, uc, rfl⟩ := huv
  have lp := hp.lt
  have lm := hm.lt
  have npm : pm ≠ p := by obtain ⟨_, ⟨_, _, h, _⟩, _⟩ := hm; exact hp.ne_map h
  have f1 := hp.free 1
  have hoff' := Lib.hid hoff
  have Hp := Lib.hid hF.1
  have HD := Lib.hid (And.intro hp (And.intro hpd (And.intro hu (And.intro hm (And.intro hF (And.intro hb hok))))))
  have HU : Hid (w.ownsRow 0 138 257 (.slice ua D.und.length uc) D.und.length (undCells D.und) ∧ ∀ g, (Value.slice ua D.und.length uc).ownBlock = some g → g < w.heap.size ∧ g ≠ pm) :=
    ⟨hu, fun g hg => ⟨(hu.lt g hg).2, by
      obtain ⟨_, ⟨_, _, h, _⟩, _⟩ := hm
      intro e; subst e
      rcases hu.2 with h1 | ⟨g', cap, cur, hv, _, hh, _⟩
      · rw [h1.1] at hg; simp [Value.ownBlock] at hg
      · rw [hv] at hg; simp [Value.ownBlock] at hg; subst hg; rw [h] at hh; cases hh⟩⟩
  have HL : Hid (LastAt (w.alloc (.cells (wayCells (i, s)).toArray 138)).drew pm D.und) := hm.keep (Below.heap_alloc _ _ _ hm.lt)
  clear hok hhas hoff hs hp hpd hu hm hF hb
  go_enter Tryd.func32, Tryd.ntmps32
  go_upto_region 7 with (first | (go_at_call 78; refine Hc.out.mono ?_; rintro e w' ⟨rfl, rfl⟩))

  go_upto_region 8 with (first | ((with_reducible refine wpList_build_as ?_ 138 [(0, .tmp 22)] ?_ (rawWay i).toArray ?_ ?_); (rfl); (rfl); (exact built_write i)) | ((with_reducible refine wpList_store_top ?_ 138 (.tmp 7) (.tmp 23) ?_ _ (rawWay i).toArray _ ?_ ?_ (by rw [Tryd.zeroCells138_size, List.size_toArray, rawWay_length]) (by rw [info_write, List.size_toArray, rawWay_length]) (rawWay_one i) ?_); (rfl); (rfl); (rfl); (rfl)))
  go_frame
  go_upto_region 9 with (first | ((with_reducible refine wpList_copy_str_top ?_ (.tmp 25) (.tmp 26) 112 9 5 ?_ Tryd.underlying112 info_byte 1 256 256 s (rawWay i) (wayCells (i, s)) _ ?_ ?_ (by rw [rawWay_length]; simp [Hs.out]) (lay_way i s Hs.out) ?_); (rfl); (rfl); (rfl); (rfl)))
  go_frame
  refine wp_region_tail 10 (by kernel_rfl) (by kernel_rfl) ?_
  simp only [List.take_succ_cons, List.take_zero, List.drop_succ_cons, List.drop_zero]
  repeat still_step
  refine wpStill_nil ?_
  (with_reducible refine wpList_update_last ?_ (.tmp 31) (.tmp 32) (.tmp 37) ?_ pm D.und i s ?_ ?_ ?_ HL.out (by omega) hul ?_); rfl; rfl; rfl; rfl; rfl
  intro w1 hw1
  have hsz : (w.alloc (.cells (wayCells (i, s)).toArray 138)).drew.heap.size = w.heap.size + 1 := by simp
  have hk : ∀ k, k ≤ w.heap.size → k ≠ pm → w1.heap[k]? = (w.alloc (.cells (wayCells (i, s)).toArray 138)).heap[k]? := fun k h1 h2 => hw1.out.2.block k (by rw [hsz]; omega) (by simpa using h2)
  have d1 : w1.cell? ⟨p, 1, none⟩ = some (.slice ua D.und.length uc) := by
    rw [World.cell?_of_block (hk p (by omega) (by omega)), ← c1]; exact World.cell?_of_block (Below.heap_alloc _ _ _ lp)
  have e1 : w1.frozen? ⟨p, 1, none⟩ = false := by
    rw [World.frozen?_of_block (hk p (by omega) (by omega)), ← f1]; exact World.frozen?_of_block (Below.heap_alloc _ _ _ lp)
  have Hr : Hid (w1.rangeAt w.heap.size 0 (wayCells (i, s))) := fun j v hj => (World.cell?_of_block (w := w.alloc _) (hk w.heap.size (by omega) (by omega))).trans (range_new w _ _ j v hj)
  have hk1 : p < w1.heap.size := by have := hw1.out.2.size; rw [hsz] at this; omega
  have HO : Hid ((w1.drew.alloc (.cells (wayCells (i, s)).toArray 138)).ownsRow 0 138 257 (.slice ua D.und.length uc) D.und.length (undCells D.und)) := by
    refine ownsRow_keep (w := w) HU.out.1 (fun g hg => ?_)
    have h2 := HU.out.2 g hg
    have h3 := hw1.out.2.size
    rw [hsz] at h3
    exact (Below.heap_alloc w1.drew _ g (by simpa using (by omega : g < w1.heap.size))).trans ((hk g (by omega) h2.2).trans (Below.heap_alloc _ _ _ h2.1))
  have Hk := Lib.hid hk
  clear hk
  go_upto_region 10 with (fail)
  refine wp_region_reads 6 7 (fun w' => w'.cell? ⟨p, 1, none⟩ = some (.slice ua D.und.length uc) ∧ w'.rangeAt w.heap.size 0 (wayCells (i, s))) (by kernel_rfl) ?hBB ?hQQ ?hSS ?hMM
  case hBB => kernel_rfl
  case hQQ => intro c a d v w h; cases d <;> exact h
  case hSS => exact ⟨d1, Hr.out⟩
  simp only [List.take_succ_cons, List.take_zero, List.drop_succ_cons, List.drop_zero, Nat.reduceSub]
  refine readsT_move rfl _ rfl (.pointer (some ⟨p, 0, none⟩)) rfl ?_
  go_frame
  refine readsT_move rfl _ rfl (.pointer (some ⟨p, 0, none⟩)) rfl ?_
  go_frame
  refine readsT_pure rfl rfl (.pointer (some ⟨p, 0, none⟩)) (fun w' => by go_simp) ?_
  go_frame
  refine readsT_pure rfl rfl (.pointer (some ⟨p, 1, none⟩)) (fun w' => by go_simp) ?_
  go_frame
  refine readsT_load rfl rfl (.slice ua D.und.length uc) (fun w' hS => by have hS1 := hS.1; clear hS; go_simp) ?_
  go_frame
  refine readsT_load_mid rfl 138 (.tmp 7) rfl w.heap.size 0 rfl (wayCells (i, s)) _ (fun w' hS => hS.2) Tryd.underlying138 rfl (by rw [info_write, wayCells_len _ _ Hs.out]) ?_
  go_frame
  unfold readsT
  refine earlyT_step rfl (wp_buildSlice_one 131 138 (.tmp 43) rfl Tryd.underlying131 257 (by kernel_rfl) (.agg (wayCells (i, s)).toArray) rfl (wayCells (i, s)).toArray rfl (by rw [List.size_toArray, wayCells_len _ _ Hs.out]) (by omega) (by omega) ⟨?_, ?_⟩)
  · exact ⟨(World.cell?_of_block (w := w1.drew) (Below.heap_alloc _ _ _ (by have := hk1; simpa using this))).trans d1, World.rangeAt_alloc Hr.out _⟩
  unfold earlyT
  go_frame
  have hB : (w1.drew.alloc (.cells (wayCells (i, s)).toArray 138)).rangeAt w1.heap.size 0 (wayCells (i, s)) := range_new w1.drew _ _
  (with_reducible refine wpList_append_row ?_ (.tmp 42) (.tmp 44) 131 138 ?_ Tryd.underlying131 257 264 (by kernel_rfl) (by omega) (.slice ua D.und.length uc) D.und.length (undCells D.und) ?_ HO.out w1.heap.size 0 1 1 (wayCells (i, s)) ?_ (by rw [wayCells_len _ _ Hs.out]) hB (wayCells_one _) (by unfold maxLen; omega) (by omega) ?_); rfl; rfl; rfl; rfl
  intro vn w3 hw3
  obtain ⟨va, vc, rfl⟩ := own_shape hw3.out.1
  have HP := Lib.hid (pushed HD.out.1 HD.out.2.1 HD.out.2.2.1 HD.out.2.2.2.1 HD.out.2.2.2.2.1 HD.out.2.2.2.2.2.1 HD.out.2.2.2.2.2.2 hi Hs.out hw1.out hw3.out)
  have d3 := HP.out.2.2.1
  have e3 := HP.out.2.2.2
  go_frame
  go_upto_region 11 with (fail)
  obtain ⟨D1, hD1⟩ : ∃ D1, D1 = D.push i s := ⟨_, rfl⟩
  obtain ⟨w4, hw4⟩ : ∃ w4, w4 = w3.setCell ⟨p, 1, none⟩ (.slice va (D.und.length + 1) vc) := ⟨_, rfl⟩
  have G := goes_any w4 (grow F w w4) p D1 (by rw [hw4, hD1]; exact HP.out.1)
  rw [← hw4]
  have hdd : D1.dead = D.dead := by rw [hD1]; rfl
  rw [hdd] at G
  have HF4 : Hid (Fr F w w4) := by rw [hw4]; exact HP.out.2.1
  have HD1 := Lib.hid hD1
  have h12' := h12
  have hh12 : ErrAt w4 E 12 := h12.keep HF4.out (fun k hk => (HD.out.2.2.2.2.2.1 k hk).1) (by decide)
  have HE : Hid (D.writeE i s = if D.dead then 12 else 0) := by
    have h1 : D.off = false := hoff'.out
    have h2 : D.has i = true := by simp [Dsk.has, hi]
    show _ = _
    simp [Dsk.writeE, h1, h2, Hs.out]
  have HW : Hid (D.writeD i s = if D.dead then D1.gone else { D1.gone with writes := w64 (D1.gone.writes + 1) }) := by
    have h1 : D.off = false := hoff'.out
    have h2 : D.has i = true := by simp [Dsk.has, hi]
    show _ = _
    rw [HD1.out]
    simp [Dsk.writeD, h1, h2, Hs.out, Dsk.push]
  have Hgr : Hid (∀ w', Fr (grow F w w4) w4 w' → Fr F w w') := fun w' h => HF4.out.trans h (fun k hk => hk.imp id (fun q => q.1))
  have Hb := Lib.hid HD.out.2.2.2.2.2.1
  clear hD1 hdd hw4 HP hw3 hw1 HO d1 e1 d3 e3 c1 c2 c3 f1 HL HU h12' HD hB
  by_cases hdead : D.dead = true
  · rw [hdead] at G
    have GH := Lib.hid G
    have Hdead := Lib.hid hdead
    have H12 := Lib.hid hh12
    clear G hdead hh12
    go_upto_region 12 with (go_at_call 76; refine GH.out.mono ?_; rintro e w5 ⟨rfl, hd5⟩; have Hd5 := Lib.hid hd5; have e12 : w5.cell? ⟨2, 0, none⟩ = some (errV E 12) := (H12.out.keep hd5.2 (fun k hk => by rcases hk with hk | hk; exact (Hb.out k hk).1; have := (Hb.out p Hp.out).1; omega) (by decide)); clear hd5)
    go_wp2
    go_ret
    refine ⟨show Ending.returned (errV E 12) = .returned (errV E (D.writeE i s)) from by rw [HE.out, Hdead.out]; rfl, grow F w w4, ?_, Hgr.out _ Hd5.out.2, fun k hk => hk.imp id (fun q => q.1)⟩
    rw [HW.out, Hdead.out]; exact Hd5.out.1
  · have hdead : D.dead = false := by simpa using hdead
    rw [hdead] at G
    have GH := Lib.hid G
    have Hdead := Lib.hid hdead
    clear G hdead hh12
    go_upto_region 13 with (go_at_call 76; refine GH.out.mono ?_; rintro e w5 ⟨rfl, hd5⟩; have c5 := hd5.1.cell.2.2.1; have f5 := hd5.1.cell.2.2.2.2.2 5; have Hd5 := Lib.hid hd5; clear hd5)
    go_wp2
    go_ret
    refine ⟨show Ending.returned Value.nilIface = .returned (errV E (D.writeE i s)) from by rw [HE.out, Hdead.out]; rfl, grow F w w4, ?_, Hgr.out _ (Hd5.out.2.setCell (.inl (.inl Hp.out)) _), fun k hk => hk.imp id (fun q => q.1)⟩
    rw [HW.out, Hdead.out]
    simp only [Bool.false_eq_true, if_false]
    refine Hd5.out.1.store 5 _ _ rfl rfl rfl (fun a u m => ?_) ?_
    · rfl
    · have := Hd5.out.1.good; exact ⟨this.n1, this.n2, this.len, this.und, this.arm1, this.arm2⟩
end Go.Proofs.YteklldbfdmaafaaDoor
/-
  The disk's Write, refused; every Write.
-/
namespace Go.Proofs.YteklldbfdmaafaaDoor
open Go Go.RowKit

theorem write_off (w : World) (F : Nat → Prop) (p : Nat) (D : Dsk) (E : Nat → Addr) (hd : DiskAt w F p D) (i : Int) (s : List UInt8) (h12 : ErrAt w E 12) (ho : D.off = true) :
    Calls Tryd.prog 32 #[.pointer (some ⟨p, 0, none⟩), .int .i64 i, .string ⟨s.toArray⟩] w fun e w' => e = .returned (errV E 12) ∧ w = w' := by
  obtain ⟨c3, -⟩ := hd.cell
  have e12 : w.cell? ⟨2, 0, none⟩ = some (errV E 12) := h12
  rw [ho] at c3
  clear h12 hd ho
  go_enter Tryd.func32, Tryd.ntmps32
  go_wp2
  all_goals go_ret
  all_goals exact ⟨rfl, rfl⟩
theorem write_out (w : World) (F : Nat → Prop) (p : Nat) (D : Dsk) (E : Nat → Addr) (hd : DiskAt w F p D) (i : Int) (s : List UInt8) (h6 : ErrAt w E 6) (ho : D.off = false) (hh : D.has i = false) :
    Calls Tryd.prog 32 #[.pointer (some ⟨p, 0, none⟩), .int .i64 i, .string ⟨s.toArray⟩] w fun e w' => e = .returned (errV E 6) ∧ w = w' := by
  have Hc := Lib.hid (has_any w F p D hd i)
  obtain ⟨c3, -⟩ := hd.cell
  have e6 : w.cell? ⟨3, 0, none⟩ = some (errV E 6) := h6
  rw [ho] at c3
  rw [hh] at Hc
  clear h6 hd ho hh
  go_enter Tryd.func32, Tryd.ntmps32
  go_wp2_with (first | (go_at_call 78; refine Hc.out.mono ?_; rintro e w' ⟨rfl, rfl⟩))
  all_goals go_ret
  all_goals exact ⟨rfl, rfl⟩
theorem write_form (w : World) (F : Nat → Prop) (p : Nat) (D : Dsk) (E : Nat → Addr) (hd : DiskAt w F p D) (i : Int) (s : List UInt8) (h7 : ErrAt w E 7) (ho : D.off = false) (hh : D.has i = true) (hs : s.length ≠ 256) :
    Calls Tryd.prog 32 #[.pointer (some ⟨p, 0, none⟩), .int .i64 i, .string ⟨s.toArray⟩] w fun e w' => e = .returned (errV E 7) ∧ w = w' := by
  have Hc := Lib.hid (has_any w F p D hd i)
  obtain ⟨c3, -⟩ := hd.cell
  have e7 : w.cell? ⟨4, 0, none⟩ = some (errV E 7) := h7
  rw [ho] at c3
  rw [hh] at Hc
  have hs1 : ((s.length : Int) != 256) = true := by rw [bne_iff_ne]; omega
  clear h7 hd ho hh hs
  go_enter Tryd.func32, Tryd.ntmps32
  go_wp2_with (first | (go_at_call 78; refine Hc.out.mono ?_; rintro e w' ⟨rfl, rfl⟩))
  all_goals go_ret
  all_goals exact ⟨rfl, rfl⟩

theorem write_any (w : World) (F : Nat → Prop) (p : Nat) (D : Dsk) (E : Nat → Addr) (hd : DiskAt w F p D) (i : Int) (s : List UInt8) (h12 : ErrAt w E 12) (h6 : ErrAt w E 6) (h7 : ErrAt w E 7) (hul : D.und.length < 1073741824) :
    Calls Tryd.prog 32 #[.pointer (some ⟨p, 0, none⟩), .int .i64 i, .string ⟨s.toArray⟩] w fun e w' => e = .returned (errV E (D.writeE i s)) ∧ ∃ F', DiskAt w' F' p (D.writeD i s) ∧ Fr F w w' ∧ ∀ k, F' k → F k ∨ w.heap.size ≤ k := by
  have same : ∀ e w', e = w → w = w' → ∀ D', D' = D → ∃ F', DiskAt w' F' p D' ∧ Fr F w w' ∧ ∀ k, F' k → F k ∨ w.heap.size ≤ k := by
    rintro _ w' - rfl _ rfl
    exact ⟨F, hd, Fr.refl _ _, fun k hk => .inl hk⟩
  by_cases ho : D.off = true
  · have e1 : D.writeE i s = 12 := by simp [Dsk.writeE, ho]
    have e2 : D.writeD i s = D := by simp [Dsk.writeD, ho]
    rw [e1, e2]
    refine (write_off w F p D E hd i s h12 ho).mono ?_
    rintro e w' ⟨rfl, h⟩
    exact ⟨rfl, same w w' rfl h _ rfl⟩
  have ho : D.off = false := by simpa using ho
  by_cases hh : D.has i = true
  · by_cases hs : s.length = 256
    · have hi : 0 ≤ i ∧ i < D.n := by simpa [Dsk.has] using hh
      obtain ⟨j, rfl⟩ := Int.eq_ofNat_of_zero_le hi.1
      exact write_ok w F p D E hd j s h12 ho (by omega) hs hul
    · have e1 : D.writeE i s = 7 := by simp [Dsk.writeE, ho, hh, hs]
      have e2 : D.writeD i s = D := by simp [Dsk.writeD, ho, hh, hs]
      rw [e1, e2]
      refine (write_form w F p D E hd i s h7 ho hh hs).mono ?_
      rintro e w' ⟨rfl, h⟩
      exact ⟨rfl, same w w' rfl h _ rfl⟩
  · have hh : D.has i = false := by simpa using hh
    have e1 : D.writeE i s = 6 := by simp [Dsk.writeE, ho, hh]
    have e2 : D.writeD i s = D := by simp [Dsk.writeD, ho, hh]
    rw [e1, e2]
    refine (write_out w F p D E hd i s h6 ho hh).mono ?_
    rintro e w' ⟨rfl, h⟩
    exact ⟨rfl, same w w' rfl h _ rfl⟩
end Go.Proofs.YteklldbfdmaafaaDoor
/-
  The disk's Flush.
-/
namespace Go.Proofs.YteklldbfdmaafaaDoor
open Go Go.RowKit

/-- the flush's loop behind k writes -/
structure Flushing (w : World) (F : Nat → Prop) (p pd pm : Nat) (uv : Value) (D : Dsk) (img : List UInt8) (wr : World) : Prop where
  hp : Blk wr p [.slice (some ⟨pd, 0, none⟩) D.n D.n, uv, .map (some pm), .bool D.off, .int .i64 D.armed, .int .i64 D.writes, .int .i64 D.flushes, .int .i64 D.life] 134
  hpd : Blk wr pd (bvs img) 136
  hu : wr.ownsRow 0 138 257 uv D.und.length (undCells D.und)
  hm : LastAt wr pm D.und
  fr : Fr F w wr

theorem bvs_lay (img b : List UInt8) (o : Nat) : lay (bvs img) o (bvs b) = bvs (lay img o b) := by simp [lay, bvs, List.map_take, List.map_drop]

theorem Flushing.next {w wr : World} {F : Nat → Prop} {p pd pm : Nat} {uv : Value} {D : Dsk} {img : List UInt8} (h : Flushing w F p pd pm uv D img wr) (hF : F pd) (O : Obj) (j : Nat) (b : List UInt8) :
    Flushing w F p pd pm uv D (lay img j b) ((wr.alloc O).drew.setRow pd (bvs (lay img j b)).toArray) := by
  obtain ⟨hp, hpd, hu, hm, fr⟩ := h
  have n1 : p ≠ pd := hp.ne hpd (by decide)
  have n3 : pm ≠ pd := by obtain ⟨_, ⟨_, _, h, _⟩, _⟩ := hm; exact hpd.ne_map h
  have k : ∀ i, i < wr.heap.size → i ≠ pd → ((wr.alloc O).drew.setRow pd (bvs (lay img j b)).toArray).heap[i]? = wr.heap[i]? := fun i h1 h2 =>
    (setRow_other _ _ _ _ h2).trans (Below.heap_alloc _ _ _ h1)
  have hpd' : Blk (wr.alloc O).drew pd (bvs img) 136 := hpd.keep (Below.heap_alloc _ _ _ hpd.lt)
  exact ⟨hp.keep (k p hp.lt n1), hpd'.row _, ownsRow_keep hu (fun g hg => k g (hu.lt g hg).2 (hpd.ne_row hu hg (by decide))), hm.keep (k pm hm.lt n3), ((fr.alloc _).drew).setRow (.inl hF) _⟩

theorem all_way (x : Nat × List UInt8) : (wayCells x).toArray.all (·.oneCell') = true := by
  rw [Array.all_eq_true_iff_forall_mem]
  intro v hv
  exact wayCells_one x v (by simpa using hv)

set_option maxRecDepth 100000 in
set_option maxHeartbeats 1000000 in
theorem flush_ok (w : World) (F : Nat → Prop) (p : Nat) (D : Dsk) (hd : DiskAt w F p D) (hoff : D.off = false) (hdead : D.dead = false) (hul : D.und.length < 1073741824) :
    Calls Tryd.prog 24 #[.pointer (some ⟨p, 0, none⟩)] w fun e w' => e = .returned .nilIface ∧ DiskAt w' F p D.flushD ∧ Fr F w w' := by
  have HG := Lib.hid (goes_any w F p D hd)
  obtain ⟨c3, -⟩ := hd.cell
  rw [hoff] at c3
  rw [hdead] at HG
  have HR : Hid (D.flushD = { D.gone with img := layAll D.img D.und, und := [], flushes := w64 (D.flushes + 1) }) := by
    show _ = _
    simp [Dsk.flushD, hoff, hdead]
  clear hd hoff hdead
  go_enter Tryd.func24, Tryd.ntmps24
  go_upto_region 3 with (go_at_call 76; refine HG.out.mono ?_; rintro e w1 ⟨rfl, hd1⟩; have Hd1 := Lib.hid hd1; clear hd1)
  obtain ⟨hd1, hf1⟩ := Hd1
  obtain ⟨pd, pm, uv, hp, hpd, hu, hm, hF, hb, hok⟩ := hd1
  obtain ⟨ua, uc, rfl⟩ := own_shape hu
  have c1 : w1.cell? ⟨p, 1, none⟩ = some (.slice ua D.gone.und.length uc) := by rw [hp.cell]; rfl
  have hul' : D.gone.und.length < 1073741824 := by rw [Dsk.gone_und]; exact hul
  have HI := Lib.hid (And.intro hF (And.intro hb hok))
  have HI0 := Lib.hid (Flushing.mk (w := w1) (F := F) (img := D.gone.img) hp hpd hu hm (Fr.refl F w1))
  have Hf1 := Lib.hid hf1
  clear hp hpd hu hm hF hb hok hf1 c3
  go_wp2_with (fail)
  go_loopw [19] (fun x wr => ∃ k : Nat, k ≤ D.gone.und.length ∧ x = .int .i64 k ∧ Hid (Flushing w1 F p pd pm (.slice ua D.gone.und.length uc) D.gone (layAll D.gone.img (D.gone.und.take k)) wr)) (fun x _ => D.gone.und.length - (intOf x).toNat)
  case atStart => exact ⟨0, Nat.zero_le _, rfl, by rw [List.take_zero]; exact HI0.out⟩
  case round =>
    obtain ⟨k, hk, rfl, HK⟩ := hrel
    have hokg := HI.out.2.2
    have b2 := hokg.n2
    by_cases hlt : k < D.gone.und.length
    · obtain ⟨j, b, hkj⟩ : ∃ j b, D.gone.und[k]? = some (j, b) := ⟨(D.gone.und[k]).1, (D.gone.und[k]).2, by rw [List.getElem?_eq_getElem hlt]⟩
      have hjb := hokg.und _ (List.mem_of_getElem? hkj)
      have hj : j < D.gone.n := hjb.1
      have Hbl : Hid (b.length = 256) := hjb.2
      obtain ⟨g, cap, hv, hc1, hc2, hgl, hg⟩ := under_at HK.out.hu hokg.und k j b hkj
      cases hv
      unfold maxLen at hc2
      have c0 : wr.cell? ⟨p, 0, none⟩ = some (.slice (some ⟨pd, 0, none⟩) D.gone.n D.gone.n) := by rw [HK.out.hp.cell]; rfl
      have lpr := HK.out.hp.lt
      have Hg := Lib.hid hg
      have Hkj := Lib.hid hkj
      clear hokg hjb hg hkj
      have HS : Hid ((wr.alloc (.cells (wayCells (j, b)).toArray 138)).drew.cell? ⟨p, 0, none⟩ = some (.slice (some ⟨pd, 0, none⟩) D.gone.n D.gone.n) ∧ (wr.alloc (.cells (wayCells (j, b)).toArray 138)).drew.cell? ⟨wr.heap.size, 0, none⟩ = some (.int .i64 j) ∧ (wr.alloc (.cells (wayCells (j, b)).toArray 138)).drew.rangeAt wr.heap.size 1 (bvs b)) := by
        have hrn := range_new wr (wayCells (j, b)) 138
        refine ⟨(World.cell?_of_block (w := wr) (Below.heap_alloc _ _ _ lpr)).trans c0, hrn 0 _ rfl, fun z v hz => ?_⟩
        have := hrn (z + 1) v (by simpa [wayCells] using hz)
        rw [show 1 + z = 0 + (z + 1) by omega]; exact this
      have HB2 : Hid (Blk (wr.alloc (.cells (wayCells (j, b)).toArray 138)).drew pd (bvs (layAll D.gone.img (D.gone.und.take k))) 136) := HK.out.hpd.keep (Below.heap_alloc _ _ _ HK.out.hpd.lt)
      have Hlen : Hid ((layAll D.gone.img (D.gone.und.take k)).length = 256 * D.gone.n) := layAll_length _ _ _ HI.out.2.2.len (fun x hx => HI.out.2.2.und x (List.mem_of_mem_take hx))
      go_upto_region 6 with (first | ((with_reducible refine wpList_load_mid ?_ 138 (.tmp 21) ?_ g (k * 257) ?_ (wayCells (j, b)) _ Hg.out Tryd.underlying138 rfl (by rw [info_write, wayCells_len _ _ Hbl.out]) ?_); (rfl); (rfl); (rfl)) | ((with_reducible refine wpList_store_top ?_ 138 (.tmp 4) (.tmp 22) ?_ _ (wayCells (j, b)).toArray _ ?_ ?_ (by rw [Tryd.zeroCells138_size, List.size_toArray, wayCells_len _ _ Hbl.out]) (by rw [info_write, List.size_toArray, wayCells_len _ _ Hbl.out]) (all_way _) ?_); (rfl); (rfl); (rfl); (rfl)))
      go_frame
      refine wp_region_reads 9 9 (fun w' => w'.cell? ⟨p, 0, none⟩ = some (.slice (some ⟨pd, 0, none⟩) D.gone.n D.gone.n) ∧ w'.cell? ⟨wr.heap.size, 0, none⟩ = some (.int .i64 j) ∧ w'.rangeAt wr.heap.size 1 (bvs b)) (by kernel_rfl) ?hBB ?hQQ ?hSS ?hMM
      case hBB => kernel_rfl
      case hQQ => intro c a d v w h; cases d <;> exact h
      case hSS => exact HS.out
      simp only [List.take_succ_cons, List.take_zero, List.drop_succ_cons, List.drop_zero, Nat.reduceSub]
      refine readsT_move rfl _ rfl (.pointer (some ⟨p, 0, none⟩)) rfl ?_
      go_frame
      refine readsT_pure rfl rfl (.pointer (some ⟨p, 0, none⟩)) (fun w' => by go_simp) ?_
      go_frame
      refine readsT_pure rfl rfl (.pointer (some ⟨p, 0, none⟩)) (fun w' => by go_simp) ?_
      go_frame
      refine readsT_load rfl rfl (.slice (some ⟨pd, 0, none⟩) D.gone.n D.gone.n) (fun w' hS => by have hS1 := hS.1; clear hS; go_simp) ?_
      go_frame
      refine readsT_pure rfl rfl (.pointer (some ⟨wr.heap.size, 0, none⟩)) (fun w' => by go_simp) ?_
      go_frame
      refine readsT_load rfl rfl (.int .i64 j) (fun w' hS => by have hS1 := hS.2.1; clear hS; go_simp) ?_
      go_frame
      refine readsT_pure rfl rfl (.pointer (some ⟨wr.heap.size, 1, none⟩)) (fun w' => by go_simp) ?_
      go_frame
      refine readsT_load_mid rfl 136 (.tmp 29) rfl wr.heap.size 1 rfl (bvs b) _ (fun w' hS => hS.2.2) Tryd.underlying136 rfl (by rw [info_block, bvs_length, Hbl.out]) ?_
      go_frame
      refine readsT_pure rfl rfl (.pointer (some ⟨pd, j * 256, none⟩)) (fun w' => by go_simp) ?_
      go_frame
      unfold readsT earlyT
      (with_reducible refine wpList_store_lay ?_ 136 (.tmp 31) (.tmp 30) ?_ pd (j * 256) _ (bvs b) 136 ?_ ?_ HB2.out (by rw [bvs_length, bvs_length, Hlen.out, Hbl.out]; omega) (by rw [info_block, bvs_length, Hbl.out]) (bvs_one _) ?_); rfl; rfl; rfl; rfl
      go_wp2
      go_roundw
      case rel =>
        refine ⟨k + 1, by omega, by go_num, ?_⟩
        have := HK.out.next HI.out.1.2.1 (.cells (wayCells (j, b)).toArray 138) (j * 256) b
        rw [layAll_take _ _ _ _ _ Hkj.out, bvs_lay]
        exact this
      case measure => simp [intOf]; omega
    · have hkk : k = D.gone.und.length := by omega
      obtain ⟨Df, hDf⟩ : ∃ Df : Dsk, Df = { D.gone with img := layAll D.gone.img D.gone.und } := ⟨_, rfl⟩
      have hlen : (layAll D.gone.img D.gone.und).length = 256 * D.gone.n := layAll_length _ _ _ hokg.len hokg.und
      have hdr : DiskAt wr F p Df := by
        have hk2 := HK.out
        rw [hkk, List.take_length] at hk2
        rw [hDf]
        exact ⟨pd, pm, _, hk2.hp, hk2.hpd, hk2.hu, hk2.hm, HI.out.1, fun i hi => ⟨(HI.out.2.1 i hi).1, Nat.lt_of_lt_of_le (HI.out.2.1 i hi).2 hk2.fr.size⟩, ⟨hokg.n1, hokg.n2, hlen, hokg.und, hokg.arm1, hokg.arm2⟩⟩
      have HSt := Lib.hid (settled_any wr F p Df hdr)
      have HDf : Hid (D.flushD = { Df.clr with flushes := w64 (Df.clr.flushes + 1) }) := by
        show _ = _
        rw [HR.out, hDf]
        simp only [Dsk.clr, Dsk.gone_und, Dsk.gone_img, Dsk.gone_flushes]
      have HFr : Hid (Fr F w wr) := Hf1.out.trans' HK.out.fr
      clear hokg hkk hDf hlen hdr HK
      go_upto_region 10 with (go_at_call 77; refine HSt.out.mono ?_; rintro e w2 ⟨rfl, hd2⟩; have c6 := hd2.1.cell.2.2.2.1; have f6 := hd2.1.cell.2.2.2.2.2 6; have Hd2 := Lib.hid hd2; clear hd2)
      go_wp2
      go_ret
      refine ⟨rfl, ?_, (HFr.out.trans' Hd2.out.2).setCell (.inl HI.out.1.1) _⟩
      rw [HDf.out]
      refine Hd2.out.1.store 6 _ _ rfl rfl rfl (fun a u m => rfl) ?_
      have := Hd2.out.1.good; exact ⟨this.n1, this.n2, this.len, this.und, this.arm1, this.arm2⟩

theorem flush_dead (w : World) (F : Nat → Prop) (p : Nat) (D : Dsk) (E : Nat → Addr) (hd : DiskAt w F p D) (h12 : ErrAt w E 12) (hoff : D.off = false) (hdead : D.dead = true) :
    Calls Tryd.prog 24 #[.pointer (some ⟨p, 0, none⟩)] w fun e w' => e = .returned (errV E 12) ∧ DiskAt w' F p D.gone ∧ Fr F w w' := by
  have HG := Lib.hid (goes_any w F p D hd)
  have HB := Lib.hid hd.bound
  obtain ⟨c3, -⟩ := hd.cell
  rw [hoff] at c3
  rw [hdead] at HG
  have H12 := Lib.hid h12
  clear hd hoff hdead h12
  go_enter Tryd.func24, Tryd.ntmps24
  go_upto_region 2 with (go_at_call 76; refine HG.out.mono ?_; rintro e w1 ⟨rfl, hd1⟩; have e12 : w1.cell? ⟨2, 0, none⟩ = some (errV E 12) := H12.out.keep hd1.2 (fun k hk => (HB.out k hk).1) (by decide); have Hd1 := Lib.hid hd1; clear hd1)
  go_wp2
  go_ret
  exact ⟨rfl, Hd1.out⟩
theorem flush_off (w : World) (F : Nat → Prop) (p : Nat) (D : Dsk) (E : Nat → Addr) (hd : DiskAt w F p D) (h12 : ErrAt w E 12) (hoff : D.off = true) :
    Calls Tryd.prog 24 #[.pointer (some ⟨p, 0, none⟩)] w fun e w' => e = .returned (errV E 12) ∧ w = w' := by
  obtain ⟨c3, -⟩ := hd.cell
  rw [hoff] at c3
  have e12 : w.cell? ⟨2, 0, none⟩ = some (errV E 12) := h12
  clear hd hoff h12
  go_enter Tryd.func24, Tryd.ntmps24
  go_wp2
  all_goals go_ret
  all_goals exact ⟨rfl, rfl⟩
theorem flush_any (w : World) (F : Nat → Prop) (p : Nat) (D : Dsk) (E : Nat → Addr) (hd : DiskAt w F p D) (h12 : ErrAt w E 12) (hul : D.und.length < 1073741824) :
    Calls Tryd.prog 24 #[.pointer (some ⟨p, 0, none⟩)] w fun e w' => e = .returned (errV E D.flushE) ∧ DiskAt w' F p D.flushD ∧ Fr F w w' := by
  cases hoff : D.off
  · cases hdead : D.dead
    · have e1 : D.flushE = 0 := by simp [Dsk.flushE, hoff, hdead]
      rw [e1]
      exact flush_ok w F p D hd hoff hdead hul
    · have e1 : D.flushE = 12 := by simp [Dsk.flushE, hoff, hdead]
      have e2 : D.flushD = D.gone := by simp [Dsk.flushD, hoff, hdead]
      rw [e1, e2]
      exact flush_dead w F p D E hd h12 hoff hdead
  · have e1 : D.flushE = 12 := by simp [Dsk.flushE, hoff]
    have e2 : D.flushD = D := by simp [Dsk.flushD, hoff]
    rw [e1, e2]
    refine (flush_off w F p D E hd h12 hoff).mono ?_
    rintro e w' ⟨rfl, rfl⟩
    exact ⟨rfl, hd, Fr.refl _ _⟩
end Go.Proofs.YteklldbfdmaafaaDoor
/-
  The disk's Crash.
-/
namespace Go.Proofs.YteklldbfdmaafaaDoor
open Go Go.RowKit

/-- v is a slice of these bools -/
def BoolsAt (w : World) (v : Value) (l : List Bool) : Prop := ∃ a c, v = .slice a l.length c ∧ (l ≠ [] → ∃ b o, a = some ⟨b, o, none⟩ ∧ b < w.heap.size ∧ w.rangeAt b o (l.map .bool)) ∧ (a = none → c = 0) ∧ l.length ≤ c ∧ c ≤ maxLen

theorem Flushing.skip {w wr : World} {F : Nat → Prop} {p pd pm : Nat} {uv : Value} {D : Dsk} {img : List UInt8} (h : Flushing w F p pd pm uv D img wr) (O : Obj) : Flushing w F p pd pm uv D img (wr.alloc O) := by
  obtain ⟨hp, hpd, hu, hm, fr⟩ := h
  exact ⟨hp.keep (Below.heap_alloc _ _ _ hp.lt), hpd.keep (Below.heap_alloc _ _ _ hpd.lt), hu.alloc _, hm.keep (Below.heap_alloc _ _ _ hm.lt), fr.alloc _⟩

set_option maxRecDepth 100000 in
set_option maxHeartbeats 2000000 in
theorem crash_any (w : World) (F : Nat → Prop) (p : Nat) (D : Dsk) (hd : DiskAt w F p D) (kv : Value) (kept : List Bool) (torn bytes : Int) (hk : BoolsAt w kv kept) (hkF : kept ≠ [] → ∀ g, kv.ownBlock = some g → ¬ F g) (_hul : D.und.length < 1073741824) :
    Calls Tryd.prog 29 #[.pointer (some ⟨p, 0, none⟩), .agg #[kv, .int .i64 torn, .int .i64 bytes]] w fun e w' => e = .returned (.tuple #[]) ∧ DiskAt w' F p (D.crash kept torn bytes) ∧ Fr F w w' := by
  obtain ⟨pd, pm, uv, hp, hpd, hu, hm, hF, hb, hok⟩ := hd
  obtain ⟨ua, uc, rfl⟩ := own_shape hu
  obtain ⟨ka, kc, rfl, hkc, -⟩ := hk
  have lp := hp.lt
  have c1 : w.cell? ⟨p, 1, none⟩ = some (.slice ua D.und.length uc) := by rw [hp.cell]; rfl
  have HI := Lib.hid (And.intro hF (And.intro hb hok))
  have HK := Lib.hid hkc
  have HkF := Lib.hid hkF
  have HI0 : Hid (Flushing (w.alloc (.cells #[.slice ka kept.length kc, .int .i64 torn, .int .i64 bytes] 25)) F p pd pm (.slice ua D.und.length uc) D D.img (w.alloc (.cells #[.slice ka kept.length kc, .int .i64 torn, .int .i64 bytes] 25))) :=
    ⟨hp.keep (Below.heap_alloc _ _ _ hp.lt), hpd.keep (Below.heap_alloc _ _ _ hpd.lt), hu.alloc _, hm.keep (Below.heap_alloc _ _ _ hm.lt), Fr.refl _ _⟩
  clear hp hpd hu hm hF hb hok hkc hkF
  go_enter Tryd.func29, Tryd.ntmps29
  go_wp2_with (fail)
  go_loopw [12] (fun x wr => ∃ k : Nat, k ≤ D.und.length ∧ x = .int .i64 k ∧ Hid (Flushing (w.alloc (.cells #[.slice ka kept.length kc, .int .i64 torn, .int .i64 bytes] 25)) F p pd pm (.slice ua D.und.length uc) D (layDone D.img kept torn bytes (D.und.take k)) wr)) (fun x _ => D.und.length - (intOf x).toNat)
  case atStart => exact ⟨0, Nat.zero_le _, rfl, by rw [List.take_zero]; exact HI0.out⟩
  case round =>
    obtain ⟨k, hk, rfl, HR⟩ := hrel
    have hokg := HI.out.2.2
    have b2 := hokg.n2
    clear HI0
    by_cases hlt : k < D.und.length
    · obtain ⟨j, b, hkj⟩ : ∃ j b, D.und[k]? = some (j, b) := ⟨(D.und[k]).1, (D.und[k]).2, by rw [List.getElem?_eq_getElem hlt]⟩
      have hjb := hokg.und _ (List.mem_of_getElem? hkj)
      have hj : j < D.n := hjb.1
      have Hbl : Hid (b.length = 256) := hjb.2
      obtain ⟨g, cap, hv, hc1, hc2, hgl, hg⟩ := under_at HR.out.hu hokg.und k j b hkj
      cases hv
      unfold maxLen at hc2
      have c0 : wr.cell? ⟨p, 0, none⟩ = some (.slice (some ⟨pd, 0, none⟩) D.n D.n) := by rw [HR.out.hp.cell]; rfl
      have lpr := HR.out.hp.lt
      have hsw : w.heap.size + 1 ≤ wr.heap.size := by have := HR.out.fr.size; simpa using this
      have hsw2 : w.heap.size < wr.heap.size := by omega
      have nF : ¬ F w.heap.size := fun q => by have := (HI.out.2.1 _ q).2; omega
      have fc : ∀ z, wr.cell? ⟨w.heap.size, z, none⟩ = (#[.slice ka kept.length kc, .int .i64 torn, .int .i64 bytes] : Array Value)[z]? := fun z =>
        (HR.out.fr.cell (a := ⟨w.heap.size, z, none⟩) (by simp) nF).trans (cell_of_row _ _ _ _ _ _ (heap_alloc_new w _))
      have f0 : wr.cell? ⟨w.heap.size, 0, none⟩ = some (.slice ka kept.length kc) := fc 0
      have f1 : wr.cell? ⟨w.heap.size, 1, none⟩ = some (.int .i64 torn) := fc 1
      have f2 : wr.cell? ⟨w.heap.size, 2, none⟩ = some (.int .i64 bytes) := fc 2
      have Hg := Lib.hid hg
      have Hkj := Lib.hid hkj
      have HLen : Hid ((layDone D.img kept torn bytes (D.und.take k)).length = 256 * D.n) := layDone_length _ _ _ _ _ _ hokg.len (fun x hx => hokg.und x (List.mem_of_mem_take hx))
      clear hokg hjb hg hkj fc nF c1
      have HS : Hid ((wr.alloc (.cells (wayCells (j, b)).toArray 138)).drew.cell? ⟨p, 0, none⟩ = some (.slice (some ⟨pd, 0, none⟩) D.n D.n) ∧ (wr.alloc (.cells (wayCells (j, b)).toArray 138)).drew.cell? ⟨wr.heap.size, 0, none⟩ = some (.int .i64 j) ∧ (wr.alloc (.cells (wayCells (j, b)).toArray 138)).drew.rangeAt wr.heap.size 1 (bvs b)) := by
        have hrn := range_new wr (wayCells (j, b)) 138
        refine ⟨(World.cell?_of_block (w := wr) (Below.heap_alloc _ _ _ lpr)).trans c0, hrn 0 _ rfl, fun z v hz => ?_⟩
        have := hrn (z + 1) v (by simpa [wayCells] using hz)
        rw [show 1 + z = 0 + (z + 1) by omega]; exact this
      have HB2 : Hid (Blk (wr.alloc (.cells (wayCells (j, b)).toArray 138)).drew pd (bvs (layDone D.img kept torn bytes (D.und.take k))) 136) := HR.out.hpd.keep (Below.heap_alloc _ _ _ HR.out.hpd.lt)
      go_upto_region 4 with (first | ((with_reducible refine wpList_load_mid ?_ 138 (.tmp 15) ?_ g (k * 257) ?_ (wayCells (j, b)) _ Hg.out Tryd.underlying138 rfl (by rw [info_write, wayCells_len _ _ Hbl.out]) ?_); (rfl); (rfl); (rfl)) | ((with_reducible refine wpList_store_top ?_ 138 (.tmp 5) (.tmp 16) ?_ _ (wayCells (j, b)).toArray _ ?_ ?_ (by rw [Tryd.zeroCells138_size, List.size_toArray, wayCells_len _ _ Hbl.out]) (by rw [info_write, List.size_toArray, wayCells_len _ _ Hbl.out]) (all_way _) ?_); (rfl); (rfl); (rfl); (rfl)))
      go_frame
      by_cases htorn : (k : Int) = torn
      · have ht : ((k : Int) == torn) = true := by simpa using htorn
        obtain ⟨nn, hnn, hn256⟩ : ∃ nn : Nat, min (max bytes 0) 256 = nn ∧ nn ≤ 256 := ⟨(min (max bytes 0) 256).toNat, by omega, by omega⟩
        have HDn : Hid (done kept torn bytes k = nn) := by show _ = _; unfold done; rw [if_pos htorn, hnn]; rfl
        have hn1 : (0 : Int) ≤ (nn : Int) := by omega
        have hn2 : (nn : Int) ≤ 256 := by omega
        have HN := Lib.hid hnn
        have Htl : Hid ((bvs (b.take nn)).length = nn) := by show _ = _; rw [bvs_length, List.length_take, Hbl.out]; omega
        have Hrt : Hid ((wr.alloc (.cells (wayCells (j, b)).toArray 138)).drew.rangeAt wr.heap.size 1 (bvs (b.take nn))) := fun z v hz => HS.out.2.2 z v (by rw [← bvs_take] at hz; rw [List.getElem?_take] at hz; split at hz; exact hz; cases hz)
        clear hnn htorn
        go_upto_region 6 with (first | ((with_reducible refine wpList_max2 ?_ (.tmp 23) (.const (.int .i64 0)) 3 3 ?_ bytes 0 (max bytes 0) ?_ ?_ rfl ?_); (rfl); (rfl); (rfl); (rfl)) | ((with_reducible refine wpList_min2 ?_ (.tmp 24) (.const (.int .i64 256)) 3 3 ?_ (max bytes 0) 256 nn ?_ ?_ HN.out ?_); (rfl); (rfl); (rfl); (rfl)))
        refine wp_region_reads 12 12 (fun w' => w'.cell? ⟨p, 0, none⟩ = some (.slice (some ⟨pd, 0, none⟩) D.n D.n) ∧ w'.cell? ⟨wr.heap.size, 0, none⟩ = some (.int .i64 j) ∧ w'.rangeAt wr.heap.size 1 (bvs b)) (by kernel_rfl) ?_ ?_ HS.out ?_
        · kernel_rfl
        · intro c a d v w h; cases d <;> exact h
        simp only [List.take_succ_cons, List.take_zero, List.drop_succ_cons, List.drop_zero, Nat.reduceSub]
        refine readsT_move rfl _ rfl (.pointer (some ⟨p, 0, none⟩)) rfl ?_
        go_frame
        refine readsT_pure rfl rfl (.pointer (some ⟨p, 0, none⟩)) (fun w' => by go_simp) ?_
        go_frame
        refine readsT_pure rfl rfl (.pointer (some ⟨p, 0, none⟩)) (fun w' => by go_simp) ?_
        go_frame
        refine readsT_load rfl rfl (.slice (some ⟨pd, 0, none⟩) D.n D.n) (fun w' hS => by have hS1 := hS.1; clear hS; go_simp) ?_
        go_frame
        refine readsT_pure rfl rfl (.pointer (some ⟨wr.heap.size, 0, none⟩)) (fun w' => by go_simp) ?_
        go_frame
        refine readsT_load rfl rfl (.int .i64 j) (fun w' hS => by have hS1 := hS.2.1; clear hS; go_simp) ?_
        go_frame
        refine readsT_pure rfl rfl (.pointer (some ⟨pd, j * 256, none⟩)) (fun w' => by go_simp) ?_
        go_frame
        refine readsT_move rfl _ rfl (.int .i64 nn) rfl ?_
        go_frame
        refine readsT_pure rfl rfl (.slice (some ⟨pd, j * 256, none⟩) nn 256) (fun w' => by go_simp) ?_
        go_frame
        refine readsT_pure rfl rfl (.pointer (some ⟨wr.heap.size, 1, none⟩)) (fun w' => by go_simp) ?_
        go_frame
        refine readsT_move rfl _ rfl (.int .i64 nn) rfl ?_
        go_frame
        refine readsT_pure rfl rfl (.slice (some ⟨wr.heap.size, 1, none⟩) nn 256) (fun w' => by go_simp) ?_
        go_frame
        unfold readsT earlyT
        (with_reducible refine wpList_copy_mid ?_ (.tmp 34) (.tmp 37) 112 112 5 ?_ Tryd.underlying112 info_byte pd (j * 256) nn 256 wr.heap.size 1 nn 256 _ (bvs (b.take nn)) 136 ?_ ?_ HB2.out (by rw [Htl.out]; exact (Nat.min_self nn).symm) Hrt.out (by rw [Htl.out, bvs_length, HLen.out]; omega) (bvs_one _) ?_); rfl; rfl; rfl; rfl
        go_wp2
        go_roundw
        case rel =>
          refine ⟨k + 1, by omega, by go_num, ?_⟩
          rw [layDone_take _ _ _ _ _ _ _ _ Hkj.out, HDn.out]
          have := HR.out.next HI.out.1.2.1 (.cells (wayCells (j, b)).toArray 138) (j * 256) (b.take nn)
          rw [bvs_lay]
          exact this
        case measure => simp [intOf]; omega
      have ht : ((k : Int) == torn) = false := by simpa using htorn
      by_cases hkk : k < kept.length
      · obtain ⟨kb, ko, hka, hkb, hkr⟩ := HK.out (by intro e; rw [e] at hkk; simp at hkk)
        subst hka
        have fk : wr.cell? ⟨kb, ko + k, none⟩ = some (.bool kept[k]) := by
          have h1 := HR.out.fr.cell (a := ⟨kb, ko + k, none⟩) (by simp; omega) (HkF.out (by intro e; rw [e] at hkk; simp at hkk) kb rfl)
          rw [h1]
          exact (World.cell?_of_block (w := w) (Below.heap_alloc _ _ _ hkb)).trans (hkr k _ (by simp [hkk]))
        have lkb : kb < wr.heap.size := by omega
        have hd1 : decide (k < kept.length) = true := by simpa using hkk
        have HDn0 : Hid (done kept torn bytes k = if kept[k] then 256 else 0) := by show _ = _; unfold done; rw [if_neg htorn]; simp [List.getD, hkk]
        clear htorn hkr
        cases hkv : kept[k]
        · rw [hkv] at fk
          have HDn : Hid (done kept torn bytes k = 0) := by show _ = _; rw [HDn0.out, hkv]; rfl
          clear hkv HDn0
          go_wp2
          go_roundw
          case rel =>
            refine ⟨k + 1, by omega, by go_num, ?_⟩
            rw [layDone_take _ _ _ _ _ _ _ _ Hkj.out, HDn.out]
            rw [List.take_zero, lay_nil]
            exact HR.out.skip _
          case measure => simp [intOf]; omega
        rw [hkv] at fk
        have HDn : Hid (done kept torn bytes k = 256) := by show _ = _; rw [HDn0.out, hkv]; rfl
        clear hkv HDn0
        go_upto_region 8 with (fail)
        refine wp_region_reads 9 9 (fun w' => w'.cell? ⟨p, 0, none⟩ = some (.slice (some ⟨pd, 0, none⟩) D.n D.n) ∧ w'.cell? ⟨wr.heap.size, 0, none⟩ = some (.int .i64 j) ∧ w'.rangeAt wr.heap.size 1 (bvs b)) (by kernel_rfl) ?_ ?_ HS.out ?_
        · kernel_rfl
        · intro c a d v w h; cases d <;> exact h
        simp only [List.take_succ_cons, List.take_zero, List.drop_succ_cons, List.drop_zero, Nat.reduceSub]
        refine readsT_move rfl _ rfl (.pointer (some ⟨p, 0, none⟩)) rfl ?_
        go_frame
        refine readsT_pure rfl rfl (.pointer (some ⟨p, 0, none⟩)) (fun w' => by go_simp) ?_
        go_frame
        refine readsT_pure rfl rfl (.pointer (some ⟨p, 0, none⟩)) (fun w' => by go_simp) ?_
        go_frame
        refine readsT_load rfl rfl (.slice (some ⟨pd, 0, none⟩) D.n D.n) (fun w' hS => by have hS1 := hS.1; clear hS; go_simp) ?_
        go_frame
        refine readsT_pure rfl rfl (.pointer (some ⟨wr.heap.size, 0, none⟩)) (fun w' => by go_simp) ?_
        go_frame
        refine readsT_load rfl rfl (.int .i64 j) (fun w' hS => by have hS1 := hS.2.1; clear hS; go_simp) ?_
        go_frame
        refine readsT_pure rfl rfl (.pointer (some ⟨wr.heap.size, 1, none⟩)) (fun w' => by go_simp) ?_
        go_frame
        refine readsT_load_mid rfl 136 (.tmp 58) rfl wr.heap.size 1 rfl (bvs b) _ (fun w' hS => hS.2.2) Tryd.underlying136 rfl (by rw [info_block, bvs_length, Hbl.out]) ?_
        go_frame
        refine readsT_pure rfl rfl (.pointer (some ⟨pd, j * 256, none⟩)) (fun w' => by go_simp) ?_
        go_frame
        unfold readsT earlyT
        (with_reducible refine wpList_store_lay ?_ 136 (.tmp 60) (.tmp 59) ?_ pd (j * 256) _ (bvs b) 136 ?_ ?_ HB2.out (by rw [bvs_length, bvs_length, HLen.out, Hbl.out]; omega) (by rw [info_block, bvs_length, Hbl.out]) (bvs_one _) ?_); rfl; rfl; rfl; rfl
        go_wp2
        go_roundw
        case rel =>
          refine ⟨k + 1, by omega, by go_num, ?_⟩
          rw [layDone_take _ _ _ _ _ _ _ _ Hkj.out, HDn.out]
          have := HR.out.next HI.out.1.2.1 (.cells (wayCells (j, b)).toArray 138) (j * 256) b
          rw [bvs_lay]
          rw [show b.take 256 = b from List.take_of_length_le (by rw [Hbl.out]; omega)]
          exact this
        case measure => simp [intOf]; omega
      · have hd1 : decide (k < kept.length) = false := by simpa using hkk
        have HDn : Hid (done kept torn bytes k = 0) := by
          show _ = _; unfold done; rw [if_neg htorn]; simp [List.getD, List.getElem?_eq_none (show kept.length ≤ k by omega)]
        clear htorn
        go_wp2
        go_roundw
        case rel =>
          refine ⟨k + 1, by omega, by go_num, ?_⟩
          rw [layDone_take _ _ _ _ _ _ _ _ Hkj.out, HDn.out]
          rw [List.take_zero, lay_nil]
          exact HR.out.skip _
        case measure => simp [intOf]; omega
    · have hkk : k = D.und.length := by omega
      obtain ⟨Df, hDf⟩ : ∃ Df : Dsk, Df = { D with img := layDone D.img kept torn bytes D.und } := ⟨_, rfl⟩
      have hlen : (layDone D.img kept torn bytes D.und).length = 256 * D.n := layDone_length _ _ _ _ _ _ hokg.len hokg.und
      have hdr : DiskAt wr F p Df := by
        have hk2 := HR.out
        rw [hkk, List.take_length] at hk2
        rw [hDf]
        exact ⟨pd, pm, _, hk2.hp, hk2.hpd, hk2.hu, hk2.hm, HI.out.1, fun i hi => ⟨(HI.out.2.1 i hi).1, by have := (HI.out.2.1 i hi).2; have := hk2.fr.size; simp at this; omega⟩, ⟨hokg.n1, hokg.n2, hlen, hokg.und, hokg.arm1, hokg.arm2⟩⟩
      have HSt := Lib.hid (settled_any wr F p Df hdr)
      have HDf : Hid (D.crash kept torn bytes = { ({ ({ Df.clr with armed := -1 } : Dsk) with off := false } : Dsk) with life := w64 (Df.clr.life + 1) }) := by
        show _ = _
        rw [hDf]; rfl
      have HFr : Hid (Fr F w wr) := ((Fr.refl F w).alloc _).trans' HR.out.fr
      clear hokg hkk hDf hlen hdr HR
      go_upto_region 11 with (go_at_call 77; refine HSt.out.mono ?_; rintro e w2 ⟨rfl, hd2⟩; have f3 := hd2.1.cell.2.2.2.2.2 3; have f4 := hd2.1.cell.2.2.2.2.2 4; have c4 := hd2.1.cell.2.1; have c3 := hd2.1.cell.1; have c7 := hd2.1.cell.2.2.2.2.1; have f7 := hd2.1.cell.2.2.2.2.2 7; have Hd2 := Lib.hid hd2; clear hd2)
      go_wp2
      go_end0
      refine ⟨rfl, ?_, (((HFr.out.trans' Hd2.out.2).setCell (.inl HI.out.1.1) _).setCell (.inl HI.out.1.1) _).setCell (.inl HI.out.1.1) _⟩
      rw [HDf.out]
      have hg := Hd2.out.1.good
      have s4 := Hd2.out.1.store 4 (.int .i64 (-1)) { Df.clr with armed := -1 } rfl rfl rfl (fun a u m => rfl) ⟨hg.n1, hg.n2, hg.len, hg.und, by show (-1 : Int) ≤ -1; omega, by show (-1 : Int) ≤ _; omega⟩
      have s3 := s4.store 3 (.bool false) ({ ({ Df.clr with armed := -1 } : Dsk) with off := false } : Dsk) rfl rfl rfl (fun a u m => rfl) ⟨hg.n1, hg.n2, hg.len, hg.und, by show (-1 : Int) ≤ -1; omega, by show (-1 : Int) ≤ _; omega⟩
      exact s3.store 7 _ _ rfl rfl rfl (fun a u m => rfl) ⟨hg.n1, hg.n2, hg.len, hg.und, by show (-1 : Int) ≤ -1; omega, by show (-1 : Int) ≤ _; omega⟩
end Go.Proofs.YteklldbfdmaafaaDoor
/-
  The disk's Image.
-/
namespace Go.Proofs.YteklldbfdmaafaaDoor
open Go Go.RowKit

theorem info_byte3 : (Tryd.prog.info? 5).map (fun i => (i.zero.map (·.cells.size), i.size, i.bytes)) = some (some 1, 1, 1) := by kernel_rfl

set_option maxRecDepth 100000 in
set_option maxHeartbeats 1000000 in
theorem image_any (w : World) (F : Nat → Prop) (p : Nat) (D : Dsk) (hd : DiskAt w F p D) :
    Calls Tryd.prog 27 #[.pointer (some ⟨p, 0, none⟩)] w fun e w' => e = .returned (.string ⟨D.img.toArray⟩) ∧ Fr noB w w' := by
  obtain ⟨pd, pm, uv, hp, hpd, hu, hm, hF, hb, hok⟩ := hd
  have c0 : w.cell? ⟨p, 0, none⟩ = some (.slice (some ⟨pd, 0, none⟩) D.n D.n) := by rw [hp.cell]; rfl
  have lp := hp.lt
  have b2 := hok.n2
  have HI := Lib.hid (And.intro hpd hok)
  clear hp hpd hu hm hF hb hok
  go_enter Tryd.func27, Tryd.ntmps27
  go_upto_region 2 with (first | ((with_reducible refine wpList_make_empty ?_ (.const (.int .i64 0)) (.tmp 11) 112 5 ?_ Tryd.underlying112 1 1 info_byte3 ((D.n : Int) * 256) (D.n * 256) ?_ ?_ (by omega) (by omega) (by unfold maxLen; omega) ?_); (rfl); (rfl); (rfl); (rfl); (intro w1 hw1)))
  have sz1 : w.heap.size ≤ w1.heap.size := hw1.out.2.size
  have d0 : w1.cell? ⟨p, 0, none⟩ = some (.slice (some ⟨pd, 0, none⟩) D.n D.n) := (World.cell?_of_block (hw1.out.2.block p lp (by simp))).trans c0
  clear c0
  go_wp2_with (fail)
  go_loopw [3, 18] (fun v x wr => ∃ k : Nat, k ≤ D.n ∧ x = .int .i64 k ∧ (∃ a c, v = .slice a (k * 256) c) ∧ Hid (wr.ownsRow 0 5 1 v (k * 256) (bvs (D.img.take (k * 256))) ∧ Fr noB w wr ∧ ∀ g, v.ownBlock = some g → w.heap.size ≤ g)) (fun _ x _ => D.n - (intOf x).toNat)
  case atStart => exact ⟨0, Nat.zero_le _, rfl, ⟨_, _, by rw [Nat.zero_mul]⟩, by rw [Nat.zero_mul, List.take_zero]; exact hw1.out.1, (Fr.refl _ _).grown hw1.out.2 (fun k hk => by cases hk), fun g hg => by cases hg; exact Nat.le_refl _⟩
  case round =>
    obtain ⟨k, hk, rfl, ⟨va, vc, rfl⟩, HR⟩ := hrel
    have hokl := HI.out.2.len
    by_cases hlt : k < D.n
    · obtain ⟨bs, hbs⟩ : ∃ bs, bs = cut D.img (k * 256) 256 := ⟨_, rfl⟩
      have Hbl : Hid (bs.length = 256) := by rw [hbs]; exact cut_length _ _ _ (by omega)
      have HRg : Hid (wr.rangeAt pd (k * 256) (bvs bs)) := by
        intro z v hz
        have h1 := HI.out.1.range (o := k * 256) (n := 256)
        rw [bvs_drop, bvs_take] at h1
        rw [hbs] at hz
        rw [HR.out.2.1.cell (a := ⟨pd, k * 256 + z, none⟩) HI.out.1.lt id]
        exact h1 z v hz
      have Htk : Hid (D.img.take ((k + 1) * 256) = D.img.take (k * 256) ++ bs) := by
        rw [hbs]; show _ = _; rw [cut, Nat.succ_mul, List.take_add]
      have HO : Hid ((wr.alloc (.cells (bvs bs).toArray 136)).ownsRow 0 5 1 (.slice va (k * 256) vc) (k * 256) (bvs (D.img.take (k * 256)))) := HR.out.1.alloc _
      have HN := Lib.hid (range_new wr (bvs bs) 136)
      clear hbs hokl
      go_upto_region 5 with (first | ((with_reducible refine wpList_load_mid ?_ 136 (.tmp 20) ?_ pd (k * 256) ?_ (bvs bs) _ HRg.out Tryd.underlying136 rfl (by rw [info_block, bvs_length, Hbl.out]) ?_); (rfl); (rfl); (rfl)) | ((with_reducible refine wpList_store_top ?_ 136 (.tmp 5) (.tmp 21) ?_ _ (bvs bs).toArray _ ?_ ?_ (by rw [Tryd.zeroCells136_size, List.size_toArray, bvs_length, Hbl.out]) (by rw [info_block, List.size_toArray, bvs_length, Hbl.out]) (all_bvs _) ?_); (rfl); (rfl); (rfl); (rfl)))
      go_frame
      go_upto_region 6 with ((with_reducible refine wpList_append_row ?_ (.tmp 22) (.tmp 23) 112 5 ?_ Tryd.underlying112 1 1 info_byte3 (by omega) (.slice va (k * 256) vc) (k * 256) (bvs (D.img.take (k * 256))) ?_ HO.out wr.heap.size 0 256 256 (bvs bs) ?_ (by rw [bvs_length, Hbl.out]) HN.out (bvs_one _) (by unfold maxLen; omega) (by omega) ?_); (rfl); (rfl); (rfl); (rfl); (intro v2 w2 hw2))
      go_wp2
      go_roundw
      case rel =>
        obtain ⟨h1, h2, h3⟩ := hw2
        refine ⟨k + 1, by omega, by go_num, ?_, ?_, ?_, ?_⟩
        · rw [Nat.succ_mul]; exact own_shape h1
        · rw [Htk.out, bvs_append, Nat.succ_mul]; exact h1
        · exact (HR.out.2.1.alloc _).grown h2 (fun g hg => .inr (HR.out.2.2 g hg))
        · intro g hg
          have := HR.out.2.1.size
          rcases h3 with h3 | h3
          · rw [h3] at hg; exact HR.out.2.2 g hg
          · rw [h3] at hg; simp at hg; omega
      case measure => simp [intOf]; omega
    · have hkk : k = D.n := by omega
      have n1 := HI.out.2.n1
      subst hkk
      obtain ⟨g, cap, hv, _, hg⟩ := own_range HR.out.1 (by omega)
      cases hv
      have Hg : Hid (wr.rangeAt g 0 (bvs D.img)) := by
        have e : D.img.take (D.n * 256) = D.img := List.take_of_length_le (by omega)
        rw [e] at hg; exact hg
      have Hl : Hid (D.n * 256 = D.img.length) := by show _ = _; omega
      clear hg hokl
      go_wp2_with ((with_reducible refine wpList_bytes_string ?_ 112 9 5 (.tmp 26) ?_ Tryd.underlying112 Tryd.underlying5 Tryd.underlying9 g 0 (D.n * 256) vc D.img ?_ Hl.out Hg.out ?_); (rfl); (rfl); (rfl))
      go_ret
      exact ⟨rfl, HR.out.2.1⟩
end Go.Proofs.YteklldbfdmaafaaDoor
/-
  A new disk.
-/
namespace Go.Proofs.YteklldbfdmaafaaDoor
open Go Go.RowKit

theorem made_zeros (m n : Nat) (hm : 0 < m) : (madeCells (bvs (zs m)).toArray n).toList = bvs (zs n) := by
  have e : bvs (zs n) = List.replicate n (bv 0) := by simp [bvs, zs]
  rw [e, List.eq_replicate_iff]
  refine ⟨by simp [madeCells], fun b hb => ?_⟩
  simp only [madeCells, Array.toList_map, Array.toList_range, List.mem_map, List.mem_range, List.size_toArray, bvs_length, zs_length] at hb
  obtain ⟨i, _, rfl⟩ := hb
  have hlt : i % m < m := Nat.mod_lt _ hm
  have h2 : (bvs (zs m))[i % m]? = some (bv 0) := by simp [bvs, zs, hlt]
  simp [Array.getElem!_eq_getD, Array.getD_eq_getD_getElem?, h2]
theorem info_block3 : (Tryd.prog.info? 136).map (fun i => (i.zero.map (·.cells), i.size, i.bytes)) = some (some (bvs (zs 256)).toArray, 256, 256) := by kernel_rfl

set_option maxRecDepth 100000 in
theorem blank_any (w : World) (n : Nat) (h1 : 1 ≤ n) (h2 : n ≤ 65536) (hg : gB ≤ w.heap.size) :
    Calls Tryd.prog 79 #[.int .i64 n] w fun e w' => ∃ p F, e = .returned (.pointer (some ⟨p, 0, none⟩)) ∧ DiskAt w' F p (Dsk.blank n) ∧ Fr noB w w' ∧ ∀ k, F k → w.heap.size ≤ k := by
  have hmm := @run_makeMap Tryd.prog
  have Hg := Lib.hid hg
  clear hg
  go_enter Tryd.func79, Tryd.ntmps79
  go_wp2_with (first | ((with_reducible refine wpList_make_zero ?_ (.tmp 3) (.tmp 3) 130 136 ?_ Tryd.underlying130 256 256 (bvs (zs 256)).toArray info_block3 (n : Int) n ?_ ?_ rfl (by omega) (by unfold maxLen; omega) ?_); (rfl); (rfl); (rfl); (rfl); (intro w1 hw1)))
  go_ret
  obtain ⟨hb, hgr⟩ := hw1
  rw [made_zeros 256 _ (by omega)] at hb
  have sz : w.heap.size < w1.heap.size := hb.lt
  refine ⟨w1.heap.size + 1, fun k => w.heap.size ≤ k ∧ k < w1.heap.size + 2, rfl, ⟨w.heap.size, w1.heap.size, .slice none 0 0, ?_, ?_, World.ownsRow_nil _ _ _ _, ?_, ⟨⟨by omega, by omega⟩, ⟨by omega, by omega⟩, ⟨by omega, by omega⟩, fun g hg => by simp [Value.ownBlock] at hg⟩, fun k hk => ⟨by have := Hg.out; omega, by simp; omega⟩, Dsk.blank_ok n h1 h2⟩, ?_, fun k hk => hk.1⟩
  · have := heap_alloc_new (w1.alloc (.map #[] 0)) (.cells #[.slice (some ⟨w.heap.size, 0, none⟩) n n, .slice none 0 0, .map (some w1.heap.size), .bool false, .int .i64 (-1), .int .i64 0, .int .i64 0, .int .i64 0] 134)
    simpa [Blk, Dsk.blank] using this
  · have e : Blk w1 w.heap.size (bvs (Dsk.blank n).img) 136 := by
      show Blk w1 w.heap.size (bvs (zs (256 * n))) _
      rw [Nat.mul_comm]; exact hb
    exact e.keep ((Below.heap_alloc _ _ _ (by simp; omega)).trans (Below.heap_alloc _ _ _ sz))
  · refine ⟨.map [], ((World.ownsMap_made w1 _ _ _).alloc _).mono (Nat.zero_le _), fun i => ⟨rfl, rfl⟩⟩
  · exact (((Fr.refl noB w).grown hgr (fun k hk => by cases hk)).alloc _).alloc _

theorem new_bad (w : World) (n : Int) (E : Nat → Addr) (h6 : ErrAt w E 6) (h : n < 1 ∨ 65536 < n) :
    Calls Tryd.prog 33 #[.int .i64 n] w fun e w' => e = .returned (.tuple #[.pointer none, errV E 6]) ∧ Fr noB w w' := by
  have e6 : w.cell? ⟨3, 0, none⟩ = some (errV E 6) := h6
  clear h6
  by_cases h1 : n < 1
  · have hd : decide (n < 1) = true := by simpa using h1
    clear h
    go_enter Tryd.func33, Tryd.ntmps33
    go_wp2
    go_quiet (fail)
    all_goals go_wp2
    all_goals go_ret2
    all_goals exact ⟨rfl, (Fr.refl _ _).drewN _⟩
  · have h2 : 65536 < n := by omega
    have hd : decide (n < 1) = false := by simpa using h1
    clear h
    go_enter Tryd.func33, Tryd.ntmps33
    go_wp2
    go_quiet (fail)
    all_goals go_wp2
    all_goals go_ret2
    all_goals exact ⟨rfl, (Fr.refl _ _).drewN _⟩
theorem new_ok (w : World) (n : Nat) (h1 : 1 ≤ n) (h2 : n ≤ 65536) (hg : gB ≤ w.heap.size) :
    Calls Tryd.prog 33 #[.int .i64 n] w fun e w' => ∃ p F, e = .returned (.tuple #[.pointer (some ⟨p, 0, none⟩), .nilIface]) ∧ DiskAt w' F p (Dsk.blank n) ∧ Fr noB w w' ∧ ∀ k, F k → w.heap.size ≤ k := by
  have HB := Lib.hid (blank_any w n h1 h2 hg)
  clear hg
  go_enter Tryd.func33, Tryd.ntmps33
  go_wp2_with (go_at_call 79; refine HB.out.mono ?_; rintro e w1 ⟨p, F, rfl, hq⟩; have Hq := Lib.hid hq; clear hq)
  all_goals go_ret2
  all_goals exact ⟨p, F, rfl, Hq.out⟩
end Go.Proofs.YteklldbfdmaafaaDoor
/-
  A disk of durable bytes.
-/
namespace Go.Proofs.YteklldbfdmaafaaDoor
open Go Go.RowKit

theorem extract_drop (l : List UInt8) (a : Nat) : (⟨l.toArray⟩ : ByteArray).extract a l.length = ⟨(l.drop a).toArray⟩ := by
  apply ByteArray.ext
  simp [ByteArray.data_extract]
  rw [List.take_of_length_le (by simp)]

theorem Flushing.laid {w wr : World} {F : Nat → Prop} {p pd pm : Nat} {uv : Value} {D : Dsk} {img img' : List UInt8} (h : Flushing w F p pd pm uv D img wr) (hF : F pd) :
    Flushing w F p pd pm uv D img' (wr.drew.setRow pd (bvs img').toArray) := by
  obtain ⟨hp, hpd, hu, hm, fr⟩ := h
  have n1 : p ≠ pd := hp.ne hpd (by decide)
  have n3 : pm ≠ pd := by obtain ⟨_, ⟨_, _, h, _⟩, _⟩ := hm; exact hpd.ne_map h
  have k : ∀ i, i ≠ pd → (wr.drew.setRow pd (bvs img').toArray).heap[i]? = wr.heap[i]? := fun i h2 => setRow_other _ _ _ _ h2
  have hpd' : Blk wr.drew pd (bvs img) 136 := hpd
  exact ⟨hp.keep (k p n1), hpd'.row _, ownsRow_keep hu (fun g hg => k g (hpd.ne_row hu hg (by decide))), hm.keep (k pm n3), (fr.drew).setRow (.inl hF) _⟩

/-- k sectors are there -/
def part (l : List UInt8) (n k : Nat) : List UInt8 := l.take (k * 256) ++ zs (n * 256 - k * 256)
theorem part_length (l : List UInt8) (n k : Nat) (hl : l.length = n * 256) (hk : k ≤ n) : (part l n k).length = n * 256 := by
  simp [part, zs_length]; omega
theorem part_next (l : List UInt8) (n k : Nat) (hl : l.length = n * 256) (hk : k < n) : lay (part l n k) (k * 256) (cut l (k * 256) 256) = part l n (k + 1) := by
  have h1 : (l.take (k * 256)).length = k * 256 := by rw [List.length_take]; omega
  have h2 : (cut l (k * 256) 256).length = 256 := cut_length _ _ _ (by omega)
  unfold lay
  rw [h2]
  have e1 : (part l n k).take (k * 256) = l.take (k * 256) := by rw [part, List.take_append_of_le_length (by omega), List.take_of_length_le (by omega)]
  have e2 : (part l n k).drop (k * 256 + 256) = zs (n * 256 - (k + 1) * 256) := by
    rw [part, List.drop_append, List.drop_eq_nil_of_le (by omega), h1]
    simp only [List.nil_append, zs, List.drop_replicate]
    congr 1; omega
  rw [e1, e2, part, Nat.succ_mul, List.take_add, List.append_assoc]
  rfl
theorem part_zero (l : List UInt8) (n : Nat) : part l n 0 = zs (n * 256) := by simp [part]
theorem part_all (l : List UInt8) (n : Nat) (hl : l.length = n * 256) : part l n n = l := by
  rw [part, List.take_of_length_le (by omega)]; simp [zs]

set_option maxRecDepth 100000 in
set_option maxHeartbeats 1000000 in
theorem from_ok (w : World) (l : List UInt8) (n : Nat) (hl : l.length = n * 256) (h1 : 1 ≤ n) (h2 : n ≤ 65536) (hg : gB ≤ w.heap.size) :
    Calls Tryd.prog 39 #[.string ⟨l.toArray⟩] w fun e w' => ∃ p F, e = .returned (.tuple #[.pointer (some ⟨p, 0, none⟩), .nilIface]) ∧ DiskAt w' F p (Dsk.of l) ∧ Fr noB w w' ∧ ∀ k, F k → w.heap.size ≤ k := by
  have HN := Lib.hid (new_ok w n h1 h2 hg)
  have hq : ((l.length : Int) % 256 != 0) = false := by rw [hl]; simp
  have He : Hid ((l.length : Int) / 256 = n) := by show _ = _; omega
  have Hl := Lib.hid hl
  have hlb : l.length ≤ 16777216 := by omega
  clear hl hg
  go_enter Tryd.func39, Tryd.ntmps39
  go_upto_region 6 with (go_at_call 33; rw [He.out]; refine HN.out.mono ?_; rintro e w1 ⟨p, F, rfl, hq1⟩; have Hq := Lib.hid hq1; clear hq1)
  obtain ⟨hd, hf, hFn⟩ := Hq
  obtain ⟨pd, pm, uv, hp, hpd, hu, hm, hF, hb, hok⟩ := hd
  have c0 : w1.cell? ⟨p, 0, none⟩ = some (.slice (some ⟨pd, 0, none⟩) n n) := by rw [hp.cell]; rfl
  have lp := hp.lt
  have HI := Lib.hid (And.intro hF (And.intro hb (And.intro hf hFn)))
  have HI0 : Hid (Flushing w1 F p pd pm uv (Dsk.blank n) (part l n 0) w1) := ⟨hp, by rw [part_zero, Nat.mul_comm]; exact hpd, hu, hm, Fr.refl _ _⟩
  clear hp hpd hu hm hF hb hok hf hFn
  go_wp2_with (fail)
  go_loopw [27] (fun x wr => ∃ k : Nat, k ≤ n ∧ x = .int .i64 k ∧ Hid (Flushing w1 F p pd pm uv (Dsk.blank n) (part l n k) wr)) (fun x _ => n - (intOf x).toNat)
  case atStart => exact ⟨0, Nat.zero_le _, rfl, HI0⟩
  case round =>
    obtain ⟨k, hk, rfl, HR⟩ := hrel
    clear HI0 c0
    by_cases hlt : k < n
    · have c0 : wr.cell? ⟨p, 0, none⟩ = some (.slice (some ⟨pd, 0, none⟩) n n) := by rw [HR.out.hp.cell]; rfl
      have HB : Hid (Blk wr.drew pd (bvs (part l n k)) 136) := HR.out.hpd
      have hkl : k * 256 ≤ l.length := by have := Hl.out; omega
      have hk1 : (0 : Int) ≤ (k : Int) * 256 := by omega
      have hk2 : (k : Int) * 256 ≤ (l.length : Int) := by omega
      go_upto_region 9 with (fail)
      refine wp_region_reads 11 11 (fun w' => w'.cell? ⟨p, 0, none⟩ = some (.slice (some ⟨pd, 0, none⟩) n n)) (by kernel_rfl) ?_ ?_ c0 ?_
      · kernel_rfl
      · intro c a d v w h; cases d <;> exact h
      simp only [List.take_succ_cons, List.take_zero, List.drop_succ_cons, List.drop_zero, Nat.reduceSub]
      refine readsT_move rfl _ rfl (.pointer (some ⟨p, 0, none⟩)) rfl ?_
      go_frame
      refine readsT_pure rfl rfl (.pointer (some ⟨p, 0, none⟩)) (fun w' => by go_simp) ?_
      go_frame
      refine readsT_pure rfl rfl (.pointer (some ⟨p, 0, none⟩)) (fun w' => by go_simp) ?_
      go_frame
      refine readsT_load rfl rfl (.slice (some ⟨pd, 0, none⟩) n n) (fun w' hS => by have hS1 := hS; clear hS; go_simp) ?_
      go_frame
      refine readsT_move rfl _ rfl (.int .i64 k) rfl ?_
      go_frame
      refine readsT_pure rfl rfl (.pointer (some ⟨pd, k * 256, none⟩)) (fun w' => by go_simp) ?_
      go_frame
      refine readsT_pure rfl rfl (.slice (some ⟨pd, k * 256, none⟩) 256 256) (fun w' => by go_simp) ?_
      go_frame
      refine readsT_move rfl _ rfl (.string ⟨l.toArray⟩) rfl ?_
      go_frame
      refine readsT_move rfl _ rfl (.int .i64 k) rfl ?_
      go_frame
      refine readsT_pure rfl rfl (.int .i64 ((k : Int) * 256)) (fun w' => by have hw : IntKind.i64.wrap ((k : Int) * 256) = (k : Int) * 256 := IntWalk.i64_in _ (by omega); go_simp) ?_
      go_frame
      refine readsT_pure rfl rfl (.string ⟨(l.drop (k * 256)).toArray⟩) (fun w' => by go_simp; rw [show ((k : Int) * 256).toNat = k * 256 by omega, extract_drop]) ?_
      go_frame
      unfold readsT earlyT
      (with_reducible refine wpList_copy_str ?_ (.tmp 36) (.tmp 40) 112 9 5 ?_ Tryd.underlying112 info_byte pd (k * 256) 256 256 (l.drop (k * 256)) _ 136 ?_ ?_ HB.out (by rw [bvs_length, part_length _ _ _ Hl.out (by omega), List.length_take]; omega) ?_); rfl; rfl; rfl; rfl
      go_wp2
      go_roundw
      case rel =>
        refine ⟨k + 1, by omega, by go_num, ?_⟩
        have := HR.out.laid HI.out.1.2.1 (img' := part l n (k + 1))
        rw [← part_next l n k Hl.out hlt] at this ⊢
        rw [bvs_lay]
        exact this
      case measure => simp [intOf]; omega
    · have hkk : k = n := by omega
      go_wp2
      go_ret2
      have hl := Hl.out
      have h3 := HR.out
      rw [hkk, part_all _ _ hl] at h3
      have e : Dsk.of l = { Dsk.blank n with img := l } := by
        have : l.length / 256 = n := by omega
        unfold Dsk.of
        rw [this]; rfl
      refine ⟨p, F, rfl, ?_, HI.out.2.2.1.trans h3.fr (fun i hi => .inr (HI.out.2.2.2 i hi)), HI.out.2.2.2⟩
      rw [e]
      exact ⟨pd, pm, uv, h3.hp, h3.hpd, h3.hu, h3.hm, HI.out.1, fun i hi => ⟨(HI.out.2.1 i hi).1, Nat.lt_of_lt_of_le (HI.out.2.1 i hi).2 h3.fr.size⟩, ⟨h1, h2, by show l.length = 256 * n; omega, by simp [Dsk.blank], by simp [Dsk.blank], by simp [Dsk.blank]⟩⟩

theorem from_form (w : World) (l : List UInt8) (E : Nat → Addr) (h7 : ErrAt w E 7) (hl : l.length % 256 ≠ 0) (hlb : l.length ≤ 9223372036854775807) :
    Calls Tryd.prog 39 #[.string ⟨l.toArray⟩] w fun e w' => e = .returned (.tuple #[.pointer none, errV E 7]) ∧ Fr noB w w' := by
  have e7 : w.cell? ⟨4, 0, none⟩ = some (errV E 7) := h7
  have hq : ((l.length : Int) % 256 != 0) = true := by rw [bne_iff_ne]; omega
  clear h7 hl
  go_enter Tryd.func39, Tryd.ntmps39
  go_wp2
  go_quiet (fail)
  all_goals go_wp2
  all_goals go_ret2
  all_goals exact ⟨rfl, (Fr.refl _ _).drewN _⟩
theorem from_range (w : World) (l : List UInt8) (E : Nat → Addr) (h6 : ErrAt w E 6) (hl : l.length % 256 = 0) (hlb : l.length ≤ 9223372036854775807) (h : l.length / 256 < 1 ∨ 65536 < l.length / 256) :
    Calls Tryd.prog 39 #[.string ⟨l.toArray⟩] w fun e w' => e = .returned (.tuple #[.pointer none, errV E 6]) ∧ Fr noB w w' := by
  have HN := Lib.hid (new_bad w ((l.length / 256 : Nat) : Int) E h6 (by omega))
  have hq : ((l.length : Int) % 256 != 0) = false := by rw [bne_eq_false_iff_eq]; omega
  have He : Hid ((l.length : Int) / 256 = ((l.length / 256 : Nat) : Int)) := by show _ = _; omega
  clear h6 hl h
  have hne : errV E 6 = .iface 204 (.pointer (some (E 6))) := rfl
  rw [hne] at HN ⊢
  clear hne
  go_enter Tryd.func39, Tryd.ntmps39
  go_wp2_with (go_at_call 33; rw [He.out]; refine HN.out.mono ?_; rintro e w1 ⟨rfl, hf⟩; have Hf := Lib.hid hf; clear hf)
  all_goals go_ret2
  all_goals exact ⟨rfl, Hf.out⟩
end Go.Proofs.YteklldbfdmaafaaDoor
/-
  The errors' numbers: remitnum.Num.
-/
namespace Go.Proofs.YteklldbfdmaafaaDoor
open Go Go.RowKit

/-- all 37 errors lie in their variables, each its own -/
structure ErrsAt (w : World) (E : Nat → Addr) : Prop where
  at_ : ∀ k, 1 ≤ k → k ≤ 37 → ErrAt w E k
  obj : ∀ k, 1 ≤ k → k ≤ 37 → ∃ ca ta, w.heap[(E k).block]? = some (.cells ca ta (0, 0))
  inj : ∀ j k, 1 ≤ j → j ≤ 37 → 1 ≤ k → k ≤ 37 → E j = E k → j = k
def errList (E : Nat → Addr) : List Value := [errV E 1, errV E 2, errV E 3, errV E 4, errV E 5, errV E 6, errV E 7, errV E 8, errV E 9, errV E 10, errV E 11, errV E 12, errV E 13, errV E 14, errV E 15, errV E 16, errV E 17, errV E 18, errV E 19, errV E 20, errV E 21, errV E 22, errV E 23, errV E 24, errV E 25, errV E 26, errV E 27, errV E 28, errV E 29, errV E 30, errV E 31, errV E 32, errV E 33, errV E 34, errV E 35, errV E 36, errV E 37]
theorem built_list (E : Nat → Addr) : Tryd.prog.built 141 [(0, errV E 1), (1, errV E 2), (2, errV E 3), (3, errV E 4), (4, errV E 5), (5, errV E 6), (6, errV E 7), (7, errV E 8), (8, errV E 9), (9, errV E 10), (10, errV E 11), (11, errV E 12), (12, errV E 13), (13, errV E 14), (14, errV E 15), (15, errV E 16), (16, errV E 17), (17, errV E 18), (18, errV E 19), (19, errV E 20), (20, errV E 21), (21, errV E 22), (22, errV E 23), (23, errV E 24), (24, errV E 25), (25, errV E 26), (26, errV E 27), (27, errV E 28), (28, errV E 29), (29, errV E 30), (30, errV E 31), (31, errV E 32), (32, errV E 33), (33, errV E 34), (34, errV E 35), (35, errV E 36), (36, errV E 37)] = some (errList E).toArray := by kernel_rfl

theorem errList_one (E : Nat → Addr) : (errList E).toArray.all (·.oneCell') = true := by kernel_rfl
set_option maxRecDepth 100000 in
set_option maxHeartbeats 1000000 in
theorem list_any (w : World) (E : Nat → Addr) (h : ∀ k, 1 ≤ k → k ≤ 37 → ErrAt w E k) (hg : gB ≤ w.heap.size) :
    Calls Tryd.prog 80 #[] w fun e w' => e = .returned (.agg (errList E).toArray) ∧ Fr noB w w' := by
  unfold gB at hg
  have e1 : w.cell? ⟨7, 0, none⟩ = some (errV E 1) := h 1 (by omega) (by omega)
  have l1 : 7 < w.heap.size := by omega
  have e2 : w.cell? ⟨8, 0, none⟩ = some (errV E 2) := h 2 (by omega) (by omega)
  have l2 : 8 < w.heap.size := by omega
  have e3 : w.cell? ⟨0, 0, none⟩ = some (errV E 3) := h 3 (by omega) (by omega)
  have l3 : 0 < w.heap.size := by omega
  have e4 : w.cell? ⟨9, 0, none⟩ = some (errV E 4) := h 4 (by omega) (by omega)
  have l4 : 9 < w.heap.size := by omega
  have e5 : w.cell? ⟨10, 0, none⟩ = some (errV E 5) := h 5 (by omega) (by omega)
  have l5 : 10 < w.heap.size := by omega
  have e6 : w.cell? ⟨3, 0, none⟩ = some (errV E 6) := h 6 (by omega) (by omega)
  have l6 : 3 < w.heap.size := by omega
  have e7 : w.cell? ⟨4, 0, none⟩ = some (errV E 7) := h 7 (by omega) (by omega)
  have l7 : 4 < w.heap.size := by omega
  have e8 : w.cell? ⟨11, 0, none⟩ = some (errV E 8) := h 8 (by omega) (by omega)
  have l8 : 11 < w.heap.size := by omega
  have e9 : w.cell? ⟨12, 0, none⟩ = some (errV E 9) := h 9 (by omega) (by omega)
  have l9 : 12 < w.heap.size := by omega
  have e10 : w.cell? ⟨13, 0, none⟩ = some (errV E 10) := h 10 (by omega) (by omega)
  have l10 : 13 < w.heap.size := by omega
  have e11 : w.cell? ⟨14, 0, none⟩ = some (errV E 11) := h 11 (by omega) (by omega)
  have l11 : 14 < w.heap.size := by omega
  have e12 : w.cell? ⟨2, 0, none⟩ = some (errV E 12) := h 12 (by omega) (by omega)
  have l12 : 2 < w.heap.size := by omega
  have e13 : w.cell? ⟨15, 0, none⟩ = some (errV E 13) := h 13 (by omega) (by omega)
  have l13 : 15 < w.heap.size := by omega
  have e14 : w.cell? ⟨1, 0, none⟩ = some (errV E 14) := h 14 (by omega) (by omega)
  have l14 : 1 < w.heap.size := by omega
  have e15 : w.cell? ⟨5, 0, none⟩ = some (errV E 15) := h 15 (by omega) (by omega)
  have l15 : 5 < w.heap.size := by omega
  have e16 : w.cell? ⟨16, 0, none⟩ = some (errV E 16) := h 16 (by omega) (by omega)
  have l16 : 16 < w.heap.size := by omega
  have e17 : w.cell? ⟨6, 0, none⟩ = some (errV E 17) := h 17 (by omega) (by omega)
  have l17 : 6 < w.heap.size := by omega
  have e18 : w.cell? ⟨17, 0, none⟩ = some (errV E 18) := h 18 (by omega) (by omega)
  have l18 : 17 < w.heap.size := by omega
  have e19 : w.cell? ⟨18, 0, none⟩ = some (errV E 19) := h 19 (by omega) (by omega)
  have l19 : 18 < w.heap.size := by omega
  have e20 : w.cell? ⟨19, 0, none⟩ = some (errV E 20) := h 20 (by omega) (by omega)
  have l20 : 19 < w.heap.size := by omega
  have e21 : w.cell? ⟨20, 0, none⟩ = some (errV E 21) := h 21 (by omega) (by omega)
  have l21 : 20 < w.heap.size := by omega
  have e22 : w.cell? ⟨21, 0, none⟩ = some (errV E 22) := h 22 (by omega) (by omega)
  have l22 : 21 < w.heap.size := by omega
  have e23 : w.cell? ⟨22, 0, none⟩ = some (errV E 23) := h 23 (by omega) (by omega)
  have l23 : 22 < w.heap.size := by omega
  have e24 : w.cell? ⟨23, 0, none⟩ = some (errV E 24) := h 24 (by omega) (by omega)
  have l24 : 23 < w.heap.size := by omega
  have e25 : w.cell? ⟨24, 0, none⟩ = some (errV E 25) := h 25 (by omega) (by omega)
  have l25 : 24 < w.heap.size := by omega
  have e26 : w.cell? ⟨25, 0, none⟩ = some (errV E 26) := h 26 (by omega) (by omega)
  have l26 : 25 < w.heap.size := by omega
  have e27 : w.cell? ⟨26, 0, none⟩ = some (errV E 27) := h 27 (by omega) (by omega)
  have l27 : 26 < w.heap.size := by omega
  have e28 : w.cell? ⟨27, 0, none⟩ = some (errV E 28) := h 28 (by omega) (by omega)
  have l28 : 27 < w.heap.size := by omega
  have e29 : w.cell? ⟨28, 0, none⟩ = some (errV E 29) := h 29 (by omega) (by omega)
  have l29 : 28 < w.heap.size := by omega
  have e30 : w.cell? ⟨29, 0, none⟩ = some (errV E 30) := h 30 (by omega) (by omega)
  have l30 : 29 < w.heap.size := by omega
  have e31 : w.cell? ⟨30, 0, none⟩ = some (errV E 31) := h 31 (by omega) (by omega)
  have l31 : 30 < w.heap.size := by omega
  have e32 : w.cell? ⟨31, 0, none⟩ = some (errV E 32) := h 32 (by omega) (by omega)
  have l32 : 31 < w.heap.size := by omega
  have e33 : w.cell? ⟨32, 0, none⟩ = some (errV E 33) := h 33 (by omega) (by omega)
  have l33 : 32 < w.heap.size := by omega
  have e34 : w.cell? ⟨33, 0, none⟩ = some (errV E 34) := h 34 (by omega) (by omega)
  have l34 : 33 < w.heap.size := by omega
  have e35 : w.cell? ⟨34, 0, none⟩ = some (errV E 35) := h 35 (by omega) (by omega)
  have l35 : 34 < w.heap.size := by omega
  have e36 : w.cell? ⟨35, 0, none⟩ = some (errV E 36) := h 36 (by omega) (by omega)
  have l36 : 35 < w.heap.size := by omega
  have e37 : w.cell? ⟨36, 0, none⟩ = some (errV E 37) := h 37 (by omega) (by omega)
  have l37 : 36 < w.heap.size := by omega
  clear h hg
  go_enter Tryd.func80, Tryd.ntmps80
  go_wp2_with (first | ((with_reducible refine wpList_store_top ?_ 141 (.tmp 0) (.tmp 38) ?_ _ (errList E).toArray _ ?_ ?_ rfl (by kernel_rfl) (errList_one E) ?_); (rfl); (rfl); (rfl); (rfl)) | ((with_reducible refine wpList_build_as ?_ 141 [(0, .tmp 1), (1, .tmp 2), (2, .tmp 3), (3, .tmp 4), (4, .tmp 5), (5, .tmp 6), (6, .tmp 7), (7, .tmp 8), (8, .tmp 9), (9, .tmp 10), (10, .tmp 11), (11, .tmp 12), (12, .tmp 13), (13, .tmp 14), (14, .tmp 15), (15, .tmp 16), (16, .tmp 17), (17, .tmp 18), (18, .tmp 19), (19, .tmp 20), (20, .tmp 21), (21, .tmp 22), (22, .tmp 23), (23, .tmp 24), (24, .tmp 25), (25, .tmp 26), (26, .tmp 27), (27, .tmp 28), (28, .tmp 29), (29, .tmp 30), (30, .tmp 31), (31, .tmp 32), (32, .tmp 33), (33, .tmp 34), (34, .tmp 35), (35, .tmp 36), (36, .tmp 37)] ?_ (errList E).toArray ?_ ?_); (rfl); (rfl); (exact built_list E)))
  try go_frame
  exact bodyPost_ret (v := .agg (errList E).toArray) (results_cell_row (p := 0) (ty := 141) (by kernel_rfl) _ _ w.heap.size _ _ _ _ rfl (heap_alloc_new w _) Tryd.underlying141 rfl (by kernel_rfl)) rfl ⟨rfl, (Fr.refl _ _).alloc _⟩

theorem errV_pos (E : Nat → Addr) (k : Nat) (hk : 1 ≤ k) : errV E k = .iface 204 (.pointer (some (E k))) := by
  unfold errV; rw [if_neg (by omega)]
theorem errList_get (E : Nat → Addr) (j : Nat) (hj : j < 37) : (errList E)[j]? = some (.iface 204 (.pointer (some (E (j + 1))))) := by
  have e : errList E = (List.range 37).map (fun i => errV E (i + 1)) := rfl
  rw [e, List.getElem?_map, List.getElem?_range hj, Option.map_some, errV_pos _ _ (by omega)]
theorem isAgg_error (w : World) : (isAgg 31).run Tryd.prog w = .ok false w := by kernel_rfl
theorem info_some {P : Program} {α : Type} {t : TypeId} {f : TypeInfo → α} {x : α} (h : (P.info? t).map f = some x) : ∃ i, P.info? t = some i ∧ f i = x := by
  cases hq : P.info? t with
  | none => simp [hq] at h
  | some i => exact ⟨i, rfl, by simpa [hq] using h⟩
theorem infoErr : (Tryd.prog.info? 204).map (·.comparable) = some true := by kernel_rfl
theorem infoErrS : (Tryd.prog.info? 218).map (·.size) = some 1 := by kernel_rfl
theorem eql_same (w : World) (b : Addr) : (binOp .eql 31 (.iface 204 (.pointer (some b))) (.iface 204 (.pointer (some b)))).run Tryd.prog w = .ok (.bool true) w := by
  obtain ⟨i, hi, hc⟩ := info_some infoErr
  obtain ⟨j, hj, _⟩ := info_some infoErrS
  exact run_eql_iface_ptr_same w _ Tryd.underlying31 Tryd.underlying204 hi hc hj
theorem eql_other (w : World) (b c : Addr) (hne : b ≠ c) {ca cb : Array Value} {ta tb : TypeId} (hb : w.heap[b.block]? = some (.cells ca ta (0, 0))) (hcc : w.heap[c.block]? = some (.cells cb tb (0, 0))) :
    (binOp .eql 31 (.iface 204 (.pointer (some b))) (.iface 204 (.pointer (some c)))).run Tryd.prog w = .ok (.bool false) w := by
  obtain ⟨i, hi, hc⟩ := info_some infoErr
  obtain ⟨j, hj, hz⟩ := info_some infoErrS
  exact run_eql_iface_ptr_other w Tryd.underlying31 Tryd.underlying204 hi hc hj (by rw [hz]; decide) hne hb hcc

set_option maxRecDepth 100000 in
theorem num_nil (w : World) : Calls Tryd.prog 35 #[.nilIface] w fun e w' => e = .returned (.int .i64 0) ∧ w = w' := by
  go_enter Tryd.func35, Tryd.ntmps35
  go_wp2
  go_ret
  exact ⟨rfl, rfl⟩
set_option maxRecDepth 100000 in
set_option maxHeartbeats 1000000 in
theorem num_err (w : World) (E : Nat → Addr) (hE : ErrsAt w E) (hg : gB ≤ w.heap.size) (k : Nat) (h1 : 1 ≤ k) (h2 : k ≤ 37) :
    Calls Tryd.prog 35 #[.iface 204 (.pointer (some (E k)))] w fun e w' => e = .returned (.int .i64 k) ∧ Fr noB w w' := by
  have HL := Lib.hid (list_any w E hE.at_ hg)
  have HE := Lib.hid hE
  clear hE hg
  go_enter Tryd.func35, Tryd.ntmps35
  go_wp2_with (go_at_call 80; refine HL.out.mono ?_; rintro e w1 ⟨rfl, hf⟩; have Hf := Lib.hid hf; clear hf)
  go_loopw [8] (fun x wr => ∃ j : Nat, j < k ∧ x = .int .i64 j ∧ wr = w1) (fun x _ => k - (intOf x).toNat)
  case atStart => exact ⟨0, by omega, rfl, rfl⟩
  case round =>
    obtain ⟨j, hj, rfl, rfl⟩ := hrel
    by_cases hjk : j + 1 = k
    · subst hjk
      have he := eql_same wr (E (j + 1))
      go_wp2_with (first | ((with_reducible refine wpList_index_cell ?_ 141 31 (.tmp 7) (.tmp 8) ?_ 37 Tryd.underlying141 (isAgg_error _) (by kernel_rfl) (errList E) j ?_ ?_ (by omega) _ (errList_get E j (by omega)) ?_); (rfl); (rfl); (rfl); (rfl)))
      go_ret
      exact ⟨rfl, Hf.out⟩
    · have hne : E k ≠ E (j + 1) := fun e => hjk (HE.out.inj _ _ (by omega) (by omega) h1 h2 e.symm)
      obtain ⟨ca, ta, ha⟩ := HE.out.obj k h1 h2
      obtain ⟨cb, tb, hb⟩ := HE.out.obj (j + 1) (by omega) (by omega)
      have ha1 := (Hf.out.block _ (Array.getElem?_eq_some_iff.1 ha).1 id).trans ha
      have hb1 := (Hf.out.block _ (Array.getElem?_eq_some_iff.1 hb).1 id).trans hb
      have he := eql_other wr (E k) (E (j + 1)) hne ha1 hb1
      clear ha hb ha1 hb1 hne
      go_wp2_with (first | ((with_reducible refine wpList_index_cell ?_ 141 31 (.tmp 7) (.tmp 8) ?_ 37 Tryd.underlying141 (isAgg_error _) (by kernel_rfl) (errList E) j ?_ ?_ (by omega) _ (errList_get E j (by omega)) ?_); (rfl); (rfl); (rfl); (rfl)))
      go_roundw
      case rel => exact ⟨j + 1, by omega, by go_num, by first | rfl | trivial⟩
      case measure => simp [intOf]; omega
theorem num_any (w : World) (E : Nat → Addr) (hE : ErrsAt w E) (hg : gB ≤ w.heap.size) (k : Nat) (h2 : k ≤ 37) :
    Calls Tryd.prog 35 #[errV E k] w fun e w' => e = .returned (.int .i64 k) ∧ Fr noB w w' := by
  by_cases h : k = 0
  · subst h
    refine (num_nil w).mono ?_
    rintro e w' ⟨rfl, rfl⟩
    exact ⟨rfl, Fr.refl _ _⟩
  · rw [errV_pos _ _ (by omega)]
    exact num_err w E hE hg k (by omega) h2
end Go.Proofs.YteklldbfdmaafaaDoor
/-
  The law's own helpers: what an op writes; a fate with spare room.
-/
namespace Go.Proofs.YteklldbfdmaafaaDoor
open Go Go.RowKit

/-- what an op writes -/
def fillOf (fill : UInt8) : List UInt8 := (List.range 256).map fun i => fill + UInt8.ofNat (i / 16)
def secOf (s : List UInt8) (fill : UInt8) : List UInt8 := if s = [] then fillOf fill else s
theorem info_byte4 : (Tryd.prog.info? 5).map (fun i => (i.zero.map (·.cells), i.size, i.bytes)) = some (some (bvs (zs 1)).toArray, 1, 1) := by kernel_rfl
def fillPart (fill : UInt8) (k : Nat) : List UInt8 := (fillOf fill).take k ++ zs (256 - k)
theorem fillOf_length (fill : UInt8) : (fillOf fill).length = 256 := by simp [fillOf]
theorem fillPart_next (fill : UInt8) (k : Nat) (hk : k < 256) : (bvs (fillPart fill k)).set k (bv (fill + UInt8.ofNat (k / 16))) = bvs (fillPart fill (k + 1)) := by
  have hl := fillOf_length fill
  unfold fillPart
  rw [bvs_append, List.set_append_right _ _ (by simp [hl]; omega), bvs_append]
  have e1 : k - (bvs ((fillOf fill).take k)).length = 0 := by simp [hl]; omega
  rw [e1]
  have e2 : zs (256 - k) = 0 :: zs (256 - (k + 1)) := by
    unfold zs; rw [show 256 - k = (256 - (k + 1)) + 1 by omega, List.replicate_succ]
  rw [e2, List.take_succ_eq_append_getElem (by omega)]
  simp [bvs, fillOf]

set_option maxRecDepth 100000 in
theorem sector_given (w : World) (k0 k1 k2 k3 k4 : Value) (s : List UInt8) (fill : UInt8) (hs : s ≠ []) :
    Calls Tryd.prog 31 #[.agg #[k0, k1, .string ⟨s.toArray⟩, .int .u8 fill.toNat, k2, k3, k4]] w fun e w' => e = .returned (.string ⟨s.toArray⟩) ∧ Fr noB w w' := by
  have h1 : s.isEmpty = false := by cases s <;> simp_all
  go_enter Tryd.func31, Tryd.ntmps31
  go_wp2
  all_goals go_ret
  all_goals exact ⟨rfl, (Fr.refl _ _).alloc _⟩
set_option maxRecDepth 100000 in
set_option maxHeartbeats 1000000 in
theorem sector_fill (w : World) (k0 k1 k2 k3 k4 : Value) (fill : UInt8) :
    Calls Tryd.prog 31 #[.agg #[k0, k1, .string ⟨#[]⟩, .int .u8 fill.toNat, k2, k3, k4]] w fun e w' => e = .returned (.string ⟨(fillOf fill).toArray⟩) ∧ Fr noB w w' := by
  have hfl : (fill.toNat : Int) < 256 := by have := fill.toNat_lt; omega
  go_enter Tryd.func31, Tryd.ntmps31
  go_wp2_with (first | ((with_reducible refine wpList_make_zero ?_ (.const (.int .i64 256)) (.const (.int .i64 256)) 112 5 ?_ Tryd.underlying112 1 1 (bvs (zs 1)).toArray info_byte4 256 256 ?_ ?_ rfl (by omega) (by unfold maxLen; omega) ?_); (rfl); (rfl); (rfl); (rfl); (intro w1 hw1)))
  have hq : Blk w1 (w.heap.size + 1) (bvs (fillPart fill 0)) 5 := by
    have := hw1.out.1
    rw [made_zeros 1 _ (by omega)] at this
    simpa [fillPart] using this
  have hz : Fr noB w w1 := ((Fr.refl noB w).alloc _).grown hw1.out.2 (fun k hk => by cases hk)
  have HQ := Lib.hid (And.intro hq hz)
  have Hc : Hid (w1.cell? ⟨w.heap.size, 3, none⟩ = some (.int .u8 fill.toNat)) :=
    (World.cell?_of_block (hw1.out.2.block w.heap.size (by simp) (by simp))).trans (cell_of_row _ _ _ _ _ _ (heap_alloc_new w _))
  clear hq hz hw1
  go_loopw [13] (fun x wr => ∃ k : Nat, k ≤ 256 ∧ x = .int .i64 k ∧ Hid (Blk wr (w.heap.size + 1) (bvs (fillPart fill k)) 5 ∧ Fr noB w wr ∧ wr.cell? ⟨w.heap.size, 3, none⟩ = some (.int .u8 fill.toNat))) (fun x _ => 256 - (intOf x).toNat)
  case atStart => exact ⟨0, Nat.zero_le _, rfl, HQ.out.1, HQ.out.2, Hc.out⟩
  case round =>
    obtain ⟨k, hk, rfl, HR⟩ := hrel
    clear HQ Hc
    by_cases hlt : k < 256
    · have cf := HR.out.2.2
      have ck : wr.cell? ⟨w.heap.size + 1, k, none⟩ = some (bv ((fillPart fill k).getD k 0)) := by
        have hl : k < (fillPart fill k).length := by simp [fillPart, fillOf_length, zs_length]; omega
        rw [HR.out.1.cell]
        simp [bvs, hl]
      have fk := HR.out.1.free k
      go_wp2
      go_roundw
      case rel =>
        refine ⟨k + 1, by omega, by go_num, ?_⟩
        have ev : Value.int .u8 (((fill.toNat : Int) + (k : Int) / 16) % 256) = bv (fill + UInt8.ofNat (k / 16)) := by
          unfold bv
          rw [UInt8.toNat_add, UInt8.toNat_ofNat']
          congr 1
          omega
        rw [ev]
        refine ⟨?_, HR.out.2.1.setCell (.inr (by simp)) _, ?_⟩
        · rw [← fillPart_next fill k hlt]; exact HR.out.1.set k _
        · rw [← HR.out.2.2]; exact World.cell?_of_block (heap_setCell_other _ _ _ _ (by simp))
      case measure => simp [intOf]; omega
    · have hkk : k = 256 := by omega
      subst hkk
      have Hr : Hid (wr.rangeAt (w.heap.size + 1) 0 (bvs (fillOf fill))) := by
        have h1 := HR.out.1.range (o := 0) (n := 256)
        have e : ((bvs (fillPart fill 256)).drop 0).take 256 = bvs (fillOf fill) := by
          rw [List.drop_zero, bvs_take]
          exact congrArg bvs (by simp [fillPart, zs, List.take_of_length_le, fillOf_length])
        rw [e] at h1
        exact h1
      go_wp2_with ((with_reducible refine wpList_bytes_string ?_ 112 9 5 (.tmp 26) ?_ Tryd.underlying112 Tryd.underlying5 Tryd.underlying9 (w.heap.size + 1) 0 256 256 (fillOf fill) ?_ (fillOf_length fill).symm Hr.out ?_); (rfl); (rfl); (rfl))
      go_ret
      exact ⟨rfl, HR.out.2.1⟩
theorem sector_any (w : World) (k0 k1 k2 k3 k4 : Value) (s : List UInt8) (fill : UInt8) :
    Calls Tryd.prog 31 #[.agg #[k0, k1, .string ⟨s.toArray⟩, .int .u8 fill.toNat, k2, k3, k4]] w fun e w' => e = .returned (.string ⟨(secOf s fill).toArray⟩) ∧ Fr noB w w' := by
  by_cases hs : s = []
  · subst hs; exact sector_fill w k0 k1 k2 k3 k4 fill
  · rw [secOf, if_neg hs]; exact sector_given w k0 k1 k2 k3 k4 s fill hs
end Go.Proofs.YteklldbfdmaafaaDoor
/-
  The law's 'spare': a fate whose Kept has spare room.
-/
namespace Go.Proofs.YteklldbfdmaafaaDoor
open Go Go.RowKit

theorem info_bool3 : (Tryd.prog.info? 4).map (fun i => (i.zero.map (·.cells.size), i.size, i.bytes)) = some (some 1, 1, 1) := by kernel_rfl
theorem bools_one (l : List Bool) : ∀ u ∈ l.map Value.bool, u.oneCell' = true := by
  intro u hu; obtain ⟨b, _, rfl⟩ := List.mem_map.1 hu; rfl

theorem own_shape' {w : World} {base : Nat} {e : TypeId} {size : Nat} {v : Value} {n : Nat} {xs : List Value} (h : w.ownsRow base e size v (0 + n) xs) : ∃ a c, v = .slice a n c := by
  rw [Nat.zero_add] at h; exact own_shape h
theorem own_heap {w w' : World} {base : Nat} {e : TypeId} {size : Nat} {v : Value} {n : Nat} {xs : List Value} (h : w.ownsRow base e size v n xs) (hk : ∀ k, v.ownBlock = some k → w'.heap[k]? = w.heap[k]?) : w'.ownsRow base e size v n xs := by
  refine ⟨h.1, ?_⟩
  rcases h.2 with hn | ⟨g, cap, cur, rfl, hb, hgg, rest⟩
  · exact .inl hn
  · exact .inr ⟨g, cap, cur, rfl, hb, (hk g rfl).trans hgg, rest⟩
set_option maxRecDepth 100000 in
set_option maxHeartbeats 1000000 in
theorem spare_any (w : World) (kv : Value) (kept : List Bool) (torn bytes : Int) (hk : BoolsAt w kv kept) (hkl : kept.length ≤ 4294967296) :
    Calls Tryd.prog 28 #[.agg #[kv, .int .i64 torn, .int .i64 bytes]] w fun e w' => ∃ (g c : Nat), e = .returned (.tuple #[.agg #[.slice (some ⟨g, 0, none⟩) kept.length c, .int .i64 torn, .int .i64 bytes], .slice (some ⟨g, 0, none⟩) (kept.length + 3) c]) ∧
      w.heap.size ≤ g ∧ w'.ownsRow 0 4 1 (.slice (some ⟨g, 0, none⟩) (kept.length + 3) c) (kept.length + 3) ((kept ++ [true, false, true]).map .bool) ∧ Fr noB w w' := by
  obtain ⟨ka, kc, rfl, hkc, hka, -⟩ := hk
  have HK := Lib.hid (And.intro hkc hka)
  obtain ⟨wa, hwa⟩ : ∃ wa : World, wa = ((w.alloc (.cells #[.slice ka kept.length kc, .int .i64 torn, .int .i64 bytes] 25)).alloc (.cells #[.slice none 0 0, .int .i64 0, .int .i64 0] 25)).alloc (.cells #[] 4) := ⟨_, rfl⟩
  have HO : Hid (wa.ownsRow 0 4 1 (.slice (some ⟨w.heap.size + 2, 0, none⟩) 0 0) 0 []) := by
    refine ⟨rfl, .inr ⟨w.heap.size + 2, 0, #[], rfl, Nat.zero_le _, ?_, Nat.le_refl _, by unfold maxLen; omega, rfl, rfl⟩⟩
    rw [hwa]
    have := heap_alloc_new ((w.alloc (.cells #[.slice ka kept.length kc, .int .i64 torn, .int .i64 bytes] 25)).alloc (.cells #[.slice none 0 0, .int .i64 0, .int .i64 0] 25)) (.cells #[] 4)
    simpa using this
  have Hn : Hid (0 < kept.length → ∃ b o, ka = some ⟨b, o, none⟩ ∧ wa.rangeAt b o (kept.map .bool)) := fun h => by
    obtain ⟨b, o, h1, _, h3⟩ := HK.out.1 (by intro e; rw [e] at h; simp at h)
    exact ⟨b, o, h1, by rw [hwa]; exact World.rangeAt_alloc (World.rangeAt_alloc (World.rangeAt_alloc h3 _) _) _⟩
  have HF : Hid (Blk wa (w.heap.size + 1) [.slice none 0 0, .int .i64 0, .int .i64 0] 25 ∧ Blk wa w.heap.size [.slice ka kept.length kc, .int .i64 torn, .int .i64 bytes] 25 ∧ Fr noB w wa ∧ wa.heap.size = w.heap.size + 3) := by
    rw [hwa]
    refine ⟨?_, ?_, (((Fr.refl _ _).alloc _).alloc _).alloc _, by simp⟩
    · have := heap_alloc_new (w.alloc (.cells #[.slice ka kept.length kc, .int .i64 torn, .int .i64 bytes] 25)) (.cells #[.slice none 0 0, .int .i64 0, .int .i64 0] 25)
      exact (Below.heap_alloc _ _ _ (by simp)).trans (by simpa using this)
    · exact (Below.heap_alloc _ _ _ (by simp; omega)).trans ((Below.heap_alloc _ _ _ (by simp)).trans (heap_alloc_new w _))
  have Hwa := Lib.hid hwa
  have H3 : Hid (∀ u ∈ [Value.bool true, Value.bool false, Value.bool true], u.oneCell' = true) := bools_one [true, false, true]
  clear hkc hka hwa
  go_enter Tryd.func28, Tryd.ntmps28
  go_wp2_with (first | ((with_reducible refine wpList_append_any ?_ (.tmp 5) (.tmp 7) 23 4 ?_ Tryd.underlying23 1 1 info_bool3 (by omega) (.slice (some ⟨w.heap.size + 2, 0, none⟩) 0 0) 0 [] ?_ (Hwa.out ▸ HO.out) ka kept.length kc (kept.map .bool) ?_ (by simp) (Hwa.out ▸ Hn.out) HK.out.2 (bools_one _) (by unfold maxLen; omega) (by omega) ?_); (rfl); (rfl); (rfl); (rfl); (intro v1 w1 hw1; obtain ⟨a1, c1, rfl⟩ := own_shape' hw1.out.1; have HO1 : Hid (w1.ownsRow 0 4 1 (.slice a1 kept.length c1) kept.length (kept.map .bool)) := (by have h := hw1.out.1; rw [Nat.zero_add, List.nil_append] at h; exact h))) | ((with_reducible refine wpList_append_row ?_ (.tmp 8) (.tmp 9) 23 4 ?_ Tryd.underlying23 1 1 info_bool3 (by omega) (.slice a1 kept.length c1) kept.length (kept.map .bool) ?_ (HO1.out.alloc _) w1.heap.size 0 3 3 [.bool true, .bool false, .bool true] ?_ rfl (range_new w1 _ _) H3.out (by unfold maxLen; omega) (by omega) ?_); (rfl); (rfl); (rfl); (rfl); (intro v2 w2 hw2; obtain ⟨g, c2, rfl, hg2, hr2⟩ := own_range hw2.out.1 (by omega))))
  have hsz := HF.out.2.2.2
  have g1 := hw1.out.2.1
  have g2 := hw2.out.2.1
  rw [← Hwa.out] at g1
  have hloc1 := hw1.out.2.2
  rw [← Hwa.out, hsz] at hloc1
  have hn1 : ∀ q, (Value.slice a1 kept.length c1).ownBlock = some q → w.heap.size + 2 ≤ q := fun q hq => by
    rcases hloc1 with h | h <;> rw [h] at hq <;> simp [Value.ownBlock] at hq <;> omega
  have hs1 : w.heap.size + 3 ≤ w1.heap.size := by have := g1.size; omega
  have hk : ∀ k, k ≤ w.heap.size + 1 → w2.heap[k]? = wa.heap[k]? := fun k hk =>
    ((g2.block k (by simp; omega) (by intro e; have := hn1 k e.symm; omega)).trans (Below.heap_alloc _ _ _ (by omega))).trans (g1.block k (by omega) (by simp [Value.ownBlock]; omega))
  have hgs : w.heap.size + 2 ≤ g := by
    rcases hw2.out.2.2 with h | h
    · exact hn1 g (by rw [← h]; rfl)
    · simp [Value.ownBlock] at h; omega
  have HB1 : Hid (Blk w2 (w.heap.size + 1) [.slice none 0 0, .int .i64 0, .int .i64 0] 25) := HF.out.1.keep (hk _ (by omega))
  have HB0 : Hid (Blk w2 w.heap.size [.slice ka kept.length kc, .int .i64 torn, .int .i64 bytes] 25) := HF.out.2.1.keep (hk _ (by omega))
  have HFr : Hid (Fr noB w w2) := (((HF.out.2.2.1.grown g1 (fun k hk => by simp [Value.ownBlock] at hk; exact .inr (by omega))).alloc _).grown g2 (fun k hk => .inr (by have := hn1 k hk; omega)))
  have hcap : kept.length + 3 ≤ c2 := by
    rcases hw2.out.1.2 with h | ⟨g', cap, cur, hv, _, _, h4, _⟩
    · cases h.1
    · cases hv; exact h4
  have hcapM : c2 ≤ 9223372036854775807 := by
    rcases hw2.out.1.2 with h | ⟨g', cap, cur, hv, _, _, _, h5, _⟩
    · cases h.1
    · cases hv; exact h5
  have hc0 : (0 : Int) ≤ (kept.length : Int) := by omega
  have hc1 : (kept.length : Int) ≤ (c2 : Int) := by omega
  have HW2 := Lib.hid hw2.out.1
  have HB1d : Hid (Blk w2.drew (w.heap.size + 1) [.slice none 0 0, .int .i64 0, .int .i64 0] 25) := HB1.out
  have H6 : Hid (0 + ([.slice (some ⟨g, 0, none⟩) kept.length c2, .int .i64 torn, .int .i64 bytes] : List Value).length ≤ ([.slice none 0 0, .int .i64 0, .int .i64 0] : List Value).length) := Nat.le_refl 3
  have H5 : Hid (∀ v ∈ ([.slice (some ⟨g, 0, none⟩) kept.length c2, .int .i64 torn, .int .i64 bytes] : List Value), v.oneCell' = true) := by
    intro v hv
    rcases List.mem_cons.1 hv with h | hv
    · subst h; rfl
    rcases List.mem_cons.1 hv with h | hv
    · subst h; rfl
    rcases List.mem_cons.1 hv with h | hv
    · subst h; rfl
    cases hv
  clear hk hn1 hloc1 g1 g2 hw1 hw2 HO1 hr2 H3 HF HO Hn Hwa HK hs1 hsz
  refine wp_region_reads 11 11 (fun w' => w'.cell? ⟨w.heap.size, 0, none⟩ = some (.slice ka kept.length kc) ∧ w'.cell? ⟨w.heap.size, 1, none⟩ = some (.int .i64 torn) ∧ w'.cell? ⟨w.heap.size, 2, none⟩ = some (.int .i64 bytes)) (by kernel_rfl) ?_ ?_ ⟨HB0.out.cell 0, HB0.out.cell 1, HB0.out.cell 2⟩ ?_
  · kernel_rfl
  · intro c a d v w h; cases d <;> exact h
  simp only [List.take_succ_cons, List.take_zero, List.drop_succ_cons, List.drop_zero, Nat.reduceSub]
  refine readsT_move rfl _ rfl (.slice (some ⟨g, 0, none⟩) (kept.length + 3) c2) rfl ?_
  go_frame
  refine readsT_pure rfl rfl (.pointer (some ⟨w.heap.size, 0, none⟩)) (fun w' => by go_simp) ?_
  go_frame
  refine readsT_load rfl rfl (.slice ka kept.length kc) (fun w' hS => by have hS1 := hS.1; clear hS; go_simp) ?_
  go_frame
  refine readsT_pure rfl rfl (.int .i64 kept.length) (fun w' => by go_simp) ?_
  go_frame
  refine readsT_pure rfl rfl (.slice (some ⟨g, 0, none⟩) kept.length c2) (fun w' => by go_simp) ?_
  go_frame
  refine readsT_pure rfl rfl (.pointer (some ⟨w.heap.size, 1, none⟩)) (fun w' => by go_simp) ?_
  go_frame
  refine readsT_load rfl rfl (.int .i64 torn) (fun w' hS => by have hS1 := hS.2.1; clear hS; go_simp) ?_
  go_frame
  refine readsT_pure rfl rfl (.pointer (some ⟨w.heap.size, 2, none⟩)) (fun w' => by go_simp) ?_
  go_frame
  refine readsT_load rfl rfl (.int .i64 bytes) (fun w' hS => by have hS1 := hS.2.2; clear hS; go_simp) ?_
  go_frame
  refine readsT_pure rfl rfl (.agg [.slice (some ⟨g, 0, none⟩) kept.length c2, .int .i64 torn, .int .i64 bytes].toArray) (fun w' => by go_simp) ?_
  go_frame
  refine readsT_move rfl _ rfl (.slice (some ⟨g, 0, none⟩) (kept.length + 3) c2) rfl ?_
  go_frame
  unfold readsT earlyT
  (with_reducible refine wpList_store_lay ?_ 25 (.tmp 2) (.tmp 20) ?_ (w.heap.size + 1) 0 _ [.slice (some ⟨g, 0, none⟩) kept.length c2, .int .i64 torn, .int .i64 bytes] 25 ?_ ?_ HB1d.out H6.out (by kernel_rfl) H5.out ?_); rfl; rfl; rfl; rfl
  have HF3 : Hid (∀ cs, Fr noB w (w2.drew.setRow (w.heap.size + 1) cs)) := fun cs => (HFr.out.drew).setRow (.inr (by omega)) cs
  have HB3 := HB1d.out.row (lay [.slice none 0 0, .int .i64 0, .int .i64 0] 0 [.slice (some ⟨g, 0, none⟩) kept.length c2, .int .i64 torn, .int .i64 bytes])
  have HW3 : Hid (∀ cs, (w2.drew.setRow (w.heap.size + 1) cs).ownsRow 0 4 1 (.slice (some ⟨g, 0, none⟩) (kept.length + 3) c2) (kept.length + 3) ((kept ++ [true, false, true]).map .bool)) := fun cs => by
    have e : (kept ++ [true, false, true]).map Value.bool = kept.map .bool ++ [.bool true, .bool false, .bool true] := by simp
    rw [e]
    refine own_heap HW2.out fun k hk => ?_
    obtain rfl : g = k := by simpa [Value.ownBlock] using hk
    exact setRow_other _ _ _ _ (by omega)
  have c0 := HB3.cell 0
  have c1 := HB3.cell 1
  have c2' := HB3.cell 2
  have hlay : lay ([.slice none 0 0, .int .i64 0, .int .i64 0] : List Value) 0 [.slice (some ⟨g, 0, none⟩) kept.length c2, .int .i64 torn, .int .i64 bytes] = [.slice (some ⟨g, 0, none⟩) kept.length c2, .int .i64 torn, .int .i64 bytes] := rfl
  rw [hlay] at c0 c1 c2'
  simp only [List.getElem?_cons_zero, List.getElem?_cons_succ] at c0 c1 c2'
  rw [hlay]
  go_wp2
  refine bodyPost_ret (v := .tuple #[.agg #[.slice (some ⟨g, 0, none⟩) kept.length c2, .int .i64 torn, .int .i64 bytes], .slice (some ⟨g, 0, none⟩) (kept.length + 3) c2]) (by simp [results, Tryd.results28, go_sem, c0, c1, c2']) rfl ⟨g, c2, rfl, by omega, HW3.out _, HF3.out _⟩
end Go.Proofs.YteklldbfdmaafaaDoor
/-
  The scripts of the laws of chapter 6: calls as plain data, and how they lie in memory.
-/
namespace Go.Proofs.YteklldbfdmaafaaDoor
open Go Go.RowKit

/-- a call of a script -/
structure POp where
  kind : Int
  i : Int
  s : List UInt8
  fill : UInt8
  kept : List Bool
  torn : Int
  bytes : Int

/-- its seven cells -/
def POp.cells (o : POp) (kv : Value) : List Value := [.int .i64 o.kind, .int .i64 o.i, .string ⟨o.s.toArray⟩, .int .u8 o.fill.toNat, kv, .int .i64 o.torn, .int .i64 o.bytes]
/-- the bytes it writes -/
def POp.sec (o : POp) : List UInt8 := secOf o.s o.fill

/-- the script's cells at an address, and the Kept slices that they hold -/
def OpsAt (w : World) (b o : Nat) (ops : List POp) : Prop :=
  ∀ k op, ops[k]? = some op → ∃ kv, w.rangeAt b (o + 7 * k) (op.cells kv) ∧ BoolsAt w kv op.kept
def ScriptAt (w : World) (v : Value) (ops : List POp) : Prop :=
  ∃ a c, v = .slice a ops.length c ∧ (ops ≠ [] → ∃ b o, a = some ⟨b, o, none⟩ ∧ b < w.heap.size ∧ OpsAt w b o ops)

theorem range_keep {w w' : World} {b o : Nat} {cs : List Value} (h : w.rangeAt b o cs) (e : w'.heap[b]? = w.heap[b]?) : w'.rangeAt b o cs := by
  intro j v hj
  have := h j v hj
  unfold World.cell? at this ⊢
  rw [show (⟨b, o + j, none⟩ : Addr).block = b from rfl] at this ⊢
  rw [e]; exact this
theorem BoolsAt.keepB {w w' : World} {kv : Value} {l : List Bool} (h : BoolsAt w kv l) (hs : w.heap.size ≤ w'.heap.size) (hk : ∀ g, g < w.heap.size → w'.heap[g]? = w.heap[g]?) : BoolsAt w' kv l := by
  obtain ⟨a, c, rfl, h1, h2, h3⟩ := h
  refine ⟨a, c, rfl, fun hl => ?_, h2, h3⟩
  obtain ⟨b, o, rfl, hb, hr⟩ := h1 hl
  exact ⟨b, o, rfl, by omega, range_keep hr (hk b hb)⟩
theorem ScriptAt.keep {w w' : World} {v : Value} {ops : List POp} (h : ScriptAt w v ops) (hs : w.heap.size ≤ w'.heap.size) (hk : ∀ g, g < w.heap.size → w'.heap[g]? = w.heap[g]?) : ScriptAt w' v ops := by
  obtain ⟨a, c, rfl, h1⟩ := h
  refine ⟨a, c, rfl, fun hl => ?_⟩
  obtain ⟨b, o, rfl, hb, ho⟩ := h1 hl
  refine ⟨b, o, rfl, by omega, fun k op hop => ?_⟩
  obtain ⟨kv, h3, h4⟩ := ho k op hop
  exact ⟨kv, range_keep h3 (hk b hb), h4.keepB hs hk⟩
theorem ErrsAt.keepB {w w' : World} {E : Nat → Addr} (h : ErrsAt w E) (hs : w.heap.size ≤ w'.heap.size) (hk : ∀ g, g < w.heap.size → w'.heap[g]? = w.heap[g]?) : ErrsAt w' E := by
  have _ := hs
  refine ⟨fun k h1 h2 => ?_, fun k h1 h2 => ?_, h.inj⟩
  · have h3 := h.at_ k h1 h2
    unfold ErrAt at h3 ⊢
    have hb := block_lt_of_cell h3
    rw [World.cell?_of_block (w := w) (hk _ hb)]
    exact h3
  · obtain ⟨ca, ta, h3⟩ := h.obj k h1 h2
    exact ⟨ca, ta, (hk _ (Array.getElem?_eq_some_iff.1 h3).1).trans h3⟩

/-- what 'made' does with a call -/
def POp.make (n : Nat) (o : POp) (D : Dsk) : Dsk :=
  if o.kind = 1 then D.writeD (((o.i % 18446744073709551616).toNat % n : Nat) : Int) o.sec
  else if o.kind = 2 then D.flushD
  else if o.kind = 4 then D.crash o.kept o.torn o.bytes
  else D
def makeAll (n : Nat) (l : List POp) (D : Dsk) : Dsk := l.foldl (fun D o => o.make n D) D
/-- the number of sectors -/
def madeN (n : Int) : Nat := 1 + (n % 18446744073709551616).toNat % 40
theorem madeN_1 (n : Int) : 1 ≤ madeN n := by unfold madeN; omega
theorem madeN_2 (n : Int) : madeN n ≤ 40 := by unfold madeN; omega
end Go.Proofs.YteklldbfdmaafaaDoor
/-
  The disk's methods as contracts over parts of memory.
-/
namespace Go.Proofs.YteklldbfdmaafaaDoor
open Go Go.RowKit

theorem DiskAt.move {w w' : World} {F : Nat → Prop} {p : Nat} {D : Dsk} (hd : DiskAt w F p D) (h : ∀ k, F k → w'.heap[k]? = w.heap[k]?) : DiskAt w' F p D := by
  obtain ⟨pd, pm, uv, hp, hpd, hu, hm, hF, hb, hok⟩ := hd
  refine ⟨pd, pm, uv, hp.keep (h _ hF.1), hpd.keep (h _ hF.2.1), ownsRow_keep hu (fun g hg => h _ (hF.2.2.2 g hg)), hm.keep (h _ hF.2.2.1), hF, fun k hk => ⟨(hb k hk).1, ?_⟩, hok⟩
  have h1 := h k hk
  have h2 := (hb k hk).2
  rw [Array.getElem?_eq_getElem h2] at h1
  exact (Array.getElem?_eq_some_iff.1 h1).1
/-- the disk D at block p, with all its blocks -/
def DiskP (p : Nat) (D : Dsk) : SP := ⟨10, p, fun h => ∃ w F, DiskAt w F p D ∧ ∀ k, F k → h k = w.heap[k]?⟩

section
variable {P : Program} {W : World}
theorem DiskP.at {w : World} {h : Hl} {p : Nat} {D : Dsk} (hd : (DiskP p D).ok h) (l : Lies W w h) : ∃ F, DiskAt w F p D ∧ ∀ k, F k → ∃ o, h k = some o := by
  obtain ⟨w0, F, hd, e⟩ := hd
  have hs : ∀ k, F k → ∃ o, h k = some o ∧ w0.heap[k]? = some o := fun k hk => by
    have := (hd.bound k hk).2
    exact ⟨_, (e k hk).trans (Array.getElem?_eq_getElem this), Array.getElem?_eq_getElem this⟩
  refine ⟨F, hd.move fun k hk => ?_, fun k hk => (hs k hk).imp fun o h => h.1⟩
  obtain ⟨o, h1, h2⟩ := hs k hk
  rw [h2]; exact (l k o h1).2
open Classical in
theorem DiskP.of {w : World} {F : Nat → Prop} {p : Nat} {D : Dsk} (hd : DiskAt w F p D) : (DiskP p D).ok (fun k => if F k then w.heap[k]? else none) := ⟨w, F, hd, fun k hk => by simp [hk]⟩

/-- a method's contract, out of one that is said of a world -/
theorem Ct_disk {X : Type} {r : X → Value} {f : FuncId} {args : List Value} {p : Nat} {D : Dsk} {D' : X → Dsk} (Hk : List SP)
    (h : ∀ w F hk, Below W.heap.size W w → DiskAt w F p D → starL Hk hk → Lies W w hk → (∀ k o, hk k = some o → ¬ F k) → (∀ k, F k → W.heap.size ≤ k) → Calls P f args.toArray w fun e w' => ∃ x F', e = .returned (r x) ∧ DiskAt w' F' p (D' x) ∧ Fr F w w' ∧ ∀ k, F' k → F k ∨ w.heap.size ≤ k) :
    Ct P W f args (DiskP p D :: Hk) r (fun x => DiskP p (D' x) :: Hk) := by
  refine ⟨fun R w s => ?_⟩
  obtain ⟨h1, h2, dj, hA, hH, l1, l2⟩ := (show St W ([DiskP p D] ++ (Hk ++ R)) w from s).split
  obtain ⟨ha, _, _, lea, _, hd, _⟩ := hA
  obtain ⟨F, hd, hF⟩ := DiskP.at hd (l1.mono lea)
  have hF1 : ∀ k, F k → ∃ o, h1 k = some o := fun k hk => (hF k hk).imp fun o h => lea k o h
  obtain ⟨hk, hr, djk, le3, le4, hHk, hHr⟩ := (starL_append h2).1 hH
  refine (h w F hk s.below hd hHk (l2.mono le3) (fun k o q hk' => ?_) (fun k hk' => ?_)).mono ?_
  · obtain ⟨o', h'⟩ := hF1 k hk'
    have := dj k o' h'
    rw [le3 k o q] at this; cases this
  · obtain ⟨o', h'⟩ := hF1 k hk'
    exact (l1 k o' h').1
  rintro e w' ⟨x, F', rfl, hd', hf, hF'⟩
  refine ⟨x, rfl, ?_⟩
  show St W ([DiskP p (D' x)] ++ (Hk ++ R)) w'
  refine St.join s.below dj hH l1 l2 (starL_one (DiskP.of hd')) hf.os hf.tape hf.output hf.size ?_ ?_ ?_
  · intro k o q
    by_cases hk : F' k
    · simpa [hk] using q
    · simp [hk] at q
  · intro k o q
    by_cases hk : F' k
    · rcases hF' k hk with h | h
      · exact .inl (hF1 k h)
      · exact .inr h
    · simp [hk] at q
  · intro k hk hn
    refine hf.block k hk (fun h => ?_)
    obtain ⟨o, h'⟩ := hF1 k h
    rw [hn] at h'; cases h'
/-- a contract that only makes memory, out of one that is said of a world -/
theorem Ct_pure {X : Type} {r : X → Value} {f : FuncId} {args : List Value} (Hk : List SP)
    (h : ∀ w hk, Below W.heap.size W w → starL Hk hk → Lies W w hk → Calls P f args.toArray w fun e w' => ∃ x, e = .returned (r x) ∧ Fr noB w w') :
    Ct P W f args Hk r (fun _ => Hk) := by
  refine ⟨fun R w s => ?_⟩
  obtain ⟨h1, h2, dj, hA, hH, l1, l2⟩ := s.split
  refine (h w h1 s.below hA l1).mono ?_
  rintro e w' ⟨x, rfl, hf⟩
  refine ⟨x, rfl, ?_⟩
  have keep : ∀ k, k < w.heap.size → w'.heap[k]? = w.heap[k]? := fun k hk => hf.block k hk (by simp [noB])
  exact St.join (g := h1) s.below dj hH l1 l2 hA hf.os hf.tape hf.output hf.size (fun k o q => (keep k (l1.lt q)).trans (l1 k o q).2) (fun k o q => .inl ⟨o, q⟩) (fun k hk _ => keep k hk)
/-- a contract that makes a part of its own -/
theorem Ct_made {X : Type} {r : X → Value} {f : FuncId} {args : List Value} {A : X → SP}
    (h : ∀ w, Below W.heap.size W w → Calls P f args.toArray w fun e w' => ∃ x, e = .returned (r x) ∧ Fr noB w w' ∧ ∃ g : Hl, (A x).ok g ∧ ∀ k o, g k = some o → w.heap.size ≤ k ∧ w'.heap[k]? = some o) :
    Ct P W f args [] r (fun x => [A x]) := by
  refine ⟨fun R w s => ?_⟩
  obtain ⟨h1, h2, dj, hA, hH, l1, l2⟩ := s.split
  refine (h w s.below).mono ?_
  rintro e w' ⟨x, rfl, hf, g, hg, hl⟩
  refine ⟨x, rfl, ?_⟩
  have keep : ∀ k, k < w.heap.size → w'.heap[k]? = w.heap[k]? := fun k hk => hf.block k hk (by simp [noB])
  exact St.join (g := g) s.below dj hH l1 l2 (starL_one hg) hf.os hf.tape hf.output hf.size (fun k o q => (hl k o q).2) (fun k o q => .inr (hl k o q).1) (fun k hk _ => keep k hk)

/-- some of the errors lie in their variables, each its own -/
structure ErrsOn (S : List Nat) (w : World) (E : Nat → Addr) : Prop where
  at_ : ∀ k, k ∈ S → ErrAt w E k
  obj : ∀ k, k ∈ S → ∃ ca ta, w.heap[(E k).block]? = some (.cells ca ta (0, 0))
  inj : ∀ j k, j ∈ S → k ∈ S → E j = E k → j = k
  pos : ∀ k, k ∈ S → 1 ≤ k
abbrev L8 : List Nat := [3, 6, 7, 12, 14]
theorem ErrsAt.on {w : World} {E : Nat → Addr} (h : ErrsAt w E) : ErrsOn L8 w E := by
  have hS : ∀ k ∈ L8, 1 ≤ k ∧ k ≤ 37 := by decide
  exact ⟨fun k hk => h.at_ k (hS k hk).1 (hS k hk).2, fun k hk => h.obj k (hS k hk).1 (hS k hk).2, fun j k hj hk => h.inj j k (hS j hj).1 (hS j hj).2 (hS k hk).1 (hS k hk).2, fun k hk => (hS k hk).1⟩
theorem ErrsAt.all {w : World} {E : Nat → Addr} (h : ErrsAt w E) : ErrsOn (List.range' 1 37) w E := by
  have hS : ∀ k ∈ List.range' 1 37, 1 ≤ k ∧ k ≤ 37 := by decide
  exact ⟨fun k hk => h.at_ k (hS k hk).1 (hS k hk).2, fun k hk => h.obj k (hS k hk).1 (hS k hk).2, fun j k hj hk => h.inj j k (hS j hj).1 (hS j hj).2 (hS k hk).1 (hS k hk).2, fun k hk => (hS k hk).1⟩
theorem ErrAt.keepB {w w' : World} {E : Nat → Addr} {k : Nat} (h : ErrAt w E k) (hk : ∀ g, g < w.heap.size → w'.heap[g]? = w.heap[g]?) : ErrAt w' E k := by
  unfold ErrAt at h ⊢
  have hb := World.block_lt_of_cell? w _ h
  rw [World.cell?_of_block (w := w) (hk _ hb)]
  exact h
theorem ErrsOn.later {S : List Nat} {W w : World} {E : Nat → Addr} (h : ErrsOn S W E) (b : Below W.heap.size W w) : ErrsOn S w E :=
  ⟨fun k hk => (h.at_ k hk).keepB b.block, fun k hk => by
    obtain ⟨ca, ta, q⟩ := h.obj k hk
    exact ⟨ca, ta, (b.block _ (Array.getElem?_eq_some_iff.1 q).1).trans q⟩, h.inj, h.pos⟩
theorem ErrsAt.later {w : World} {E : Nat → Addr} (h : ErrsAt W E) (b : Below W.heap.size W w) : ErrsAt w E := h.keepB b.size b.block
end
section
variable {W : World} {E : Nat → Addr} {p : Nat} {D : Dsk}
theorem fr_below {F : Nat → Prop} {w w' : World} (h : w = w') : Fr F w w' := by subst h; exact Fr.refl _ _
theorem size_ct : Ct Tryd.prog W 40 [.pointer (some ⟨p, 0, none⟩)] [DiskP p D] (fun _ : Unit => .int .i64 D.n) (fun _ => [DiskP p D]) :=
  Ct_disk (D' := fun _ => D) [] fun w F _ _ hd _ _ _ _ => (size_any w F p D hd).mono fun _ _ ⟨he, hw⟩ => ⟨(), F, he, hw ▸ hd, fr_below hw, fun _ h => .inl h⟩
theorem pending_ct : Ct Tryd.prog W 25 [.pointer (some ⟨p, 0, none⟩)] [DiskP p D] (fun _ : Unit => .int .i64 D.und.length) (fun _ => [DiskP p D]) :=
  Ct_disk (D' := fun _ => D) [] fun w F _ _ hd _ _ _ _ => (pending_any w F p D hd).mono fun _ _ ⟨he, hw⟩ => ⟨(), F, he, hw ▸ hd, fr_below hw, fun _ h => .inl h⟩
theorem off_ct : Ct Tryd.prog W 30 [.pointer (some ⟨p, 0, none⟩)] [DiskP p D] (fun _ : Unit => .bool D.off) (fun _ => [DiskP p D]) :=
  Ct_disk (D' := fun _ => D) [] fun w F _ _ hd _ _ _ _ => (off_any w F p D hd).mono fun _ _ ⟨he, hw⟩ => ⟨(), F, he, hw ▸ hd, fr_below hw, fun _ h => .inl h⟩
theorem life_ct : Ct Tryd.prog W 41 [.pointer (some ⟨p, 0, none⟩)] [DiskP p D] (fun _ : Unit => .int .i64 D.life) (fun _ => [DiskP p D]) :=
  Ct_disk (D' := fun _ => D) [] fun w F _ _ hd _ _ _ _ => (life_any w F p D hd).mono fun _ _ ⟨he, hw⟩ => ⟨(), F, he, hw ▸ hd, fr_below hw, fun _ h => .inl h⟩
theorem counts_ct : Ct Tryd.prog W 38 [.pointer (some ⟨p, 0, none⟩)] [DiskP p D] (fun _ : Unit => .tuple #[.int .i64 D.writes, .int .i64 D.flushes]) (fun _ => [DiskP p D]) :=
  Ct_disk (D' := fun _ => D) [] fun w F _ _ hd _ _ _ _ => (counts_any w F p D hd).mono fun e w' ⟨he, m, hw⟩ => ⟨(), F, he, by subst hw; exact hd.fr ((Fr.refl noB w).drewN m) (fun _ _ q => q), by subst hw; exact (Fr.refl F w).drewN m, fun _ h => .inl h⟩
theorem arm_ct (k : Int) (hk : k ≤ 9223372036854775807) : Ct Tryd.prog W 37 [.pointer (some ⟨p, 0, none⟩), .int .i64 k] [DiskP p D] (fun _ : Unit => .tuple #[]) (fun _ => [DiskP p (D.arm k)]) :=
  Ct_disk (D' := fun _ => D.arm k) [] fun w F _ _ hd _ _ _ _ => (arm_any w F p D hd k hk).mono fun _ _ ⟨he, hd', hf⟩ => ⟨(), F, he, hd', hf, fun _ h => .inl h⟩
theorem read_ct (hE : ErrsOn L8 W E) (i : Int) : Ct Tryd.prog W 26 [.pointer (some ⟨p, 0, none⟩), .int .i64 i] [DiskP p D] (fun _ : Unit => .tuple #[strV (D.readS i), errV E (D.readE i)]) (fun _ => [DiskP p D]) :=
  Ct_disk (D' := fun _ => D) [] fun w F _ b hd _ _ _ _ => (read_any w F p D E hd i ((hE.later b).at_ 12 (by decide)) ((hE.later b).at_ 6 (by decide))).mono fun e w' ⟨he, hf⟩ => ⟨(), F, he, hd.fr hf (fun _ _ q => q), hf.mono (fun _ q => q.elim), fun _ h => .inl h⟩
theorem write_ct (hE : ErrsOn L8 W E) (i : Int) (s : List UInt8) (hul : D.und.length < 1073741824) : Ct Tryd.prog W 32 [.pointer (some ⟨p, 0, none⟩), .int .i64 i, strV s] [DiskP p D] (fun _ : Unit => errV E (D.writeE i s)) (fun _ => [DiskP p (D.writeD i s)]) :=
  Ct_disk (D' := fun _ => D.writeD i s) [] fun w F _ b hd _ _ _ _ => (write_any w F p D E hd i s ((hE.later b).at_ 12 (by decide)) ((hE.later b).at_ 6 (by decide)) ((hE.later b).at_ 7 (by decide)) hul).mono fun e w' ⟨he, F', hd', hf, hF⟩ => ⟨(), F', he, hd', hf, hF⟩
theorem flush_ct (hE : ErrsOn L8 W E) (hul : D.und.length < 1073741824) : Ct Tryd.prog W 24 [.pointer (some ⟨p, 0, none⟩)] [DiskP p D] (fun _ : Unit => errV E D.flushE) (fun _ => [DiskP p D.flushD]) :=
  Ct_disk (D' := fun _ => D.flushD) [] fun w F _ b hd _ _ _ _ => (flush_any w F p D E hd ((hE.later b).at_ 12 (by decide)) hul).mono fun e w' ⟨he, hd', hf⟩ => ⟨(), F, he, hd', hf, fun _ h => .inl h⟩
theorem image_ct : Ct Tryd.prog W 27 [.pointer (some ⟨p, 0, none⟩)] [DiskP p D] (fun _ : Unit => strV D.img) (fun _ => [DiskP p D]) :=
  Ct_disk (D' := fun _ => D) [] fun w F _ _ hd _ _ _ _ => (image_any w F p D hd).mono fun _ _ ⟨he, hf⟩ => ⟨(), F, he, hd.fr hf (fun _ _ q => q), hf.mono (fun _ q => q.elim), fun _ h => .inl h⟩
theorem num_ct (hE : ErrsAt W E) (hg : gB ≤ W.heap.size) (k : Nat) (hk : k ≤ 37) : Ct Tryd.prog W 35 [errV E k] [] (fun _ : Unit => .int .i64 k) (fun _ => []) :=
  Ct_pure [] fun w _ b _ _ => (num_any w E (hE.later b) (Nat.le_trans hg b.size) k hk).mono fun _ _ ⟨he, hf⟩ => ⟨(), he, hf⟩
theorem new_ct (n : Nat) (h1 : 1 ≤ n) (h2 : n ≤ 65536) (hg : gB ≤ W.heap.size) : Ct Tryd.prog W 33 [.int .i64 n] [] (fun p : Nat => .tuple #[.pointer (some ⟨p, 0, none⟩), .nilIface]) (fun p => [DiskP p (Dsk.blank n)]) :=
  Ct_made fun w b => (new_ok w n h1 h2 (Nat.le_trans hg b.size)).mono fun e w' ⟨p, F, he, hd, hf, hF⟩ => ⟨p, he, hf, _, DiskP.of hd, fun k o q => by
    by_cases hk : F k
    · exact ⟨hF k hk, by simpa [hk] using q⟩
    · simp [hk] at q⟩
theorem from_ct (l : List UInt8) (n : Nat) (hl : l.length = n * 256) (h1 : 1 ≤ n) (h2 : n ≤ 65536) (hg : gB ≤ W.heap.size) : Ct Tryd.prog W 39 [strV l] [] (fun p : Nat => .tuple #[.pointer (some ⟨p, 0, none⟩), .nilIface]) (fun p => [DiskP p (Dsk.of l)]) :=
  Ct_made fun w b => (from_ok w l n hl h1 h2 (Nat.le_trans hg b.size)).mono fun e w' ⟨p, F, he, hd, hf, hF⟩ => ⟨p, he, hf, _, DiskP.of hd, fun k o q => by
    by_cases hk : F k
    · exact ⟨hF k hk, by simpa [hk] using q⟩
    · simp [hk] at q⟩
theorem new_bad_ct (hE : ErrsOn L8 W E) (n : Int) (h : n < 1 ∨ 65536 < n) : Ct Tryd.prog W 33 [.int .i64 n] [] (fun _ : Unit => .tuple #[.pointer none, errV E 6]) (fun _ => []) :=
  Ct_pure [] fun w _ b _ _ => (new_bad w n E ((hE.later b).at_ 6 (by decide)) h).mono fun e w' ⟨he, hf⟩ => ⟨(), he, hf⟩
theorem from_form_ct (hE : ErrsOn L8 W E) (l : List UInt8) (hl : l.length % 256 ≠ 0) (hlb : l.length ≤ 9223372036854775807) : Ct Tryd.prog W 39 [strV l] [] (fun _ : Unit => .tuple #[.pointer none, errV E 7]) (fun _ => []) :=
  Ct_pure [] fun w _ b _ _ => (from_form w l E ((hE.later b).at_ 7 (by decide)) hl hlb).mono fun e w' ⟨he, hf⟩ => ⟨(), he, hf⟩
theorem from_range_ct (hE : ErrsOn L8 W E) (l : List UInt8) (hl : l.length % 256 = 0) (hlb : l.length ≤ 9223372036854775807) (h : l.length / 256 < 1 ∨ 65536 < l.length / 256) : Ct Tryd.prog W 39 [strV l] [] (fun _ : Unit => .tuple #[.pointer none, errV E 6]) (fun _ => []) :=
  Ct_pure [] fun w _ b _ _ => (from_range w l E ((hE.later b).at_ 6 (by decide)) hl hlb h).mono fun e w' ⟨he, hf⟩ => ⟨(), he, hf⟩
theorem sector_ct (k0 k1 k2 k3 k4 : Value) (s : List UInt8) (fill : UInt8) : Ct Tryd.prog W 31 [.agg #[k0, k1, strV s, .int .u8 fill.toNat, k2, k3, k4]] [] (fun _ : Unit => strV (secOf s fill)) (fun _ => []) :=
  Ct_pure [] fun w _ _ _ _ => (sector_any w k0 k1 k2 k3 k4 s fill).mono fun _ _ ⟨he, hf⟩ => ⟨(), he, hf⟩
/-- Crash: what is kept lies among Hk, or where it lay when all began -/
theorem crash_gen (Hk : List SP) (kv : Value) (kept : List Bool) (torn bytes : Int) (hk : ∀ w h, Below W.heap.size W w → starL Hk h → Lies W w h → BoolsAt w kv kept ∧ (kept ≠ [] → ∀ g, kv.ownBlock = some g → (∃ o, h g = some o) ∨ g < W.heap.size)) (hul : D.und.length < 1073741824) :
    Ct Tryd.prog W 29 [.pointer (some ⟨p, 0, none⟩), .agg #[kv, .int .i64 torn, .int .i64 bytes]] (DiskP p D :: Hk) (fun _ : Unit => .tuple #[]) (fun _ => DiskP p (D.crash kept torn bytes) :: Hk) :=
  Ct_disk (D' := fun _ => D.crash kept torn bytes) Hk fun w F h b hd hh hl hF hW => by
    obtain ⟨h1, h2⟩ := hk w h b hh hl
    refine (crash_any w F p D hd kv kept torn bytes h1 (fun hne g hg hFg => ?_) hul).mono fun e w' ⟨he, hd', hf⟩ => ⟨(), F, he, hd', hf, fun _ h => .inl h⟩
    rcases h2 hne g hg with ⟨o, ho⟩ | hlt
    · exact hF g o ho hFg
    · have := hW g hFg; omega
/-- Crash: what is kept lay there when all began -/
theorem crash_old {kv : Value} {kept : List Bool} (torn bytes : Int) (hk : BoolsAt W kv kept) (hul : D.und.length < 1073741824) :
    Ct Tryd.prog W 29 [.pointer (some ⟨p, 0, none⟩), .agg #[kv, .int .i64 torn, .int .i64 bytes]] [DiskP p D] (fun _ : Unit => .tuple #[]) (fun _ => [DiskP p (D.crash kept torn bytes)]) :=
  crash_gen [] kv kept torn bytes (fun w h b _ _ => ⟨hk.keepB b.size b.block, fun hne g hg => by
    obtain ⟨a, c, rfl, h1, _⟩ := hk
    obtain ⟨b', o, rfl, hb, _⟩ := h1 hne
    have : b' = g := by simpa [Value.ownBlock] using hg
    exact .inr (by omega)⟩) hul
end
end Go.Proofs.YteklldbfdmaafaaDoor
