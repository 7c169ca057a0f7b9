/-
  The disk's small methods.
-/
import Derived.Test.YteklldbfdmaafaaDoorDisk0
import Derived.Test.YteklldbfdmaafaaDoorLaws
namespace Go.Proofs.YteklldbfdmaafaaDoor
open Go Go.RowKit

/-- the global variable in which error number k lies -/
def errG : Nat → Nat
  | 1 => 7 | 2 => 8 | 3 => 0 | 4 => 9 | 5 => 10 | 6 => 3 | 7 => 4
  | 8 => 11 | 9 => 12 | 10 => 13 | 11 => 14 | 12 => 2 | 13 => 15 | 14 => 1
  | 15 => 5 | 16 => 16 | 17 => 6 | 18 => 17 | 19 => 18 | 20 => 19 | 21 => 20
  | 22 => 21 | 23 => 22 | 24 => 23 | 25 => 24 | 26 => 25 | 27 => 26 | 28 => 27
  | 29 => 28 | 30 => 29 | 31 => 30 | 32 => 31 | 33 => 32 | 34 => 33 | 35 => 34
  | 36 => 35 | 37 => 36 | _ => 1000000
/-- the error value of number k; 0: nil -/
def errV (E : Nat → Addr) (k : Nat) : Value := if k = 0 then .nilIface else .iface 204 (.pointer (some (E k)))
theorem errV_zero (E : Nat → Addr) : errV E 0 = .nilIface := rfl
/-- error number k lies in its variable -/
def ErrAt (w : World) (E : Nat → Addr) (k : Nat) : Prop := w.cell? ⟨errG k, 0, none⟩ = some (errV E k)
theorem ErrAt.keep {w w' : World} {E : Nat → Addr} {k : Nat} (h : ErrAt w E k) {F : Nat → Prop} (hf : Fr F w w') (hF : ∀ i, F i → gB ≤ i) (hk : errG k < gB) : ErrAt w' E k := by
  unfold ErrAt at h ⊢
  have hb := block_lt_of_cell h
  rw [hf.cell hb (fun q => by have h1 : gB ≤ errG k := hF _ q; omega)]
  exact h

theorem zero_int (w : World) : (zeroValue 3).run Tryd.prog w = .ok (.int .i64 0) w := by kernel_rfl
theorem intKey (i : Nat) (hi : i ≤ 65536) : keyOf Tryd.prog 3 (.int .i64 i) = some (.int .i64 i) :=
  Maps.keyOf_int_mk Tryd.underlying3 (WalkArith.wf_i64 (by omega))

/-- the number of the last write of a sector is looked up -/
theorem wpList_lookup_last {ops : Array Oper} {rest : List Oper} {o : Oper} {a : Act} {w : World} {Q : Exit → Act → World → Prop} (hg : o.guard = none) (m x : Operand) (hop : o.op = Op.lookup 132 m x true)
    (b : Nat) (u : List (Nat × List UInt8)) (i : Nat) (hm : a.eval m = .map (some b)) (hx : a.eval x = .int .i64 i) (hL : LastAt w b u) (hi : i ≤ 65536)
    (hK : wpList Tryd.prog ops Q rest (a.put o.dst (.tuple #[.int .i64 ((lastIx u i).getD 0 : Nat), .bool (lastIx u i).isSome])) w) : wpList Tryd.prog ops Q (o :: rest) a w := by
  obtain ⟨M, hM, hs⟩ := hL
  refine wpList_lookup_own_ok_int w hg m x 132 hop 3 3 .i64 (Maps.int_keyed Tryd.underlying3) Tryd.underlying132 Tryd.underlying3 (zero_int _) b _ M hm hM _ _ hx (intKey i hi) ?_
  intro c hc _
  rw [(hs i).2] at hc
  injection hc with hc
  injection hc with _ hc
  subst hc
  rw [(hs i).1]
  exact hK

theorem wpList_lookup_none {ops : Array Oper} {rest : List Oper} {o : Oper} {a : Act} {w : World} {Q : Exit → Act → World → Prop} (hg : o.guard = none) (m x : Operand) (hop : o.op = Op.lookup 132 m x true)
    (b : Nat) (u : List (Nat × List UInt8)) (i : Nat) (hm : a.eval m = .map (some b)) (hx : a.eval x = .int .i64 i) (hL : LastAt w b u) (hi : i ≤ 65536) (hl : lastIx u i = none)
    (hK : wpList Tryd.prog ops Q rest (a.put o.dst (.tuple #[.int .i64 0, .bool false])) w) : wpList Tryd.prog ops Q (o :: rest) a w :=
  wpList_lookup_last hg m x hop b u i hm hx hL hi (by rw [hl]; exact hK)
theorem wpList_lookup_some {ops : Array Oper} {rest : List Oper} {o : Oper} {a : Act} {w : World} {Q : Exit → Act → World → Prop} (hg : o.guard = none) (m x : Operand) (hop : o.op = Op.lookup 132 m x true)
    (b : Nat) (u : List (Nat × List UInt8)) (i : Nat) (hm : a.eval m = .map (some b)) (hx : a.eval x = .int .i64 i) (hL : LastAt w b u) (hi : i ≤ 65536) (k : Nat) (hl : lastIx u i = some k)
    (hK : wpList Tryd.prog ops Q rest (a.put o.dst (.tuple #[.int .i64 k, .bool true])) w) : wpList Tryd.prog ops Q (o :: rest) a w :=
  wpList_lookup_last hg m x hop b u i hm hx hL hi (by rw [hl]; exact hK)

/-- the number of a new write is noted -/
theorem wpList_update_last {ops : Array Oper} {rest : List Oper} {o : Oper} {a : Act} {w : World} {Q : Exit → Act → World → Prop} (hg : o.guard = none) (m x v : Operand) (hop : o.op = Op.mapUpdate 132 m x v)
    (b : Nat) (u : List (Nat × List UInt8)) (i : Nat) (s : List UInt8) (hm : a.eval m = .map (some b)) (hx : a.eval x = .int .i64 i) (hv : a.eval v = .int .i64 u.length) (hL : LastAt w b u) (hi : i ≤ 65536) (hul : u.length < 1073741824)
    (hK : ∀ w', Hid (LastAt w' b (u ++ [(i, s)]) ∧ w.grownBy w' (some b)) → wpList Tryd.prog ops Q rest (a.put o.dst undef) w') : wpList Tryd.prog ops Q (o :: rest) a w := by
  obtain ⟨M, hM, hs⟩ := hL
  refine wpList_mapUpdate_own w hg m x v 132 hop 3 3 (Maps.int_keyed Tryd.underlying3) Tryd.underlying132 (plainElem Tryd.prog 3) b _ M hm hM (by unfold maxLen; omega) _ _ _ hx hv (intKey i hi) _ []
    (plainElem_int Tryd.underlying3 (WalkArith.wf_i64 (by omega))) ?_
  intro w' hM' hgr
  refine hK w' ⟨⟨_, by rw [List.length_append]; exact hM', fun j => ?_⟩, hgr⟩
  rw [lastIx_snoc]
  by_cases hij : i = j
  · subst hij
    rw [Maps.has_put_same (k := .int .i64 (i : Int)) hM.isMap trivial, Maps.atKey_put_same (k := .int .i64 (i : Int)) hM.isMap trivial]
    simp
  · have hne : (Lit.int IntKind.i64 (j : Int)) ≠ .int .i64 i := by
      intro e; injection e with _ e; omega
    rw [Maps.has_put_other hne, Maps.atKey_put_other hne, if_neg hij]
    exact hs j

theorem has_any (w : World) (F : Nat → Prop) (p : Nat) (D : Dsk) (hd : DiskAt w F p D) (i : Int) :
    Calls Tryd.prog 78 #[.pointer (some ⟨p, 0, none⟩), .int .i64 i] w fun e w' => e = .returned (.bool (D.has i)) ∧ w = w' := by
  have hok := hd.good
  obtain ⟨pd, pm, uv, hp, -⟩ := hd
  have c0 : w.cell? ⟨p, 0, none⟩ = some (.slice (some ⟨pd, 0, none⟩) D.n D.n) := by rw [hp.cell]; rfl
  have b2 := hok.n2
  clear hp hok
  by_cases h0 : 0 ≤ i
  · have h0' : decide ((0 : Int) ≤ i) = true := by simpa using h0
    by_cases h1 : i < D.n
    · go_enter Tryd.func78, Tryd.ntmps78
      go_wp2
      all_goals go_ret
      all_goals exact ⟨by simp [Dsk.has, h0, h1], rfl⟩
    · go_enter Tryd.func78, Tryd.ntmps78
      go_wp2
      all_goals go_ret
      all_goals exact ⟨by simp [Dsk.has, h0, h1], rfl⟩
  · go_enter Tryd.func78, Tryd.ntmps78
    go_wp2
    all_goals go_ret
    all_goals exact ⟨by have h0' : ¬ 0 ≤ i := by omega
                        simp [Dsk.has, h0'], rfl⟩

theorem size_any (w : World) (F : Nat → Prop) (p : Nat) (D : Dsk) (hd : DiskAt w F p D) :
    Calls Tryd.prog 40 #[.pointer (some ⟨p, 0, none⟩)] w fun e w' => e = .returned (.int .i64 D.n) ∧ w = w' := by
  have hok := hd.good
  obtain ⟨pd, pm, uv, hp, -⟩ := hd
  have c0 : w.cell? ⟨p, 0, none⟩ = some (.slice (some ⟨pd, 0, none⟩) D.n D.n) := by rw [hp.cell]; rfl
  have b2 := hok.n2
  clear hp hok
  go_enter Tryd.func40, Tryd.ntmps40
  go_wp2
  go_ret
  exact ⟨rfl, rfl⟩
theorem pending_any (w : World) (F : Nat → Prop) (p : Nat) (D : Dsk) (hd : DiskAt w F p D) :
    Calls Tryd.prog 25 #[.pointer (some ⟨p, 0, none⟩)] w fun e w' => e = .returned (.int .i64 D.und.length) ∧ w = w' := by
  obtain ⟨pd, pm, uv, hp, -, hu, -⟩ := hd
  have c0 : w.cell? ⟨p, 1, none⟩ = some uv := by rw [hp.cell]; rfl
  have huv : ∃ a c, uv = .slice a D.und.length c := by
    rcases hu.2 with h | ⟨g, cap, cur, hv, _⟩
    · exact ⟨none, 0, by rw [h.1, h.2]⟩
    · exact ⟨_, _, hv⟩
  obtain ⟨a, c, rfl⟩ := huv
  clear hp hu
  go_enter Tryd.func25, Tryd.ntmps25
  go_wp2
  go_ret
  exact ⟨rfl, rfl⟩
theorem off_any (w : World) (F : Nat → Prop) (p : Nat) (D : Dsk) (hd : DiskAt w F p D) :
    Calls Tryd.prog 30 #[.pointer (some ⟨p, 0, none⟩)] w fun e w' => e = .returned (.bool D.off) ∧ w = w' := by
  obtain ⟨c3, -⟩ := hd.cell
  clear hd
  go_enter Tryd.func30, Tryd.ntmps30
  go_wp2
  go_ret
  exact ⟨rfl, rfl⟩
theorem life_any (w : World) (F : Nat → Prop) (p : Nat) (D : Dsk) (hd : DiskAt w F p D) :
    Calls Tryd.prog 41 #[.pointer (some ⟨p, 0, none⟩)] w fun e w' => e = .returned (.int .i64 D.life) ∧ w = w' := by
  obtain ⟨-, -, -, -, c7, -⟩ := hd.cell
  clear hd
  go_enter Tryd.func41, Tryd.ntmps41
  go_wp2
  go_ret
  exact ⟨rfl, rfl⟩
theorem counts_any (w : World) (F : Nat → Prop) (p : Nat) (D : Dsk) (hd : DiskAt w F p D) :
    Calls Tryd.prog 38 #[.pointer (some ⟨p, 0, none⟩)] w fun e w' => e = .returned (.tuple #[.int .i64 D.writes, .int .i64 D.flushes]) ∧ ∃ n, w' = w.drewN n := by
  obtain ⟨-, -, c5, c6, -, -⟩ := hd.cell
  clear hd
  go_enter Tryd.func38, Tryd.ntmps38
  go_wp2
  go_quiet (fail)
  all_goals go_wp2
  all_goals go_ret2
  all_goals exact ⟨rfl, _, rfl⟩
theorem arm_any (w : World) (F : Nat → Prop) (p : Nat) (D : Dsk) (hd : DiskAt w F p D) (k : Int) (hk : k ≤ 9223372036854775807) :
    Calls Tryd.prog 37 #[.pointer (some ⟨p, 0, none⟩), .int .i64 k] w fun e w' => e = .returned (.tuple #[]) ∧ DiskAt w' F p (D.arm k) ∧ Fr F w w' := by
  obtain ⟨-, c4, -, -, -, fr⟩ := hd.cell
  have f4 := fr 4
  have hFp := hd.has
  have hok := hd.good
  have H : Hid (DiskAt w F p D ∧ F p ∧ D.ok) := ⟨hd, hFp, hok⟩
  clear hd fr hFp hok
  by_cases hk1 : -1 < k
  · go_enter Tryd.func37, Tryd.ntmps37
    go_wp2
    all_goals go_end0
    all_goals
      obtain ⟨hd, hFp, hok⟩ := H
      refine ⟨rfl, hd.store 4 _ (D.arm k) rfl rfl rfl ?_ (Dsk.arm_ok hok k hk), (Fr.refl _ _).setCell (.inl hFp) _⟩
      intro a u m
      have : max k (-1) = k := by omega
      simp [Dsk.arm, this]
  · go_enter Tryd.func37, Tryd.ntmps37
    go_wp2
    all_goals go_end0
    all_goals
      obtain ⟨hd, hFp, hok⟩ := H
      refine ⟨rfl, hd.store 4 _ (D.arm k) rfl rfl rfl ?_ (Dsk.arm_ok hok k hk), (Fr.refl _ _).setCell (.inl hFp) _⟩
      intro a u m
      have : max k (-1) = -1 := by omega
      simp [Dsk.arm, this]
      try omega
end Go.Proofs.YteklldbfdmaafaaDoor
