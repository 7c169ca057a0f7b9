/-
  The disk's methods as contracts over parts of memory.
-/
import Derived.Test.YteklldbfdmaafaaDoorMore
import Derived.Test.YteklldbfdmaafaaDoorTab
import Derived.Test.YteklldbfdmaafaaDoorScript
namespace Go.Proofs.YteklldbfdmaafaaDoor
open Go Go.RowKit

theorem DiskAt.move {w w' : World} {F : Nat → Prop} {p : Nat} {D : Dsk} (hd : DiskAt w F p D) (h : ∀ k, F k → w'.heap[k]? = w.heap[k]?) : DiskAt w' F p D := by
  obtain ⟨pd, pm, uv, hp, hpd, hu, hm, hF, hb, hok⟩ := hd
  refine ⟨pd, pm, uv, hp.keep (h _ hF.1), hpd.keep (h _ hF.2.1), ownsRow_keep hu (fun g hg => h _ (hF.2.2.2 g hg)), hm.keep (h _ hF.2.2.1), hF, fun k hk => ⟨(hb k hk).1, ?_⟩, hok⟩
  have h1 := h k hk
  have h2 := (hb k hk).2
  rw [Array.getElem?_eq_getElem h2] at h1
  exact (Array.getElem?_eq_some_iff.1 h1).1
/-- the disk D at block p, with all its blocks -/
def DiskP (p : Nat) (D : Dsk) : SP := ⟨10, p, fun h => ∃ w F, DiskAt w F p D ∧ ∀ k, F k → h k = w.heap[k]?⟩

section
variable {P : Program} {W : World}
theorem DiskP.at {w : World} {h : Hl} {p : Nat} {D : Dsk} (hd : (DiskP p D).ok h) (l : Lies W w h) : ∃ F, DiskAt w F p D ∧ ∀ k, F k → ∃ o, h k = some o := by
  obtain ⟨w0, F, hd, e⟩ := hd
  have hs : ∀ k, F k → ∃ o, h k = some o ∧ w0.heap[k]? = some o := fun k hk => by
    have := (hd.bound k hk).2
    exact ⟨_, (e k hk).trans (Array.getElem?_eq_getElem this), Array.getElem?_eq_getElem this⟩
  refine ⟨F, hd.move fun k hk => ?_, fun k hk => (hs k hk).imp fun o h => h.1⟩
  obtain ⟨o, h1, h2⟩ := hs k hk
  rw [h2]; exact (l k o h1).2
open Classical in
theorem DiskP.of {w : World} {F : Nat → Prop} {p : Nat} {D : Dsk} (hd : DiskAt w F p D) : (DiskP p D).ok (fun k => if F k then w.heap[k]? else none) := ⟨w, F, hd, fun k hk => by simp [hk]⟩

/-- a method's contract, out of one that is said of a world -/
theorem Ct_disk {X : Type} {r : X → Value} {f : FuncId} {args : List Value} {p : Nat} {D : Dsk} {D' : X → Dsk} (Hk : List SP)
    (h : ∀ w F hk, Below W.heap.size W w → DiskAt w F p D → starL Hk hk → Lies W w hk → (∀ k o, hk k = some o → ¬ F k) → (∀ k, F k → W.heap.size ≤ k) → Calls P f args.toArray w fun e w' => ∃ x F', e = .returned (r x) ∧ DiskAt w' F' p (D' x) ∧ Fr F w w' ∧ ∀ k, F' k → F k ∨ w.heap.size ≤ k) :
    Ct P W f args (DiskP p D :: Hk) r (fun x => DiskP p (D' x) :: Hk) := by
  refine ⟨fun R w s => ?_⟩
  obtain ⟨h1, h2, dj, hA, hH, l1, l2⟩ := (show St W ([DiskP p D] ++ (Hk ++ R)) w from s).split
  obtain ⟨ha, _, _, lea, _, hd, _⟩ := hA
  obtain ⟨F, hd, hF⟩ := DiskP.at hd (l1.mono lea)
  have hF1 : ∀ k, F k → ∃ o, h1 k = some o := fun k hk => (hF k hk).imp fun o h => lea k o h
  obtain ⟨hk, hr, djk, le3, le4, hHk, hHr⟩ := (starL_append h2).1 hH
  refine (h w F hk s.below hd hHk (l2.mono le3) (fun k o q hk' => ?_) (fun k hk' => ?_)).mono ?_
  · obtain ⟨o', h'⟩ := hF1 k hk'
    have := dj k o' h'
    rw [le3 k o q] at this; cases this
  · obtain ⟨o', h'⟩ := hF1 k hk'
    exact (l1 k o' h').1
  rintro e w' ⟨x, F', rfl, hd', hf, hF'⟩
  refine ⟨x, rfl, ?_⟩
  show St W ([DiskP p (D' x)] ++ (Hk ++ R)) w'
  refine St.join s.below dj hH l1 l2 (starL_one (DiskP.of hd')) hf.os hf.tape hf.output hf.size ?_ ?_ ?_
  · intro k o q
    by_cases hk : F' k
    · simpa [hk] using q
    · simp [hk] at q
  · intro k o q
    by_cases hk : F' k
    · rcases hF' k hk with h | h
      · exact .inl (hF1 k h)
      · exact .inr h
    · simp [hk] at q
  · intro k hk hn
    refine hf.block k hk (fun h => ?_)
    obtain ⟨o, h'⟩ := hF1 k h
    rw [hn] at h'; cases h'
/-- a contract that only makes memory, out of one that is said of a world -/
theorem Ct_pure {X : Type} {r : X → Value} {f : FuncId} {args : List Value} (Hk : List SP)
    (h : ∀ w hk, Below W.heap.size W w → starL Hk hk → Lies W w hk → Calls P f args.toArray w fun e w' => ∃ x, e = .returned (r x) ∧ Fr noB w w') :
    Ct P W f args Hk r (fun _ => Hk) := by
  refine ⟨fun R w s => ?_⟩
  obtain ⟨h1, h2, dj, hA, hH, l1, l2⟩ := s.split
  refine (h w h1 s.below hA l1).mono ?_
  rintro e w' ⟨x, rfl, hf⟩
  refine ⟨x, rfl, ?_⟩
  have keep : ∀ k, k < w.heap.size → w'.heap[k]? = w.heap[k]? := fun k hk => hf.block k hk (by simp [noB])
  exact St.join (g := h1) s.below dj hH l1 l2 hA hf.os hf.tape hf.output hf.size (fun k o q => (keep k (l1.lt q)).trans (l1 k o q).2) (fun k o q => .inl ⟨o, q⟩) (fun k hk _ => keep k hk)
/-- a contract that makes a part of its own -/
theorem Ct_made {X : Type} {r : X → Value} {f : FuncId} {args : List Value} {A : X → SP}
    (h : ∀ w, Below W.heap.size W w → Calls P f args.toArray w fun e w' => ∃ x, e = .returned (r x) ∧ Fr noB w w' ∧ ∃ g : Hl, (A x).ok g ∧ ∀ k o, g k = some o → w.heap.size ≤ k ∧ w'.heap[k]? = some o) :
    Ct P W f args [] r (fun x => [A x]) := by
  refine ⟨fun R w s => ?_⟩
  obtain ⟨h1, h2, dj, hA, hH, l1, l2⟩ := s.split
  refine (h w s.below).mono ?_
  rintro e w' ⟨x, rfl, hf, g, hg, hl⟩
  refine ⟨x, rfl, ?_⟩
  have keep : ∀ k, k < w.heap.size → w'.heap[k]? = w.heap[k]? := fun k hk => hf.block k hk (by simp [noB])
  exact St.join (g := g) s.below dj hH l1 l2 (starL_one hg) hf.os hf.tape hf.output hf.size (fun k o q => (hl k o q).2) (fun k o q => .inr (hl k o q).1) (fun k hk _ => keep k hk)

/-- some of the errors lie in their variables, each its own -/
structure ErrsOn (S : List Nat) (w : World) (E : Nat → Addr) : Prop where
  at_ : ∀ k, k ∈ S → ErrAt w E k
  obj : ∀ k, k ∈ S → ∃ ca ta, w.heap[(E k).block]? = some (.cells ca ta (0, 0))
  inj : ∀ j k, j ∈ S → k ∈ S → E j = E k → j = k
  pos : ∀ k, k ∈ S → 1 ≤ k
abbrev L8 : List Nat := [3, 6, 7, 12, 14]
theorem ErrsAt.on {w : World} {E : Nat → Addr} (h : ErrsAt w E) : ErrsOn L8 w E := by
  have hS : ∀ k ∈ L8, 1 ≤ k ∧ k ≤ 37 := by decide
  exact ⟨fun k hk => h.at_ k (hS k hk).1 (hS k hk).2, fun k hk => h.obj k (hS k hk).1 (hS k hk).2, fun j k hj hk => h.inj j k (hS j hj).1 (hS j hj).2 (hS k hk).1 (hS k hk).2, fun k hk => (hS k hk).1⟩
theorem ErrsAt.all {w : World} {E : Nat → Addr} (h : ErrsAt w E) : ErrsOn (List.range' 1 37) w E := by
  have hS : ∀ k ∈ List.range' 1 37, 1 ≤ k ∧ k ≤ 37 := by decide
  exact ⟨fun k hk => h.at_ k (hS k hk).1 (hS k hk).2, fun k hk => h.obj k (hS k hk).1 (hS k hk).2, fun j k hj hk => h.inj j k (hS j hj).1 (hS j hj).2 (hS k hk).1 (hS k hk).2, fun k hk => (hS k hk).1⟩
theorem ErrAt.keepB {w w' : World} {E : Nat → Addr} {k : Nat} (h : ErrAt w E k) (hk : ∀ g, g < w.heap.size → w'.heap[g]? = w.heap[g]?) : ErrAt w' E k := by
  unfold ErrAt at h ⊢
  have hb := World.block_lt_of_cell? w _ h
  rw [World.cell?_of_block (w := w) (hk _ hb)]
  exact h
theorem ErrsOn.later {S : List Nat} {W w : World} {E : Nat → Addr} (h : ErrsOn S W E) (b : Below W.heap.size W w) : ErrsOn S w E :=
  ⟨fun k hk => (h.at_ k hk).keepB b.block, fun k hk => by
    obtain ⟨ca, ta, q⟩ := h.obj k hk
    exact ⟨ca, ta, (b.block _ (Array.getElem?_eq_some_iff.1 q).1).trans q⟩, h.inj, h.pos⟩
theorem ErrsAt.later {w : World} {E : Nat → Addr} (h : ErrsAt W E) (b : Below W.heap.size W w) : ErrsAt w E := h.keepB b.size b.block
end
section
variable {W : World} {E : Nat → Addr} {p : Nat} {D : Dsk}
theorem fr_below {F : Nat → Prop} {w w' : World} (h : w = w') : Fr F w w' := by subst h; exact Fr.refl _ _
theorem size_ct : Ct Tryd.prog W 40 [.pointer (some ⟨p, 0, none⟩)] [DiskP p D] (fun _ : Unit => .int .i64 D.n) (fun _ => [DiskP p D]) :=
  Ct_disk (D' := fun _ => D) [] fun w F _ _ hd _ _ _ _ => (size_any w F p D hd).mono fun e w' ⟨he, hw⟩ => ⟨(), F, he, hw ▸ hd, fr_below hw, fun _ h => .inl h⟩
theorem pending_ct : Ct Tryd.prog W 25 [.pointer (some ⟨p, 0, none⟩)] [DiskP p D] (fun _ : Unit => .int .i64 D.und.length) (fun _ => [DiskP p D]) :=
  Ct_disk (D' := fun _ => D) [] fun w F _ _ hd _ _ _ _ => (pending_any w F p D hd).mono fun e w' ⟨he, hw⟩ => ⟨(), F, he, hw ▸ hd, fr_below hw, fun _ h => .inl h⟩
theorem off_ct : Ct Tryd.prog W 30 [.pointer (some ⟨p, 0, none⟩)] [DiskP p D] (fun _ : Unit => .bool D.off) (fun _ => [DiskP p D]) :=
  Ct_disk (D' := fun _ => D) [] fun w F _ _ hd _ _ _ _ => (off_any w F p D hd).mono fun e w' ⟨he, hw⟩ => ⟨(), F, he, hw ▸ hd, fr_below hw, fun _ h => .inl h⟩
theorem life_ct : Ct Tryd.prog W 41 [.pointer (some ⟨p, 0, none⟩)] [DiskP p D] (fun _ : Unit => .int .i64 D.life) (fun _ => [DiskP p D]) :=
  Ct_disk (D' := fun _ => D) [] fun w F _ _ hd _ _ _ _ => (life_any w F p D hd).mono fun e w' ⟨he, hw⟩ => ⟨(), F, he, hw ▸ hd, fr_below hw, fun _ h => .inl h⟩
theorem counts_ct : Ct Tryd.prog W 38 [.pointer (some ⟨p, 0, none⟩)] [DiskP p D] (fun _ : Unit => .tuple #[.int .i64 D.writes, .int .i64 D.flushes]) (fun _ => [DiskP p D]) :=
  Ct_disk (D' := fun _ => D) [] fun w F _ _ hd _ _ _ _ => (counts_any w F p D hd).mono fun e w' ⟨he, m, hw⟩ => ⟨(), F, he, by subst hw; exact hd.fr ((Fr.refl noB w).drewN m) (fun _ _ q => q), by subst hw; exact (Fr.refl F w).drewN m, fun _ h => .inl h⟩
theorem arm_ct (k : Int) (hk : k ≤ 9223372036854775807) : Ct Tryd.prog W 37 [.pointer (some ⟨p, 0, none⟩), .int .i64 k] [DiskP p D] (fun _ : Unit => .tuple #[]) (fun _ => [DiskP p (D.arm k)]) :=
  Ct_disk (D' := fun _ => D.arm k) [] fun w F _ _ hd _ _ _ _ => (arm_any w F p D hd k hk).mono fun e w' ⟨he, hd', hf⟩ => ⟨(), F, he, hd', hf, fun _ h => .inl h⟩
theorem read_ct (hE : ErrsOn L8 W E) (i : Int) : Ct Tryd.prog W 26 [.pointer (some ⟨p, 0, none⟩), .int .i64 i] [DiskP p D] (fun _ : Unit => .tuple #[strV (D.readS i), errV E (D.readE i)]) (fun _ => [DiskP p D]) :=
  Ct_disk (D' := fun _ => D) [] fun w F _ b hd _ _ _ _ => (read_any w F p D E hd i ((hE.later b).at_ 12 (by decide)) ((hE.later b).at_ 6 (by decide))).mono fun e w' ⟨he, hf⟩ => ⟨(), F, he, hd.fr hf (fun _ _ q => q), hf.mono (fun _ q => q.elim), fun _ h => .inl h⟩
theorem write_ct (hE : ErrsOn L8 W E) (i : Int) (s : List UInt8) (hul : D.und.length < 1073741824) : Ct Tryd.prog W 32 [.pointer (some ⟨p, 0, none⟩), .int .i64 i, strV s] [DiskP p D] (fun _ : Unit => errV E (D.writeE i s)) (fun _ => [DiskP p (D.writeD i s)]) :=
  Ct_disk (D' := fun _ => D.writeD i s) [] fun w F _ b hd _ _ _ _ => (write_any w F p D E hd i s ((hE.later b).at_ 12 (by decide)) ((hE.later b).at_ 6 (by decide)) ((hE.later b).at_ 7 (by decide)) hul).mono fun e w' ⟨he, F', hd', hf, hF⟩ => ⟨(), F', he, hd', hf, hF⟩
theorem flush_ct (hE : ErrsOn L8 W E) (hul : D.und.length < 1073741824) : Ct Tryd.prog W 24 [.pointer (some ⟨p, 0, none⟩)] [DiskP p D] (fun _ : Unit => errV E D.flushE) (fun _ => [DiskP p D.flushD]) :=
  Ct_disk (D' := fun _ => D.flushD) [] fun w F _ b hd _ _ _ _ => (flush_any w F p D E hd ((hE.later b).at_ 12 (by decide)) hul).mono fun e w' ⟨he, hd', hf⟩ => ⟨(), F, he, hd', hf, fun _ h => .inl h⟩
theorem image_ct : Ct Tryd.prog W 27 [.pointer (some ⟨p, 0, none⟩)] [DiskP p D] (fun _ : Unit => strV D.img) (fun _ => [DiskP p D]) :=
  Ct_disk (D' := fun _ => D) [] fun w F _ _ hd _ _ _ _ => (image_any w F p D hd).mono fun e w' ⟨he, hf⟩ => ⟨(), F, he, hd.fr hf (fun _ _ q => q), hf.mono (fun _ q => q.elim), fun _ h => .inl h⟩
theorem num_ct (hE : ErrsAt W E) (hg : gB ≤ W.heap.size) (k : Nat) (hk : k ≤ 37) : Ct Tryd.prog W 35 [errV E k] [] (fun _ : Unit => .int .i64 k) (fun _ => []) :=
  Ct_pure [] fun w _ b _ _ => (num_any w E (hE.later b) (Nat.le_trans hg b.size) k hk).mono fun e w' ⟨he, hf⟩ => ⟨(), he, hf⟩
theorem new_ct (n : Nat) (h1 : 1 ≤ n) (h2 : n ≤ 65536) (hg : gB ≤ W.heap.size) : Ct Tryd.prog W 33 [.int .i64 n] [] (fun p : Nat => .tuple #[.pointer (some ⟨p, 0, none⟩), .nilIface]) (fun p => [DiskP p (Dsk.blank n)]) :=
  Ct_made fun w b => (new_ok w n h1 h2 (Nat.le_trans hg b.size)).mono fun e w' ⟨p, F, he, hd, hf, hF⟩ => ⟨p, he, hf, _, DiskP.of hd, fun k o q => by
    by_cases hk : F k
    · exact ⟨hF k hk, by simpa [hk] using q⟩
    · simp [hk] at q⟩
theorem from_ct (l : List UInt8) (n : Nat) (hl : l.length = n * 256) (h1 : 1 ≤ n) (h2 : n ≤ 65536) (hg : gB ≤ W.heap.size) : Ct Tryd.prog W 39 [strV l] [] (fun p : Nat => .tuple #[.pointer (some ⟨p, 0, none⟩), .nilIface]) (fun p => [DiskP p (Dsk.of l)]) :=
  Ct_made fun w b => (from_ok w l n hl h1 h2 (Nat.le_trans hg b.size)).mono fun e w' ⟨p, F, he, hd, hf, hF⟩ => ⟨p, he, hf, _, DiskP.of hd, fun k o q => by
    by_cases hk : F k
    · exact ⟨hF k hk, by simpa [hk] using q⟩
    · simp [hk] at q⟩
theorem new_bad_ct (hE : ErrsOn L8 W E) (n : Int) (h : n < 1 ∨ 65536 < n) : Ct Tryd.prog W 33 [.int .i64 n] [] (fun _ : Unit => .tuple #[.pointer none, errV E 6]) (fun _ => []) :=
  Ct_pure [] fun w _ b _ _ => (new_bad w n E ((hE.later b).at_ 6 (by decide)) h).mono fun e w' ⟨he, hf⟩ => ⟨(), he, hf⟩
theorem from_form_ct (hE : ErrsOn L8 W E) (l : List UInt8) (hl : l.length % 256 ≠ 0) (hlb : l.length ≤ 9223372036854775807) : Ct Tryd.prog W 39 [strV l] [] (fun _ : Unit => .tuple #[.pointer none, errV E 7]) (fun _ => []) :=
  Ct_pure [] fun w _ b _ _ => (from_form w l E ((hE.later b).at_ 7 (by decide)) hl hlb).mono fun e w' ⟨he, hf⟩ => ⟨(), he, hf⟩
theorem from_range_ct (hE : ErrsOn L8 W E) (l : List UInt8) (hl : l.length % 256 = 0) (hlb : l.length ≤ 9223372036854775807) (h : l.length / 256 < 1 ∨ 65536 < l.length / 256) : Ct Tryd.prog W 39 [strV l] [] (fun _ : Unit => .tuple #[.pointer none, errV E 6]) (fun _ => []) :=
  Ct_pure [] fun w _ b _ _ => (from_range w l E ((hE.later b).at_ 6 (by decide)) hl hlb h).mono fun e w' ⟨he, hf⟩ => ⟨(), he, hf⟩
theorem sector_ct (k0 k1 k2 k3 k4 : Value) (s : List UInt8) (fill : UInt8) : Ct Tryd.prog W 31 [.agg #[k0, k1, strV s, .int .u8 fill.toNat, k2, k3, k4]] [] (fun _ : Unit => strV (secOf s fill)) (fun _ => []) :=
  Ct_pure [] fun w _ b _ _ => (sector_any w k0 k1 k2 k3 k4 s fill).mono fun e w' ⟨he, hf⟩ => ⟨(), he, hf⟩
/-- Crash: what is kept lies among Hk, or where it lay when all began -/
theorem crash_gen (Hk : List SP) (kv : Value) (kept : List Bool) (torn bytes : Int) (hk : ∀ w h, Below W.heap.size W w → starL Hk h → Lies W w h → BoolsAt w kv kept ∧ (kept ≠ [] → ∀ g, kv.ownBlock = some g → (∃ o, h g = some o) ∨ g < W.heap.size)) (hul : D.und.length < 1073741824) :
    Ct Tryd.prog W 29 [.pointer (some ⟨p, 0, none⟩), .agg #[kv, .int .i64 torn, .int .i64 bytes]] (DiskP p D :: Hk) (fun _ : Unit => .tuple #[]) (fun _ => DiskP p (D.crash kept torn bytes) :: Hk) :=
  Ct_disk (D' := fun _ => D.crash kept torn bytes) Hk fun w F h b hd hh hl hF hW => by
    obtain ⟨h1, h2⟩ := hk w h b hh hl
    refine (crash_any w F p D hd kv kept torn bytes h1 (fun hne g hg hFg => ?_) hul).mono fun e w' ⟨he, hd', hf⟩ => ⟨(), F, he, hd', hf, fun _ h => .inl h⟩
    rcases h2 hne g hg with ⟨o, ho⟩ | hlt
    · exact hF g o ho hFg
    · have := hW g hFg; omega
/-- Crash: what is kept lay there when all began -/
theorem crash_old {kv : Value} {kept : List Bool} (torn bytes : Int) (hk : BoolsAt W kv kept) (hul : D.und.length < 1073741824) :
    Ct Tryd.prog W 29 [.pointer (some ⟨p, 0, none⟩), .agg #[kv, .int .i64 torn, .int .i64 bytes]] [DiskP p D] (fun _ : Unit => .tuple #[]) (fun _ => [DiskP p (D.crash kept torn bytes)]) :=
  crash_gen [] kv kept torn bytes (fun w h b _ _ => ⟨hk.keepB b.size b.block, fun hne g hg => by
    obtain ⟨a, c, rfl, h1, _⟩ := hk
    obtain ⟨b', o, rfl, hb, _⟩ := h1 hne
    have : b' = g := by simpa [Value.ownBlock] using hg
    exact .inr (by omega)⟩) hul
end
end Go.Proofs.YteklldbfdmaafaaDoor
