/-
  The disk's settled and Write.
-/
import Derived.Test.YteklldbfdmaafaaDoorDisk2
import Derived.StillTailTactics
import Derived.Deep.RegionHeld3
namespace Go.Proofs.YteklldbfdmaafaaDoor
open Go Go.RowKit

theorem wpList_clear_last {ops : Array Oper} {rest : List Oper} {o : Oper} {a : Act} {w : World} {Q : Exit → Act → World → Prop} (hg : o.guard = none) (m : Operand)
    (ho : o.op = .call { callee := .builtin .clear, args := #[m], argTypes := #[132] }) (b : Nat) (u : List (Nat × List UInt8)) (hm : a.eval m = .map (some b)) (hL : LastAt w b u)
    (hK : ∀ w', Hid (LastAt w' b [] ∧ w.grownBy w' (some b)) → wpList Tryd.prog ops Q rest (a.put o.dst (.tuple #[])) w') : wpList Tryd.prog ops Q (o :: rest) a w := by
  obtain ⟨M, ⟨es, clock, hb, _⟩, _⟩ := hL
  have hlt : b < w.heap.size := (Array.getElem?_eq_some_iff.1 hb).1
  refine wpList_clear_map hg m _ _ _ Tryd.underlying132 ho b es clock hm hb (hK _ ⟨⟨.map [], ⟨#[], clock, ?_, ⟨Nat.zero_le _, MapKept.stamped_empty _, fun x hx => by cases hx⟩, Nat.le_refl _, rfl⟩, ?_⟩, ⟨rfl, rfl, rfl, by simp, ?_⟩⟩)
  · simp [hlt]
  · intro i; exact ⟨rfl, rfl⟩
  · intro k hk hne
    simp only [ne_eq, Option.some.injEq] at hne
    simp [Ne.symm hne]

theorem settled_any (w : World) (F : Nat → Prop) (p : Nat) (D : Dsk) (hd : DiskAt w F p D) :
    Calls Tryd.prog 77 #[.pointer (some ⟨p, 0, none⟩)] w fun e w' => e = .returned (.tuple #[]) ∧ DiskAt w' F p D.clr ∧ Fr F w w' := by
  obtain ⟨pd, pm, uv, hp, hpd, hu, hm, hF, hb, hok⟩ := hd
  have c1 : w.cell? ⟨p, 1, none⟩ = some uv := by rw [hp.cell]; rfl
  have c2 : w.cell? ⟨p, 2, none⟩ = some (.map (some pm)) := by rw [hp.cell]; rfl
  have f1 := hp.free 1
  have H : Hid (Blk w p [.slice (some ⟨pd, 0, none⟩) D.n D.n, uv, .map (some pm), .bool D.off, .int .i64 D.armed, .int .i64 D.writes, .int .i64 D.flushes, .int .i64 D.life] 134 ∧ Blk w pd (bvs D.img) 136 ∧ LastAt w pm D.und ∧ (F p ∧ F pd ∧ F pm ∧ ∀ g, uv.ownBlock = some g → F g) ∧ (∀ k, F k → gB ≤ k ∧ k < w.heap.size) ∧ D.ok) := ⟨hp, hpd, hm, hF, hb, hok⟩
  have Hm : Hid (LastAt (w.setCell ⟨p, 1, none⟩ (.slice none 0 0)) pm D.und) := hm.keep (heap_setCell_other _ _ _ _ (by obtain ⟨_, ⟨_, _, h, _⟩, _⟩ := hm; exact hp.ne_map h))
  clear hp hpd hu hm hF hb hok
  go_enter Tryd.func77, Tryd.ntmps77
  go_upto_region 1 with (fail)
  go_wp2_with ((with_reducible refine wpList_clear_last ?_ (.tmp 8) ?_ pm D.und ?_ Hm.out ?_); (rfl); (rfl); (rfl); (intro w1 hw1))
  go_end0
  obtain ⟨hp, hpd, hm, hF, hb, hok⟩ := H
  obtain ⟨hm1, hg⟩ := hw1
  have n1 : pd ≠ p := hpd.ne hp (by decide)
  have n2 : pm ≠ p := by obtain ⟨_, ⟨_, _, h, _⟩, _⟩ := hm; exact hp.ne_map h
  have n3 : pm ≠ pd := by obtain ⟨_, ⟨_, _, h, _⟩, _⟩ := hm; exact hpd.ne_map h
  have hs : (w.setCell ⟨p, 1, none⟩ (Value.slice none 0 0)).heap.size = w.heap.size := by simp [World.setCell]
  have k1 : ∀ k, k < w.heap.size → k ≠ pm → w1.heap[k]? = (w.setCell ⟨p, 1, none⟩ (Value.slice none 0 0)).heap[k]? := fun k hk hne => hg.block k (by rw [hs]; exact hk) (by simpa using hne)
  have hp' := (hp.set 1 (.slice none 0 0)).keep (k1 p hp.lt (Ne.symm n2))
  refine ⟨rfl, ⟨pd, pm, .slice none 0 0, hp', ?_, World.ownsRow_nil _ _ _ _, hm1, ⟨hF.1, hF.2.1, hF.2.2.1, fun g hg => by simp [Value.ownBlock] at hg⟩, fun k hk => ⟨(hb k hk).1, Nat.lt_of_lt_of_le (hb k hk).2 (by have := hg.size; rw [hs] at this; exact this)⟩, Dsk.clr_ok hok⟩, ?_⟩
  · exact hpd.keep ((k1 pd hpd.lt (Ne.symm n3)).trans (heap_setCell_other _ _ _ _ n1))
  · exact ((Fr.refl F w).setCell (.inl hF.1) _).grown hg (fun k hk => by cases hk; exact .inl hF.2.2.1)
end Go.Proofs.YteklldbfdmaafaaDoor
