/-
  The scripts of the laws of chapter 6: calls as plain data, and how they lie in memory.
-/
import Derived.Test.YteklldbfdmaafaaDoorSpare
namespace Go.Proofs.YteklldbfdmaafaaDoor
open Go Go.RowKit

/-- a call of a script -/
structure POp where
  kind : Int
  i : Int
  s : List UInt8
  fill : UInt8
  kept : List Bool
  torn : Int
  bytes : Int

/-- its seven cells -/
def POp.cells (o : POp) (kv : Value) : List Value := [.int .i64 o.kind, .int .i64 o.i, .string ⟨o.s.toArray⟩, .int .u8 o.fill.toNat, kv, .int .i64 o.torn, .int .i64 o.bytes]
/-- the bytes it writes -/
def POp.sec (o : POp) : List UInt8 := secOf o.s o.fill

/-- the script's cells at an address, and the Kept slices that they hold -/
def OpsAt (w : World) (b o : Nat) (ops : List POp) : Prop :=
  ∀ k op, ops[k]? = some op → ∃ kv, w.rangeAt b (o + 7 * k) (op.cells kv) ∧ BoolsAt w kv op.kept
def ScriptAt (w : World) (v : Value) (ops : List POp) : Prop :=
  ∃ a c, v = .slice a ops.length c ∧ (ops ≠ [] → ∃ b o, a = some ⟨b, o, none⟩ ∧ b < w.heap.size ∧ OpsAt w b o ops)

theorem range_keep {w w' : World} {b o : Nat} {cs : List Value} (h : w.rangeAt b o cs) (e : w'.heap[b]? = w.heap[b]?) : w'.rangeAt b o cs := by
  intro j v hj
  have := h j v hj
  unfold World.cell? at this ⊢
  rw [show (⟨b, o + j, none⟩ : Addr).block = b from rfl] at this ⊢
  rw [e]; exact this
theorem BoolsAt.keepB {w w' : World} {kv : Value} {l : List Bool} (h : BoolsAt w kv l) (hs : w.heap.size ≤ w'.heap.size) (hk : ∀ g, g < w.heap.size → w'.heap[g]? = w.heap[g]?) : BoolsAt w' kv l := by
  obtain ⟨a, c, rfl, h1, h2, h3⟩ := h
  refine ⟨a, c, rfl, fun hl => ?_, h2, h3⟩
  obtain ⟨b, o, rfl, hb, hr⟩ := h1 hl
  exact ⟨b, o, rfl, by omega, range_keep hr (hk b hb)⟩
theorem ScriptAt.keep {w w' : World} {v : Value} {ops : List POp} (h : ScriptAt w v ops) (hs : w.heap.size ≤ w'.heap.size) (hk : ∀ g, g < w.heap.size → w'.heap[g]? = w.heap[g]?) : ScriptAt w' v ops := by
  obtain ⟨a, c, rfl, h1⟩ := h
  refine ⟨a, c, rfl, fun hl => ?_⟩
  obtain ⟨b, o, rfl, hb, ho⟩ := h1 hl
  refine ⟨b, o, rfl, by omega, fun k op hop => ?_⟩
  obtain ⟨kv, h3, h4⟩ := ho k op hop
  exact ⟨kv, range_keep h3 (hk b hb), h4.keepB hs hk⟩
theorem ErrsAt.keepB {w w' : World} {E : Nat → Addr} (h : ErrsAt w E) (hs : w.heap.size ≤ w'.heap.size) (hk : ∀ g, g < w.heap.size → w'.heap[g]? = w.heap[g]?) : ErrsAt w' E := by
  have _ := hs
  refine ⟨fun k h1 h2 => ?_, fun k h1 h2 => ?_, h.inj⟩
  · have h3 := h.at_ k h1 h2
    unfold ErrAt at h3 ⊢
    have hb := block_lt_of_cell h3
    rw [World.cell?_of_block (w := w) (hk _ hb)]
    exact h3
  · obtain ⟨ca, ta, h3⟩ := h.obj k h1 h2
    exact ⟨ca, ta, (hk _ (Array.getElem?_eq_some_iff.1 h3).1).trans h3⟩

/-- what 'made' does with a call -/
def POp.make (n : Nat) (o : POp) (D : Dsk) : Dsk :=
  if o.kind = 1 then D.writeD (((o.i % 18446744073709551616).toNat % n : Nat) : Int) o.sec
  else if o.kind = 2 then D.flushD
  else if o.kind = 4 then D.crash o.kept o.torn o.bytes
  else D
def makeAll (n : Nat) (l : List POp) (D : Dsk) : Dsk := l.foldl (fun D o => o.make n D) D
/-- the number of sectors -/
def madeN (n : Int) : Nat := 1 + (n % 18446744073709551616).toNat % 40
theorem madeN_1 (n : Int) : 1 ≤ madeN n := by unfold madeN; omega
theorem madeN_2 (n : Int) : madeN n ≤ 40 := by unfold madeN; omega
end Go.Proofs.YteklldbfdmaafaaDoor
