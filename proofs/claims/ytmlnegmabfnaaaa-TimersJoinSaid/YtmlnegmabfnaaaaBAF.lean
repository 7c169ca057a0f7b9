/-
  Laws.
-/
import Derived.WalkKit
import Derived.Deep.MidRow
import Derived.Deep.WholeRow
import Derived.Laws.IdiomStrings
import Derived.Laws.CopyOwn
import Derived.Lib.SlBuf
import Derived.StillTailTactics
import Derived.Maps.AppendAt
import Derived.Laws.AppendOwnNone
import Derived.Test.YtmlnegmabfnaaaaBAE
import Derived.Test.YtmlnegmabfnaaaaBAA
/-
  Laws for the walk: whole arrays out of and into memory.
-/
namespace Go.Proofs.Ytmlnegmabfnaaaa
open Go Go.RowKit
variable {P : Program}
theorem foldl_set_all (l : List Value) : ∀ (k : Nat) (base : Array Value), k + l.length ≤ base.size →
    ((l.zipIdx k).foldl (fun (cs : Array Value) (x : Value × Nat) => cs.setIfInBounds x.2 x.1) base).toList = base.toList.take k ++ (l ++ base.toList.drop (k + l.length)) := by
  induction l with
  | nil => intro k base h; simp
  | cons v l ih =>
    intro k base h
    simp only [List.length_cons] at h
    rw [List.zipIdx_cons, List.foldl_cons, ih (k + 1) _ (by simp; omega)]
    simp only [Array.toList_setIfInBounds, List.length_cons]
    have e1 : (base.toList.set k v).take (k + 1) = base.toList.take k ++ [v] := by
      rw [List.take_set]
      rw [List.take_succ_eq_append_getElem (by simp; omega), List.set_append_right _ _ (by simp; omega)]
      simp [show min k base.size = k by omega]
    have e2 : (base.toList.set k v).drop (k + 1 + l.length) = base.toList.drop (k + (l.length + 1)) := by
      rw [List.drop_set_of_lt (by omega)]
      congr 1; omega
    rw [e1, e2]
    simp
theorem fill_one (size : Nat) (v : Value) (base : Array Value) (h1 : v.cells.size = size) (h2 : base.size = size) :
    Instr.fill (fun i => some (i * size, size)) base [(0, v)] = some v.cells := by
  simp only [Instr.fill]
  rw [if_neg (by simp [h1, h2])]
  congr 1
  rw [← Array.toList_inj]
  have e := foldl_set_all v.cells.toList 0 base (by simp; omega)
  simp only [List.take_zero, List.nil_append] at e
  rw [List.drop_eq_nil_of_le (by simp; omega), List.append_nil] at e
  rw [← e]
  congr 1
  rw [← Array.foldl_toList]
  simp only [Array.toList_zipIdx, Nat.zero_mul, Nat.zero_add]
theorem run_buildSlice_one {P : Program} (w : World) (t e : TypeId) (i : TypeInfo) (z : Value) (v : Value) (ht : P.underlying t = some (.slice e)) (hi : P.info? e = some i) (hz : i.zero = some z) (hs : v.cells.size = i.size) (hsz : i.size ≤ 16777216) (h0 : 0 < i.size) :
    (Instr.buildSlice t 1 #[(0, v)]).run P w = .ok (.slice (some ⟨w.heap.size, 0, none⟩) 1 1) (w.alloc (.cells v.cells e)) := by
  have hne : ¬ i.size = 0 := by omega
  have hf := fill_one i.size v ((Array.range i.size).map fun x => z.cells[x % z.cells.size]!) hs (by simp)
  simp [Instr.buildSlice, run_underlying ht, sizeOf, typeInfo, hi, zeroValue, hz, hne, show ¬ 16777216 < i.size by omega, hf, newRow]
/-- a whole array is stored into the midst of a block that is known whole -/
theorem run_store_lay {P : Program} (w : World) (g o : Nat) (ty : TypeId) (cur vs : List Value) (T : TypeId) (hg : Blk w g cur T) (hfit : o + vs.length ≤ cur.length) (hi : (P.info? ty).map (·.size) = some vs.length) (h1 : ∀ v ∈ vs, v.oneCell' = true) :
    (Instr.storeAt ty (.pointer (some ⟨g, o, none⟩)) (.agg vs.toArray)).run P w = .ok () (w.setRow g (lay cur o vs).toArray) := by
  have hst := run_storeCells_at P g o T vs 0 cur.toArray w hg (by simpa using hfit) h1
  cases hq : P.info? ty with
  | none => simp [hq] at hi
  | some i =>
    have hs : vs.length = i.size := by simp [hq] at hi; omega
    simp only [Nat.add_zero] at hst
    simp [Instr.storeAt, Instr.sureAddr, storeVar, sizeOf, typeInfo, hq, Value.cells, hs, hst, lay]
end Go.Proofs.Ytmlnegmabfnaaaa
