/-
  Laws for the walk: whole arrays out of and into memory.
-/
import Derived.WalkKit
import Derived.Deep.MidRow
import Derived.Deep.WholeRow
import Derived.Laws.IdiomStrings
import Derived.Laws.CopyOwn
import Derived.Lib.SlBuf
import Derived.StillTailTactics
import Derived.Maps.AppendAt
import Derived.Laws.AppendOwnNone
import Derived.Test.YteklldbfdmaafaaDoorModel
import Derived.Test.YteklldbfdmaafaaDoorMem
namespace Go.Proofs.YteklldbfdmaafaaDoor
open Go Go.RowKit
variable {P : Program}

/-- a whole array is stored into the block that was laid last -/
theorem wpList_store_top {ops : Array Oper} {rest : List Oper} {op : Oper} {a : Act} {w : World} {Q : Exit → Act → World → Prop} (hgd : op.guard = none) (ty : TypeId) (x y : Operand) (ho : op.op = .store ty x y)
    (z cells : Array Value) (T : TypeId) (hx : a.eval x = .pointer (some ⟨w.heap.size, 0, none⟩)) (hy : a.eval y = .agg cells) (hz : z.size = cells.size)
    (hi : (P.info? ty).map (·.size) = some cells.size) (h1 : cells.all (·.oneCell') = true)
    (h : wpList P ops Q rest (a.put op.dst undef) (w.alloc (.cells cells T))) : wpList P ops Q (op :: rest) a (w.alloc (.cells z T)) := by
  refine wpList_store_row hgd ty x y ho w.heap.size cells hx hy T z (heap_alloc_new w _) hi hz h1 ?_
  rw [World.setRow_alloc_new]
  exact h

theorem all_bvs (l : List UInt8) : (bvs l).toArray.all (·.oneCell') = true := by
  rw [Array.all_eq_true_iff_forall_mem]
  intro v hv
  exact bvs_one l v (by simpa using hv)

/-- string(b), b's cells being the bytes l -/
theorem wpList_bytes_string {ops : Array Oper} {rest : List Oper} {op : Oper} {a : Act} {w : World} {Q : Exit → Act → World → Prop} (hgd : op.guard = none) (src dst e : TypeId) (x : Operand) (ho : op.op = .convert src dst x)
    (hs : P.underlying src = some (.slice e)) (he : P.underlying e = some (.int .u8)) (hd : P.underlying dst = some .string)
    (b o n cap : Nat) (l : List UInt8) (hx : a.eval x = .slice (some ⟨b, o, none⟩) n cap) (hn : n = l.length) (hc : w.rangeAt b o (bvs l))
    (h : wpList P ops Q rest (a.put op.dst (.string ⟨l.toArray⟩)) w) : wpList P ops Q (op :: rest) a w := by
  subst hn
  refine wpList_plain hgd fun K hK => ?_
  have hr := run_convert_bytes_back (P := P) w src dst e ⟨b, o, none⟩ cap l hs he hd (fun j hj => by
    rw [Addr.add_mid]
    exact hc j _ (by simp [bvs, bv, List.getElem?_eq_getElem hj]))
  unfold Oper.wp execOp
  simp only [ho, hx, Sem.run_bind, Sem.run_pure, Result.andThen_ok, hr]
  exact hK _ _ h
theorem run_clear_map {P : Program} (w : World) (t k e ty : TypeId) (ht : P.underlying t = some (.map k e)) (b : Nat) (es : Array MapEntry) (clock : Nat) (h : w.heap[b]? = some (.map es clock)) :
    (Builtin.clear_ #[t] ty #[.map (some b)]).run P w = .ok (.tuple #[]) { w with heap := w.heap.setIfInBounds b (.map #[] clock) } := by
  simp only [Builtin.clear_, List.getElem?_toArray, List.getElem?_cons_zero, Sem.run_bind, run_underlying ht w, Result.andThen_ok]
  simp [Go.getObj, Go.setObj, Sem.run, h]
theorem wpList_clear_map {P : Program} {ops : Array Oper} {rest : List Oper} {o : Oper} {a : Act} {w : World} {Q : Exit → Act → World → Prop} (hg : o.guard = none) (m : Operand) (t k e : TypeId) (ht : P.underlying t = some (.map k e))
    (ho : o.op = .call { callee := .builtin .clear, args := #[m], argTypes := #[t] }) (b : Nat) (es : Array MapEntry) (clock : Nat) (hm : a.eval m = .map (some b)) (hb : w.heap[b]? = some (.map es clock))
    (hK : wpList P ops Q rest (a.put o.dst (.tuple #[])) { w with heap := w.heap.setIfInBounds b (.map #[] clock) }) : wpList P ops Q (o :: rest) a w := by
  refine wpList_plain hg fun K hK' => ?_
  have hrun := run_clear_map (P := P) w t k e o.type ht b es clock hb
  unfold Oper.wp
  simp [execOp, ho, resolve, invoke, builtin, hm, hrun, Result.andThen]
  exact hK' _ _ hK

theorem run_copy_str {P : Program} (w : World) (dT sT ty elem : TypeId) (g o dLen dCap : Nat) (l : List UInt8) (cur : List Value) (t : TypeId)
    (hu : P.underlying dT = some (.slice elem)) (hs : (P.info? elem).map (·.size) = some 1) (hg : Blk w g cur t) (hfit : o + (l.take dLen).length ≤ cur.length) :
    (Builtin.copy_ #[dT, sT] ty #[.slice (some ⟨g, o, none⟩) dLen dCap, .string ⟨l.toArray⟩]).run P w =
      .ok (goInt (l.take dLen).length) (w.setRow g (lay cur o (bvs (l.take dLen))).toArray) := by
  have hst := run_storeCells_at P g o t (bvs (l.take dLen)) 0 cur.toArray w hg (by simpa using hfit) (bvs_one _)
  have hmin : Nat.min l.length dLen = (l.take dLen).length := by rw [List.length_take, Nat.min_comm]
  have htk : List.take (l.take dLen).length (List.map (fun b : UInt8 => Value.int IntKind.u8 (b.toNat : Int)) l) = bvs (l.take dLen) := by
    show List.take _ (List.map bv l) = List.map bv (List.take dLen l)
    rw [List.map_take, List.take_eq_take_iff]
    simp
  simp only [Nat.add_zero] at hst
  cases hq : P.info? elem with
  | none => simp [hq] at hs
  | some i =>
    simp [Builtin.copy_, run_underlying hu, Builtin.lenOf, Builtin.firstCells, sizeOf, typeInfo, hq, ByteArray.size]
    rw [hmin, htk, hst]
    simp [Result.andThen, lay]
/-- copy(dst, s), s a string -/
theorem wpList_copy_str {P : Program} {ops : Array Oper} {rest : List Oper} {op : Oper} {a : Act} {w : World} {Q : Exit → Act → World → Prop} (hgd : op.guard = none) (d s : Operand) (dT sT elem : TypeId)
    (ho : op.op = .call { callee := .builtin .copy, args := #[d, s], argTypes := #[dT, sT] }) (hu : P.underlying dT = some (.slice elem)) (hs : (P.info? elem).map (·.size) = some 1)
    (g o dLen dCap : Nat) (l : List UInt8) (cur : List Value) (t : TypeId) (hd : a.eval d = .slice (some ⟨g, o, none⟩) dLen dCap) (hx : a.eval s = .string ⟨l.toArray⟩) (hg : Blk w g cur t) (hfit : o + (l.take dLen).length ≤ cur.length)
    (h : wpList P ops Q rest (a.put op.dst (goInt (l.take dLen).length)) (w.setRow g (lay cur o (bvs (l.take dLen))).toArray)) : wpList P ops Q (op :: rest) a w :=
  Lib.wpList_copy_run w hgd d s dT sT ho _ _ hd hx (run_copy_str w dT sT op.type elem g o dLen dCap l cur t hu hs hg hfit) h
/-- .. into the block that was laid last -/
theorem wpList_copy_str_top {P : Program} {ops : Array Oper} {rest : List Oper} {op : Oper} {a : Act} {w : World} {Q : Exit → Act → World → Prop} (hgd : op.guard = none) (d s : Operand) (dT sT elem : TypeId)
    (ho : op.op = .call { callee := .builtin .copy, args := #[d, s], argTypes := #[dT, sT] }) (hu : P.underlying dT = some (.slice elem)) (hs : (P.info? elem).map (·.size) = some 1)
    (o dLen dCap : Nat) (l : List UInt8) (cur new : List Value) (t : TypeId) (hd : a.eval d = .slice (some ⟨w.heap.size, o, none⟩) dLen dCap) (hx : a.eval s = .string ⟨l.toArray⟩) (hfit : o + (l.take dLen).length ≤ cur.length) (hnew : lay cur o (bvs (l.take dLen)) = new)
    (h : wpList P ops Q rest (a.put op.dst (goInt (l.take dLen).length)) (w.alloc (.cells new.toArray t))) : wpList P ops Q (op :: rest) a (w.alloc (.cells cur.toArray t)) := by
  refine wpList_copy_str hgd d s dT sT elem ho hu hs w.heap.size o dLen dCap l cur t hd hx (heap_alloc_new w _) hfit ?_
  rw [World.setRow_alloc_new, hnew]
  exact h
/-- a struct literal -/
theorem wpList_build_as {P : Program} {ops : Array Oper} {rest : List Oper} {op : Oper} {a : Act} {w : World} {Q : Exit → Act → World → Prop} (hgd : op.guard = none) (t : TypeId) (parts : List (Nat × Operand)) (ho : op.op = .build t parts.toArray)
    (cells : Array Value) (hb : P.built t (parts.map fun (i, x) => (i, a.eval x)) = some cells) (h : wpList P ops Q rest (a.put op.dst (.agg cells)) w) : wpList P ops Q (op :: rest) a w := by
  have e : (parts.toArray.map fun (i, x) => (i, a.eval x)).toList = parts.map fun (i, x) => (i, a.eval x) := by simp
  exact wpList_build hgd t parts.toArray ho (by rw [e, hb]; rfl) (by rw [e, hb]; exact h)
theorem foldl_set_all (l : List Value) : ∀ (k : Nat) (base : Array Value), k + l.length ≤ base.size →
    ((l.zipIdx k).foldl (fun (cs : Array Value) (x : Value × Nat) => cs.setIfInBounds x.2 x.1) base).toList = base.toList.take k ++ (l ++ base.toList.drop (k + l.length)) := by
  induction l with
  | nil => intro k base h; simp
  | cons v l ih =>
    intro k base h
    simp only [List.length_cons] at h
    rw [List.zipIdx_cons, List.foldl_cons, ih (k + 1) _ (by simp; omega)]
    simp only [Array.toList_setIfInBounds, List.length_cons]
    have e1 : (base.toList.set k v).take (k + 1) = base.toList.take k ++ [v] := by
      rw [List.take_set]
      rw [List.take_succ_eq_append_getElem (by simp; omega), List.set_append_right _ _ (by simp; omega)]
      simp [show min k base.size = k by omega]
    have e2 : (base.toList.set k v).drop (k + 1 + l.length) = base.toList.drop (k + (l.length + 1)) := by
      rw [List.drop_set_of_lt (by omega)]
      congr 1; omega
    rw [e1, e2]
    simp
theorem fill_one (size : Nat) (v : Value) (base : Array Value) (h1 : v.cells.size = size) (h2 : base.size = size) :
    Instr.fill (fun i => some (i * size, size)) base [(0, v)] = some v.cells := by
  simp only [Instr.fill]
  rw [if_neg (by simp [h1, h2])]
  congr 1
  rw [← Array.toList_inj]
  have e := foldl_set_all v.cells.toList 0 base (by simp; omega)
  simp only [List.take_zero, List.nil_append] at e
  rw [List.drop_eq_nil_of_le (by simp; omega), List.append_nil] at e
  rw [← e]
  congr 1
  rw [← Array.foldl_toList]
  simp only [Array.toList_zipIdx, Nat.zero_mul, Nat.zero_add]
theorem run_buildSlice_one {P : Program} (w : World) (t e : TypeId) (i : TypeInfo) (z : Value) (v : Value) (ht : P.underlying t = some (.slice e)) (hi : P.info? e = some i) (hz : i.zero = some z) (hs : v.cells.size = i.size) (hsz : i.size ≤ 16777216) (h0 : 0 < i.size) :
    (Instr.buildSlice t 1 #[(0, v)]).run P w = .ok (.slice (some ⟨w.heap.size, 0, none⟩) 1 1) (w.alloc (.cells v.cells e)) := by
  have hne : ¬ i.size = 0 := by omega
  have hf := fill_one i.size v ((Array.range i.size).map fun x => z.cells[x % z.cells.size]!) hs (by simp)
  simp [Instr.buildSlice, run_underlying ht, sizeOf, typeInfo, hi, zeroValue, hz, hne, show ¬ 16777216 < i.size by omega, hf, newRow]
theorem wp_buildSlice_one {P : Program} {op : Oper} {a : Act} {w : World} {K : Act → World → Prop} {Q : Exit → Act → World → Prop} (t e : TypeId) (x : Operand) (ho : op.op = .buildSlice t 1 #[(0, x)])
    (ht : P.underlying t = some (.slice e)) (n : Nat) (hi : (P.info? e).map (fun i => (i.zero.isSome, i.size)) = some (true, n)) (v : Value) (hx : a.eval x = v) (cells : Array Value) (hc : v.cells = cells) (hs : cells.size = n) (hn : n ≤ 16777216) (h0 : 0 < n)
    (h : K (a.put op.dst (.slice (some ⟨w.heap.size, 0, none⟩) 1 1)) (w.alloc (.cells cells e))) : op.wp P a w K Q := by
  subst hc
  cases hq : P.info? e with
  | none => simp [hq] at hi
  | some i =>
    simp [hq] at hi
    obtain ⟨hi1, rfl⟩ := hi
    cases hz : i.zero with
    | none => simp [hz] at hi1
    | some z =>
      have hr := run_buildSlice_one (P := P) w t e i z v ht hq hz hs hn h0
      unfold Oper.wp execOp
      simp only [ho, List.map_toArray, List.map_cons, List.map_nil, hx, Sem.run_bind, Sem.run_pure, Result.andThen_ok, hr]
      exact h
theorem wpList_buildSlice_one {P : Program} {ops : Array Oper} {rest : List Oper} {op : Oper} {a : Act} {w : World} {Q : Exit → Act → World → Prop} (hgd : op.guard = none) (t e : TypeId) (x : Operand) (ho : op.op = .buildSlice t 1 #[(0, x)])
    (ht : P.underlying t = some (.slice e)) (n : Nat) (hi : (P.info? e).map (fun i => (i.zero.isSome, i.size)) = some (true, n)) (v : Value) (hx : a.eval x = v) (cells : Array Value) (hc : v.cells = cells) (hs : cells.size = n) (hn : n ≤ 16777216) (h0 : 0 < n)
    (h : wpList P ops Q rest (a.put op.dst (.slice (some ⟨w.heap.size, 0, none⟩) 1 1)) (w.alloc (.cells cells e))) : wpList P ops Q (op :: rest) a w :=
  wpList_plain hgd fun _ hK => wp_buildSlice_one t e x ho ht n hi v hx cells hc hs hn h0 (hK _ _ h)
/-- a region that draws its order: the first n operations only read, the others come in the text's order -/
theorem wp_region_tail {P : Program} {id : Nat} {Q : Exit → Act → World → Prop} {a : Act} {w : World} {l : List Oper} (n : Nat) (hm : P.follows .mixedOrders = true) (hB : Region.lexTailB .any l.toArray n = true)
    (h : wpStill P l.toArray w.drew (fun a' => wpList P l.toArray Q (l.drop n) a' w.drew) (l.take n) a) : (Code.region id l.toArray true).wp P Q a w :=
  wp_region_still_tail n hm hB h
theorem wpStill_load_mid {P : Program} {ops : Array Oper} {rest : List Oper} {op : Oper} {a : Act} {w : World} {Q : Act → Prop} (hgd : op.guard = none) (ty : TypeId) (x : Operand) (ho : op.op = .load ty x)
    (b o : Nat) (hx : a.eval x = .pointer (some ⟨b, o, none⟩)) (cs : List Value) (d : TypeDesc) (hc : w.rangeAt b o cs)
    (hu : P.underlying ty = some d) (hd : d.isRow = true) (hi : (P.info? ty).map (·.size) = some cs.length)
    (h : wpStill P ops w Q rest (a.put op.dst (.agg cs.toArray))) : wpStill P ops w Q (op :: rest) a := by
  refine wpStill_step fun K hK => ?_
  have hr := run_loadAt_mid (P := P) w b o ty cs d hc hu hd hi
  simp only [Region.wanted, hgd, if_true]
  unfold Oper.still execOp
  simp only [ho, hx, Sem.run_bind, Sem.run_pure, Result.andThen_ok, hr]
  rw [Oper.stillUpon_value]
  exact hK _ h
/-- append(v, ..) onto a row of the call's own -/
theorem wpList_append_row {P : Program} {ops : Array Oper} {rest : List Oper} {op : Oper} {a : Act} {w : World} {Q : Exit → Act → World → Prop} (hgd : op.guard = none) (s x : Operand) (t e : TypeId)
    (ho : op.op = .call { callee := .builtin .append, args := #[s, x], argTypes := #[t, t] }) (ht : P.underlying t = some (.slice e)) (size bytes : Nat)
    (hi : (P.info? e).map (fun i => (i.zero.map (·.cells.size), i.size, i.bytes)) = some (some size, size, bytes)) (hsz : 0 < size)
    (v : Value) (n : Nat) (xs : List Value) (hs : a.eval s = v) (hown : w.ownsRow 0 e size v n xs) (b o m c : Nat) (news : List Value) (hx : a.eval x = .slice (some ⟨b, o, none⟩) m c) (hl : news.length = m * size)
    (hnews : w.rangeAt b o news) (h1 : ∀ u ∈ news, u.oneCell' = true) (h63 : n + m ≤ maxLen) (hbytes : (n + m) * bytes ≤ 140737488355328)
    (h : ∀ v' w', Go.RowKit.Hid (w'.ownsRow 0 e size v' (n + m) (xs ++ news) ∧ w.grownBy w' v.ownBlock ∧ (v'.ownBlock = v.ownBlock ∨ v'.ownBlock = some w.heap.size)) → wpList P ops Q rest (a.put op.dst v') w') : wpList P ops Q (op :: rest) a w := by
  cases hq : P.info? e with
  | none => simp [hq] at hi
  | some i =>
    simp [hq] at hi
    obtain ⟨⟨z, hz, hzc⟩, hs1, hb1⟩ := hi
    exact wpList_append_own_at w hgd s x t ho 0 e i z size bytes ht hq hz hs1 hb1 hzc hsz v n xs hs hown ⟨b, o, none⟩ m c news hx hl (fun j u hj => by rw [Addr.add_mid]; exact hnews j u hj) h1 h63 hbytes (Nat.zero_le _)
      (fun v' w' r1 r2 _ r4 => h v' w' ⟨r1, r2, r4⟩)
/-- a whole array is stored into the midst of a block that is known whole -/
theorem run_store_lay {P : Program} (w : World) (g o : Nat) (ty : TypeId) (cur vs : List Value) (T : TypeId) (hg : Blk w g cur T) (hfit : o + vs.length ≤ cur.length) (hi : (P.info? ty).map (·.size) = some vs.length) (h1 : ∀ v ∈ vs, v.oneCell' = true) :
    (Instr.storeAt ty (.pointer (some ⟨g, o, none⟩)) (.agg vs.toArray)).run P w = .ok () (w.setRow g (lay cur o vs).toArray) := by
  have hst := run_storeCells_at P g o T vs 0 cur.toArray w hg (by simpa using hfit) h1
  cases hq : P.info? ty with
  | none => simp [hq] at hi
  | some i =>
    have hs : vs.length = i.size := by simp [hq] at hi; omega
    simp only [Nat.add_zero] at hst
    simp [Instr.storeAt, Instr.sureAddr, storeVar, sizeOf, typeInfo, hq, Value.cells, hs, hst, lay]
theorem wpList_store_lay {P : Program} {ops : Array Oper} {rest : List Oper} {op : Oper} {a : Act} {w : World} {Q : Exit → Act → World → Prop} (hgd : op.guard = none) (ty : TypeId) (x y : Operand) (ho : op.op = .store ty x y)
    (g o : Nat) (cur vs : List Value) (T : TypeId) (hx : a.eval x = .pointer (some ⟨g, o, none⟩)) (hy : a.eval y = .agg vs.toArray) (hg : Blk w g cur T) (hfit : o + vs.length ≤ cur.length) (hi : (P.info? ty).map (·.size) = some vs.length) (h1 : ∀ v ∈ vs, v.oneCell' = true)
    (h : wpList P ops Q rest (a.put op.dst undef) (w.setRow g (lay cur o vs).toArray)) : wpList P ops Q (op :: rest) a w := by
  refine wpList_plain hgd fun K hK => ?_
  have hr := run_store_lay (P := P) w g o ty cur vs T hg hfit hi h1
  unfold Oper.wp execOp
  simp only [ho, hx, hy, Sem.run_bind, Sem.run_pure, Result.andThen_ok, hr]
  exact hK _ _ h
theorem wpList_max2 {P : Program} {ops : Array Oper} {rest : List Oper} {op : Oper} {a : Act} {w : World} {Q : Exit → Act → World → Prop} (hgd : op.guard = none) (x y : Operand) (t1 t2 : TypeId)
    (ho : op.op = .call { callee := .builtin .max, args := #[x, y], argTypes := #[t1, t2] }) (a1 b1 m : Int) (hx : a.eval x = .int .i64 a1) (hy : a.eval y = .int .i64 b1) (hm : max a1 b1 = m)
    (h : wpList P ops Q rest (a.put op.dst (.int .i64 m)) w) : wpList P ops Q (op :: rest) a w := by
  refine wpList_plain hgd fun K hK => ?_
  have hr := run_max_int2 (P := P) w #[t1, t2] op.type .i64 .i64 a1 b1
  rw [show (if b1 > a1 then b1 else a1) = m by rw [← hm]; split <;> omega] at hr
  unfold Oper.wp execOp
  simp only [ho, resolve, invoke, builtin, Sem.run_bind, Sem.run_pure, Result.andThen_ok, List.map_toArray, List.map_cons, List.map_nil, hx, hy, hr]
  exact hK _ _ h
theorem wpList_min2 {P : Program} {ops : Array Oper} {rest : List Oper} {op : Oper} {a : Act} {w : World} {Q : Exit → Act → World → Prop} (hgd : op.guard = none) (x y : Operand) (t1 t2 : TypeId)
    (ho : op.op = .call { callee := .builtin .min, args := #[x, y], argTypes := #[t1, t2] }) (a1 b1 m : Int) (hx : a.eval x = .int .i64 a1) (hy : a.eval y = .int .i64 b1) (hm : min a1 b1 = m)
    (h : wpList P ops Q rest (a.put op.dst (.int .i64 m)) w) : wpList P ops Q (op :: rest) a w := by
  refine wpList_plain hgd fun K hK => ?_
  have hr := run_min_int2 (P := P) w #[t1, t2] op.type .i64 .i64 a1 b1
  rw [show (if b1 < a1 then b1 else a1) = m by rw [← hm]; split <;> omega] at hr
  unfold Oper.wp execOp
  simp only [ho, resolve, invoke, builtin, Sem.run_bind, Sem.run_pure, Result.andThen_ok, List.map_toArray, List.map_cons, List.map_nil, hx, hy, hr]
  exact hK _ _ h
/-- copy(dst, src), both in memory, dst in a block that is known whole -/
theorem wpList_copy_mid {P : Program} {ops : Array Oper} {rest : List Oper} {op : Oper} {a : Act} {w : World} {Q : Exit → Act → World → Prop} (hgd : op.guard = none) (d s : Operand) (dT sT elem : TypeId)
    (ho : op.op = .call { callee := .builtin .copy, args := #[d, s], argTypes := #[dT, sT] }) (hu : P.underlying dT = some (.slice elem)) (hs : (P.info? elem).map (·.size) = some 1)
    (g o dLen dCap b so sLen sCap : Nat) (cur cs : List Value) (t : TypeId) (hd : a.eval d = .slice (some ⟨g, o, none⟩) dLen dCap) (hx : a.eval s = .slice (some ⟨b, so, none⟩) sLen sCap) (hg : Blk w g cur t)
    (hn : cs.length = Nat.min sLen dLen) (hsrc : w.rangeAt b so cs) (hfit : o + cs.length ≤ cur.length) (h1 : ∀ v ∈ cs, v.oneCell' = true)
    (h : wpList P ops Q rest (a.put op.dst (goInt cs.length)) (w.setRow g (lay cur o cs).toArray)) : wpList P ops Q (op :: rest) a w := by
  have hr := run_copy_row (P := P) w dT sT op.type elem g o dLen dCap ⟨b, so, none⟩ sLen sCap cur.toArray t cs hu hs hg hn (fun j v hj => by rw [Addr.add_mid]; exact hsrc j v hj) (by simpa using hfit) h1
  refine Lib.wpList_copy_run w hgd d s dT sT ho _ _ hd hx hr ?_
  simpa [lay] using h
/-- make([]T, 0, n) -/
theorem wpList_make_empty {P : Program} {ops : Array Oper} {rest : List Oper} {op : Oper} {a : Act} {w : World} {Q : Exit → Act → World → Prop} (hgd : op.guard = none) (lo c : Operand) (t e : TypeId) (ho : op.op = Op.makeSlice t lo c)
    (ht : P.underlying t = some (.slice e)) (size bytes : Nat) (hi : (P.info? e).map (fun i => (i.zero.map (·.cells.size), i.size, i.bytes)) = some (some size, size, bytes))
    (C : Int) (n : Nat) (hl : a.eval lo = .int .i64 0) (hc : a.eval c = .int .i64 C) (hC : C = (n : Int)) (hb : bytes * n ≤ 281474976710656) (h3 : n ≤ maxLen)
    (h : ∀ w', Go.RowKit.Hid (w'.ownsRow 0 e size (.slice (some ⟨w.heap.size, 0, none⟩) 0 n) 0 [] ∧ w.grownBy w' none) → wpList P ops Q rest (a.put op.dst (.slice (some ⟨w.heap.size, 0, none⟩) 0 n)) w') : wpList P ops Q (op :: rest) a w := by
  cases hq : P.info? e with
  | none => simp [hq] at hi
  | some i =>
    simp [hq] at hi
    obtain ⟨⟨z, hz, hzc⟩, hs1, hb1⟩ := hi
    exact wpList_make_own w hgd lo c t ho 0 e i z size ht hq hz hs1 .i64 .i64 C n hl hc hC (by rw [hb1]; exact hb) h3 (Nat.zero_le _) (fun w' r1 r2 => h w' ⟨r1, r2⟩)
/-- make([]T, n) -/
theorem wpList_make_zero {P : Program} {ops : Array Oper} {rest : List Oper} {op : Oper} {a : Act} {w : World} {Q : Exit → Act → World → Prop} (hgd : op.guard = none) (lo c : Operand) (t e : TypeId) (ho : op.op = Op.makeSlice t lo c)
    (ht : P.underlying t = some (.slice e)) (size bytes : Nat) (zc : Array Value) (hi : (P.info? e).map (fun i => (i.zero.map (·.cells), i.size, i.bytes)) = some (some zc, size, bytes))
    (C : Int) (n : Nat) (hl : a.eval lo = .int .i64 C) (hc : a.eval c = .int .i64 C) (hC : C = (n : Int)) (hb : bytes * n ≤ 281474976710656) (h3 : n ≤ maxLen)
    (h : ∀ w', Go.RowKit.Hid (Blk w' w.heap.size (madeCells zc (n * size)).toList e ∧ w.grownBy w' none) → wpList P ops Q rest (a.put op.dst (.slice (some ⟨w.heap.size, 0, none⟩) n n)) w') : wpList P ops Q (op :: rest) a w := by
  cases hq : P.info? e with
  | none => simp [hq] at hi
  | some i =>
    simp [hq] at hi
    obtain ⟨⟨z, hz, hzc⟩, hs1, hb1⟩ := hi
    refine wpList_make_full w hgd lo c t ho 0 e i z size ht hq hz hs1 .i64 .i64 C C n hl hc hC hC (by rw [hb1]; exact hb) h3 (Nat.zero_le _) (fun w' r1 r2 => h w' ⟨?_, r2⟩)
    rw [hzc] at r1
    rcases r1.2 with ⟨h1, _⟩ | ⟨g, cap, cur, hv, _, hh, _, _, hsz, htk⟩
    · cases h1
    · cases hv
      unfold Blk
      rw [hh]
      have : cur.toList = (madeCells zc (n * size)).toList := by rw [← htk, List.take_of_length_le (by simp [hsz])]
      rw [← this]
/-- a[i], a an array held as a value, its elements of one cell -/
theorem run_index_cell {P : Program} (w : World) (T e : TypeId) (n : Nat) (hu : P.underlying T = some (.array n e)) (hag : (isAgg e).run P w = .ok false w) (hs : (P.info? e).map (·.size) = some 1) (cs : List Value) (j : Nat) (hj : j < n) (v : Value) (hv : cs[j]? = some v) :
    (Instr.index T (.agg cs.toArray) (.int .i64 j)).run P w = .ok v w := by
  cases hq : P.info? e with
  | none => simp [hq] at hs
  | some i =>
    have hi : i.size = 1 := by simpa [hq] using hs
    simp [Instr.index, asIntOf, run_underlying hu, sizeOf, typeInfo, hq, hi, part, hag, hv, hj]
theorem wpList_index_cell {P : Program} {ops : Array Oper} {rest : List Oper} {op : Oper} {a : Act} {w : World} {Q : Exit → Act → World → Prop} (hgd : op.guard = none) (T e : TypeId) (x i : Operand) (ho : op.op = .index T x i)
    (n : Nat) (hu : P.underlying T = some (.array n e)) (hag : (isAgg e).run P w = .ok false w) (hs : (P.info? e).map (·.size) = some 1) (cs : List Value) (j : Nat) (hx : a.eval x = .agg cs.toArray) (hi : a.eval i = .int .i64 j) (hj : j < n) (v : Value) (hv : cs[j]? = some v)
    (h : wpList P ops Q rest (a.put op.dst v) w) : wpList P ops Q (op :: rest) a w := by
  refine wpList_plain hgd fun K hK => ?_
  have hr := run_index_cell (P := P) w T e n hu hag hs cs j hj v hv
  unfold Oper.wp execOp
  simp only [ho, hx, hi, Sem.run_bind, Sem.run_pure, Result.andThen_ok, hr]
  exact hK _ _ h
/-- append(v, x...), x any slice: nil, empty or not -/
theorem wpList_append_any {P : Program} {ops : Array Oper} {rest : List Oper} {op : Oper} {a : Act} {w : World} {Q : Exit → Act → World → Prop} (hgd : op.guard = none) (s x : Operand) (t e : TypeId)
    (ho : op.op = .call { callee := .builtin .append, args := #[s, x], argTypes := #[t, t] }) (ht : P.underlying t = some (.slice e)) (size bytes : Nat)
    (hi : (P.info? e).map (fun i => (i.zero.map (·.cells.size), i.size, i.bytes)) = some (some size, size, bytes)) (hsz : 0 < size)
    (v : Value) (n : Nat) (xs : List Value) (hs : a.eval s = v) (hown : w.ownsRow 0 e size v n xs) (xa : Option Addr) (m c : Nat) (news : List Value) (hx : a.eval x = .slice xa m c) (hl : news.length = m * size)
    (hnews : 0 < m → ∃ b o, xa = some ⟨b, o, none⟩ ∧ w.rangeAt b o news) (hnil : xa = none → c = 0) (h1 : ∀ u ∈ news, u.oneCell' = true) (h63 : n + m ≤ maxLen) (hbytes : (n + m) * bytes ≤ 140737488355328)
    (h : ∀ v' w', Go.RowKit.Hid (w'.ownsRow 0 e size v' (n + m) (xs ++ news) ∧ w.grownBy w' v.ownBlock ∧ (v'.ownBlock = v.ownBlock ∨ v'.ownBlock = some w.heap.size)) → wpList P ops Q rest (a.put op.dst v') w') : wpList P ops Q (op :: rest) a w := by
  cases hq : P.info? e with
  | none => simp [hq] at hi
  | some i =>
    simp [hq] at hi
    obtain ⟨⟨z, hz, hzc⟩, hs1, hb1⟩ := hi
    by_cases hm : 0 < m
    · obtain ⟨b, o, rfl, hr⟩ := hnews hm
      exact wpList_append_own_at w hgd s x t ho 0 e i z size bytes ht hq hz hs1 hb1 hzc hsz v n xs hs hown ⟨b, o, none⟩ m c news hx hl (fun j u hj => by rw [Addr.add_mid]; exact hr j u hj) h1 h63 hbytes (Nat.zero_le _)
        (fun v' w' r1 r2 _ r4 => h v' w' ⟨r1, r2, r4⟩)
    · obtain rfl : m = 0 := by omega
      obtain rfl : news = [] := List.eq_nil_of_length_eq_zero (by rw [hl]; omega)
      cases xa with
      | none =>
        obtain rfl := hnil rfl
        exact wpList_append_own_none hgd s x t ho 0 e i size ht hq v n xs hs hown hx (h v w ⟨by simpa using hown, ⟨rfl, rfl, rfl, Nat.le_refl _, fun _ _ _ => rfl⟩, .inl rfl⟩)
      | some ad =>
        exact wpList_append_own_at w hgd s x t ho 0 e i z size bytes ht hq hz hs1 hb1 hzc hsz v n xs hs hown ad 0 c [] hx hl (fun j u hj => by cases hj) h1 h63 hbytes (Nat.zero_le _)
          (fun v' w' r1 r2 _ r4 => h v' w' ⟨r1, r2, r4⟩)
end Go.Proofs.YteklldbfdmaafaaDoor
