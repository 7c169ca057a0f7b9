/-
  Mor2, Gen, Mor3, Mor4, Calm, Ends, Opens, Facts, Fatep, Liv06, Made, Flu.
-/
import Derived.Lib.AppendStr
import Derived.Test.YteklldbfdmaafaaDoorTie
import Derived.Test.YteklldbfdmaafaaDoorCards
import Derived.WalkKit
import Derived.ProofKit
import Derived.OpenShut
import Derived.Lay
import Derived.LaidLaws
import Derived.MakeChecks
import Derived.Carry
import Derived.Below
import Derived.Deep.DeepHandedRow
import Derived.Deep.Slices
import Derived.Deep.Fields
import Derived.Deep.Grids
import Derived.Lib.SmallJoins
import Derived.JoinedOf
import Derived.Test.YteklldbfdmaafaaDoorGC
/-
  More rules of the walk: bits, complements, parts of a slice to one end, copies of a string, known answers.
-/
namespace Go.Proofs.YteklldbfdmaafaaDoor
open Go Go.RowKit

section
variable {P : Program} {W : World} {n d : Nat} {E : Env} {H H' R : List SP} {t u e : TypeId} {x y z : Operand} {T : TypeId} {b off : Nat} {k : KK}
theorem Ev_xor {kd : IntKind} {i j : Int} (hx : Env.ev E x = some (.int kd i)) (hy : Env.ev E y = some (.int kd j)) : Ev P W n E H (.binOp .xor t x y u) (.int kd (bits .xor kd i j)) := Ev_bits (.inr (.inr (.inl rfl))) hx hy fun _ => rfl
theorem Ev_and {kd : IntKind} {i j : Int} (hx : Env.ev E x = some (.int kd i)) (hy : Env.ev E y = some (.int kd j)) : Ev P W n E H (.binOp .and t x y u) (.int kd (bits .and kd i j)) := Ev_bits (.inl rfl) hx hy fun _ => rfl
theorem Ev_or {kd : IntKind} {i j : Int} (hx : Env.ev E x = some (.int kd i)) (hy : Env.ev E y = some (.int kd j)) : Ev P W n E H (.binOp .or t x y u) (.int kd (bits .or kd i j)) := Ev_bits (.inr (.inl rfl)) hx hy fun _ => rfl
theorem Ev_compl {kd : IntKind} {i : Int} (hx : Env.ev E x = some (.int kd i)) : Ev P W n E H (.unOp .xor t x) (.int kd (bits .xor kd (if kd.signed then -1 else kd.max) i)) := Ev.mk fun o ho a w p _ => by
  simp [execOp, ho, p.ev hx, Op.unary, intBits_xor]
theorem Ev_geqI_q {kd : IntKind} {i j : Int} {q : Bool} (hx : Env.ev E x = some (.int kd i)) (hy : Env.ev E y = some (.int kd j)) (h : decide (j ≤ i) = q) : Ev P W n E H (.binOp .geq t x y u) (.bool q) := by
  subst h; exact Ev_geqI hx hy
theorem Ev_gtrI_q {kd : IntKind} {i j : Int} {q : Bool} (hx : Env.ev E x = some (.int kd i)) (hy : Env.ev E y = some (.int kd j)) (h : decide (j < i) = q) : Ev P W n E H (.binOp .gtr t x y u) (.bool q) := by
  subst h; exact Ev_gtrI hx hy
theorem Ev_leqI_q {kd : IntKind} {i j : Int} {q : Bool} (hx : Env.ev E x = some (.int kd i)) (hy : Env.ev E y = some (.int kd j)) (h : decide (i ≤ j) = q) : Ev P W n E H (.binOp .leq t x y u) (.bool q) := by
  subst h; exact Ev_leqI hx hy
theorem Ev_lssI_q {kd : IntKind} {i j : Int} {q : Bool} (hx : Env.ev E x = some (.int kd i)) (hy : Env.ev E y = some (.int kd j)) (h : decide (i < j) = q) : Ev P W n E H (.binOp .lss t x y u) (.bool q) := by
  subst h; exact Ev_lssI hx hy
theorem Ev_eqlI_f {kd : IntKind} {i j : Int} (hx : Env.ev E x = some (.int kd i)) (hy : Env.ev E y = some (.int kd j)) (h : i ≠ j) : Ev P W n E H (.binOp .eql t x y u) (.bool false) := by
  have := Ev_eqlI (P := P) (W := W) (n := n) (E := E) (H := H) (t := t) (u := u) hx hy
  rw [decide_eq_false h] at this; exact this
theorem Ev_neqI_t {kd : IntKind} {i j : Int} (hx : Env.ev E x = some (.int kd i)) (hy : Env.ev E y = some (.int kd j)) (h : i ≠ j) : Ev P W n E H (.binOp .neq t x y u) (.bool true) := by
  have := Ev_neqI (P := P) (W := W) (n := n) (E := E) (H := H) (t := t) (u := u) hx hy
  rw [decide_eq_true (by exact h)] at this; exact this
theorem Ev_sliceTo {j : Int} {kj : IntKind} {m c s : Nat} (hx : Env.ev E x = some (.slice (some ⟨b, off, none⟩) m c)) (hz : Env.ev E z = some (.int kj j)) [hu : UIs P t (.slice e)] (hb : 0 ≤ j ∧ j ≤ c ∧ 0 < c) [hi : SzIs P e s] : Ev P W n E H (.slice t x none (some z) none) (.slice (some ⟨b, off, none⟩) j.toNat c) :=
  Ev.mk fun o ho a w p _ => by
    have h1 : 0 ≤ j := by omega
    have h3 : ¬ c = 0 := by omega
    have hi := hi.h
    cases hq : P.info? e with
    | none => simp [hq] at hi
    | some q =>
      simp [execOp, ho, p.ev hx, p.ev hz, Instr.sliceAt, Instr.slice, run_underlying hu.h, Instr.sliceBounds, Instr.sliceBound, asIntOf, h1, hb, sizeOf, typeInfo, hq, Addr.add]
theorem Ev_sliceFrom {i : Int} {ki : IntKind} {m c s : Nat} (hx : Env.ev E x = some (.slice (some ⟨b, off, none⟩) m c)) (hy : Env.ev E y = some (.int ki i)) [hu : UIs P t (.slice e)] [hi : SzIs P e s] (hb : 0 ≤ i ∧ i ≤ m ∧ m ≤ c ∧ i < c) : Ev P W n E H (.slice t x (some y) none none) (.slice (some ⟨b, off + i.toNat * s, none⟩) (m - i.toNat) (c - i.toNat)) :=
  Ev.mk fun o ho a w p _ => by
    have h3 : ¬ c = i.toNat := by omega
    have h4 : ¬ c ≤ i.toNat := by omega
    have hi := hi.h
    cases hq : P.info? e with
    | none => simp [hq] at hi
    | some q =>
      have hi : q.size = s := by simpa [hq] using hi
      have h5 : ¬ (c - i.toNat = 0) := by omega
      have h6 : (m : Int) ≤ c := by omega
      simp [execOp, ho, p.ev hx, p.ev hy, Instr.sliceAt, Instr.slice, run_underlying hu.h, Instr.sliceBounds, Instr.sliceBound, asIntOf, hb, h3, sizeOf, typeInfo, hq, hi, Addr.add_mid]
/-- copy(dst, s), s a text that fits -/
theorem KJ_copyStr {dT sT : TypeId} {m c : Nat} {l : List UInt8} {cs : List Value} (hx : Env.ev E x = some (.slice (some ⟨b, off, none⟩) m c)) (hy : Env.ev E y = some (strV l)) [hu : UIs P dT (.slice e)] [hi : SzIs P e 1] (hs : Sel (cellsP b cs T) H R)
    (hl : l.length ≤ m) (hfit : off + l.length ≤ cs.length) (hr : Rep (cellsP b cs T) (cellsP b (lay cs off (bvs l)) T) H H') (hn : Nat.blt d n = true) (h : KJ W n k ((d, .int .i64 l.length) :: E) H') :
    KJ W n (.oper P (.call { callee := .builtin .copy, args := #[x, y], argTypes := #[dT, sT] }) (some d) k) E H := by
  have htk : l.take m = l := List.take_of_length_le hl
  refine ⟨fun a w p s o ho hd Q => ?_⟩
  have hrun := run_copy_str (P := P) w dT sT o.type e b off m c l cs T hu.h hi.h (s.blk hs).2 (by rw [htk]; exact hfit)
  rw [htk] at hrun
  show o.upon P a _ _ ((execOp a.eval o).run P w)
  have e2 : (execOp a.eval o).run P w = .ok (.value (goInt l.length)) (w.setRow b (lay cs off (bvs l)).toArray) := by
    have hrun' : (Builtin.copy_ #[dT, sT] o.type #[.slice (some ⟨b, off, none⟩) m c, strV l]).run P w = .ok (goInt l.length) (w.setRow b (lay cs off (bvs l)).toArray) := hrun
    simp [execOp, ho, resolve, invoke, builtin, p.ev hx, p.ev hy, hrun', Result.andThen]
  rw [e2]
  have := h.go _ _ (p.put (d := some d) hn (goInt l.length)) (s.setRow hr)
  rw [← hd] at this
  exact this
end
end Go.Proofs.YteklldbfdmaafaaDoor
/-
  Laid bytes, and more rules of the walk on bytes.
-/
namespace Go.Proofs.YteklldbfdmaafaaDoor
open Go Go.RowKit

theorem bvs_length' (l : List UInt8) : (bvs l).length = l.length := by simp [bvs]
theorem cut_lay_same (l b : List UInt8) (o : Nat) (h : o + b.length ≤ l.length) : cut (lay l o b) o b.length = b := by
  unfold cut lay
  rw [List.drop_left' (by simp; omega), List.take_left' rfl]
theorem cut_lay_before (l b : List UInt8) (o p m : Nat) (h : o + b.length ≤ l.length) (hp : p + m ≤ o) : cut (lay l o b) p m = cut l p m := by
  unfold cut lay
  rw [List.drop_append_of_le_length (by simp; omega), List.take_append_of_le_length (by simp; omega), List.drop_take, List.take_take, Nat.min_eq_left (by omega)]
theorem cut_lay_behind (l b : List UInt8) (o p m : Nat) (h : o + b.length ≤ l.length) (hp : o + b.length ≤ p) : cut (lay l o b) p m = cut l p m := by
  unfold cut lay
  rw [← List.append_assoc, List.drop_append, List.drop_of_length_le (by simp; omega)]
  simp only [List.nil_append, List.drop_drop]
  congr 2
  simp
  omega
theorem zs_cut (m o n : Nat) (h : o + n ≤ m) : cut (zs m) o n = zs n := by
  unfold cut zs
  rw [List.drop_replicate, List.take_replicate]
  congr 1
  omega
section
variable {P : Program} {W : World} {n d : Nat} {E : Env} {H H' R : List SP} {t u e : TypeId} {x y z : Operand} {T : TypeId} {b off : Nat} {k : KK}
theorem KJ_copyStrB {dT sT : TypeId} {m c : Nat} {l l0 l' : List UInt8} (hx : Env.ev E x = some (.slice (some ⟨b, off, none⟩) m c)) (hy : Env.ev E y = some (strV l)) [hu : UIs P dT (.slice e)] [hi : SzIs P e 1] (hs : Sel (cellsP b (bvs l0) T) H R)
    (hl : l.length ≤ m) (hfit : off + l.length ≤ l0.length) (he : lay l0 off l = l') (hr : Rep (cellsP b (bvs l0) T) (cellsP b (bvs l') T) H H') (hn : Nat.blt d n = true) (h : KJ W n k ((d, .int .i64 l.length) :: E) H') :
    KJ W n (.oper P (.call { callee := .builtin .copy, args := #[x, y], argTypes := #[dT, sT] }) (some d) k) E H := by
  have e1 : bvs l' = lay (bvs l0) off (bvs l) := by rw [← he, bvs_lay]
  rw [e1] at hr
  exact KJ_copyStr hx hy hs hl (by rw [bvs_length']; exact hfit) hr hn h
/-- string(b), its beginning -/
theorem Ev_bytesTake {s : TypeId} {l : List UInt8} {m c : Nat} (hx : Env.ev E x = some (.slice (some ⟨b, 0, none⟩) m c)) [hs : UIs P s (.slice e)] [he : UIs P e (.int .u8)] [hd : UIs P u .string] (hs' : Sel (cellsP b (bvs l) T) H R) (hm : m ≤ l.length) : Ev P W n E H (.convert s u x) (strV (l.take m)) := by
  have h := Ev_bytesStr (P := P) (W := W) (n := n) (E := E) (u := u) hx (hs := hs) (he := he) (hd := hd) hs' (by omega)
  rw [List.drop_zero] at h
  exact h
/-- string(b), the whole -/
theorem Ev_bytesAll {s : TypeId} {l : List UInt8} {m c : Nat} (hx : Env.ev E x = some (.slice (some ⟨b, 0, none⟩) m c)) [hs : UIs P s (.slice e)] [he : UIs P e (.int .u8)] [hd : UIs P u .string] (hs' : Sel (cellsP b (bvs l) T) H R) (hm : l.length = m) : Ev P W n E H (.convert s u x) (strV l) := by
  have h := Ev_bytesStr (P := P) (W := W) (n := n) (E := E) (u := u) hx (hs := hs) (he := he) (hd := hd) hs' (by omega)
  rw [List.drop_zero, List.take_of_length_le (by omega)] at h
  exact h
end
section
variable {P : Program} {W : World} {n : Nat} {E : Env} {H : List SP} {x : Operand}
theorem Ev_convI_v {s d : TypeId} {ks kd : IntKind} {k : IntKind} {i j : Int} (hx : Env.ev E x = some (.int k i)) [hs : UIs P s (.int ks)] [hd : UIs P d (.int kd)] (h : kd.wrap i = j) : Ev P W n E H (.convert s d x) (.int kd j) := by
  subst h; exact Ev_convI hx
end
end Go.Proofs.YteklldbfdmaafaaDoor
/-
  More rules of the walk: texts appended to rows of bytes, stores into rows, claims packed behind a hidden value.
-/
namespace Go.Proofs.YteklldbfdmaafaaDoor
open Go Go.RowKit

/-! ### claims behind a hidden value -/
def packP {α : Type} (tag key : Nat) (F : α → List SP) : SP := ⟨tag, key, fun h => ∃ a, starL (F a) h⟩
theorem pack_star {α : Type} {tag key : Nat} {F : α → List SP} {H : List SP} (a : α) : ∀ g, starL (F a ++ H) g → starL (packP tag key F :: H) g := by
  intro g q
  obtain ⟨h1, h2, d, l1, l2, s1, s2⟩ := (starL_append g).1 q
  exact ⟨h1, h2, d, l1, l2, ⟨a, s1⟩, s2⟩
theorem unpack_star {α : Type} {tag key : Nat} {F : α → List SP} {H : List SP} {g : Hl} (q : starL (packP tag key F :: H) g) : ∃ a, starL (F a ++ H) g := by
  obtain ⟨h1, h2, d, l1, l2, ⟨a, s1⟩, s2⟩ := q
  exact ⟨a, (starL_append g).2 ⟨h1, h2, d, l1, l2, s1, s2⟩⟩
theorem St.unpack {W w : World} {α : Type} {tag key : Nat} {F : α → List SP} {H : List SP} (s : St W (packP tag key F :: H) w) : ∃ a, St W (F a ++ H) w := by
  obtain ⟨h, q, l⟩ := s.own
  obtain ⟨a, q⟩ := unpack_star q
  exact ⟨a, s.below, h, q, l⟩
theorem KJ.unpack {W : World} {n : Nat} {k : KK} {E : Env} {α : Type} {tag key : Nat} {F : α → List SP} {H : List SP} (h : ∀ a, KJ W n k E (F a ++ H)) : KJ W n k E (packP tag key F :: H) :=
  ⟨fun a w p s => by obtain ⟨x, s⟩ := s.unpack; exact (h x).go a w p s⟩
theorem KJ.unpack_at {W : World} {n : Nat} {k : KK} {E : Env} {α : Type} {tag key : Nat} {F : α → List SP} {H R : List SP} (q : Sel (packP tag key F) H R) (h : ∀ a, KJ W n k E (F a ++ R)) : KJ W n k E H := KJ.perm (KJ.unpack h) q.perm
theorem Ct_unpack {P : Program} {W : World} {f : FuncId} {args : List Value} {Hs : List SP} {X : Type} {r : X → Value} {H' : X → List SP} {α : Type} {tag key : Nat} {F : α → List SP}
    (h : ∀ a, Ct P W f args (F a ++ Hs) r H') : Ct P W f args (packP tag key F :: Hs) r H' :=
  ⟨fun R w s => by obtain ⟨x, s⟩ := (show St W (packP tag key F :: (Hs ++ R)) w from s).unpack; exact (h x).go R w (by simpa using s)⟩
theorem Ct_pack {P : Program} {W : World} {f : FuncId} {args : List Value} {Hpre Hs : List SP} {X Y : Type} {r : X → Value} {r' : Y → Value} {α : Type} {tag key : Nat} {F : Y → α → List SP} (y : X → Y) (a : X → α)
    (h : Ct P W f args Hpre r (fun x => F (y x) (a x) ++ Hs)) (e : ∀ x, r x = r' (y x)) : Ct P W f args Hpre r' (fun v => packP tag key (F v) :: Hs) :=
  ⟨fun R w s => (h.go R w s).mono fun en w' ⟨x, he, s⟩ => ⟨y x, by rw [← e]; exact he, by
    have s : St W (F (y x) (a x) ++ (Hs ++ R)) w' := by simpa using s
    exact s.mono (pack_star (a x))⟩⟩

/-! ### append(b, s...) -/
theorem strCells_bvs (l : List UInt8) : Lib.strCells ⟨l.toArray⟩ = bvs l := by simp [Lib.strCells, bvs, bv]
theorem append_str_at {P : Program} (w : World) (base : Nat) (t u ty e : TypeId) (i : TypeInfo) (ht : P.underlying t = some (.slice e)) (hu : P.underlying u = some .string) (hi : P.info? e = some i) (z : Value) (hz : i.zero = some z) (hzc : z.cells = #[.int .u8 0])
    (hsize : i.size = 1) (hby : i.bytes = 1) (v : Value) (n : Nat) (xs : List Value) (hown : w.ownsRow base e 1 v n xs) (l : List UInt8) (hne : l ≠ [] ∨ v.ownBlock.isSome = true)
    (hbytes : n + l.length ≤ 140737488355328) (hbase : base ≤ w.heap.size) :
    ∃ g c w', (Builtin.append_ #[t, u] ty #[v, strV l]).run P w = .ok (.slice (some ⟨g, 0, none⟩) (n + l.length) c) w' ∧ w'.ownsRow base e 1 (.slice (some ⟨g, 0, none⟩) (n + l.length) c) (n + l.length) (xs ++ bvs l) ∧ w.grownBy w' v.ownBlock ∧ (v.ownBlock = some g ∨ g = w.heap.size) := by
  have hb' : n + (⟨l.toArray⟩ : ByteArray).size ≤ 140737488355328 := hbytes
  have hss : (⟨l.toArray⟩ : ByteArray).size = l.length := rfl
  have hxl : xs.length = n := by simpa using hown.1
  have h63 : n + l.length ≤ maxLen := by unfold maxLen; omega
  have hlen : (xs ++ bvs l).length = (n + l.length) * 1 := by rw [List.length_append, hxl, bvs_length', Nat.mul_one]
  have grown : ∀ (old : Nat), old < n + l.length → ∀ (row : Option Nat),
      (w.drew.alloc (.cells (xs.toArray ++ (bvs l).toArray ++ Builtin.zeroCells z.cells (grownCap w (n + l.length) old e - (n + l.length))) e)).ownsRow base e 1
        (.slice (some ⟨w.heap.size, 0, none⟩) (n + l.length) (grownCap w (n + l.length) old e)) (n + l.length) (xs ++ bvs l) ∧
      w.grownBy (w.drew.alloc (.cells (xs.toArray ++ (bvs l).toArray ++ Builtin.zeroCells z.cells (grownCap w (n + l.length) old e - (n + l.length))) e)) row := by
    intro old ho row
    have hge := grownCap_ge w (n + l.length) old e
    have hcm : grownCap w (n + l.length) old e ≤ maxLen := grownCap_le_maxLen w (n + l.length) old e h63
    refine ⟨⟨hlen, .inr ⟨w.heap.size, _, _, rfl, hbase, heap_alloc_new w.drew _, hge, hcm, ?_, ?_⟩⟩, ⟨rfl, rfl, rfl, by simp, fun k hk _ => heap_alloc_old w.drew _ hk⟩⟩
    · have hz1 : z.cells.size = 1 := by rw [hzc]; rfl
      simp only [Array.size_append, List.size_toArray, size_zeroCells, hz1, hxl, bvs_length']
      omega
    · simp only [Array.toList_append, List.append_assoc]
      rw [← List.append_assoc, ← hlen]
      exact List.take_left
  rcases hown.2 with ⟨rfl, rfl⟩ | ⟨g, cap, cur, rfl, hbg, hg, hnc, hcm, hcs, htake⟩
  · have hx : xs = [] := List.eq_nil_of_length_eq_zero hxl
    subst hx
    have hl0 : 0 < l.length := by
      rcases hne with h | h
      · exact List.length_pos_iff.2 h
      · simp [Value.ownBlock] at h
    have hr := run_append_nil_string (P := P) w t u ty e i z ht hu hi hz ⟨l.toArray⟩ hl0 (by rw [hss]; omega) (by rw [hby, hss]; omega)
    have hgr := grown 0 (by omega) (Value.ownBlock (.slice none 0 0))
    have e1 : ((⟨l.toArray⟩ : ByteArray).data.map fun b => Value.int .u8 b.toNat) = (bvs l).toArray := by simp [bvs, bv]
    rw [e1, hss] at hr
    simp only [Nat.zero_add, List.nil_append, Array.empty_append] at hgr ⊢
    exact ⟨_, _, _, hr, hgr.1, hgr.2, .inr rfl⟩
  · by_cases hroom : n + l.length ≤ cap
    · have hcs' : cur.size = cap := by simpa using hcs
      have hr := Lib.run_append_room_string (P := P) w t u ty e i ht hu hi hsize g n cap cur hg ⟨l.toArray⟩ (by rw [hss]; exact hroom) (by rw [hss]; omega)
      rw [strCells_bvs, hss] at hr
      refine ⟨_, _, _, hr, ⟨hlen, .inr ⟨g, cap, _, rfl, hbg, setRow_heap w g cur _ e _ hg, hroom, hcm, ?_, ?_⟩⟩, ⟨rfl, rfl, rfl, by simp, fun k _ hk => setRow_other w g k _ (fun e => hk (by simp [Value.ownBlock, e]))⟩, .inl rfl⟩
      · simp only [List.size_toArray, List.length_append, List.length_take, List.length_drop, Array.length_toList, bvs_length']
        omega
      · have ht' : cur.toList.take n = xs := by simpa using htake
        rw [ht', ← hlen]
        exact List.take_left
    · have holds : ∀ j u, xs[j]? = some u → w.cell? ((⟨g, 0, none⟩ : Addr).add j) = some u := hown.cells (g := g) rfl
      have hr := Lib.run_append_grow_string (P := P) w t u ty e i z ht hu hi hz ⟨g, 0, none⟩ n cap xs (by rw [hsize]; simpa using hxl) holds ⟨l.toArray⟩ (by rw [hss]; omega) (by rw [hss]; omega) (by rw [hby, hss]; exact growslice_fits (by omega) (by omega))
      rw [strCells_bvs, hss] at hr
      have hgr := grown cap (by omega) (Value.ownBlock (.slice (some ⟨g, 0, none⟩) n cap))
      exact ⟨_, _, _, hr, hgr.1, hgr.2, .inr rfl⟩
section
variable {P : Program} {W : World} {n : Nat} {E : Env} {H H' R : List SP} {k : KK} {x y z : Operand} {t u e T : TypeId} {b off d m c : Nat}
/-- what a row's step leaves: the row alone has turned -/
theorem St.rowStep {w w' : World} {v v' : Value} {size i j : Nat} {xs ys : List Value} (s : St W H w) (hsel : Sel (rowP v e size i xs) H R) (hown : w'.ownsRow W.heap.size e size v' j ys) (hg : w.grownBy w' v.ownBlock) (hloc : ∀ g, v'.ownBlock = some g → v.ownBlock = some g ∨ g = w.heap.size) :
    St W (rowP v' e size j ys :: R) w' := by
  obtain ⟨g1, g2, dj, hA, hH, l1, l2⟩ := (show St W ([rowP v e size i xs] ++ R) w from s.perm hsel.perm).split
  have hold : ∀ gg, v.ownBlock = some gg → ∃ o, g1 gg = some o := by
    intro gg hgg
    obtain ⟨ha, _, _, le, _, ⟨_, hd⟩, _⟩ := hA
    rcases hd with ⟨hv0, _⟩ | ⟨g'', cap', cur', hv0, hh0, _⟩
    · rw [hv0] at hgg; simp [Value.ownBlock] at hgg
    · rw [hv0] at hgg; simp [Value.ownBlock] at hgg; subst hgg; exact ⟨_, le _ _ hh0⟩
  have hq3 : ∀ kk, kk < w.heap.size → g1 kk = none → w'.heap[kk]? = w.heap[kk]? := by
    intro kk hk hnone
    refine hg.block kk hk (fun e => ?_)
    obtain ⟨o, ho⟩ := hold kk e.symm
    rw [hnone] at ho; cases ho
  rcases hown.2 with ⟨hv, hj⟩ | ⟨g', cap, cur, hv, hbase, hh, hrest⟩
  · exact St.join (B := [rowP v' e size j ys]) (g := fun _ => none) s.below dj hH l1 l2 (starL_one ⟨hown.1, .inl ⟨hv, hj⟩⟩) hg.os hg.tape hg.output hg.size (fun _ _ q => by cases q) (fun _ _ q => by cases q) hq3
  · refine St.join (B := [rowP v' e size j ys]) (g := Hl.one g' (.cells cur e (0, 0))) s.below dj hH l1 l2 (starL_one ⟨hown.1, .inr ⟨g', cap, cur, hv, Hl.one_self _ _, hrest⟩⟩) hg.os hg.tape hg.output hg.size ?_ ?_ hq3
    · intro kk o q; obtain ⟨rfl, rfl⟩ := Hl.one_some q; exact hh
    · intro kk o q
      obtain ⟨rfl, rfl⟩ := Hl.one_some q
      rcases hloc kk (by rw [hv]; rfl) with hl | hl
      · exact .inl (hold kk hl)
      · exact .inr (by omega)
/-- append(b, s...), b a row of one's own -/
theorem KJ_appendStr {v : Value} {i : Nat} {xs : List Value} {l : List UInt8} (hx : Env.ev E x = some v) (hy : Env.ev E y = some (strV l)) [hu : UIs P t (.slice e)] [hstr : UIs P u .string] [hs : SzIs P e 1] [hb : ByIs P e 1] [hz : ZcIs P e [.int .u8 0]] (hsel : Sel (rowP v e 1 i xs) H R)
    (hne : l ≠ [] ∨ v.ownBlock.isSome = true) (hbd : i + l.length ≤ 140737488355328) (hn : Nat.blt d n = true)
    (h : ∀ g c, KJ W n k ((d, .slice (some ⟨g, 0, none⟩) (i + l.length) c) :: E) (rowP (.slice (some ⟨g, 0, none⟩) (i + l.length) c) e 1 (i + l.length) (xs ++ bvs l) :: R)) : KJ W n (.oper P (.call { callee := .builtin .append, args := #[x, y], argTypes := #[t, u] }) (some d) k) E H := by
  refine ⟨fun a w p s o ho hd Q => ?_⟩
  have hz := hz.h
  have hs := hs.h
  have hb := hb.h
  cases hq : P.info? e with
  | none => simp [hq] at hz
  | some it =>
    simp [hq] at hz hs hb
    obtain ⟨zv, hz1, hz2⟩ := hz
    obtain ⟨g, cc, w', hrun, hown, hgrow, hloc⟩ := append_str_at (P := P) w W.heap.size t u o.type e it hu.h hstr.h hq zv hz1 (by simpa using hz2) hs hb v i xs (s.row hsel) l hne hbd s.size
    show o.upon P a _ _ ((execOp a.eval o).run P w)
    have hr2 : (execOp a.eval o).run P w = .ok (.value (.slice (some ⟨g, 0, none⟩) (i + l.length) cc)) w' := by
      simp only [execOp, ho, resolve, invoke, builtin, Sem.run_bind, Sem.run_pure, Result.andThen_ok, List.map_toArray, List.map_cons, List.map_nil, p.ev hx, p.ev hy, hrun]
    rw [hr2]
    have st := s.rowStep hsel hown hgrow (fun g' hg' => by have : g = g' := by simpa [Value.ownBlock] using hg'
                                                           subst this; exact hloc)
    have := (h g cc).go _ w' (p.put (d := some d) hn _) st
    rw [← hd] at this
    exact this
/-- append(b, y...), both slices; perhaps nothing is appended -/
theorem KJ_append0 {v : Value} {i l size bytes : Nat} {xs news : List Value} {c2 : Nat} {xa : Addr} (hx : Env.ev E x = some v) (hy : Env.ev E y = some (.slice (some xa) l c2)) [hu : UIs P t (.slice e)] [hs : SzIs P e size] [hb : ByIs P e bytes] {zs : List Value} [hz : ZcIs P e zs] (hsz : zs.length = size) (h0 : 0 < size) (hsel : Sel (rowP v e size i xs) H R)
    (hsrc : ∀ w, St W H w → ∀ j u, news[j]? = some u → w.cell? (xa.add j) = some u) (hl : news.length = l * size) (h1 : Ones news) (h63 : (i + l) * bytes ≤ 140737488355328) (h64 : i + l ≤ 9223372036854775807) (hn : Nat.blt d n = true)
    (h : ∀ v', KJ W n k ((d, v') :: E) (rowP v' e size (i + l) (xs ++ news) :: R)) : KJ W n (.oper P (.call { callee := .builtin .append, args := #[x, y], argTypes := #[t, t] }) (some d) k) E H := by
  refine ⟨fun a w p s o ho hd Q => ?_⟩
  have hz := hz.h
  have hs := hs.h
  have hb := hb.h
  cases hq : P.info? e with
  | none => simp [hq] at hz
  | some it =>
    simp [hq] at hz hs hb
    obtain ⟨zv, hz1, hz2⟩ := hz
    obtain ⟨v', w', hrun, hown, hgrow, -, hloc⟩ := run_append_own_at (P := P) w W.heap.size t o.type e it zv size bytes hu.h hq hz1 hs hb (by rw [hz2]; simpa using hsz) h0 v i xs (s.row hsel) xa l c2 news hl (hsrc w s) h1.all (by unfold maxLen; omega) h63 s.size
    show o.upon P a _ _ ((execOp a.eval o).run P w)
    have hr2 : (execOp a.eval o).run P w = .ok (.value v') w' := by
      simp only [execOp, ho, resolve, invoke, builtin, Sem.run_bind, Sem.run_pure, Result.andThen_ok, List.map_toArray, List.map_cons, List.map_nil, p.ev hx, p.ev hy, hrun]
    rw [hr2]
    have st := s.rowStep hsel hown hgrow (fun g' hg' => by
      rcases hloc with q | q
      · left; rw [← q]; exact hg'
      · right; rw [hg'] at q; cases q; rfl)
    have := (h v').go _ w' (p.put (d := some d) hn _) st
    rw [← hd] at this
    exact this
/-- string(b), b a row of bytes of one's own -/
theorem Ev_bytesRow {s u : TypeId} {g i : Nat} {l : List UInt8} (hx : Env.ev E x = some (.slice (some ⟨g, 0, none⟩) i c)) [hs : UIs P s (.slice e)] [he : UIs P e (.int .u8)] [hd : UIs P u .string] (hsel : Sel (rowP (.slice (some ⟨g, 0, none⟩) i c) e 1 i (bvs l)) H R) : Ev P W n E H (.convert s u x) (strV l) :=
  Ev.mk fun o ho a w p q => by
    have hrow := q.row hsel
    have hl : l.length = i := by have := hrow.1; rw [bvs_length'] at this; omega
    have hr := run_convert_bytes_back (P := P) w s u e ⟨g, 0, none⟩ c l hs.h he.h hd.h (fun j hj => hrow.cells (g := g) rfl j _ (by simp [bvs, bv, hj]))
    rw [hl] at hr
    simp only [execOp, ho, p.ev hx, Sem.run_bind, hr, Result.andThen_ok, Sem.run_pure]
/-- []T{} -/
theorem KJ_bslice0 {m : Nat} [hu : UIs P t (.slice e)] [hs : SzIs P e m] (hn : Nat.blt d n = true)
    (h : ∀ g, KJ W n k ((d, .slice (some ⟨g, 0, none⟩) 0 0) :: E) (rowP (.slice (some ⟨g, 0, none⟩) 0 0) e m 0 [] :: H)) : KJ W n (.oper P (.buildSlice t 0 #[]) (some d) k) E H := by
  refine ⟨fun a w p s o ho hd Q => ?_⟩
  have hs := hs.h
  cases hq : P.info? e with
  | none => simp [hq] at hs
  | some it =>
    show o.upon P a _ _ ((execOp a.eval o).run P w)
    have hr2 : (execOp a.eval o).run P w = .ok (.value (.slice (some ⟨w.heap.size, 0, none⟩) 0 0)) (w.alloc (.cells #[] e)) := by
      simp [execOp, ho, Instr.buildSlice, run_underlying hu.h, sizeOf, typeInfo, hq, Instr.fill, newRow, Go.newObj, Sem.run, Result.andThen, Array.eq_empty_of_size_eq_zero (xs := Array.range 0) (by simp)]
    rw [hr2]
    have st : St W (rowP (.slice (some ⟨w.heap.size, 0, none⟩) 0 0) e m 0 [] :: H) (w.alloc (.cells #[] e)) :=
      s.alloc ⟨by simp, .inr ⟨w.heap.size, 0, #[], rfl, Hl.one_self _ _, Nat.le_refl _, by unfold maxLen; omega, by simp, by simp⟩⟩
    have := (h w.heap.size).go _ _ (p.put (d := some d) hn _) st
    rw [← hd] at this
    exact this
/-- a store into a row -/
theorem KJ_storeRow {v : Value} {vs xs : List Value} {g i size : Nat} (hx : Env.ev E x = some (.pointer (some ⟨g, off, none⟩))) (hy : Env.ev E y = some v) [hi : SzIs P t m] (hsel : Sel (rowP (.slice (some ⟨g, 0, none⟩) i c) e size i xs) H R) (hv : CellsOf v vs) (hl : vs.length = m) (h1 : Ones vs) (hfit : off + m ≤ xs.length)
    (h : KJ W n k E (rowP (.slice (some ⟨g, 0, none⟩) i c) e size i (lay xs off vs) :: R)) : KJ W n (.oper P (.store t x y) none k) E H := by
  refine ⟨fun a w p s o ho hd Q => ?_⟩
  have hrow := s.row hsel
  rcases hrow.2 with ⟨q, _⟩ | ⟨g', cap, cur, hvv, hbg, hg, hnc, hcm, hcs, htake⟩
  · cases q
  cases hvv
  have hblk : Blk w g cur.toList e := by simpa [Blk] using hg
  have hxl := hrow.1
  have hcl : xs.length ≤ cur.size := by rw [hxl, hcs]; exact Nat.mul_le_mul_right _ hnc
  have hrun := run_store_lay (P := P) w g off t cur.toList vs e hblk (by simp; omega) (by rw [hl]; exact hi.h) h1.all
  have e1 : (Instr.storeAt t (.pointer (some ⟨g, off, none⟩)) v).run P w = (Instr.storeAt t (.pointer (some ⟨g, off, none⟩)) (.agg vs.toArray)).run P w := by
    simp only [Instr.storeAt, storeVar, hv.spec]
    rfl
  show o.upon P a _ _ ((execOp a.eval o).run P w)
  have e2 : (execOp a.eval o).run P w = .ok .skip (w.setRow g (lay cur.toList off vs).toArray) := by
    simp [execOp, ho, p.ev hx, p.ev hy, e1, hrun, Result.andThen]
  rw [e2]
  have hlc : (lay cur.toList off vs).length = cur.size := by rw [lay_length _ _ _ (by simp; omega)]; simp
  have st : St W (rowP (.slice (some ⟨g, 0, none⟩) i c) e size i (lay xs off vs) :: R) (w.setRow g (lay cur.toList off vs).toArray) := by
    refine s.rowStep hsel ⟨by rw [lay_length _ _ _ (by omega)]; exact hxl, .inr ⟨g, c, _, rfl, hbg, setRow_heap w g cur _ e _ hg, hnc, hcm, by simpa [hlc] using hcs, ?_⟩⟩ ⟨rfl, rfl, rfl, by simp [World.setRow], fun kk _ hk => setRow_other w g kk _ (fun e => hk (by simp [Value.ownBlock, e]))⟩ (fun g' hg' => .inl hg')
    show (lay cur.toList off vs).take (i * size) = lay xs off vs
    rw [← htake]
    have hs : off + vs.length ≤ i * size := by omega
    have hic : i * size ≤ cur.toList.length := by simp; omega
    unfold lay
    rw [List.take_take, Nat.min_eq_left (by omega), List.take_append, List.length_take, Nat.min_eq_left (by simp; omega), List.take_append, List.drop_take]
    rw [List.take_of_length_le (l := cur.toList.take off) (by simp; omega), List.take_of_length_le (l := vs) (by omega)]
    congr 3
    omega
  have := h.go _ _ (p.put (d := none) rfl undef) st
  rw [← hd] at this
  exact this
end
end Go.Proofs.YteklldbfdmaafaaDoor
/-
  More rules of the walk: one text for what several ways have in common; sums with a value of one's choice.
-/
namespace Go.Proofs.YteklldbfdmaafaaDoor
open Go Go.RowKit
section
variable {P : Program} {W : World} {n d : Nat} {E : Env} {H H' R : List SP} {t u e : TypeId} {x y z : Operand} {T : TypeId} {b off : Nat} {k : KK} {q : QQ}
/-- what several ways have in common: K is found by the first of them -/
theorem KJ_rest {G : Prop} {K : KK} (Q : KK → Prop) (main : Q K → G) (r : Q K) : G := main r
theorem at_region {id : Nat} {ops : Array Oper} {dr : Bool} (h : KJ W n (.code P (Code.region id ops dr) q) E H) : KJ W n (.code P (Code.region id ops dr) q) E H := h
theorem at_seq_region {id : Nat} {ops : Array Oper} {dr : Bool} {c : Code} (h : KJ W n (.code P (Code.seq (Code.region id ops dr) c) q) E H) : KJ W n (.code P (Code.seq (Code.region id ops dr) c) q) E H := h
theorem Ev_addI_v {i j r : Int} (hx : Env.ev E x = some (.int .i64 i)) (hy : Env.ev E y = some (.int .i64 j)) (h : i + j = r) (hb : -9223372036854775808 ≤ r ∧ r ≤ 9223372036854775807) : Ev P W n E H (.binOp .add t x y u) (.int .i64 r) := by
  subst h; exact Ev_addI hx hy hb
theorem Ev_subI_v {i j r : Int} (hx : Env.ev E x = some (.int .i64 i)) (hy : Env.ev E y = some (.int .i64 j)) (h : i - j = r) (hb : -9223372036854775808 ≤ r ∧ r ≤ 9223372036854775807) : Ev P W n E H (.binOp .sub t x y u) (.int .i64 r) := by
  subst h; exact Ev_subI hx hy hb
theorem Ev_mulI_v {i j r : Int} (hx : Env.ev E x = some (.int .i64 i)) (hy : Env.ev E y = some (.int .i64 j)) (h : i * j = r) (hb : -9223372036854775808 ≤ r ∧ r ≤ 9223372036854775807) : Ev P W n E H (.binOp .mul t x y u) (.int .i64 r) := by
  subst h; exact Ev_mulI hx hy hb
theorem Ev_move_v {v v' : Value} (hx : Env.ev E x = some v) (h : v = v') : Ev P W n E H (.move x) v' := by
  subst h; exact Ev_move hx
theorem Ev_eqlS_f {a b : List UInt8} (hx : Env.ev E x = some (strV a)) (hy : Env.ev E y = some (strV b)) (h : a ≠ b) : Ev P W n E H (.binOp .eql t x y u) (.bool false) := by
  have := Ev_eqlS (P := P) (W := W) (n := n) (E := E) (H := H) (t := t) (u := u) hx hy
  rw [decide_eq_false h] at this; exact this
theorem Ev_neqS_t {a b : List UInt8} (hx : Env.ev E x = some (strV a)) (hy : Env.ev E y = some (strV b)) (h : a ≠ b) : Ev P W n E H (.binOp .neq t x y u) (.bool true) := by
  have := Ev_neqS (P := P) (W := W) (n := n) (E := E) (H := H) (t := t) (u := u) hx hy
  rw [decide_eq_true (by exact h)] at this; exact this
theorem Ev_buildA {ps : List (Nat × Operand)} {pv : List (Nat × Value)} {vs : List Value} (hp : EvP E ps pv) (h : P.built t pv = some vs.toArray) : Ev P W n E H (.build t ps.toArray) (.agg vs.toArray) :=
  Ev.mk fun o ho a w p _ => by
    have e : (ps.toArray.map fun (i, x) => (i, a.eval x)).toList = pv := by
      rw [← hp.map p]; simp
    have h1 := run_build (P := P) w t (ps.toArray.map fun (i, x) => (i, a.eval x)) vs.toArray (by rw [e]; exact h)
    simp only [execOp, ho, Sem.run_bind, h1, Result.andThen_ok, Sem.run_pure]
end
end Go.Proofs.YteklldbfdmaafaaDoor
/-
  A disk that nobody armed, as plain data.
-/
namespace Go.Proofs.YteklldbfdmaafaaDoor
open Go Go.RowKit

/-- a disk that nobody armed: its power is on -/
def Calm (D : Dsk) : Prop := D.off = false ∧ D.armed = -1
theorem gone_calm {D : Dsk} (h : Calm D) : D.gone = D := by
  obtain ⟨h1, h2⟩ := h
  unfold Dsk.gone
  rw [if_neg (by omega), if_neg (by omega)]
theorem dead_calm {D : Dsk} (h : Calm D) : D.dead = false := by simp [Dsk.dead, h.2]
theorem blank_calm (n : Nat) : Calm (Dsk.blank n) := ⟨rfl, rfl⟩
theorem writeD_calm {D : Dsk} (h : Calm D) (i : Int) (s : List UInt8) : Calm (D.writeD i s) ∧ (D.writeD i s).n = D.n := by
  have h1 : Calm ({ D with und := D.und ++ [(i.toNat, s)] } : Dsk) := h
  unfold Dsk.writeD
  split
  · exact ⟨h, rfl⟩
  split
  · split
    · simp only [dead_calm h, gone_calm h1]
      exact ⟨h, rfl⟩
    · exact ⟨h, rfl⟩
  · exact ⟨h, rfl⟩
theorem flushD_calm {D : Dsk} (h : Calm D) : Calm D.flushD ∧ D.flushD.n = D.n ∧ D.flushE = 0 ∧ D.flushD.und = [] ∧ D.flushD.img = layAll D.img D.und := by
  have e : D.flushD = { D with img := layAll D.img D.und, und := [], flushes := w64 (D.flushes + 1) } := by
    unfold Dsk.flushD
    rw [if_neg (by rw [h.1]; simp), if_neg (by rw [dead_calm h]; simp), gone_calm h]
  rw [e]
  refine ⟨h, rfl, ?_, rfl, rfl⟩
  simp [Dsk.flushE, h.1, dead_calm h]
theorem crash_calm (D : Dsk) (kept : List Bool) (torn bytes : Int) : Calm (D.crash kept torn bytes) := ⟨rfl, rfl⟩
/-- reads of a disk that nothing is under way on -/
theorem read_clean {D : Dsk} (h : Calm D) (hu : D.und = []) (i : Nat) (hi : i < D.n) : D.readE i = 0 ∧ D.readS i = cut D.img (i * 256) 256 := by
  have h1 : D.has (i : Int) = true := by simp [Dsk.has, hi]
  constructor
  · simp [Dsk.readE, h.1, h1]
  · simp [Dsk.readS, h.1, h1, Dsk.rd, hu, lastW_nil, Dsk.sec]
theorem take_cut (l : List UInt8) (i : Nat) : l.take (256 * i) ++ cut l (i * 256) 256 = l.take (256 * (i + 1)) := by
  rw [show 256 * (i + 1) = 256 * i + 256 by omega, List.take_add, cut, Nat.mul_comm i 256]
theorem crash_clean (D : Dsk) (hu : D.und = []) (kept : List Bool) (torn bytes : Int) : (D.crash kept torn bytes).img = D.img := by
  simp [Dsk.crash, hu, layDone]

end Go.Proofs.YteklldbfdmaafaaDoor
/-
  What all the laws of this seat share at their ends: the 37 errors out of the row's list, a witness, and the last step behind the walk.
-/
namespace Go.Proofs.YteklldbfdmaafaaDoor
open Go Go.RowKit Go.ChangeShapes Go.WideShapes Go.Deep

theorem own : ownKnob Tryd.prog.godebug = none := by kernel_rfl
theorem laidOut : laidOutB Tryd.prog = true := by kernel_rfl


/-- the places of the listed variables' data lie apart -/
theorem laidVars_at {P : Program} {w : World} : ∀ {laid : List (String × DataW Unit)} {ps : List MemPlace}, DataW.LaidVars P w laid ps → ps.Nodup →
    ∃ pl : Nat → List MemPlace, (∀ i n d, laid[i]? = some (n, d) → ∃ g t cs fuel, P.globalNamed n = some g ∧ (P.globals[g]?).map (·.type) = some t ∧ w.var? P n = some cs ∧
      DataW.trod (fun _ => ()) P w 0 (fun _ => true) false fuel t cs.toList = some (d, pl i) ∧ (∀ x ∈ MemPlace.row ⟨g, 0, none⟩ cs.size, x ∈ ps) ∧ ∀ x ∈ pl i, x ∈ ps) ∧
      ∀ i j, i < j → j < laid.length → ∀ x ∈ pl i, x ∉ pl j
  | [], ps, _, _ => ⟨fun _ => [], fun i n d h => by simp at h, fun i j _ h => by simp at h⟩
  | (n, d) :: r, ps, h, hn => by
    obtain ⟨g, t, cs, fuel, p, q, h1, h2, h3, h4, h5, rfl⟩ := h
    have hq : q.Nodup := (List.nodup_append.1 hn).2.1
    obtain ⟨pl, hp1, hp2⟩ := laidVars_at h5 hq
    refine ⟨fun i => match i with | 0 => p | i + 1 => pl i, fun i n' d' hi => ?_, fun i j hij hj x hx => ?_⟩
    · cases i with
      | zero =>
        simp only [List.getElem?_cons_zero, Option.some.injEq, Prod.mk.injEq] at hi
        obtain ⟨rfl, rfl⟩ := hi
        exact ⟨g, t, cs, fuel, h1, h2, h3, h4, fun x hx => by simp [hx], fun x hx => by simp at hx ⊢; simp [hx]⟩
      | succ i =>
        obtain ⟨g', t', cs', f', a1, a2, a3, a4, a5, a6⟩ := hp1 i n' d' (by simpa using hi)
        exact ⟨g', t', cs', f', a1, a2, a3, a4, fun x hx => List.mem_append_right _ (a5 x hx), fun x hx => List.mem_append_right _ (a6 x hx)⟩
    · cases j with
      | zero => omega
      | succ j =>
        have hj' : j < r.length := by simpa using hj
        cases i with
        | zero =>
          intro hxj
          have hxq : x ∈ q := by
            obtain ⟨y, hy⟩ : ∃ y, r[j]? = some y := ⟨_, List.getElem?_eq_getElem hj'⟩
            obtain ⟨n', d'⟩ := y
            obtain ⟨_, _, _, _, _, _, _, _, _, a6⟩ := hp1 j n' d' hy
            exact a6 x hxj
          exact (List.nodup_append.1 hn).2.2 x (List.mem_append_right _ hx) x hxq rfl
        | succ i => exact hp2 i j (by omega) hj' x hx

def errNames : List String := ["remit/api.ErrShort", "remit/api.ErrVarint", "remit/api.ErrLimit", "remit/api.ErrOrder", "remit/api.ErrTail", "remit/api.ErrRange", "remit/api.ErrForm", "remit/api.ErrDigits", "remit/api.ErrAmount", "remit/api.ErrOverflow", "remit/api.ErrCurrency", "remit/api.ErrDown", "remit/api.ErrSmall", "remit/api.ErrBlank", "remit/api.ErrCorrupt", "remit/api.ErrWorn", "remit/api.ErrFull", "remit/api.ErrLarge", "remit/api.ErrClosed", "remit/api.ErrAccount", "remit/api.ErrExists", "remit/api.ErrFrozen", "remit/api.ErrFunds", "remit/api.ErrLegs", "remit/api.ErrConflict", "remit/api.ErrId", "remit/api.ErrPayee", "remit/api.ErrRail", "remit/api.ErrBusy", "remit/api.ErrWindow", "remit/api.ErrPhase", "remit/api.ErrToken", "remit/api.ErrTime", "remit/api.ErrUnknown", "remit/api.ErrConfig", "remit/api.ErrCommand", "remit/api.ErrUse"]
/-- a listed error: a pointer to a text -/
def errIn (x : DataW Unit) : Bool := match x with | .iface "*errors.errorString" (.ptr (.agg [.lit (.string _)])) => true | _ => false
/-- the row's list opens with the 37 errors, in their order -/
noncomputable def opens (laid : List (String × DataW Unit)) : Bool := (List.range 37).all fun i => match laid[i]? with
  | some (n, d) => (Tryd.prog.globalNamed n == some (errG (i + 1))) && ((Tryd.prog.globals[errG (i + 1)]?).map (·.type) == some 31) && errIn d
  | none => false
theorem errIn_is {x : DataW Unit} (h : errIn x = true) : ∃ s, x = .iface "*errors.errorString" (.ptr (.agg [.lit (.string s)])) := by
  unfold errIn at h
  split at h
  · exact ⟨_, rfl⟩
  · cases h
theorem rowErr (u : TypeId) (h : Tryd.prog.typeName? 3 u = some "*errors.errorString") : u = 204 :=
  typeName_ptr_named (nm := "errors.errorString") (by rw [show "*" ++ "errors.errorString" = "*errors.errorString" from by decide]; kernel_rfl) (by kernel_rfl) (by decide) u (by rw [show "*" ++ "errors.errorString" = "*errors.errorString" from by decide]; exact h)
theorem cellsErr : Tryd.prog.cellsOf 218 = 1 := by kernel_rfl
theorem cellsStr : Tryd.prog.cellsOf 9 = 1 := by kernel_rfl

set_option maxRecDepth 100000 in
/-- WHAT THE ROW's LIST GIVES: the 37 errors lie in their variables, each its own -/
theorem errs_of_laid {laid : List (String × DataW Unit)} {W : World} (hp : (laid.all fun x => x.2.handleName?.isNone) = true) (ho : opens laid = true) (h : laidMetH Tryd.prog laid W) : ∃ E, ErrsAt W E := by
  rw [MakeChecks.laidMetH_plain _ _ _ hp] at h
  obtain ⟨ps, hL, hnd, hrows⟩ := h
  obtain ⟨pl, h1, h2⟩ := laidVars_at hL hnd
  have hlen : 37 ≤ laid.length := by
    have := List.all_eq_true.1 ho 36 (by simp)
    cases hx : laid[36]? with
    | none => rw [hx] at this; cases this
    | some y => have := (List.getElem?_eq_some_iff.1 hx).1; omega
  have key : ∀ k : Nat, ∃ a : Addr, 1 ≤ k → k ≤ 37 → W.cell? ⟨errG k, 0, none⟩ = some (.iface 204 (.pointer (some a))) ∧ (∃ c t, W.heap[a.block]? = some (.cells c t (0, 0))) ∧ a.spot = none ∧ pl (k - 1) = MemPlace.row a 1 := by
    intro k
    by_cases hk : 1 ≤ k ∧ k ≤ 37
    · have hi := List.all_eq_true.1 ho (k - 1) (by simp; omega)
      cases hx : laid[k - 1]? with
      | none => rw [hx] at hi; cases hi
      | some y =>
        obtain ⟨n, d⟩ := y
        rw [hx] at hi
        simp only [Bool.and_eq_true, beq_iff_eq] at hi
        obtain ⟨⟨e1, e2⟩, e3⟩ := hi
        obtain ⟨text, rfl⟩ := errIn_is e3
        rw [show k - 1 + 1 = k from by omega] at e1 e2
        obtain ⟨g, t, cs, fuel, a1, a2, a3, a4, a5, a6⟩ := h1 _ _ _ hx
        obtain rfl := Option.some.inj (e1.symm.trans a1)
        obtain rfl := Option.some.inj (e2.symm.trans a2)
        obtain ⟨l⟩ := cs
        have ok : ∀ u v, l = [.iface u v] → Value.okWide Tryd.prog W .any 0 u v := fun u v e => by
          subst e
          exact (hrows (errG k) 0 (a5 _ (by simp [MemPlace.row]))).2 u v (by simpa using World.var?_cell a1 a3 0)
        obtain ⟨a, s, rfl, hc0, hs0, hz0, hpl⟩ := errorString_of_trod Tryd.underlying31 rowErr Tryd.underlying204 Tryd.underlying218 rfl rfl Tryd.underlying9 cellsErr cellsStr a4 ok
        have hokv := ok _ _ rfl
        refine ⟨a, fun _ _ => ⟨by simpa using World.var?_cell a1 a3 0, (hrows a.block a.off (a6 _ (by rw [hpl]; simp [MemPlace.row]))).1, ?_, hpl⟩⟩
        unfold Value.okWide at hokv
        simp only [Tryd.underlying204] at hokv
        unfold Cell.okWide at hokv
        simp only [Cell.ok, Tryd.underlying204] at hokv
        exact hokv.2.1
    · exact ⟨⟨0, 0, none⟩, fun h h' => absurd ⟨h, h'⟩ hk⟩
  obtain ⟨E, hE⟩ : ∃ E : Nat → Addr, ∀ k, 1 ≤ k → k ≤ 37 → W.cell? ⟨errG k, 0, none⟩ = some (.iface 204 (.pointer (some (E k)))) ∧ (∃ c t, W.heap[(E k).block]? = some (.cells c t (0, 0))) ∧ (E k).spot = none ∧ pl (k - 1) = MemPlace.row (E k) 1 :=
    ⟨fun k => Classical.choose (key k), fun k => Classical.choose_spec (key k)⟩
  refine ⟨E, fun k h1 h2 => ?_, fun k h1 h2 => (hE k h1 h2).2.1, fun j k hj1 hj2 hk1 hk2 e => ?_⟩
  · have := (hE k h1 h2).1
    unfold ErrAt
    rw [errV_pos _ _ h1]
    exact this
  · have hj := (hE j hj1 hj2).2.2.2
    have hk := (hE k hk1 hk2).2.2.2
    rw [e] at hj
    have hmem : (MemPlace.cell (E k).block (E k).off) ∈ MemPlace.row (E k) 1 := by simp [MemPlace.row]
    rcases Nat.lt_trichotomy (j - 1) (k - 1) with hlt | heq | hlt
    · exact absurd (by rw [hk]; exact hmem) (h2 (j - 1) (k - 1) hlt (by omega) _ (by rw [hj]; exact hmem))
    · omega
    · exact absurd (by rw [hj]; exact hmem) (h2 (k - 1) (j - 1) hlt (by omega) _ (by rw [hk]; exact hmem))

/-- the row's list opens with these errors, in their order -/
noncomputable def opensOn (S : List Nat) (laid : List (String × DataW Unit)) : Bool := (List.range S.length).all fun i => match laid[i]? with
  | some (n, d) => (Tryd.prog.globalNamed n == some (errG (S.getD i 0))) && ((Tryd.prog.globals[errG (S.getD i 0)]?).map (·.type) == some 31) && errIn d
  | none => false
set_option maxRecDepth 100000 in
/-- WHAT THE ROW's LIST GIVES: the listed errors lie in their variables, each its own -/
theorem errs_on_laid (S : List Nat) (hS : ∀ k, k ∈ S → 1 ≤ k) {laid : List (String × DataW Unit)} {W : World} (hp : (laid.all fun x => x.2.handleName?.isNone) = true) (ho : opensOn S laid = true) (h : laidMetH Tryd.prog laid W) : ∃ E, ErrsOn S W E := by
  rw [MakeChecks.laidMetH_plain _ _ _ hp] at h
  obtain ⟨ps, hL, hnd, hrows⟩ := h
  obtain ⟨pl, h1, h2⟩ := laidVars_at hL hnd
  have hin : ∀ k, k ∈ S → ∃ i, i < S.length ∧ S.getD i 0 = k := fun k hk => by
    obtain ⟨i, hi, e⟩ := List.mem_iff_getElem.1 hk
    exact ⟨i, hi, by rw [List.getD, List.getElem?_eq_getElem hi]; exact e⟩
  have hlen : ∀ i, i < S.length → i < laid.length := fun i hi => by
    have := List.all_eq_true.1 ho i (by simpa using hi)
    cases hx : laid[i]? with
    | none => rw [hx] at this; cases this
    | some y => exact (List.getElem?_eq_some_iff.1 hx).1
  have key : ∀ k : Nat, ∃ a : Addr × Nat, k ∈ S → a.2 < S.length ∧ S.getD a.2 0 = k ∧ W.cell? ⟨errG k, 0, none⟩ = some (.iface 204 (.pointer (some a.1))) ∧ (∃ c t, W.heap[a.1.block]? = some (.cells c t (0, 0))) ∧ pl a.2 = MemPlace.row a.1 1 := by
    intro k
    by_cases hk : k ∈ S
    · obtain ⟨i, hiS, rfl⟩ := hin k hk
      have hi := List.all_eq_true.1 ho i (by simpa using hiS)
      cases hx : laid[i]? with
      | none => rw [hx] at hi; cases hi
      | some y =>
        obtain ⟨n, d⟩ := y
        rw [hx] at hi
        simp only [Bool.and_eq_true, beq_iff_eq] at hi
        obtain ⟨⟨e1, e2⟩, e3⟩ := hi
        obtain ⟨text, rfl⟩ := errIn_is e3
        obtain ⟨g, t, cs, fuel, a1, a2, a3, a4, a5, a6⟩ := h1 _ _ _ hx
        obtain rfl := Option.some.inj (e1.symm.trans a1)
        obtain rfl := Option.some.inj (e2.symm.trans a2)
        obtain ⟨l⟩ := cs
        have ok : ∀ u v, l = [.iface u v] → Value.okWide Tryd.prog W .any 0 u v := fun u v e => by
          subst e
          exact (hrows (errG (S.getD i 0)) 0 (a5 _ (by simp [MemPlace.row]))).2 u v (by simpa using World.var?_cell a1 a3 0)
        obtain ⟨a, s, rfl, hc0, hs0, hz0, hpl⟩ := errorString_of_trod Tryd.underlying31 rowErr Tryd.underlying204 Tryd.underlying218 rfl rfl Tryd.underlying9 cellsErr cellsStr a4 ok
        exact ⟨(a, i), fun _ => ⟨hiS, rfl, by simpa using World.var?_cell a1 a3 0, (hrows a.block a.off (a6 _ (by rw [hpl]; simp [MemPlace.row]))).1, hpl⟩⟩
    · exact ⟨(⟨0, 0, none⟩, 0), fun h => absurd h hk⟩
  obtain ⟨F, hE⟩ : ∃ F : Nat → Addr × Nat, ∀ k, k ∈ S → (F k).2 < S.length ∧ S.getD (F k).2 0 = k ∧ W.cell? ⟨errG k, 0, none⟩ = some (.iface 204 (.pointer (some (F k).1))) ∧ (∃ c t, W.heap[(F k).1.block]? = some (.cells c t (0, 0))) ∧ pl (F k).2 = MemPlace.row (F k).1 1 :=
    ⟨fun k => Classical.choose (key k), fun k => Classical.choose_spec (key k)⟩
  refine ⟨fun k => (F k).1, fun k hk => ?_, fun k hk => (hE k hk).2.2.2.1, fun j k hjS hkS e => ?_, hS⟩
  · have := (hE k hk).2.2.1
    unfold ErrAt
    rw [errV_pos _ _ (hS k hk)]
    exact this
  · obtain ⟨j1, j2, _, _, hj⟩ := hE j hjS
    obtain ⟨k1, k2, _, _, hk⟩ := hE k hkS
    have e : (F j).1 = (F k).1 := e
    rw [e] at hj
    have hmem : (MemPlace.cell (F k).1.block (F k).1.off) ∈ MemPlace.row (F k).1 1 := by simp [MemPlace.row]
    rcases Nat.lt_trichotomy (F j).2 (F k).2 with hlt | heq | hlt
    · exact absurd (by rw [hk]; exact hmem) (h2 _ _ hlt (hlen _ k1) _ (by rw [hj]; exact hmem))
    · rw [← j2, ← k2, heq]
    · exact absurd (by rw [hj]; exact hmem) (h2 _ _ hlt (hlen _ j1) _ (by rw [hk]; exact hmem))

theorem lastRow : ((((begin Tryd.prog (fun _ _ => 0) default).world.heap[gB - 1]?).bind Obj.row?).isSome && decide (gB - 1 < Tryd.prog.globals.size)) = true := by kernel_rfl
theorem gB_le {W : World} (h : W.ShapedOpen Tryd.prog) : gB ≤ W.heap.size := by
  have hl := lastRow
  simp only [Bool.and_eq_true, decide_eq_true_eq] at hl
  obtain ⟨h1, h2⟩ := hl
  obtain ⟨⟨z, t⟩, hz⟩ := Option.isSome_iff_exists.1 h1
  obtain ⟨cs, hc, _⟩ := h.1 _ z t h2 hz
  have := (Array.getElem?_eq_some_iff.1 hc).1
  unfold gB at this ⊢
  omega

section
variable {H : Type} {enc : TypeId × Value → H} {P : Program}
theorem post_of_below {f : Func} {s : ChangeSpec} {apart fresh handsOn again : Bool} {W W' : World} {args : Array Value} {v : Value} {ds gs : List (DataW H)} {before pa pv : List MemPlace}
    (hW : DataW.Whole enc P f.params.toList s.vars apart W args.toList ds gs before)
    (hres : ∀ (b : Nat) (sp : Nat → Bool) (hd : Bool), DataW.TrodAll enc P W' b sp hd f.resultTypes.toList (v.resultList f.resultTypes.size) (s.fn H (ds ++ gs)).results [])
    (hargs : ∀ sp : Nat → Bool, (∀ p ∈ before, sp p.block = true) → DataW.TrodAll enc P W' 0 sp true f.params.toList args.toList (s.fn H (ds ++ gs)).args pa)
    (hvars : ∀ sp : Nat → Bool, (∀ p ∈ before, sp p.block = true) → DataW.TrodVars enc P W' sp s.vars (s.fn H (ds ++ gs)).vars pv)
    (hps : before = pa ++ pv) (hb : Below W.heap.size W W')
    (hok : ∀ (j : Nat) (t : TypeId) (r : Value), f.resultTypes[j]? = some t → (v.resultList f.resultTypes.size)[j]? = some r → Value.okWide P W' .any 0 t r) :
    s.post enc P f apart fresh handsOn again W args v W' := by
  have hlt : ∀ p ∈ before, p.block < W.heap.size := fun p hp => hW.lt p hp
  have hold : ∀ p ∈ before, (fun b => decide (b < W.heap.size)) p.block = true := fun p hp => by simpa using hlt p hp
  refine ⟨ds, gs, before, [], pa, pv, hW, hres _ _ _, hargs _ hold, hvars _ hold, World.keptBut_mono (fun p hp => ⟨hp, ?_⟩) (hb.frame (· ∈ before)), fun _ => ?_⟩
  · rw [hps, List.mem_append] at hp
    exact Or.inr hp
  · obtain ⟨_, _, _, _, _, hz, hn⟩ := hW
    refine ⟨hok, _, _, ([] ++ pa) ++ pv, ⟨[] ++ pa, pv, trodAll_append (hargs _ (fun _ _ => rfl)) (hres _ _ _), hvars _ (fun _ _ => rfl), rfl, ?_, ?_⟩, ?_⟩
    · intro b off hp
      have hin : MemPlace.cell b off ∈ before := by rw [hps]; simpa using hp
      rw [hb.frozen (hlt _ hin)]
      exact hz b off hin
    · intro ha
      have := hn ha
      rw [hps] at this
      simpa using this
    · intro p hp _
      rw [hps]
      simpa using hp
/-- all arguments read behind the call as before -/
theorem trodAll_stays (hl : laidOutB P = true) {W W' : World} {sp : Nat → Bool} (hb : Below W.heap.size W W') : ∀ {ts : List TypeId} {vs : List Value} {ds : List (DataW H)} {ps : List MemPlace},
    (ts.all fun t => P.readableRec t && decide (t < P.types.size)) = true → DataW.TrodAll enc P W 0 (fun _ => true) true ts vs ds ps → (∀ x ∈ ps, x.block < W.heap.size) → (∀ x ∈ ps, sp x.block = true) → DataW.TrodAll enc P W' 0 sp true ts vs ds ps
  | [], [], [], _, _, h, _, _ => h
  | t :: ts, v :: vs, d :: ds, ps, hr, h, hlt, hs => by
    obtain ⟨p, q, h1, h2, rfl⟩ := h
    simp only [List.all_cons, Bool.and_eq_true, decide_eq_true_eq] at hr
    exact ⟨p, q, WideElems.Trod_stays hl hr.1.1 hr.1.2 h1 (fun x hx => hb.same (hlt x (List.mem_append_left _ hx))) (fun x hx => hs x (List.mem_append_left _ hx)),
      trodAll_stays hl hb (by simpa using hr.2) h2 (fun x hx => hlt x (List.mem_append_right _ hx)) (fun x hx => hs x (List.mem_append_right _ hx)), rfl⟩
  | [], _ :: _, _, _, _, h, _, _ => h.elim
  | [], [], _ :: _, _, _, h, _, _ => h.elim
  | _ :: _, [], _, _, _, h, _, _ => h.elim
  | _ :: _, _ :: _, [], _, _, h, _, _ => h.elim
/-- THE LAST STEP: the call answered true, and all that lay there before is as it was -/
theorem post_true {f : Func} {s : ChangeSpec} {apart fresh handsOn again : Bool} {W W' : World} {args : Array Value} {ds gs : List (DataW H)} {before : List MemPlace} {tb : TypeId}
    (hl : laidOutB P = true) (htb : P.underlying tb = some .bool) (hrt : f.resultTypes = #[tb]) (hr : (f.params.toList.all fun t => P.readableRec t && decide (t < P.types.size)) = true) (hv : s.vars = [])
    (hW : DataW.Whole enc P f.params.toList s.vars apart W args.toList ds gs before) (hfn : s.fn H (ds ++ gs) = { results := [.lit (.bool true)], args := ds }) (hb : Below W.heap.size W W') :
    s.post enc P f apart fresh handsOn again W args (.bool true) W' := by
  have hlt : ∀ p ∈ before, p.block < W.heap.size := fun p hp => hW.lt p hp
  have hW' := hW
  obtain ⟨p, q, hA, hV, rfl, _, _⟩ := hW
  rw [hv] at hV
  obtain ⟨rfl, rfl⟩ := trodVars_none hV
  refine post_of_below (pa := p) (pv := []) hW' (fun b sp hd => ?_) (fun sp hs => ?_) (fun sp _ => ?_) rfl hb (ok_one hrt rfl (okWide_bool_mk htb _))
  · rw [hfn, hrt]
    exact trodAll_cons_mk (shut_bool htb _) trodAll_mk0
  · rw [hfn]
    exact trodAll_stays hl hb hr hA (fun x hx => hlt x (by simp [hx])) (fun x hx => hs x (by simp [hx]))
  · rw [hfn, hv]
    exact rfl

/-- there is an input that fits: the listed variables laid by the kit's own function -/
theorem witness_laid {C : Checked} {os : Os} {f : FuncId} {fn : Func} {s : OpenSpec} {conds : List PathCond} {apart : Bool} {laid : List (String × DataW Unit)} (modest : Bool) (w0 : World) (args : Array Value) (hos : w0.os = os)
    (hsh : (w0.forCall (fun _ _ => 0) ⟨#[], args, []⟩).Shaped C.prog)
    (hok : Input.okWideB C.prog (w0.forCall (fun _ _ => 0) ⟨#[], args, []⟩) f ⟨#[], args, []⟩ = true)
    (hrow : s.preRow enc C.prog fn conds apart laid (w0.forCall (fun _ _ => 0) ⟨#[], args, []⟩).memory args) :
    ∃ (w : World) (tape : Tape) (i : Input), w.os = os ∧ (w.forCall tape i).Shaped C.prog ∧ i.vars = [] ∧ Input.okWide C.prog (w.forCall tape i) .any w.heap.size f i ∧
      s.preRow enc C.prog fn conds apart laid (w.forCall tape i).memory i.args ∧ ({ modest := modest } : Assume).holds C.prog (lone (Frame.enter C.prog f i.args .normal) [] (w.forCall tape i)) :=
  ⟨w0, fun _ _ => 0, ⟨#[], args, []⟩, hos, hsh, (Input.okWide_of_okWideB (base := 0) hok).1, (Input.okWide_of_okWideB hok).2, hrow, by
    simp only [Assume.holds]
    exact ⟨by simp, by simp, fun _ => Modest.zero, by simp, by simp⟩⟩

/-- what the bound gives -/
theorem one_le (d : DataW H) : 1 ≤ Rows.uptoBulk d := by
  cases d with
  | lit l => cases l <;> simp [Rows.uptoBulk]
  | nil => simp [Rows.uptoBulk]
  | ptr d => simp [Rows.uptoBulk]
  | slice elems spare => simp [Rows.uptoBulk]
  | agg parts => simp [Rows.uptoBulk]
  | iface t d => simp [Rows.uptoBulk]
  | map entries => simp [Rows.uptoBulk]
  | held h => simp [Rows.uptoBulk]
theorem part_le {d : DataW H} {l : List (DataW H)} (h : d ∈ l) : Rows.uptoBulk d ≤ Rows.uptoBulkAll l := by
  induction l with
  | nil => cases h
  | cons x r ih =>
    simp only [Rows.uptoBulkAll]
    cases List.mem_cons.1 h with
    | inl e => subst e; omega
    | inr e => have := ih e; omega
theorem length_le (l : List (DataW H)) : l.length ≤ Rows.uptoBulkAll l := by
  induction l with
  | nil => simp [Rows.uptoBulkAll]
  | cons x r ih => have := one_le x; simp only [Rows.uptoBulkAll, List.length_cons]; omega
theorem slice_le (elems spare : List (DataW H)) : elems.length + 1 ≤ Rows.uptoBulk (.slice elems spare) := by
  have h1 := length_le elems
  simp only [Rows.uptoBulk]
  omega
theorem slice_elems (elems spare : List (DataW H)) : Rows.uptoBulkAll elems + 1 ≤ Rows.uptoBulk (.slice elems spare) := by
  simp only [Rows.uptoBulk]
  omega
theorem agg_parts (ps : List (DataW H)) : Rows.uptoBulkAll ps ≤ Rows.uptoBulk (.agg ps) := by
  simp only [Rows.uptoBulk]
  omega
theorem string_eq (bytes : List UInt8) : Rows.uptoBulk (DataW.lit (H := H) (.string bytes)) = bytes.length + 1 := by
  simp [Rows.uptoBulk]
theorem upto_bound {l : List (DataW H)} (hk : Rows.uptoSmall H l = true) : Rows.uptoBulkAll l ≤ 1048576 := of_decide_eq_true hk
end
end Go.Proofs.YteklldbfdmaafaaDoor
/-
  The arguments of the laws of chapter 6, opened: a fate, a script; with what the bound gives of their sizes.
-/
namespace Go.Proofs.YteklldbfdmaafaaDoor
open Go Go.RowKit Go.ChangeShapes Go.WideShapes Go.Deep

section
variable {H : Type} {enc : TypeId × Value → H} {W : World} {base : Nat} {held : Bool}
theorem cell_spot {a : Addr} {v : Value} (h : W.cell? a = some v) : a.spot = none ∧ a.block < W.heap.size := by
  unfold World.cell? at h
  split at h
  · rename_i c t fr hh
    refine ⟨?_, (Array.getElem?_eq_some_iff.1 hh).1⟩
    split at h
    · cases h
    · rename_i hs
      cases hq : a.spot with
      | none => rfl
      | some _ => rw [hq] at hs; simp at hs
  · cases h
theorem spot_add {a : Addr} {i : Nat} (hi : i = 0) {v : Value} (h : W.cell? (a.add i) = some v) : a.spot = none ∧ a.block < W.heap.size := by
  subst hi
  have h1 := cell_spot h
  simpa [Addr.add] using h1
instance : Inhabited POp := ⟨⟨0, 0, [], 0, [], 0, 0⟩⟩
theorem add_is {a : Addr} (h : a.spot = none) (i : Nat) : a.add i = ⟨a.block, a.off + i, none⟩ := by
  cases a; simp at h; subst h
  unfold Addr.add
  simp
theorem addr_is {a : Addr} (h : a.spot = none) : a = ⟨a.block, a.off, none⟩ := by
  cases a; simp at h; subst h; rfl
theorem cellsBool : Tryd.prog.cellsOf 4 = 1 := by kernel_rfl
theorem cellsFate : Tryd.prog.cellsOf 25 = 3 := by kernel_rfl
theorem cellsInt : Tryd.prog.cellsOf 3 = 1 := by kernel_rfl
theorem cellsU8 : Tryd.prog.cellsOf 5 = 1 := by kernel_rfl
theorem cellsBools : Tryd.prog.cellsOf 23 = 1 := by kernel_rfl
theorem cellsOp06 : Tryd.prog.cellsOf 43 = 7 := by kernel_rfl

/-- a slice of bools -/
theorem bools_of {n : Nat} {cs : List Value} {x : DataW H × List MemPlace} (h : DataW.trod enc Tryd.prog W base (fun _ => true) held n 23 cs = some x) :
    ∃ kv l, cs = [kv] ∧ BoolsAt W kv l ∧ l.length ≤ Rows.uptoBulk x.1 := by
  rcases open_bools Tryd.underlying23 Tryd.underlying4 cellsBool h with ⟨rfl, rfl⟩ | ⟨a, len, cap, B, rfl, _, hl, hm, rfl, hB⟩
  · exact ⟨_, [], rfl, ⟨none, 0, rfl, fun h => absurd rfl h, fun _ => rfl, by simp, by unfold maxLen; omega⟩, by simp⟩
  · refine ⟨_, (List.range len).map B, rfl, ⟨some a, cap, by simp, fun hne => ?_, fun h => (by cases h), by simpa using hl, hm⟩, ?_⟩
    · have h0 : 0 < len := by
        rcases Nat.eq_zero_or_pos len with h | h
        · subst h; simp at hne
        · exact h
      have hc := hB 0 (by omega)
      obtain ⟨hs, hb⟩ := spot_add rfl hc
      refine ⟨a.block, a.off, by rw [← addr_is hs], hb, fun j v hj => ?_⟩
      simp only [List.map_map, List.getElem?_map, Option.map_eq_some_iff] at hj
      obtain ⟨i, hi, rfl⟩ := hj
      have hij : i = j ∧ j < len := by
        rw [List.getElem?_eq_some_iff] at hi
        obtain ⟨h1, h2⟩ := hi
        simp at h1 h2
        exact ⟨h2.symm, h1⟩
      obtain ⟨rfl, hij⟩ := hij
      have := hB i (by omega)
      rw [add_is hs] at this
      exact this
    · have := slice_le (H := H) ((List.range len).map fun i => .lit (.bool (B i))) ((List.range (cap - len)).map fun j => .lit (.bool (B (len + j))))
      simp only [boolRow]
      simp only [List.length_map, List.length_range] at this ⊢
      omega

theorem field_of {P : Program} {fs : Array Field} {m : Nat} {cs : List Value} {xs : List (DataW H × List MemPlace)}
    (hf : ∀ (i : Nat) (f : Field), fs[i]? = some f → DataW.trod enc P W base (fun _ => true) held m f.type ((cs.drop f.offset).take (P.cellsOf f.type)) = xs[i]?)
    (i : Nat) {nm : String} {t o : Nat} {em : Bool} {tg pk : String} {bo : Nat} (h : fs[i]? = some ⟨nm, t, o, em, tg, pk, bo⟩) {k : Nat} (hk : P.cellsOf t = k) :
    DataW.trod enc P W base (fun _ => true) held m t ((cs.drop o).take k) = xs[i]? := by
  subst hk
  exact hf i _ h
set_option maxRecDepth 100000 in
/-- a fate's three cells -/
theorem fate_cells {n : Nat} {cs : List Value} {x : DataW H × List MemPlace} (h : DataW.trod enc Tryd.prog W base (fun _ => true) held n 25 cs = some x) :
    ∃ kv kept torn bytes, cs = [kv, .int .i64 torn, .int .i64 bytes] ∧ BoolsAt W kv kept ∧ kept.length ≤ Rows.uptoBulk x.1 ∧ (Lit.int .i64 torn).wf = true ∧ (Lit.int .i64 bytes).wf = true := by
  obtain ⟨xs, m, _, rfl, hl, hxl, hf⟩ := DataW.trod_struct Tryd.underlying25 h
  rw [cellsFate] at hl
  match cs, hl with
  | [c0, c1, c2], _ =>
    match xs, hxl with
    | [y0, y1, y2], _ =>
      have h0 : DataW.trod enc Tryd.prog W base (fun _ => true) held m 23 [c0] = some y0 := field_of hf 0 rfl cellsBools
      have h1 : DataW.trod enc Tryd.prog W base (fun _ => true) held m 3 [c1] = some y1 := field_of hf 1 rfl cellsInt
      have h2 : DataW.trod enc Tryd.prog W base (fun _ => true) held m 3 [c2] = some y2 := field_of hf 2 rfl cellsInt
      obtain ⟨kv, l, e0, hb, hbl⟩ := bools_of h0
      obtain ⟨n1, e1, _, w1⟩ := DataW.trod_int Tryd.underlying3 h1
      obtain ⟨n2, e2, _, w2⟩ := DataW.trod_int Tryd.underlying3 h2
      simp only [List.cons.injEq, and_true] at e0 e1 e2
      subst e0; subst e1; subst e2
      refine ⟨_, l, n1, n2, rfl, hb, ?_, w1, w2⟩
      have a1 := agg_parts (H := H) ([y0, y1, y2].map (·.1))
      have a2 := part_le (H := H) (d := y0.1) (l := [y0, y1, y2].map (·.1)) (by simp)
      show l.length ≤ Rows.uptoBulk (.agg ([y0, y1, y2].map (·.1)))
      omega
set_option maxRecDepth 100000 in
/-- a fate that is a parameter -/
theorem fate_of {r : Reach} {b0 : Nat} {v : Value} {d : DataW H} {p : List MemPlace} (hv : Value.okWide Tryd.prog W r b0 25 v) (h : DataW.Trod enc Tryd.prog W base (fun _ => true) held 25 v d p) :
    ∃ kv kept torn bytes, v = .agg #[kv, .int .i64 torn, .int .i64 bytes] ∧ BoolsAt W kv kept ∧ kept.length ≤ Rows.uptoBulk d ∧ (Lit.int .i64 torn).wf = true ∧ (Lit.int .i64 bytes).wf = true := by
  obtain ⟨cs, rfl, hsz⟩ := okWide_struct Tryd.underlying25 hv
  obtain ⟨fuel, hf⟩ := h
  obtain ⟨kv, kept, torn, bytes, e, h1, h2, h3, h4⟩ := fate_cells hf
  obtain ⟨l⟩ := cs
  have e' : l = [kv, .int .i64 torn, .int .i64 bytes] := e
  subst e'
  exact ⟨kv, kept, torn, bytes, rfl, h1, h2, h3, h4⟩
set_option maxRecDepth 100000 in
/-- a call's seven cells -/
theorem op06_cells {n : Nat} {cs : List Value} {x : DataW H × List MemPlace} (h : DataW.trod enc Tryd.prog W base (fun _ => true) held n 43 cs = some x) :
    ∃ (op : POp) (kv : Value), cs = op.cells kv ∧ BoolsAt W kv op.kept ∧ op.kept.length ≤ Rows.uptoBulk x.1 ∧ op.s.length ≤ Rows.uptoBulk x.1 ∧ (Lit.int .i64 op.kind).wf = true ∧ (Lit.int .i64 op.i).wf = true ∧ (Lit.int .i64 op.torn).wf = true ∧ (Lit.int .i64 op.bytes).wf = true := by
  obtain ⟨xs, m, _, rfl, hl, hxl, hf⟩ := DataW.trod_struct Tryd.underlying43 h
  rw [cellsOp06] at hl
  match cs, hl with
  | [c0, c1, c2, c3, c4, c5, c6], _ =>
    match xs, hxl with
    | [y0, y1, y2, y3, y4], _ =>
      have h0 : DataW.trod enc Tryd.prog W base (fun _ => true) held m 3 [c0] = some y0 := field_of hf 0 rfl cellsInt
      have h1 : DataW.trod enc Tryd.prog W base (fun _ => true) held m 3 [c1] = some y1 := field_of hf 1 rfl cellsInt
      have h2 : DataW.trod enc Tryd.prog W base (fun _ => true) held m 9 [c2] = some y2 := field_of hf 2 rfl cellsStr
      have h3 : DataW.trod enc Tryd.prog W base (fun _ => true) held m 5 [c3] = some y3 := field_of hf 3 rfl cellsU8
      have h4 : DataW.trod enc Tryd.prog W base (fun _ => true) held m 25 [c4, c5, c6] = some y4 := field_of hf 4 rfl cellsFate
      obtain ⟨n0, e0, _, w0⟩ := DataW.trod_int Tryd.underlying3 h0
      obtain ⟨n1, e1, _, w1⟩ := DataW.trod_int Tryd.underlying3 h1
      obtain ⟨s, e2, q2, _⟩ := DataW.trod_string Tryd.underlying9 h2
      obtain ⟨n3, e3, _, w3⟩ := DataW.trod_int Tryd.underlying5 h3
      obtain ⟨kv, kept, torn, bytes, e4, hb, hbl, w4, w5⟩ := fate_cells h4
      simp only [List.cons.injEq, and_true] at e0 e1 e2 e3 e4
      obtain ⟨rfl, rfl, rfl⟩ := e4
      subst e0; subst e1; subst e2; subst e3
      have hb3 := bounds_u8 w3
      have a1 := agg_parts (H := H) ([y0, y1, y2, y3, y4].map (·.1))
      have a2 := part_le (H := H) (d := y4.1) (l := [y0, y1, y2, y3, y4].map (·.1)) (by simp)
      have a3 := part_le (H := H) (d := y2.1) (l := [y0, y1, y2, y3, y4].map (·.1)) (by simp)
      have a4 : Rows.uptoBulk y2.1 = s.data.toList.length + 1 := by rw [q2]; exact string_eq _
      have hfill : ((UInt8.ofNat n3.toNat).toNat : Int) = n3 := by
        rw [UInt8.toNat_ofNat']
        omega
      refine ⟨⟨n0, n1, s.data.toList, UInt8.ofNat n3.toNat, kept, torn, bytes⟩, _, ?_, hb, ?_, ?_, w0, w1, w4, w5⟩
      · simp only [POp.cells, hfill]
      · show kept.length ≤ Rows.uptoBulk (.agg ([y0, y1, y2, y3, y4].map (·.1)))
        omega
      · show s.data.toList.length ≤ Rows.uptoBulk (.agg ([y0, y1, y2, y3, y4].map (·.1)))
        omega
set_option maxRecDepth 100000 in
/-- a script -/
theorem script_of {r : Reach} {b0 : Nat} {v : Value} {d : DataW H} {p : List MemPlace} (hv : Value.okWide Tryd.prog W r b0 22 v) (h : DataW.Trod enc Tryd.prog W base (fun _ => true) held 22 v d p) :
    ∃ ops : List POp, ScriptAt W v ops ∧ ops.length ≤ Rows.uptoBulk d ∧ (∀ o ∈ ops, o.kept.length ≤ Rows.uptoBulk d ∧ o.s.length ≤ Rows.uptoBulk d ∧ (Lit.int .i64 o.kind).wf = true ∧ (Lit.int .i64 o.i).wf = true ∧ (Lit.int .i64 o.torn).wf = true ∧ (Lit.int .i64 o.bytes).wf = true) := by
  obtain ⟨a', len', cap', rfl⟩ := okWide_slice Tryd.underlying22 hv
  obtain ⟨fuel, hf⟩ := h
  rcases open_slice Tryd.underlying22 hf with ⟨e, hx⟩ | ⟨a, len, cap, m, n, D, Pl, e, _, hl, hm, hmm, hx, hi⟩
  · have e' : [Value.slice a' len' cap'] = [.slice none 0 0] := e
    simp only [List.cons.injEq, Value.slice.injEq, and_true] at e'
    obtain ⟨rfl, rfl, rfl⟩ := e'
    exact ⟨[], ⟨none, 0, rfl, fun h => absurd rfl h⟩, by simp, fun o ho => by cases ho⟩
  · have e' : [Value.slice a' len' cap'] = [.slice (some a) len cap] := e
    simp only [List.cons.injEq, Value.slice.injEq, and_true] at e'
    obtain ⟨rfl, rfl, rfl⟩ := e'
    simp only [if_true] at hmm
    have hmm' := hmm.symm
    subst hmm'
    simp only [Prod.mk.injEq] at hx
    obtain ⟨rfl, -⟩ := hx
    obtain ⟨f, hfo⟩ := choose_lt (α := POp) (n := len') (p := fun i op => ∃ kv, (∀ j v, (op.cells kv)[j]? = some v → W.cell? (a.add (i * 7 + j)) = some v) ∧ BoolsAt W kv op.kept ∧ op.kept.length ≤ Rows.uptoBulk (D i) ∧ op.s.length ≤ Rows.uptoBulk (D i) ∧ (Lit.int .i64 op.kind).wf = true ∧ (Lit.int .i64 op.i).wf = true ∧ (Lit.int .i64 op.torn).wf = true ∧ (Lit.int .i64 op.bytes).wf = true) (fun i hil => by
      obtain ⟨cs', hc, ht⟩ := hi i (by omega)
      rw [cellsOp06] at hc
      obtain ⟨_, hcl, hat⟩ := World.cells?_some hc
      obtain ⟨op, kv, rfl, h1, h2, h3, h4⟩ := op06_cells ht
      refine ⟨op, kv, fun j v hj => ?_, h1, h2, h3, h4⟩
      have hjl : j < 7 := by
        have := (List.getElem?_eq_some_iff.1 hj).1
        simpa [POp.cells] using this
      rw [← Go.Deep.add_add, hat j hjl, hj])
    have hbulk : ∀ i, i < len' → Rows.uptoBulk (D i) ≤ Rows.uptoBulk (DataW.slice ((List.range len').map D) ((List.range (cap' - len')).map fun j => D (len' + j))) := fun i hil => by
      have h1 := part_le (H := H) (d := D i) (l := (List.range len').map D) (List.mem_map.2 ⟨i, List.mem_range.2 hil, rfl⟩)
      have h2 := slice_elems (H := H) ((List.range len').map D) ((List.range (cap' - len')).map fun j => D (len' + j))
      omega
    refine ⟨(List.range len').map f, ⟨some a, cap', by simp, fun hne => ?_⟩, ?_, fun o ho => ?_⟩
    · have h0 : 0 < len' := by
        rcases Nat.eq_zero_or_pos len' with h | h
        · subst h; simp at hne
        · exact h
      obtain ⟨kv0, hc0, _⟩ := hfo 0 h0
      obtain ⟨hs, hb⟩ := spot_add rfl (hc0 0 _ rfl)
      have ha : a = ⟨a.block, a.off, none⟩ := addr_is hs
      refine ⟨a.block, a.off, by rw [← ha], hb, fun k op hop => ?_⟩
      simp only [List.getElem?_map, Option.map_eq_some_iff] at hop
      obtain ⟨i, hi', rfl⟩ := hop
      have hij : i = k ∧ k < len' := by
        rw [List.getElem?_eq_some_iff] at hi'
        obtain ⟨h1, h2⟩ := hi'
        simp at h1 h2
        exact ⟨h2.symm, h1⟩
      obtain ⟨rfl, hij⟩ := hij
      obtain ⟨kv, hc, hB, _⟩ := hfo i hij
      refine ⟨kv, fun j v hj => ?_, hB⟩
      have := hc j v hj
      rw [add_is hs] at this
      rw [show a.off + 7 * i + j = a.off + (i * 7 + j) from by omega]
      exact this
    · have := slice_le (H := H) ((List.range len').map D) ((List.range (cap' - len')).map fun j => D (len' + j))
      simp only [List.length_map, List.length_range] at this ⊢
      omega
    · obtain ⟨i, hir, rfl⟩ := List.mem_map.1 ho
      have hil := List.mem_range.1 hir
      obtain ⟨kv, _, _, h1, h2, h3⟩ := hfo i hil
      have := hbulk i hil
      exact ⟨by omega, by omega, h3⟩
end
end Go.Proofs.YteklldbfdmaafaaDoor
/-
  The closed facts of the whole program that every row of this seat asks, each asked once.
-/
namespace Go.Proofs.YteklldbfdmaafaaDoor
open Go Go.RowKit
theorem band {a b : Bool} (h : a = true) (k : b = true) : (a && b) = true := by rw [h, k]; rfl
theorem mapsRowedF : mapsRowed Tryd.prog = true := by kernel_rfl
theorem stopsF : (Tryd.prog.stops == []) = true := by kernel_rfl
theorem stopKnobsF : (Tryd.prog.stopKnobs == []) = true := by kernel_rfl
theorem plainKeysF : (Rows.diskFlushesUptoRow.plainKeys == Tryd.prog.plainKeys) = true := by kernel_rfl
theorem stopsHeardF : Tryd.prog.stopsHeard = true := by kernel_rfl
theorem mayEnterF : Tryd.prog.mayEnter = true := by kernel_rfl
theorem liftsF : (Rows.diskFlushesUptoRow.lifted == Tryd.prog.liftsFinal) = true := by kernel_rfl
theorem makeF : (Tryd.prog.make == some Rows.diskFlushesUptoRow.make) = true := by kernel_rfl
end Go.Proofs.YteklldbfdmaafaaDoor
/-
  What a crash may make of a sector, as plain data.
-/
namespace Go.Proofs.YteklldbfdmaafaaDoor
open Go Go.RowKit

/-- what was written of sector i -/
def ofSec (u : List (Nat × List UInt8)) (i : Nat) : List (List UInt8) := (u.filter (fun x => x.1 == i)).map (·.2)
theorem ofSec_snoc (u : List (Nat × List UInt8)) (j : Nat) (b : List UInt8) (i : Nat) : ofSec (u ++ [(j, b)]) i = if j = i then ofSec u i ++ [b] else ofSec u i := by
  unfold ofSec
  rw [List.filter_append, List.map_append]
  by_cases h : j = i
  · subst h; simp
  · have : (j == i) = false := by simpa using h
    simp [this, h]
def secAt (img : List UInt8) (i : Nat) : List UInt8 := cut img (i * 256) 256
theorem secAt_lay {img b : List UInt8} {n i j : Nat} (hl : img.length = 256 * n) (hi : i < n) (hj : j < n) (hb : b.length ≤ 256) :
    secAt (lay img (j * 256) b) i = if j = i then b ++ (secAt img i).drop b.length else secAt img i := by
  unfold secAt
  split
  · rename_i h
    subst h
    unfold cut lay
    rw [List.drop_left' (by simp; omega), List.take_append, List.take_of_length_le (by omega), List.drop_take, List.drop_drop]
  · rename_i h
    rcases Nat.lt_or_ge i j with hlt | hge
    · exact cut_lay_before _ _ _ _ _ (by omega) (by omega)
    · exact cut_lay_behind _ _ _ _ _ (by omega) (by omega)
theorem done_cases (kept : List Bool) (torn bytes : Int) (k : Nat) (h : (k : Int) ≠ torn) : done kept torn bytes k = 0 ∨ done kept torn bytes k = 256 := by
  unfold done
  rw [if_neg h]
  split
  · exact .inr rfl
  · exact .inl rfl
theorem done_le (kept : List Bool) (torn bytes : Int) (k : Nat) : done kept torn bytes k ≤ 256 := by
  unfold done
  split
  · omega
  · split <;> omega
/-- one sector behind a crash -/
theorem fate_sec (img : List UInt8) (n : Nat) (hl : img.length = 256 * n) (kept : List Bool) (torn bytes : Int) (i : Nat) (hi : i < n) (u : List (Nat × List UInt8)) :
    (∀ x ∈ u, x.1 < n ∧ x.2.length = 256) → (secAt (layDone img kept torn bytes u) i = secAt img i ∨ secAt (layDone img kept torn bytes u) i ∈ ofSec u i ∨ ∃ (k : Nat) (b : List UInt8), (k : Int) = torn ∧ u[k]? = some (i, b)) := by
  refine last_snoc_induction (P := fun u => (∀ x ∈ u, x.1 < n ∧ x.2.length = 256) → (secAt (layDone img kept torn bytes u) i = secAt img i ∨ secAt (layDone img kept torn bytes u) i ∈ ofSec u i ∨ ∃ (k : Nat) (b : List UInt8), (k : Int) = torn ∧ u[k]? = some (i, b))) ?_ ?_ u
  · intro _; exact .inl rfl
  · intro u x ih hu
    obtain ⟨j, b⟩ := x
    have hx := hu (j, b) (by simp)
    have hu' : ∀ x ∈ u, x.1 < n ∧ x.2.length = 256 := fun x hx => hu x (by simp [hx])
    have ih := ih hu'
    have hll := layDone_length kept torn bytes u img n hl hu'
    have hd := done_le kept torn bytes u.length
    rw [layDone_snoc, ofSec_snoc]
    dsimp only at hx ⊢
    rw [secAt_lay hll hi hx.1 (by rw [List.length_take]; omega)]
    have old : (∃ (k : Nat) (b : List UInt8), (k : Int) = torn ∧ u[k]? = some (i, b)) → ∃ (k : Nat) (b' : List UInt8), (k : Int) = torn ∧ (u ++ [(j, b)])[k]? = some (i, b') := by
      rintro ⟨k, b', h1, h2⟩
      exact ⟨k, b', h1, by rw [List.getElem?_append_left (List.getElem?_eq_some_iff.1 h2).1]; exact h2⟩
    by_cases hji : j = i
    · subst hji
      rw [if_pos rfl, if_pos rfl]
      by_cases hk : (u.length : Int) = torn
      · exact .inr (.inr ⟨u.length, b, hk, by simp⟩)
      · rcases done_cases kept torn bytes u.length hk with h0 | h0
        · rw [h0]
          simp only [List.take_zero, List.length_nil, List.drop_zero, List.nil_append]
          rcases ih with h | h | h
          · exact .inl h
          · exact .inr (.inl (List.mem_append_left _ h))
          · exact .inr (.inr (old h))
        · rw [h0, List.take_of_length_le (by omega), List.drop_of_length_le (by rw [secAt, cut_length _ _ _ (by omega)]; omega), List.append_nil]
          exact .inr (.inl (by simp))
    · rw [if_neg hji, if_neg hji]
      rcases ih with h | h | h
      · exact .inl h
      · exact .inr (.inl h)
      · exact .inr (.inr (old h))
theorem fate_none (img : List UInt8) (n : Nat) (hl : img.length = 256 * n) (kept : List Bool) (torn bytes : Int) (i : Nat) (hi : i < n) (u : List (Nat × List UInt8)) (hu : ∀ x ∈ u, x.1 < n ∧ x.2.length = 256) (h : ofSec u i = []) :
    secAt (layDone img kept torn bytes u) i = secAt img i := by
  rcases fate_sec img n hl kept torn bytes i hi u hu with h1 | h1 | ⟨k, b, _, h1⟩
  · exact h1
  · rw [h] at h1; cases h1
  · have : b ∈ ofSec u i := by
      unfold ofSec
      rw [List.mem_map]
      exact ⟨(i, b), by rw [List.mem_filter]; exact ⟨List.mem_of_getElem? h1, by simp⟩, rfl⟩
    rw [h] at this; cases this
/-- the sectors ahead of i that are neither as they were nor as one of their writes -/
def tornN (img now : List UInt8) (u : List (Nat × List UInt8)) : Nat → Nat
  | 0 => 0
  | i + 1 => tornN img now u i + (if secAt now i = secAt img i ∨ secAt now i ∈ ofSec u i then 0 else 1)
theorem tornN_le (img : List UInt8) (n : Nat) (hl : img.length = 256 * n) (kept : List Bool) (torn bytes : Int) (u : List (Nat × List UInt8)) (hu : ∀ x ∈ u, x.1 < n ∧ x.2.length = 256) :
    ∀ i, i ≤ n → tornN img (layDone img kept torn bytes u) u i ≤ 1 ∧ ((∀ (k j : Nat) (b : List UInt8), (k : Int) = torn → u[k]? = some (j, b) → i ≤ j) → tornN img (layDone img kept torn bytes u) u i = 0) := by
  intro i
  induction i with
  | zero => intro _; exact ⟨by simp [tornN], fun _ => rfl⟩
  | succ i ih =>
    intro hi
    obtain ⟨h1, h2⟩ := ih (by omega)
    have hf := fate_sec img n hl kept torn bytes i (by omega) u hu
    unfold tornN
    by_cases hw : secAt (layDone img kept torn bytes u) i = secAt img i ∨ secAt (layDone img kept torn bytes u) i ∈ ofSec u i
    · rw [if_pos hw]
      exact ⟨by omega, fun h => by rw [h2 (fun k j b hk hj => by have := h k j b hk hj; omega)]⟩
    · rw [if_neg hw]
      rcases hf with h | h | ⟨k, b, hk, hkb⟩
      · exact absurd (.inl h) hw
      · exact absurd (.inr h) hw
      · have h0 := h2 (fun k' j b' hk' hj => by
          have : k' = k := by omega
          subst this
          rw [hkb] at hj
          simp only [Option.some.injEq, Prod.mk.injEq] at hj
          omega)
        exact ⟨by omega, fun h => by have := h k i b hk hkb; omega⟩
end Go.Proofs.YteklldbfdmaafaaDoor
/-
  The law's fixed facts (chapter 6): a program that does nothing answers them wrongly; this one answers true.
-/
namespace Go.Proofs.YteklldbfdmaafaaDoor
open Go Go.RowKit
def LvA : List UInt8 := secOf [] 97
def Lv0 : Dsk := Dsk.blank 2
def Lv1 : Dsk := Lv0.writeD 1 LvA
def Lv2 : Dsk := Lv1.arm 0
def Lv3 : Dsk := Lv2.flushD
def Lv4 : Dsk := Lv3.crash [] 0 3
def LvS : List UInt8 := Lv4.readS 1
theorem LvA_len : LvA.length = 256 := by decide +kernel
theorem Lv0_w : Lv0.writeE 1 LvA = 0 := by decide +kernel
theorem Lv1_u : Lv1.und.length = 1 := by decide +kernel
theorem Lv2_u : Lv2.und.length = 1 := by decide +kernel
theorem Lv3_u : Lv3.und.length = 1 := by decide +kernel
theorem Lv2_f : Lv2.flushE = 12 := by decide +kernel
theorem Lv3_o : Lv3.off = true := by decide +kernel
theorem Lv4_r : Lv4.readE 1 = 0 := by decide +kernel
theorem Lv4_o : Lv4.off = false := by decide +kernel
theorem Lv4_l : Lv4.life = 1 := by decide +kernel
theorem LvS_len : LvS.length = 256 := by decide +kernel
theorem LvS_eq : LvS.take (Int.toNat 4) = LvA.take (Int.toNat 3) ++ [0] := by decide +kernel
theorem Lv4_i : Lv4.img = List.replicate 256 0 ++ LvS := by decide +kernel
set_option maxRecDepth 100000 in
theorem lives06_ct {W : World} {E : Nat → Addr} (hE : ErrsAt W E) (hg : gB ≤ W.heap.size) : Ct Tryd.prog W 22 [] [] (fun _ : Unit => .bool true) (fun _ => []) := by
  have c1 : Ct Tryd.prog W 33 [.int .i64 2] [] (fun p : Nat => .tuple #[.pointer (some ⟨p, 0, none⟩), .nilIface]) (fun p => [DiskP p Lv0]) := new_ct 2 (by omega) (by omega) hg
  have c2 : ∀ p, Ct Tryd.prog W 40 [.pointer (some ⟨p, 0, none⟩)] [DiskP p Lv0] (fun _ : Unit => .int .i64 2) (fun _ => [DiskP p Lv0]) := fun p => size_ct.val fun _ => rfl
  have c3 : Ct Tryd.prog W 31 [.agg #[.int .i64 0, .int .i64 0, strV [], .int .u8 97, .slice none 0 0, .int .i64 0, .int .i64 0]] [] (fun _ : Unit => strV LvA) (fun _ => []) := sector_ct _ _ _ _ _ [] 97
  have c4 : ∀ p, Ct Tryd.prog W 32 [.pointer (some ⟨p, 0, none⟩), .int .i64 1, strV LvA] [DiskP p Lv0] (fun _ : Unit => errV E 0) (fun _ => [DiskP p Lv1]) := fun p => (write_ct hE.on 1 LvA (by decide)).val fun _ => by rw [Lv0_w]
  have c5 : ∀ p, Ct Tryd.prog W 25 [.pointer (some ⟨p, 0, none⟩)] [DiskP p Lv1] (fun _ : Unit => .int .i64 1) (fun _ => [DiskP p Lv1]) := fun p => pending_ct.val fun _ => by rw [Lv1_u]; rfl
  have c6 : ∀ p, Ct Tryd.prog W 37 [.pointer (some ⟨p, 0, none⟩), .int .i64 0] [DiskP p Lv1] (fun _ : Unit => .tuple #[]) (fun _ => [DiskP p Lv2]) := fun p => arm_ct 0 (by omega)
  have c7 : ∀ p, Ct Tryd.prog W 24 [.pointer (some ⟨p, 0, none⟩)] [DiskP p Lv2] (fun _ : Unit => errV E 12) (fun _ => [DiskP p Lv3]) := fun p => (flush_ct hE.on (by rw [Lv2_u]; omega)).val fun _ => by rw [Lv2_f]
  have c8 : Ct Tryd.prog W 35 [errV E 12] [] (fun _ : Unit => .int .i64 12) (fun _ => []) := num_ct hE hg 12 (by omega)
  have c9 : ∀ p, Ct Tryd.prog W 30 [.pointer (some ⟨p, 0, none⟩)] [DiskP p Lv3] (fun _ : Unit => .bool true) (fun _ => [DiskP p Lv3]) := fun p => off_ct.val fun _ => by rw [Lv3_o]
  have c10 : ∀ p, Ct Tryd.prog W 29 [.pointer (some ⟨p, 0, none⟩), .agg #[.slice none 0 0, .int .i64 0, .int .i64 3]] [DiskP p Lv3] (fun _ : Unit => .tuple #[]) (fun _ => [DiskP p Lv4]) := fun p =>
    crash_gen [] (.slice none 0 0) [] 0 3 (fun w h _ _ _ => ⟨⟨none, 0, rfl, fun h => absurd rfl h, fun _ => rfl, by simp, by unfold maxLen; omega⟩, fun _ g hg => by simp [Value.ownBlock] at hg⟩) (by rw [Lv3_u]; omega)
  have c11 : ∀ p, Ct Tryd.prog W 26 [.pointer (some ⟨p, 0, none⟩), .int .i64 1] [DiskP p Lv4] (fun _ : Unit => .tuple #[strV LvS, errV E 0]) (fun _ => [DiskP p Lv4]) := fun p => (read_ct hE.on 1).val fun _ => by rw [Lv4_r]; rfl
  have c12 : ∀ p, Ct Tryd.prog W 30 [.pointer (some ⟨p, 0, none⟩)] [DiskP p Lv4] (fun _ : Unit => .bool false) (fun _ => [DiskP p Lv4]) := fun p => off_ct.val fun _ => by rw [Lv4_o]
  have c13 : ∀ p, Ct Tryd.prog W 41 [.pointer (some ⟨p, 0, none⟩)] [DiskP p Lv4] (fun _ : Unit => .int .i64 1) (fun _ => [DiskP p Lv4]) := fun p => life_ct.val fun _ => by rw [Lv4_l]
  have c14 : ∀ p, Ct Tryd.prog W 27 [.pointer (some ⟨p, 0, none⟩)] [DiskP p Lv4] (fun _ : Unit => strV (List.replicate 256 0 ++ LvS)) (fun _ => [DiskP p Lv4]) := fun p => image_ct.val fun _ => by rw [Lv4_i]
  have hl1 := LvA_len
  have hl2 := LvS_len
  refine Ct.enter Tryd.func22 rfl Tryd.ntmps22 (by simp) (fun R => ?_)
  repeat' (first 
    | (refine is_list ?_; first | (refine KJ_plain ?_) | (refine KJ_nil ?_) | (refine KJ_guard_dec_t rfl rfl rfl (fun _ => ?_) (fun _ => ?_) <;> first | (exfalso; omega) | skip) | (refine KJ_guard_dec_f rfl rfl rfl (fun _ => ?_) (fun _ => ?_) <;> first | (exfalso; omega) | skip) | (refine KJ_guard_yes rfl rfl ?_) | (refine KJ_guard_no rfl rfl rfl rfl ?_))
    | (refine is_oper ?_; first | (refine is_call ?_; first | (refine KJ_call (by (repeat' (first | exact Evs.nil | refine Evs.cons rfl ?_)); first | done | fail) (c14 _) (by (repeat' (first | exact Pick.nil | apply Pick.cons | exact Sel.here | apply Sel.there)); first | done | fail) rfl (fun _ => ?_)) | (refine KJ_call (by (repeat' (first | exact Evs.nil | refine Evs.cons rfl ?_)); first | done | fail) (c13 _) (by (repeat' (first | exact Pick.nil | apply Pick.cons | exact Sel.here | apply Sel.there)); first | done | fail) rfl (fun _ => ?_)) | (refine KJ_call (by (repeat' (first | exact Evs.nil | refine Evs.cons rfl ?_)); first | done | fail) (c12 _) (by (repeat' (first | exact Pick.nil | apply Pick.cons | exact Sel.here | apply Sel.there)); first | done | fail) rfl (fun _ => ?_)) | (refine KJ_call (by (repeat' (first | exact Evs.nil | refine Evs.cons rfl ?_)); first | done | fail) (c11 _) (by (repeat' (first | exact Pick.nil | apply Pick.cons | exact Sel.here | apply Sel.there)); first | done | fail) rfl (fun _ => ?_)) | (refine KJ_call (by (repeat' (first | exact Evs.nil | refine Evs.cons rfl ?_)); first | done | fail) (c10 _) (by (repeat' (first | exact Pick.nil | apply Pick.cons | exact Sel.here | apply Sel.there)); first | done | fail) rfl (fun _ => ?_)) | (refine KJ_call (by (repeat' (first | exact Evs.nil | refine Evs.cons rfl ?_)); first | done | fail) (c9 _) (by (repeat' (first | exact Pick.nil | apply Pick.cons | exact Sel.here | apply Sel.there)); first | done | fail) rfl (fun _ => ?_)) | (refine KJ_call (by (repeat' (first | exact Evs.nil | refine Evs.cons rfl ?_)); first | done | fail) c8 (by (repeat' (first | exact Pick.nil | apply Pick.cons | exact Sel.here | apply Sel.there)); first | done | fail) rfl (fun _ => ?_)) | (refine KJ_call (by (repeat' (first | exact Evs.nil | refine Evs.cons rfl ?_)); first | done | fail) (c7 _) (by (repeat' (first | exact Pick.nil | apply Pick.cons | exact Sel.here | apply Sel.there)); first | done | fail) rfl (fun _ => ?_)) | (refine KJ_call (by (repeat' (first | exact Evs.nil | refine Evs.cons rfl ?_)); first | done | fail) (c6 _) (by (repeat' (first | exact Pick.nil | apply Pick.cons | exact Sel.here | apply Sel.there)); first | done | fail) rfl (fun _ => ?_)) | (refine KJ_call (by (repeat' (first | exact Evs.nil | refine Evs.cons rfl ?_)); first | done | fail) (c5 _) (by (repeat' (first | exact Pick.nil | apply Pick.cons | exact Sel.here | apply Sel.there)); first | done | fail) rfl (fun _ => ?_)) | (refine KJ_call (by (repeat' (first | exact Evs.nil | refine Evs.cons rfl ?_)); first | done | fail) (c4 _) (by (repeat' (first | exact Pick.nil | apply Pick.cons | exact Sel.here | apply Sel.there)); first | done | fail) rfl (fun _ => ?_)) | (refine KJ_call (by (repeat' (first | exact Evs.nil | refine Evs.cons rfl ?_)); first | done | fail) c3 (by (repeat' (first | exact Pick.nil | apply Pick.cons | exact Sel.here | apply Sel.there)); first | done | fail) rfl (fun _ => ?_)) | (refine KJ_call (by (repeat' (first | exact Evs.nil | refine Evs.cons rfl ?_)); first | done | fail) (c2 _) (by (repeat' (first | exact Pick.nil | apply Pick.cons | exact Sel.here | apply Sel.there)); first | done | fail) rfl (fun _ => ?_)) | (refine KJ_call (by (repeat' (first | exact Evs.nil | refine Evs.cons rfl ?_)); first | done | fail) c1 (by (repeat' (first | exact Pick.nil | apply Pick.cons | exact Sel.here | apply Sel.there)); first | done | fail) rfl (fun p => ?_))) | (refine is_mkSlice ?_; first | (refine KJ_makeBytes (m := 256) rfl rfl rfl (by omega) rfl (fun _ => ?_))) | (refine KJ_ek rfl ?_) | (refine KJ_ek0 ?_))
    | (refine is_ek ?_; first | (refine ek_move ?_; first | (refine EK_ev (Ev_move rfl) ?_)) | (refine ek_assign ?_; first | (refine EK_ev (Ev_assign rfl) ?_)) | (refine ek_pick ?_; first | (refine EK_ev (Ev_pick_t rfl rfl) ?_) | (refine EK_ev (Ev_pick_f rfl rfl) ?_)) | (refine ek_un ?_; first | (refine EK_ev (Ev_notD rfl) ?_) | (refine EK_ev (Ev_not rfl) ?_) | (refine EK_ev (Ev_neg rfl) ?_)) | (refine ek_conv ?_; first | (refine EK_ev (Ev_bytesStr0 rfl (by (repeat' (first | exact Sel.here | apply Sel.there)); first | done | fail) (by simp)) ?_) | (refine EK_ev (Ev_convI64 rfl (by omega)) ?_) | (refine EK_ev (Ev_convI rfl) ?_) | (refine EK_ev (Ev_convS rfl) ?_)) | (refine ek_extract ?_; first | (refine EK_ev (Ev_extract rfl rfl) ?_)) | (refine ek_slice ?_; first | (refine EK_ev (Ev_sliceStrTo rfl rfl (by omega)) ?_)) | (refine ek_build ?_; first | (refine EK_ev (Ev_build (by (repeat' (first | exact EvP.nil | (apply EvP.cons; exact rfl))); first | done | fail) (by (repeat' (first | exact Fills.nil | (apply Fills.cons; exact rfl; (first | exact CellsOf.agg | exact CellsOf.one rfl); exact rfl; (repeat' (first | exact Laid.nil | apply Laid.cons | apply Laid.skip))))); first | done | fail)) ?_)) | (refine ek_len ?_; first | (refine EK_ev (Ev_len_str rfl) ?_) | (refine EK_ev (Ev_len_slice rfl) ?_) | (refine EK_ev (Ev_len_arr rfl) ?_) | (refine EK_ev (Ev_len_map rfl (by (repeat' (first | exact Sel.here | apply Sel.there)); first | done | fail)) ?_)) | (refine ek_add ?_; first | (refine EK_ev (Ev_addI rfl rfl (by omega)) ?_) | (refine EK_ev (Ev_addS rfl rfl (by simp <;> omega)) ?_) | (refine EK_ev (Ev_add rfl rfl) ?_)) | (refine ek_eql ?_; first | (refine EK_ev (Ev_eqlS_t rfl rfl (by first | exact LvS_eq | rfl)) ?_) | (refine EK_ev (Ev_eqlI_t rfl rfl (by first | rfl | omega)) ?_) | (refine EK_ev (Ev_eqlI rfl rfl) ?_) | (refine EK_ev (Ev_eqlS rfl rfl) ?_) | (refine EK_ev (Ev_eqlNil rfl rfl) ?_) | (refine EK_ev (Ev_eqlB rfl rfl) ?_) | (refine EK_ev (Ev_eqlO rfl rfl rfl (fun _ => rfl)) ?_)) | (refine ek_neq ?_; first | (refine EK_ev (Ev_neqI_f rfl rfl (by rfl)) ?_) | (refine EK_ev (Ev_neqI rfl rfl) ?_) | (refine EK_ev (Ev_neqS rfl rfl) ?_) | (refine EK_ev (Ev_neqNil rfl rfl) ?_) | (refine EK_ev (Ev_neqB rfl rfl) ?_) | (refine EK_ev (Ev_neqO rfl rfl rfl (fun _ => rfl)) ?_)))
    | (refine is_ex ?_; first | (refine KJ_seq_normal ?_) | (refine KJ_seq_ret ?_) | (refine KJ_seq_exit ?_) | (refine KJ_thn_normal ?_) | (refine KJ_thn_ret ?_) | (refine KJ_thn_exit ?_) | (refine KJ_blk_normal ?_) | (refine KJ_blk_ret ?_) | (refine KJ_blk_exit ?_) | (refine KJ_blk_exit' rfl ?_))
    | (refine is_code ?_; first | (refine KJ_seq ?_) | (refine KJ_region ?_) | (refine KJ_cond_dec rfl (fun _ => ?_) (fun _ => ?_) <;> first | (exfalso; omega) | skip) | (refine KJ_cond_t rfl ?_) | (refine KJ_cond_f rfl ?_) | (refine KJ_skip ?_) | (refine KJ_ret ?_) | (refine KJ_exit ?_) | (refine KJ_block ?_) | (refine KJ_draws (id := 12) (.op 0 (.op 1 (.op 2 (.op 3 (.ef 4 [] (.op 5 (.op 6 (.op 7 (.op 8 (.ef 9 [] (.op 10 (.op 11 (.op 12 (.op 13 (.op 14 (.op 15 (.op 16 (.op 17 (.op 18 (.op 19 (.op 20 (.op 21 (.op 22 (.op 23 (.op 24 (.op 25 (.op 26 (.op 30 (.alt (.ef 27 [30] (.ef 28 [30] (.op 29 (.op 31 (.op 32 (.op 33 (.op 34 .nil))))))) (.ef 28 [30, 26] (.op 29 (.op 31 (.ef 27 [31, 29, 30] (.op 32 (.op 33 (.op 34 .nil)))))))))))))))))))))))))))))))))))) (by kernel_rfl) (by kernel_rfl) ?_))
    | (refine is_fw ?_; first | (refine FW_open rfl ?_) | (refine FW_nil ?_) | (refine FW_ef rfl ?_) | (refine FW_efg rfl rfl rfl ?_) | (refine FW_alt ?_ ?_))
    | (refine is_fo ?_; first | (refine FO_dec_t rfl rfl (fun _ => ?_) (fun _ => ?_) <;> first | (exfalso; omega) | skip) | (refine FO_dec_f rfl rfl (fun _ => ?_) (fun _ => ?_) <;> first | (exfalso; omega) | skip) | (refine FO_no rfl rfl rfl rfl ?_) | (refine FO_ekg rfl rfl rfl ?_) | (refine FO_ek rfl ?_))
    | (refine is_ro ?_; first | (refine RO_no rfl rfl rfl rfl ?_) | (refine RO_ekg rfl rfl ?_) | (refine RO_ek ?_))
    | (refine is_raw ?_; first | (refine KJ_flow ?_ ?_))
    | (refine AtR_mk rfl ?_)
    | exact Rech.nil
    | (refine Rech_open rfl ?_))
  all_goals (refine is_ex ?_; exact KJ_done (by first | exact Or.inl rfl | exact Or.inr rfl) rfl (by (repeat' (first | exact Rvs.nil | (apply Rvs.tmp; exact rfl))); first | done | fail) () (by rfl) (Ent.of (by (repeat' (first | exact Pick.nil | apply Pick.cons | exact Sel.here | apply Sel.there)); first | done | fail) (by (repeat' (first | exact DropTo.refl | apply DropTo.there)); first | done | fail)))
end Go.Proofs.YteklldbfdmaafaaDoor
/-
  The law's 'made' (chapter 6): a disk behind a script of writes, flushes and crashes.
-/
namespace Go.Proofs.YteklldbfdmaafaaDoor
open Go Go.RowKit

/-- the law's spare: a fate whose Kept has spare room -/
theorem spare_ct {W : World} (kv : Value) (kept : List Bool) (torn bytes : Int) (hk : BoolsAt W kv kept) (hkl : kept.length ≤ 4294967296) :
    Ct Tryd.prog W 28 [.agg #[kv, .int .i64 torn, .int .i64 bytes]] [] (fun x : Nat × Nat => .tuple #[.agg #[.slice (some ⟨x.1, 0, none⟩) kept.length x.2, .int .i64 torn, .int .i64 bytes], .slice (some ⟨x.1, 0, none⟩) (kept.length + 3) x.2])
      (fun x => [rowP (.slice (some ⟨x.1, 0, none⟩) (kept.length + 3) x.2) 4 1 (kept.length + 3) (kept.map .bool ++ [.bool true, .bool false, .bool true])]) :=
  Ct_made fun w b => (spare_any w kv kept torn bytes (hk.keepB b.size b.block) hkl).mono fun e w' ⟨g, c, he, hg, hrow, hf⟩ => by
    rcases hrow.2 with ⟨q, _⟩ | ⟨g', cap, cur, hv, _, hh, hrest⟩
    · cases q
    · cases hv
      exact ⟨(g, c), he, hf, Hl.one g (.cells cur 4 (0, 0)), ⟨by simp, .inr ⟨g, c, cur, rfl, Hl.one_self _ _, by simpa using hrest⟩⟩, fun k o q => by obtain ⟨rfl, rfl⟩ := Hl.one_some q; exact ⟨hg, hh⟩⟩
/-- Crash with what spare made -/
theorem crash_row {W : World} {p : Nat} {D : Dsk} (g c m : Nat) (kept : List Bool) (more : List Value) (torn bytes : Int) (hm : m = kept.length) (hul : D.und.length < 1073741824) (_hkl : kept.length ≤ 4611686018427387904) :
    Ct Tryd.prog W 29 [.pointer (some ⟨p, 0, none⟩), .agg #[.slice (some ⟨g, 0, none⟩) m c, .int .i64 torn, .int .i64 bytes]] [DiskP p D, rowP (.slice (some ⟨g, 0, none⟩) (m + 3) c) 4 1 (m + 3) (kept.map .bool ++ more)] (fun _ : Unit => .tuple #[]) (fun _ => [DiskP p (D.crash kept torn bytes), rowP (.slice (some ⟨g, 0, none⟩) (m + 3) c) 4 1 (m + 3) (kept.map .bool ++ more)]) := by
  subst hm
  refine crash_gen [rowP (.slice (some ⟨g, 0, none⟩) (kept.length + 3) c) 4 1 (kept.length + 3) (kept.map .bool ++ more)] _ kept torn bytes (fun w h b hs hl => ?_) hul
  obtain ⟨h1, _, _, le, _, ⟨hlen, hd⟩, _⟩ := hs
  rcases hd with ⟨q, _⟩ | ⟨g', cap, cur, hv, hh, h3, h4, h5, h6⟩
  · cases q
  · cases hv
    refine ⟨⟨_, _, rfl, fun _ => ⟨g, 0, rfl, hl.lt (le _ _ hh), fun j v hj => ?_⟩, fun q => (by cases q), by omega, h4⟩, fun _ k hk => ?_⟩
    · rw [cell_of_row w g _ _ _ _ (hl g _ (le _ _ hh)).2]
      have e : (cur.toList.take ((kept.length + 3) * 1))[j]? = some v := by
        rw [h6, List.getElem?_append_left (by have := (List.getElem?_eq_some_iff.1 hj).1; simpa using this)]
        simpa using hj
      rw [List.getElem?_take] at e
      split at e
      · simpa using e
      · cases e
    · have : g = k := by simpa [Value.ownBlock] using hk
      exact .inl ⟨_, by rw [← this]; exact le _ _ hh⟩
theorem make_und (n : Nat) (o : POp) (D : Dsk) : (o.make n D).und.length ≤ D.und.length + 1 := by
  unfold POp.make
  split
  · unfold Dsk.writeD
    split
    · omega
    split
    · split
      · split <;> simp [Dsk.gone_und]
      · omega
    · omega
  split
  · unfold Dsk.flushD
    split
    · omega
    split
    · simp [Dsk.gone_und]
    · simp
  split
  · unfold Dsk.crash
    simp
  · omega
theorem makeAll_und (n : Nat) (l : List POp) : ∀ (D : Dsk), (makeAll n l D).und.length ≤ D.und.length + l.length := by
  unfold makeAll
  induction l with
  | nil => intro D; simp
  | cons o l ih =>
    intro D
    have h1 := ih (o.make n D)
    have h2 := make_und n o D
    simp only [List.foldl_cons, List.length_cons]
    omega
theorem u64_mod (n : Int) : IntKind.u64.wrap n = ((n % 18446744073709551616).toNat : Int) := by
  have h : IntKind.u64.wrap n = n % 18446744073709551616 := rfl
  rw [h]; omega
theorem u64_low (n : Int) (h : 0 ≤ n ∧ n < 18446744073709551616) : IntKind.u64.wrap n = n := by
  have e : IntKind.u64.wrap n = n % 18446744073709551616 := rfl
  rw [e]; omega
theorem made_ct {W : World} {E : Nat → Addr} (n : Int) (sv : Value) (ops : List POp) (hs : ScriptAt W sv ops) (hE : ErrsAt W E) (hg : gB ≤ W.heap.size) (hl : ops.length < 536870912) (hKB : ∀ o ∈ ops, o.kept.length ≤ 4294967296) :
    Ct Tryd.prog W 23 [.int .i64 n, sv] [] (fun p : Nat => .tuple #[.pointer (some ⟨p, 0, none⟩), .int .i64 (madeN n)]) (fun p => [DiskP p (makeAll (madeN n) ops (Dsk.blank (madeN n)))]) := by
  obtain ⟨a, c, rfl, hops⟩ := hs
  have hN : (1 + IntKind.u64.wrap n % 40 : Int) = (madeN n : Int) := by rw [u64_mod]; unfold madeN; omega
  have hu0 : 0 ≤ IntKind.u64.wrap n := by rw [u64_mod]; omega
  have hN1 := madeN_1 n
  have hN2 := madeN_2 n
  have hX : IntKind.u64.wrap (1 + IntKind.u64.wrap n % 40) = (madeN n : Int) := by rw [hN]; exact u64_low _ (by omega)
  obtain ⟨N, hNN⟩ : ∃ N, N = madeN n := ⟨_, rfl⟩
  rw [← hNN] at hN hX hN1 hN2 ⊢
  have c1 : Ct Tryd.prog W 33 [.int .i64 (1 + IntKind.u64.wrap n % 40)] [] (fun p : Nat => .tuple #[.pointer (some ⟨p, 0, none⟩), .nilIface]) (fun p => [DiskP p (Dsk.blank N)]) := by rw [hN]; exact new_ct N hN1 (by omega) hg
  refine Ct.enter Tryd.func23 rfl Tryd.ntmps23 (by simp) (fun R => ?_)
  repeat' (first 
    | (refine is_list ?_; first | (refine KJ_plain ?_) | (refine KJ_nil ?_) | (refine KJ_guard_dec_t rfl rfl rfl (fun _ => ?_) (fun _ => ?_) <;> first | (exfalso; omega) | skip) | (refine KJ_guard_dec_f rfl rfl rfl (fun _ => ?_) (fun _ => ?_) <;> first | (exfalso; omega) | skip) | (refine KJ_guard_yes rfl rfl ?_) | (refine KJ_guard_no rfl rfl rfl rfl ?_))
    | (refine is_oper ?_; first | (refine is_store ?_; first | (refine KJ_store rfl rfl (by (repeat' (first | exact Sel.here | apply Sel.there)); first | done | fail) (by first | exact CellsOf.agg | exact CellsOf.one rfl) (by rfl) (by (repeat' (first | exact Ones.nil | exact Ones_bvs _ | refine Ones.cons rfl ?_)); first | done | fail) (by (repeat' (first | exact Laid.nil | apply Laid.cons | apply Laid.skip)); first | done | fail) (by (repeat' (first | exact Rep.here | apply Rep.there)); first | done | fail) ?_)) | (refine is_alloc ?_; first | (refine KJ_alloc rfl (fun _ => ?_))) | (refine is_call ?_; first | (refine KJ_call (by (repeat' (first | exact Evs.nil | refine Evs.cons rfl ?_)); first | done | fail) c1 (by (repeat' (first | exact Pick.nil | apply Pick.cons | exact Sel.here | apply Sel.there)); first | done | fail) rfl (fun p => ?_))) | (refine KJ_ek rfl ?_) | (refine KJ_ek0 ?_))
    | (refine is_ek ?_; first | (refine ek_move ?_; first | (refine EK_ev (Ev_move rfl) ?_)) | (refine ek_assign ?_; first | (refine EK_ev (Ev_assign rfl) ?_)) | (refine ek_pick ?_; first | (refine EK_ev (Ev_pick_t rfl rfl) ?_) | (refine EK_ev (Ev_pick_f rfl rfl) ?_)) | (refine ek_fieldAddr ?_; first | (refine EK_ev (Ev_field rfl) ?_)) | (refine ek_load ?_; first | (refine EK_ev (Ev_load rfl (by (repeat' (first | exact Sel.here | apply Sel.there)); first | done | fail) (by rfl)) ?_) | (refine EK_ev (Ev_loadOld rfl (by assumption)) ?_) | (refine EK_ev (Ev_loadAgg rfl (by (repeat' (first | exact Sel.here | apply Sel.there)); first | done | fail) (by (repeat' (first | exact Cut.nil | apply Cut.cons | apply Cut.skip)); first | done | fail)) ?_)) | (refine ek_conv ?_; first | (refine EK_ev (Ev_convI64 rfl (by omega)) ?_) | (refine EK_ev (Ev_convI rfl) ?_) | (refine EK_ev (Ev_convS rfl) ?_)) | (refine ek_extract ?_; first | (refine EK_ev (Ev_extract rfl rfl) ?_)) | (refine ek_indexAddr ?_; first | (refine EK_ev (Ev_indexSlice rfl rfl (by omega)) ?_) | (refine EK_ev (Ev_indexArr rfl rfl (by omega)) ?_)) | (refine ek_len ?_; first | (refine EK_ev (Ev_len_str rfl) ?_) | (refine EK_ev (Ev_len_slice rfl) ?_) | (refine EK_ev (Ev_len_arr rfl) ?_) | (refine EK_ev (Ev_len_map rfl (by (repeat' (first | exact Sel.here | apply Sel.there)); first | done | fail)) ?_)) | (refine ek_add ?_; first | (refine EK_ev (Ev_addI rfl rfl (by omega)) ?_) | (refine EK_ev (Ev_addS rfl rfl (by simp <;> omega)) ?_) | (refine EK_ev (Ev_add rfl rfl) ?_)) | (refine ek_rem ?_; first | (refine EK_ev (Ev_remI rfl rfl (by omega)) ?_) | (refine EK_ev (Ev_rem rfl rfl (by omega)) ?_)) | (refine ek_eql ?_; first | (refine EK_ev (Ev_eqlI rfl rfl) ?_) | (refine EK_ev (Ev_eqlS rfl rfl) ?_) | (refine EK_ev (Ev_eqlNil rfl rfl) ?_) | (refine EK_ev (Ev_eqlB rfl rfl) ?_) | (refine EK_ev (Ev_eqlO rfl rfl rfl (fun _ => rfl)) ?_)) | (refine ek_neq ?_; first | (refine EK_ev (Ev_neqI rfl rfl) ?_) | (refine EK_ev (Ev_neqS rfl rfl) ?_) | (refine EK_ev (Ev_neqNil rfl rfl) ?_) | (refine EK_ev (Ev_neqB rfl rfl) ?_) | (refine EK_ev (Ev_neqO rfl rfl rfl (fun _ => rfl)) ?_)) | (refine ek_lss ?_; first | (refine EK_ev (Ev_lssI rfl rfl) ?_) | (refine EK_ev (Ev_lssS rfl rfl) ?_)))
    | (refine is_ex ?_; first | (refine KJ_seq_normal ?_) | (refine KJ_seq_ret ?_) | (refine KJ_seq_exit ?_) | (refine KJ_thn_normal ?_) | (refine KJ_thn_ret ?_) | (refine KJ_thn_exit ?_) | (refine KJ_blk_normal ?_) | (refine KJ_blk_ret ?_) | (refine KJ_blk_exit ?_) | (refine KJ_blk_exit' rfl ?_))
    | (refine is_code ?_; first | (refine KJ_seq ?_) | (refine KJ_region ?_) | (refine KJ_cond_dec rfl (fun _ => ?_) (fun _ => ?_) <;> first | (exfalso; omega) | skip) | (refine KJ_cond_t rfl ?_) | (refine KJ_cond_f rfl ?_) | (refine KJ_skip ?_) | (refine KJ_ret ?_) | (refine KJ_exit ?_) | (refine KJ_block ?_) | (refine KJ_draws (id := 10) (.op 0 (.op 1 (.op 2 (.op 3 (.op 4 (.op 5 (.op 6 (.op 7 (.op 8 (.ef 9 [7, 6, 5, 4, 3, 2, 1, 0] (.ef 10 [] .nil))))))))))) (by kernel_rfl) (by kernel_rfl) ?_))
    | (refine is_fw ?_; first | (refine FW_open rfl ?_) | (refine FW_nil ?_) | (refine FW_ef rfl ?_) | (refine FW_efg rfl rfl rfl ?_) | (refine FW_alt ?_ ?_))
    | (refine is_fo ?_; first | (refine FO_dec_t rfl rfl (fun _ => ?_) (fun _ => ?_) <;> first | (exfalso; omega) | skip) | (refine FO_dec_f rfl rfl (fun _ => ?_) (fun _ => ?_) <;> first | (exfalso; omega) | skip) | (refine FO_no rfl rfl rfl rfl ?_) | (refine FO_ekg rfl rfl rfl ?_) | (refine FO_ek rfl ?_))
    | (refine is_ro ?_; first | (refine RO_no rfl rfl rfl rfl ?_) | (refine RO_ekg rfl rfl ?_) | (refine RO_ek ?_))
    | (refine is_raw ?_; first | (refine KJ_flow ?_ ?_))
    | (refine AtR_mk rfl ?_)
    | exact Rech.nil
    | (refine Rech_open rfl ?_))
  refine KJ_loop (fun i : {k : Nat // k ≤ ops.length} => [(0, .int .i64 (1 + IntKind.u64.wrap n % 40)), (6, .pointer (some ⟨p, 0, none⟩)), (28, .slice a ops.length c), (29, .int .i64 ops.length), (30, .int .i64 (i.1 : Nat))])
    (fun i => [DiskP p (makeAll N (ops.take i.1) (Dsk.blank N))] ++ R) (fun i => ops.length - i.1) ⟨0, by omega⟩ (by (repeat' (first | exact Subs.nil | refine Subs.cons rfl ?_)); first | done | fail) (Ent.of (by (repeat' (first | exact Pick.nil | apply Pick.cons | exact Sel.here | apply Sel.there)); first | done | fail) (by (repeat' (first | exact DropTo.refl | apply DropTo.there)); first | done | fail)) (fun ⟨k, hk⟩ => ?_)
  dsimp only
  by_cases hlt : k < ops.length
  · obtain ⟨op, hop⟩ : ∃ op, ops[k]? = some op := ⟨_, List.getElem?_eq_getElem hlt⟩
    obtain ⟨b, o, rfl, hb, ho⟩ := hops (by intro e; rw [e] at hlt; simp at hlt)
    obtain ⟨kv, hr, hkv⟩ := ho k op hop
    obtain ⟨ka, kc, rfl, hkx⟩ := id hkv
    have Hr : W.rangeAt b (o + Int.toNat (k : Int) * 7) [.int .i64 op.kind, .int .i64 op.i, strV op.s, .int .u8 op.fill.toNat, .slice ka op.kept.length kc, .int .i64 op.torn, .int .i64 op.bytes] := by
      rw [Int.toNat_natCast, Nat.mul_comm k 7]; exact hr
    have hkl : op.kept.length ≤ 4294967296 := hKB op (List.mem_of_getElem? hop)
    have hul : (makeAll N (ops.take k) (Dsk.blank N)).und.length < 1073741824 := by
      have h := makeAll_und N (ops.take k) (Dsk.blank N)
      have h0 : (Dsk.blank N).und.length = 0 := rfl
      have h3 : (ops.take k).length ≤ ops.length := by rw [List.length_take]; omega
      omega
    have hnx : makeAll N (ops.take (k + 1)) (Dsk.blank N) = op.make N (makeAll N (ops.take k) (Dsk.blank N)) := by
      unfold makeAll
      rw [List.take_add_one, hop]
      simp
    have hi0 : 0 ≤ IntKind.u64.wrap op.i := by rw [u64_mod]; omega
    have hX0 : 0 < IntKind.u64.wrap (1 + IntKind.u64.wrap n % 40) := by rw [hX]; omega
    have hq : IntKind.u64.wrap op.i % IntKind.u64.wrap (1 + IntKind.u64.wrap n % 40) = (((op.i % 18446744073709551616).toNat % N : Nat) : Int) := by rw [hX, u64_mod]; rfl
    have hq1 : (op.i % 18446744073709551616).toNat % N < N := Nat.mod_lt _ (by omega)
    have hqb : -9223372036854775808 ≤ IntKind.u64.wrap op.i % IntKind.u64.wrap (1 + IntKind.u64.wrap n % 40) ∧ IntKind.u64.wrap op.i % IntKind.u64.wrap (1 + IntKind.u64.wrap n % 40) ≤ 9223372036854775807 := by rw [hq]; omega
    have c2 : Ct Tryd.prog W 32 [.pointer (some ⟨p, 0, none⟩), .int .i64 (IntKind.u64.wrap op.i % IntKind.u64.wrap (1 + IntKind.u64.wrap n % 40)), strV op.sec] [DiskP p (makeAll N (ops.take k) (Dsk.blank N))] (fun _ : Unit => errV E ((makeAll N (ops.take k) (Dsk.blank N)).writeE (((op.i % 18446744073709551616).toNat % N : Nat) : Int) op.sec)) (fun _ => [DiskP p ((makeAll N (ops.take k) (Dsk.blank N)).writeD (((op.i % 18446744073709551616).toNat % N : Nat) : Int) op.sec)]) := by rw [hq]; exact write_ct hE.on _ _ hul
    have hend : ∀ D', D' = op.make N (makeAll N (ops.take k) (Dsk.blank N)) → DiskP p D' = DiskP p (makeAll N (ops.take (k + 1)) (Dsk.blank N)) := fun D' h => by rw [hnx, h]
    by_cases h1 : op.kind = 1
    · repeat' (first 
    | (refine is_list ?_; first | (refine KJ_plain ?_) | (refine KJ_nil ?_) | (refine KJ_guard_dec_t rfl rfl rfl (fun _ => ?_) (fun _ => ?_) <;> first | (exfalso; omega) | skip) | (refine KJ_guard_dec_f rfl rfl rfl (fun _ => ?_) (fun _ => ?_) <;> first | (exfalso; omega) | skip) | (refine KJ_guard_yes rfl rfl ?_) | (refine KJ_guard_no rfl rfl rfl rfl ?_))
    | (refine is_oper ?_; first | (refine is_store ?_; first | (refine KJ_store rfl rfl (by (repeat' (first | exact Sel.here | apply Sel.there)); first | done | fail) (by first | exact CellsOf.agg | exact CellsOf.one rfl) (by rfl) (by (repeat' (first | exact Ones.nil | exact Ones_bvs _ | refine Ones.cons rfl ?_)); first | done | fail) (by (repeat' (first | exact Laid.nil | apply Laid.cons | apply Laid.skip)); first | done | fail) (by (repeat' (first | exact Rep.here | apply Rep.there)); first | done | fail) ?_)) | (refine is_alloc ?_; first | (refine KJ_alloc rfl (fun _ => ?_))) | (refine is_call ?_; first | (refine KJ_call (by (repeat' (first | exact Evs.nil | refine Evs.cons rfl ?_)); first | done | fail) c2 (by (repeat' (first | exact Pick.nil | apply Pick.cons | exact Sel.here | apply Sel.there)); first | done | fail) rfl (fun _ => ?_)) | (refine KJ_call (by (repeat' (first | exact Evs.nil | refine Evs.cons rfl ?_)); first | done | fail) (sector_ct _ _ _ _ _ op.s op.fill) (by (repeat' (first | exact Pick.nil | apply Pick.cons | exact Sel.here | apply Sel.there)); first | done | fail) rfl (fun _ => ?_))) | (refine KJ_ek rfl ?_) | (refine KJ_ek0 ?_))
    | (refine is_ek ?_; first | (refine ek_move ?_; first | (refine EK_ev (Ev_move rfl) ?_)) | (refine ek_assign ?_; first | (refine EK_ev (Ev_assign rfl) ?_)) | (refine ek_pick ?_; first | (refine EK_ev (Ev_pick_t rfl rfl) ?_) | (refine EK_ev (Ev_pick_f rfl rfl) ?_)) | (refine ek_fieldAddr ?_; first | (refine EK_ev (Ev_field rfl) ?_)) | (refine ek_load ?_; first | (refine EK_ev (Ev_load rfl (by (repeat' (first | exact Sel.here | apply Sel.there)); first | done | fail) (by rfl)) ?_) | (refine EK_ev (Ev_loadAgg rfl (by (repeat' (first | exact Sel.here | apply Sel.there)); first | done | fail) (by (repeat' (first | exact Cut.nil | apply Cut.cons | apply Cut.skip)); first | done | fail)) ?_) | (refine EK_ev (Ev_loadAggOld rfl Hr) ?_) | (refine EK_ev (Ev_load rfl (by (repeat' (first | exact Sel.here | apply Sel.there)); first | done | fail) (by rfl)) ?_) | (refine EK_ev (Ev_loadOld rfl (by assumption)) ?_) | (refine EK_ev (Ev_loadAgg rfl (by (repeat' (first | exact Sel.here | apply Sel.there)); first | done | fail) (by (repeat' (first | exact Cut.nil | apply Cut.cons | apply Cut.skip)); first | done | fail)) ?_)) | (refine ek_conv ?_; first | (refine EK_ev (Ev_convI64 rfl (by first | omega | exact hqb)) ?_) | (refine EK_ev (Ev_convI64 rfl (by omega)) ?_) | (refine EK_ev (Ev_convI rfl) ?_) | (refine EK_ev (Ev_convS rfl) ?_)) | (refine ek_extract ?_; first | (refine EK_ev (Ev_extract rfl rfl) ?_)) | (refine ek_indexAddr ?_; first | (refine EK_ev (Ev_indexSlice rfl rfl (by omega)) ?_) | (refine EK_ev (Ev_indexArr rfl rfl (by omega)) ?_)) | (refine ek_len ?_; first | (refine EK_ev (Ev_len_str rfl) ?_) | (refine EK_ev (Ev_len_slice rfl) ?_) | (refine EK_ev (Ev_len_arr rfl) ?_) | (refine EK_ev (Ev_len_map rfl (by (repeat' (first | exact Sel.here | apply Sel.there)); first | done | fail)) ?_)) | (refine ek_add ?_; first | (refine EK_ev (Ev_addI rfl rfl (by omega)) ?_) | (refine EK_ev (Ev_addS rfl rfl (by simp <;> omega)) ?_) | (refine EK_ev (Ev_add rfl rfl) ?_)) | (refine ek_rem ?_; first | (refine EK_ev (Ev_remI rfl rfl (by omega)) ?_) | (refine EK_ev (Ev_rem rfl rfl (by omega)) ?_)) | (refine ek_eql ?_; first | (refine EK_ev (Ev_eqlI rfl rfl) ?_) | (refine EK_ev (Ev_eqlS rfl rfl) ?_) | (refine EK_ev (Ev_eqlNil rfl rfl) ?_) | (refine EK_ev (Ev_eqlB rfl rfl) ?_) | (refine EK_ev (Ev_eqlO rfl rfl rfl (fun _ => rfl)) ?_)) | (refine ek_neq ?_; first | (refine EK_ev (Ev_neqI rfl rfl) ?_) | (refine EK_ev (Ev_neqS rfl rfl) ?_) | (refine EK_ev (Ev_neqNil rfl rfl) ?_) | (refine EK_ev (Ev_neqB rfl rfl) ?_) | (refine EK_ev (Ev_neqO rfl rfl rfl (fun _ => rfl)) ?_)) | (refine ek_lss ?_; first | (refine EK_ev (Ev_lssI rfl rfl) ?_) | (refine EK_ev (Ev_lssS rfl rfl) ?_)))
    | (refine is_ex ?_; first | (refine KJ_seq_normal ?_) | (refine KJ_seq_ret ?_) | (refine KJ_seq_exit ?_) | (refine KJ_thn_normal ?_) | (refine KJ_thn_ret ?_) | (refine KJ_thn_exit ?_) | (refine KJ_blk_normal ?_) | (refine KJ_blk_ret ?_) | (refine KJ_blk_exit ?_) | (refine KJ_blk_exit' rfl ?_))
    | (refine is_code ?_; first | (refine KJ_seq ?_) | (refine KJ_region ?_) | (refine KJ_cond_dec rfl (fun _ => ?_) (fun _ => ?_) <;> first | (exfalso; omega) | skip) | (refine KJ_cond_t rfl ?_) | (refine KJ_cond_f rfl ?_) | (refine KJ_skip ?_) | (refine KJ_ret ?_) | (refine KJ_exit ?_) | (refine KJ_block ?_) | (refine KJ_draws (id := 10) (.op 0 (.op 1 (.op 2 (.op 3 (.op 4 (.op 5 (.op 6 (.op 7 (.op 8 (.ef 9 [7, 6, 5, 4, 3, 2, 1, 0] (.ef 10 [] .nil))))))))))) (by kernel_rfl) (by kernel_rfl) ?_))
    | (refine is_fw ?_; first | (refine FW_open rfl ?_) | (refine FW_nil ?_) | (refine FW_ef rfl ?_) | (refine FW_efg rfl rfl rfl ?_) | (refine FW_alt ?_ ?_))
    | (refine is_fo ?_; first | (refine FO_dec_t rfl rfl (fun _ => ?_) (fun _ => ?_) <;> first | (exfalso; omega) | skip) | (refine FO_dec_f rfl rfl (fun _ => ?_) (fun _ => ?_) <;> first | (exfalso; omega) | skip) | (refine FO_no rfl rfl rfl rfl ?_) | (refine FO_ekg rfl rfl rfl ?_) | (refine FO_ek rfl ?_))
    | (refine is_ro ?_; first | (refine RO_no rfl rfl rfl rfl ?_) | (refine RO_ekg rfl rfl ?_) | (refine RO_ek ?_))
    | (refine is_raw ?_; first | (refine KJ_flow ?_ ?_))
    | (refine AtR_mk rfl ?_)
    | exact Rech.nil
    | (refine Rech_open rfl ?_))
      refine KJ_again ⟨k + 1, by omega⟩ (by show ops.length - (k + 1) < ops.length - k; omega) (by (repeat' (first | exact Subs.nil | refine Subs.cons rfl ?_)); first | done | fail) ?_
      rw [show ([DiskP p (makeAll N (ops.take (k + 1)) (Dsk.blank N))] ++ R) = [DiskP p ((makeAll N (ops.take k) (Dsk.blank N)).writeD (((op.i % 18446744073709551616).toNat % N : Nat) : Int) op.sec)] ++ R by rw [hend ((makeAll N (ops.take k) (Dsk.blank N)).writeD (((op.i % 18446744073709551616).toNat % N : Nat) : Int) op.sec) (by simp [POp.make, h1])]]
      exact (Ent.of (by (repeat' (first | exact Pick.nil | apply Pick.cons | exact Sel.here | apply Sel.there)); first | done | fail) (by (repeat' (first | exact DropTo.refl | apply DropTo.there)); first | done | fail))
    by_cases h2 : op.kind = 2
    · repeat' (first 
    | (refine is_list ?_; first | (refine KJ_plain ?_) | (refine KJ_nil ?_) | (refine KJ_guard_dec_t rfl rfl rfl (fun _ => ?_) (fun _ => ?_) <;> first | (exfalso; omega) | skip) | (refine KJ_guard_dec_f rfl rfl rfl (fun _ => ?_) (fun _ => ?_) <;> first | (exfalso; omega) | skip) | (refine KJ_guard_yes rfl rfl ?_) | (refine KJ_guard_no rfl rfl rfl rfl ?_))
    | (refine is_oper ?_; first | (refine is_store ?_; first | (refine KJ_store rfl rfl (by (repeat' (first | exact Sel.here | apply Sel.there)); first | done | fail) (by first | exact CellsOf.agg | exact CellsOf.one rfl) (by rfl) (by (repeat' (first | exact Ones.nil | exact Ones_bvs _ | refine Ones.cons rfl ?_)); first | done | fail) (by (repeat' (first | exact Laid.nil | apply Laid.cons | apply Laid.skip)); first | done | fail) (by (repeat' (first | exact Rep.here | apply Rep.there)); first | done | fail) ?_)) | (refine is_alloc ?_; first | (refine KJ_alloc rfl (fun _ => ?_))) | (refine is_call ?_; first | (refine KJ_call (by (repeat' (first | exact Evs.nil | refine Evs.cons rfl ?_)); first | done | fail) (flush_ct hE.on hul) (by (repeat' (first | exact Pick.nil | apply Pick.cons | exact Sel.here | apply Sel.there)); first | done | fail) rfl (fun _ => ?_))) | (refine KJ_ek rfl ?_) | (refine KJ_ek0 ?_))
    | (refine is_ek ?_; first | (refine ek_move ?_; first | (refine EK_ev (Ev_move rfl) ?_)) | (refine ek_assign ?_; first | (refine EK_ev (Ev_assign rfl) ?_)) | (refine ek_pick ?_; first | (refine EK_ev (Ev_pick_t rfl rfl) ?_) | (refine EK_ev (Ev_pick_f rfl rfl) ?_)) | (refine ek_fieldAddr ?_; first | (refine EK_ev (Ev_field rfl) ?_)) | (refine ek_load ?_; first | (refine EK_ev (Ev_load rfl (by (repeat' (first | exact Sel.here | apply Sel.there)); first | done | fail) (by rfl)) ?_) | (refine EK_ev (Ev_loadAgg rfl (by (repeat' (first | exact Sel.here | apply Sel.there)); first | done | fail) (by (repeat' (first | exact Cut.nil | apply Cut.cons | apply Cut.skip)); first | done | fail)) ?_) | (refine EK_ev (Ev_loadAggOld rfl Hr) ?_) | (refine EK_ev (Ev_load rfl (by (repeat' (first | exact Sel.here | apply Sel.there)); first | done | fail) (by rfl)) ?_) | (refine EK_ev (Ev_loadOld rfl (by assumption)) ?_) | (refine EK_ev (Ev_loadAgg rfl (by (repeat' (first | exact Sel.here | apply Sel.there)); first | done | fail) (by (repeat' (first | exact Cut.nil | apply Cut.cons | apply Cut.skip)); first | done | fail)) ?_)) | (refine ek_conv ?_; first | (refine EK_ev (Ev_convI64 rfl (by first | omega | exact hqb)) ?_) | (refine EK_ev (Ev_convI64 rfl (by omega)) ?_) | (refine EK_ev (Ev_convI rfl) ?_) | (refine EK_ev (Ev_convS rfl) ?_)) | (refine ek_extract ?_; first | (refine EK_ev (Ev_extract rfl rfl) ?_)) | (refine ek_indexAddr ?_; first | (refine EK_ev (Ev_indexSlice rfl rfl (by omega)) ?_) | (refine EK_ev (Ev_indexArr rfl rfl (by omega)) ?_)) | (refine ek_len ?_; first | (refine EK_ev (Ev_len_str rfl) ?_) | (refine EK_ev (Ev_len_slice rfl) ?_) | (refine EK_ev (Ev_len_arr rfl) ?_) | (refine EK_ev (Ev_len_map rfl (by (repeat' (first | exact Sel.here | apply Sel.there)); first | done | fail)) ?_)) | (refine ek_add ?_; first | (refine EK_ev (Ev_addI rfl rfl (by omega)) ?_) | (refine EK_ev (Ev_addS rfl rfl (by simp <;> omega)) ?_) | (refine EK_ev (Ev_add rfl rfl) ?_)) | (refine ek_rem ?_; first | (refine EK_ev (Ev_remI rfl rfl (by omega)) ?_) | (refine EK_ev (Ev_rem rfl rfl (by omega)) ?_)) | (refine ek_eql ?_; first | (refine EK_ev (Ev_eqlI rfl rfl) ?_) | (refine EK_ev (Ev_eqlS rfl rfl) ?_) | (refine EK_ev (Ev_eqlNil rfl rfl) ?_) | (refine EK_ev (Ev_eqlB rfl rfl) ?_) | (refine EK_ev (Ev_eqlO rfl rfl rfl (fun _ => rfl)) ?_)) | (refine ek_neq ?_; first | (refine EK_ev (Ev_neqI rfl rfl) ?_) | (refine EK_ev (Ev_neqS rfl rfl) ?_) | (refine EK_ev (Ev_neqNil rfl rfl) ?_) | (refine EK_ev (Ev_neqB rfl rfl) ?_) | (refine EK_ev (Ev_neqO rfl rfl rfl (fun _ => rfl)) ?_)) | (refine ek_lss ?_; first | (refine EK_ev (Ev_lssI rfl rfl) ?_) | (refine EK_ev (Ev_lssS rfl rfl) ?_)))
    | (refine is_ex ?_; first | (refine KJ_seq_normal ?_) | (refine KJ_seq_ret ?_) | (refine KJ_seq_exit ?_) | (refine KJ_thn_normal ?_) | (refine KJ_thn_ret ?_) | (refine KJ_thn_exit ?_) | (refine KJ_blk_normal ?_) | (refine KJ_blk_ret ?_) | (refine KJ_blk_exit ?_) | (refine KJ_blk_exit' rfl ?_))
    | (refine is_code ?_; first | (refine KJ_seq ?_) | (refine KJ_region ?_) | (refine KJ_cond_dec rfl (fun _ => ?_) (fun _ => ?_) <;> first | (exfalso; omega) | skip) | (refine KJ_cond_t rfl ?_) | (refine KJ_cond_f rfl ?_) | (refine KJ_skip ?_) | (refine KJ_ret ?_) | (refine KJ_exit ?_) | (refine KJ_block ?_) | (refine KJ_draws (id := 10) (.op 0 (.op 1 (.op 2 (.op 3 (.op 4 (.op 5 (.op 6 (.op 7 (.op 8 (.ef 9 [7, 6, 5, 4, 3, 2, 1, 0] (.ef 10 [] .nil))))))))))) (by kernel_rfl) (by kernel_rfl) ?_))
    | (refine is_fw ?_; first | (refine FW_open rfl ?_) | (refine FW_nil ?_) | (refine FW_ef rfl ?_) | (refine FW_efg rfl rfl rfl ?_) | (refine FW_alt ?_ ?_))
    | (refine is_fo ?_; first | (refine FO_dec_t rfl rfl (fun _ => ?_) (fun _ => ?_) <;> first | (exfalso; omega) | skip) | (refine FO_dec_f rfl rfl (fun _ => ?_) (fun _ => ?_) <;> first | (exfalso; omega) | skip) | (refine FO_no rfl rfl rfl rfl ?_) | (refine FO_ekg rfl rfl rfl ?_) | (refine FO_ek rfl ?_))
    | (refine is_ro ?_; first | (refine RO_no rfl rfl rfl rfl ?_) | (refine RO_ekg rfl rfl ?_) | (refine RO_ek ?_))
    | (refine is_raw ?_; first | (refine KJ_flow ?_ ?_))
    | (refine AtR_mk rfl ?_)
    | exact Rech.nil
    | (refine Rech_open rfl ?_))
      refine KJ_again ⟨k + 1, by omega⟩ (by show ops.length - (k + 1) < ops.length - k; omega) (by (repeat' (first | exact Subs.nil | refine Subs.cons rfl ?_)); first | done | fail) ?_
      rw [show ([DiskP p (makeAll N (ops.take (k + 1)) (Dsk.blank N))] ++ R) = [DiskP p ((makeAll N (ops.take k) (Dsk.blank N)).flushD)] ++ R by rw [hend ((makeAll N (ops.take k) (Dsk.blank N)).flushD) (by simp [POp.make, h2])]]
      exact (Ent.of (by (repeat' (first | exact Pick.nil | apply Pick.cons | exact Sel.here | apply Sel.there)); first | done | fail) (by (repeat' (first | exact DropTo.refl | apply DropTo.there)); first | done | fail))
    by_cases h4 : op.kind = 4
    · repeat' (first 
    | (refine is_list ?_; first | (refine KJ_plain ?_) | (refine KJ_nil ?_) | (refine KJ_guard_dec_t rfl rfl rfl (fun _ => ?_) (fun _ => ?_) <;> first | (exfalso; omega) | skip) | (refine KJ_guard_dec_f rfl rfl rfl (fun _ => ?_) (fun _ => ?_) <;> first | (exfalso; omega) | skip) | (refine KJ_guard_yes rfl rfl ?_) | (refine KJ_guard_no rfl rfl rfl rfl ?_))
    | (refine is_oper ?_; first | (refine is_store ?_; first | (refine KJ_store rfl rfl (by (repeat' (first | exact Sel.here | apply Sel.there)); first | done | fail) (by first | exact CellsOf.agg | exact CellsOf.one rfl) (by rfl) (by (repeat' (first | exact Ones.nil | exact Ones_bvs _ | refine Ones.cons rfl ?_)); first | done | fail) (by (repeat' (first | exact Laid.nil | apply Laid.cons | apply Laid.skip)); first | done | fail) (by (repeat' (first | exact Rep.here | apply Rep.there)); first | done | fail) ?_)) | (refine is_alloc ?_; first | (refine KJ_alloc rfl (fun _ => ?_))) | (refine is_call ?_; first | (refine KJ_call (by (repeat' (first | exact Evs.nil | refine Evs.cons rfl ?_)); first | done | fail) (crash_row _ _ _ op.kept _ op.torn op.bytes rfl hul (by omega)) (by (repeat' (first | exact Pick.nil | apply Pick.cons | exact Sel.here | apply Sel.there)); first | done | fail) rfl (fun _ => ?_)) | (refine KJ_call (by (repeat' (first | exact Evs.nil | refine Evs.cons rfl ?_)); first | done | fail) (spare_ct _ op.kept op.torn op.bytes hkv hkl) (by (repeat' (first | exact Pick.nil | apply Pick.cons | exact Sel.here | apply Sel.there)); first | done | fail) rfl (fun x => ?_))) | (refine KJ_ek rfl ?_) | (refine KJ_ek0 ?_))
    | (refine is_ek ?_; first | (refine ek_move ?_; first | (refine EK_ev (Ev_move rfl) ?_)) | (refine ek_assign ?_; first | (refine EK_ev (Ev_assign rfl) ?_)) | (refine ek_pick ?_; first | (refine EK_ev (Ev_pick_t rfl rfl) ?_) | (refine EK_ev (Ev_pick_f rfl rfl) ?_)) | (refine ek_fieldAddr ?_; first | (refine EK_ev (Ev_field rfl) ?_)) | (refine ek_load ?_; first | (refine EK_ev (Ev_load rfl (by (repeat' (first | exact Sel.here | apply Sel.there)); first | done | fail) (by rfl)) ?_) | (refine EK_ev (Ev_loadAgg rfl (by (repeat' (first | exact Sel.here | apply Sel.there)); first | done | fail) (by (repeat' (first | exact Cut.nil | apply Cut.cons | apply Cut.skip)); first | done | fail)) ?_) | (refine EK_ev (Ev_loadAggOld rfl Hr) ?_) | (refine EK_ev (Ev_load rfl (by (repeat' (first | exact Sel.here | apply Sel.there)); first | done | fail) (by rfl)) ?_) | (refine EK_ev (Ev_loadOld rfl (by assumption)) ?_) | (refine EK_ev (Ev_loadAgg rfl (by (repeat' (first | exact Sel.here | apply Sel.there)); first | done | fail) (by (repeat' (first | exact Cut.nil | apply Cut.cons | apply Cut.skip)); first | done | fail)) ?_)) | (refine ek_conv ?_; first | (refine EK_ev (Ev_convI64 rfl (by first | omega | exact hqb)) ?_) | (refine EK_ev (Ev_convI64 rfl (by omega)) ?_) | (refine EK_ev (Ev_convI rfl) ?_) | (refine EK_ev (Ev_convS rfl) ?_)) | (refine ek_extract ?_; first | (refine EK_ev (Ev_extract rfl rfl) ?_)) | (refine ek_indexAddr ?_; first | (refine EK_ev (Ev_indexSlice rfl rfl (by omega)) ?_) | (refine EK_ev (Ev_indexArr rfl rfl (by omega)) ?_)) | (refine ek_len ?_; first | (refine EK_ev (Ev_len_str rfl) ?_) | (refine EK_ev (Ev_len_slice rfl) ?_) | (refine EK_ev (Ev_len_arr rfl) ?_) | (refine EK_ev (Ev_len_map rfl (by (repeat' (first | exact Sel.here | apply Sel.there)); first | done | fail)) ?_)) | (refine ek_add ?_; first | (refine EK_ev (Ev_addI rfl rfl (by omega)) ?_) | (refine EK_ev (Ev_addS rfl rfl (by simp <;> omega)) ?_) | (refine EK_ev (Ev_add rfl rfl) ?_)) | (refine ek_rem ?_; first | (refine EK_ev (Ev_remI rfl rfl (by omega)) ?_) | (refine EK_ev (Ev_rem rfl rfl (by omega)) ?_)) | (refine ek_eql ?_; first | (refine EK_ev (Ev_eqlI rfl rfl) ?_) | (refine EK_ev (Ev_eqlS rfl rfl) ?_) | (refine EK_ev (Ev_eqlNil rfl rfl) ?_) | (refine EK_ev (Ev_eqlB rfl rfl) ?_) | (refine EK_ev (Ev_eqlO rfl rfl rfl (fun _ => rfl)) ?_)) | (refine ek_neq ?_; first | (refine EK_ev (Ev_neqI rfl rfl) ?_) | (refine EK_ev (Ev_neqS rfl rfl) ?_) | (refine EK_ev (Ev_neqNil rfl rfl) ?_) | (refine EK_ev (Ev_neqB rfl rfl) ?_) | (refine EK_ev (Ev_neqO rfl rfl rfl (fun _ => rfl)) ?_)) | (refine ek_lss ?_; first | (refine EK_ev (Ev_lssI rfl rfl) ?_) | (refine EK_ev (Ev_lssS rfl rfl) ?_)))
    | (refine is_ex ?_; first | (refine KJ_seq_normal ?_) | (refine KJ_seq_ret ?_) | (refine KJ_seq_exit ?_) | (refine KJ_thn_normal ?_) | (refine KJ_thn_ret ?_) | (refine KJ_thn_exit ?_) | (refine KJ_blk_normal ?_) | (refine KJ_blk_ret ?_) | (refine KJ_blk_exit ?_) | (refine KJ_blk_exit' rfl ?_))
    | (refine is_code ?_; first | (refine KJ_seq ?_) | (refine KJ_region ?_) | (refine KJ_cond_dec rfl (fun _ => ?_) (fun _ => ?_) <;> first | (exfalso; omega) | skip) | (refine KJ_cond_t rfl ?_) | (refine KJ_cond_f rfl ?_) | (refine KJ_skip ?_) | (refine KJ_ret ?_) | (refine KJ_exit ?_) | (refine KJ_block ?_) | (refine KJ_draws (id := 10) (.op 0 (.op 1 (.op 2 (.op 3 (.op 4 (.op 5 (.op 6 (.op 7 (.op 8 (.ef 9 [7, 6, 5, 4, 3, 2, 1, 0] (.ef 10 [] .nil))))))))))) (by kernel_rfl) (by kernel_rfl) ?_))
    | (refine is_fw ?_; first | (refine FW_open rfl ?_) | (refine FW_nil ?_) | (refine FW_ef rfl ?_) | (refine FW_efg rfl rfl rfl ?_) | (refine FW_alt ?_ ?_))
    | (refine is_fo ?_; first | (refine FO_dec_t rfl rfl (fun _ => ?_) (fun _ => ?_) <;> first | (exfalso; omega) | skip) | (refine FO_dec_f rfl rfl (fun _ => ?_) (fun _ => ?_) <;> first | (exfalso; omega) | skip) | (refine FO_no rfl rfl rfl rfl ?_) | (refine FO_ekg rfl rfl rfl ?_) | (refine FO_ek rfl ?_))
    | (refine is_ro ?_; first | (refine RO_no rfl rfl rfl rfl ?_) | (refine RO_ekg rfl rfl ?_) | (refine RO_ek ?_))
    | (refine is_raw ?_; first | (refine KJ_flow ?_ ?_))
    | (refine AtR_mk rfl ?_)
    | exact Rech.nil
    | (refine Rech_open rfl ?_))
      refine KJ_again ⟨k + 1, by omega⟩ (by show ops.length - (k + 1) < ops.length - k; omega) (by (repeat' (first | exact Subs.nil | refine Subs.cons rfl ?_)); first | done | fail) ?_
      rw [show ([DiskP p (makeAll N (ops.take (k + 1)) (Dsk.blank N))] ++ R) = [DiskP p ((makeAll N (ops.take k) (Dsk.blank N)).crash op.kept op.torn op.bytes)] ++ R by rw [hend ((makeAll N (ops.take k) (Dsk.blank N)).crash op.kept op.torn op.bytes) (by simp [POp.make, h4])]]
      exact (Ent.of (by (repeat' (first | exact Pick.nil | apply Pick.cons | exact Sel.here | apply Sel.there)); first | done | fail) (by (repeat' (first | exact DropTo.refl | apply DropTo.there)); first | done | fail))
    · repeat' (first 
    | (refine is_list ?_; first | (refine KJ_plain ?_) | (refine KJ_nil ?_) | (refine KJ_guard_dec_t rfl rfl rfl (fun _ => ?_) (fun _ => ?_) <;> first | (exfalso; omega) | skip) | (refine KJ_guard_dec_f rfl rfl rfl (fun _ => ?_) (fun _ => ?_) <;> first | (exfalso; omega) | skip) | (refine KJ_guard_yes rfl rfl ?_) | (refine KJ_guard_no rfl rfl rfl rfl ?_))
    | (refine is_oper ?_; first | (refine is_store ?_; first | (refine KJ_store rfl rfl (by (repeat' (first | exact Sel.here | apply Sel.there)); first | done | fail) (by first | exact CellsOf.agg | exact CellsOf.one rfl) (by rfl) (by (repeat' (first | exact Ones.nil | exact Ones_bvs _ | refine Ones.cons rfl ?_)); first | done | fail) (by (repeat' (first | exact Laid.nil | apply Laid.cons | apply Laid.skip)); first | done | fail) (by (repeat' (first | exact Rep.here | apply Rep.there)); first | done | fail) ?_)) | (refine is_alloc ?_; first | (refine KJ_alloc rfl (fun _ => ?_))) | (refine KJ_ek rfl ?_) | (refine KJ_ek0 ?_))
    | (refine is_ek ?_; first | (refine ek_move ?_; first | (refine EK_ev (Ev_move rfl) ?_)) | (refine ek_assign ?_; first | (refine EK_ev (Ev_assign rfl) ?_)) | (refine ek_pick ?_; first | (refine EK_ev (Ev_pick_t rfl rfl) ?_) | (refine EK_ev (Ev_pick_f rfl rfl) ?_)) | (refine ek_fieldAddr ?_; first | (refine EK_ev (Ev_field rfl) ?_)) | (refine ek_load ?_; first | (refine EK_ev (Ev_load rfl (by (repeat' (first | exact Sel.here | apply Sel.there)); first | done | fail) (by rfl)) ?_) | (refine EK_ev (Ev_loadAgg rfl (by (repeat' (first | exact Sel.here | apply Sel.there)); first | done | fail) (by (repeat' (first | exact Cut.nil | apply Cut.cons | apply Cut.skip)); first | done | fail)) ?_) | (refine EK_ev (Ev_loadAggOld rfl Hr) ?_) | (refine EK_ev (Ev_load rfl (by (repeat' (first | exact Sel.here | apply Sel.there)); first | done | fail) (by rfl)) ?_) | (refine EK_ev (Ev_loadOld rfl (by assumption)) ?_) | (refine EK_ev (Ev_loadAgg rfl (by (repeat' (first | exact Sel.here | apply Sel.there)); first | done | fail) (by (repeat' (first | exact Cut.nil | apply Cut.cons | apply Cut.skip)); first | done | fail)) ?_)) | (refine ek_conv ?_; first | (refine EK_ev (Ev_convI64 rfl (by first | omega | exact hqb)) ?_) | (refine EK_ev (Ev_convI64 rfl (by omega)) ?_) | (refine EK_ev (Ev_convI rfl) ?_) | (refine EK_ev (Ev_convS rfl) ?_)) | (refine ek_extract ?_; first | (refine EK_ev (Ev_extract rfl rfl) ?_)) | (refine ek_indexAddr ?_; first | (refine EK_ev (Ev_indexSlice rfl rfl (by omega)) ?_) | (refine EK_ev (Ev_indexArr rfl rfl (by omega)) ?_)) | (refine ek_len ?_; first | (refine EK_ev (Ev_len_str rfl) ?_) | (refine EK_ev (Ev_len_slice rfl) ?_) | (refine EK_ev (Ev_len_arr rfl) ?_) | (refine EK_ev (Ev_len_map rfl (by (repeat' (first | exact Sel.here | apply Sel.there)); first | done | fail)) ?_)) | (refine ek_add ?_; first | (refine EK_ev (Ev_addI rfl rfl (by omega)) ?_) | (refine EK_ev (Ev_addS rfl rfl (by simp <;> omega)) ?_) | (refine EK_ev (Ev_add rfl rfl) ?_)) | (refine ek_rem ?_; first | (refine EK_ev (Ev_remI rfl rfl (by omega)) ?_) | (refine EK_ev (Ev_rem rfl rfl (by omega)) ?_)) | (refine ek_eql ?_; first | (refine EK_ev (Ev_eqlI rfl rfl) ?_) | (refine EK_ev (Ev_eqlS rfl rfl) ?_) | (refine EK_ev (Ev_eqlNil rfl rfl) ?_) | (refine EK_ev (Ev_eqlB rfl rfl) ?_) | (refine EK_ev (Ev_eqlO rfl rfl rfl (fun _ => rfl)) ?_)) | (refine ek_neq ?_; first | (refine EK_ev (Ev_neqI rfl rfl) ?_) | (refine EK_ev (Ev_neqS rfl rfl) ?_) | (refine EK_ev (Ev_neqNil rfl rfl) ?_) | (refine EK_ev (Ev_neqB rfl rfl) ?_) | (refine EK_ev (Ev_neqO rfl rfl rfl (fun _ => rfl)) ?_)) | (refine ek_lss ?_; first | (refine EK_ev (Ev_lssI rfl rfl) ?_) | (refine EK_ev (Ev_lssS rfl rfl) ?_)))
    | (refine is_ex ?_; first | (refine KJ_seq_normal ?_) | (refine KJ_seq_ret ?_) | (refine KJ_seq_exit ?_) | (refine KJ_thn_normal ?_) | (refine KJ_thn_ret ?_) | (refine KJ_thn_exit ?_) | (refine KJ_blk_normal ?_) | (refine KJ_blk_ret ?_) | (refine KJ_blk_exit ?_) | (refine KJ_blk_exit' rfl ?_))
    | (refine is_code ?_; first | (refine KJ_seq ?_) | (refine KJ_region ?_) | (refine KJ_cond_dec rfl (fun _ => ?_) (fun _ => ?_) <;> first | (exfalso; omega) | skip) | (refine KJ_cond_t rfl ?_) | (refine KJ_cond_f rfl ?_) | (refine KJ_skip ?_) | (refine KJ_ret ?_) | (refine KJ_exit ?_) | (refine KJ_block ?_) | (refine KJ_draws (id := 10) (.op 0 (.op 1 (.op 2 (.op 3 (.op 4 (.op 5 (.op 6 (.op 7 (.op 8 (.ef 9 [7, 6, 5, 4, 3, 2, 1, 0] (.ef 10 [] .nil))))))))))) (by kernel_rfl) (by kernel_rfl) ?_))
    | (refine is_fw ?_; first | (refine FW_open rfl ?_) | (refine FW_nil ?_) | (refine FW_ef rfl ?_) | (refine FW_efg rfl rfl rfl ?_) | (refine FW_alt ?_ ?_))
    | (refine is_fo ?_; first | (refine FO_dec_t rfl rfl (fun _ => ?_) (fun _ => ?_) <;> first | (exfalso; omega) | skip) | (refine FO_dec_f rfl rfl (fun _ => ?_) (fun _ => ?_) <;> first | (exfalso; omega) | skip) | (refine FO_no rfl rfl rfl rfl ?_) | (refine FO_ekg rfl rfl rfl ?_) | (refine FO_ek rfl ?_))
    | (refine is_ro ?_; first | (refine RO_no rfl rfl rfl rfl ?_) | (refine RO_ekg rfl rfl ?_) | (refine RO_ek ?_))
    | (refine is_raw ?_; first | (refine KJ_flow ?_ ?_))
    | (refine AtR_mk rfl ?_)
    | exact Rech.nil
    | (refine Rech_open rfl ?_))
      refine KJ_again ⟨k + 1, by omega⟩ (by show ops.length - (k + 1) < ops.length - k; omega) (by (repeat' (first | exact Subs.nil | refine Subs.cons rfl ?_)); first | done | fail) ?_
      rw [show ([DiskP p (makeAll N (ops.take (k + 1)) (Dsk.blank N))] ++ R) = [DiskP p (makeAll N (ops.take k) (Dsk.blank N))] ++ R by rw [hend (makeAll N (ops.take k) (Dsk.blank N)) (by simp [POp.make, h1, h2, h4])]]
      exact (Ent.of (by (repeat' (first | exact Pick.nil | apply Pick.cons | exact Sel.here | apply Sel.there)); first | done | fail) (by (repeat' (first | exact DropTo.refl | apply DropTo.there)); first | done | fail))
  · repeat' (first 
    | (refine is_list ?_; first | (refine KJ_plain ?_) | (refine KJ_nil ?_) | (refine KJ_guard_dec_t rfl rfl rfl (fun _ => ?_) (fun _ => ?_) <;> first | (exfalso; omega) | skip) | (refine KJ_guard_dec_f rfl rfl rfl (fun _ => ?_) (fun _ => ?_) <;> first | (exfalso; omega) | skip) | (refine KJ_guard_yes rfl rfl ?_) | (refine KJ_guard_no rfl rfl rfl rfl ?_))
    | (refine is_oper ?_; first | (refine is_store ?_; first | (refine KJ_store rfl rfl (by (repeat' (first | exact Sel.here | apply Sel.there)); first | done | fail) (by first | exact CellsOf.agg | exact CellsOf.one rfl) (by rfl) (by (repeat' (first | exact Ones.nil | exact Ones_bvs _ | refine Ones.cons rfl ?_)); first | done | fail) (by (repeat' (first | exact Laid.nil | apply Laid.cons | apply Laid.skip)); first | done | fail) (by (repeat' (first | exact Rep.here | apply Rep.there)); first | done | fail) ?_)) | (refine is_alloc ?_; first | (refine KJ_alloc rfl (fun _ => ?_))) | (refine KJ_ek rfl ?_) | (refine KJ_ek0 ?_))
    | (refine is_ek ?_; first | (refine ek_move ?_; first | (refine EK_ev (Ev_move rfl) ?_)) | (refine ek_assign ?_; first | (refine EK_ev (Ev_assign rfl) ?_)) | (refine ek_pick ?_; first | (refine EK_ev (Ev_pick_t rfl rfl) ?_) | (refine EK_ev (Ev_pick_f rfl rfl) ?_)) | (refine ek_fieldAddr ?_; first | (refine EK_ev (Ev_field rfl) ?_)) | (refine ek_load ?_; first | (refine EK_ev (Ev_load rfl (by (repeat' (first | exact Sel.here | apply Sel.there)); first | done | fail) (by rfl)) ?_) | (refine EK_ev (Ev_loadOld rfl (by assumption)) ?_) | (refine EK_ev (Ev_loadAgg rfl (by (repeat' (first | exact Sel.here | apply Sel.there)); first | done | fail) (by (repeat' (first | exact Cut.nil | apply Cut.cons | apply Cut.skip)); first | done | fail)) ?_)) | (refine ek_conv ?_; first | (refine EK_ev (Ev_convI64 rfl (by omega)) ?_) | (refine EK_ev (Ev_convI rfl) ?_) | (refine EK_ev (Ev_convS rfl) ?_)) | (refine ek_extract ?_; first | (refine EK_ev (Ev_extract rfl rfl) ?_)) | (refine ek_indexAddr ?_; first | (refine EK_ev (Ev_indexSlice rfl rfl (by omega)) ?_) | (refine EK_ev (Ev_indexArr rfl rfl (by omega)) ?_)) | (refine ek_len ?_; first | (refine EK_ev (Ev_len_str rfl) ?_) | (refine EK_ev (Ev_len_slice rfl) ?_) | (refine EK_ev (Ev_len_arr rfl) ?_) | (refine EK_ev (Ev_len_map rfl (by (repeat' (first | exact Sel.here | apply Sel.there)); first | done | fail)) ?_)) | (refine ek_add ?_; first | (refine EK_ev (Ev_addI rfl rfl (by omega)) ?_) | (refine EK_ev (Ev_addS rfl rfl (by simp <;> omega)) ?_) | (refine EK_ev (Ev_add rfl rfl) ?_)) | (refine ek_rem ?_; first | (refine EK_ev (Ev_remI rfl rfl (by omega)) ?_) | (refine EK_ev (Ev_rem rfl rfl (by omega)) ?_)) | (refine ek_eql ?_; first | (refine EK_ev (Ev_eqlI rfl rfl) ?_) | (refine EK_ev (Ev_eqlS rfl rfl) ?_) | (refine EK_ev (Ev_eqlNil rfl rfl) ?_) | (refine EK_ev (Ev_eqlB rfl rfl) ?_) | (refine EK_ev (Ev_eqlO rfl rfl rfl (fun _ => rfl)) ?_)) | (refine ek_neq ?_; first | (refine EK_ev (Ev_neqI rfl rfl) ?_) | (refine EK_ev (Ev_neqS rfl rfl) ?_) | (refine EK_ev (Ev_neqNil rfl rfl) ?_) | (refine EK_ev (Ev_neqB rfl rfl) ?_) | (refine EK_ev (Ev_neqO rfl rfl rfl (fun _ => rfl)) ?_)) | (refine ek_lss ?_; first | (refine EK_ev (Ev_lssI rfl rfl) ?_) | (refine EK_ev (Ev_lssS rfl rfl) ?_)))
    | (refine is_ex ?_; first | (refine KJ_seq_normal ?_) | (refine KJ_seq_ret ?_) | (refine KJ_seq_exit ?_) | (refine KJ_thn_normal ?_) | (refine KJ_thn_ret ?_) | (refine KJ_thn_exit ?_) | (refine KJ_blk_normal ?_) | (refine KJ_blk_ret ?_) | (refine KJ_blk_exit ?_) | (refine KJ_blk_exit' rfl ?_))
    | (refine is_code ?_; first | (refine KJ_seq ?_) | (refine KJ_region ?_) | (refine KJ_cond_dec rfl (fun _ => ?_) (fun _ => ?_) <;> first | (exfalso; omega) | skip) | (refine KJ_cond_t rfl ?_) | (refine KJ_cond_f rfl ?_) | (refine KJ_skip ?_) | (refine KJ_ret ?_) | (refine KJ_exit ?_) | (refine KJ_block ?_) | (refine KJ_draws (id := 10) (.op 0 (.op 1 (.op 2 (.op 3 (.op 4 (.op 5 (.op 6 (.op 7 (.op 8 (.ef 9 [7, 6, 5, 4, 3, 2, 1, 0] (.ef 10 [] .nil))))))))))) (by kernel_rfl) (by kernel_rfl) ?_))
    | (refine is_fw ?_; first | (refine FW_open rfl ?_) | (refine FW_nil ?_) | (refine FW_ef rfl ?_) | (refine FW_efg rfl rfl rfl ?_) | (refine FW_alt ?_ ?_))
    | (refine is_fo ?_; first | (refine FO_dec_t rfl rfl (fun _ => ?_) (fun _ => ?_) <;> first | (exfalso; omega) | skip) | (refine FO_dec_f rfl rfl (fun _ => ?_) (fun _ => ?_) <;> first | (exfalso; omega) | skip) | (refine FO_no rfl rfl rfl rfl ?_) | (refine FO_ekg rfl rfl rfl ?_) | (refine FO_ek rfl ?_))
    | (refine is_ro ?_; first | (refine RO_no rfl rfl rfl rfl ?_) | (refine RO_ekg rfl rfl ?_) | (refine RO_ek ?_))
    | (refine is_raw ?_; first | (refine KJ_flow ?_ ?_))
    | (refine AtR_mk rfl ?_)
    | exact Rech.nil
    | (refine Rech_open rfl ?_))
    have hkl : k = ops.length := by omega
    subst hkl
    rw [List.take_length]
    refine KJ_done (by first | exact Or.inl rfl | exact Or.inr rfl) rfl (by (repeat' (first | exact Rvs.nil | (apply Rvs.tmp; exact rfl))); first | done | fail) p (by rw [hN]; rfl) (Ent.of (by (repeat' (first | exact Pick.nil | apply Pick.cons | exact Sel.here | apply Sel.there)); first | done | fail) (by (repeat' (first | exact DropTo.refl | apply DropTo.there)); first | done | fail))
end Go.Proofs.YteklldbfdmaafaaDoor
/-
  DiskFlushes (chapter 6): behind a flush the image is what reads tell, and a crash changes nothing.
-/
namespace Go.Proofs.YteklldbfdmaafaaDoor
open Go Go.RowKit

theorem make_calm {D : Dsk} (h : Calm D) (n : Nat) (o : POp) : Calm (o.make n D) ∧ (o.make n D).n = D.n := by
  unfold POp.make
  split
  · exact writeD_calm h _ _
  split
  · exact ⟨(flushD_calm h).1, (flushD_calm h).2.1⟩
  split
  · exact ⟨crash_calm _ _ _ _, rfl⟩
  · exact ⟨h, rfl⟩
theorem make_ok {D : Dsk} (h : D.ok) (n : Nat) (o : POp) : (o.make n D).ok := by
  unfold POp.make
  split
  · exact Dsk.writeD_ok h _ _
  split
  · exact Dsk.flushD_ok h
  split
  · exact Dsk.crash_ok h _ _ _
  · exact h
theorem makeAll_calm (n : Nat) (l : List POp) : ∀ {D : Dsk}, Calm D → D.ok → Calm (makeAll n l D) ∧ (makeAll n l D).n = D.n ∧ (makeAll n l D).ok := by
  unfold makeAll
  induction l with
  | nil => intro D h k; exact ⟨h, rfl, k⟩
  | cons o l ih =>
    intro D h k
    have h1 := make_calm h n o
    have h2 := ih h1.1 (make_ok k n o)
    exact ⟨h2.1, h2.2.1.trans h1.2, h2.2.2⟩

set_option maxHeartbeats 1000000 in
set_option maxRecDepth 100000 in
theorem flushes_ct {W : World} {E : Nat → Addr} (n : Int) (sv : Value) (ops : List POp) (kv : Value) (kept : List Bool) (torn bytes : Int) (hs : ScriptAt W sv ops) (hE : ErrsAt W E) (hg : gB ≤ W.heap.size) (hl : ops.length < 536870912) (hKB : ∀ o ∈ ops, o.kept.length ≤ 4294967296) (hk : BoolsAt W kv kept) (hkl : kept.length ≤ 4294967296) :
    Ct Tryd.prog W 3 [.int .i64 n, sv, .agg #[kv, .int .i64 torn, .int .i64 bytes]] [] (fun _ : Unit => .bool true) (fun _ => []) := by
  obtain ⟨ka, kc, rfl, -⟩ := id hk
  have hk0 := hk
  have cm := made_ct n sv ops hs hE hg hl hKB
  have hN1 := madeN_1 n
  have hN2 := madeN_2 n
  have hmk := makeAll_calm (madeN n) ops (blank_calm (madeN n)) (Dsk.blank_ok _ hN1 (by omega))
  have hmu := makeAll_und (madeN n) ops (Dsk.blank (madeN n))
  obtain ⟨N, hNN⟩ : ∃ N, N = madeN n := ⟨_, rfl⟩
  rw [← hNN] at cm hN1 hN2 hmk hmu
  obtain ⟨D, hD⟩ : ∃ D, D = makeAll N ops (Dsk.blank N) := ⟨_, rfl⟩
  rw [← hD] at cm hmk hmu
  have hul : D.und.length < 1073741824 := by
    have h0 : (Dsk.blank N).und.length = 0 := rfl
    omega
  obtain ⟨hcalm, hDn, hok⟩ := hmk
  have hDn : D.n = N := hDn
  have hf := flushD_calm hcalm
  have hok1 := Dsk.flushD_ok hok
  have cf : ∀ p, Ct Tryd.prog W 24 [.pointer (some ⟨p, 0, none⟩)] [DiskP p D] (fun _ : Unit => errV E 0) (fun _ => [DiskP p D.flushD]) := fun p => (flush_ct hE.on hul).val fun _ => by rw [hf.2.2.1]
  obtain ⟨D1, hD1⟩ : ∃ D1, D1 = D.flushD := ⟨_, rfl⟩
  rw [← hD1] at cf hf hok1
  obtain ⟨hc1, hn1, -, hu1, -⟩ := hf
  have hn1 : D1.n = N := hn1.trans hDn
  have hlen := hok1.len
  rw [hn1] at hlen
  have cp : ∀ p, Ct Tryd.prog W 25 [.pointer (some ⟨p, 0, none⟩)] [DiskP p D1] (fun _ : Unit => .int .i64 0) (fun _ => [DiskP p D1]) := fun p => pending_ct.val fun _ => by rw [hu1]; rfl
  have ci : ∀ p, Ct Tryd.prog W 27 [.pointer (some ⟨p, 0, none⟩)] [DiskP p D1] (fun _ : Unit => strV D1.img) (fun _ => [DiskP p D1]) := fun p => image_ct
  obtain ⟨D2, hD2⟩ : ∃ D2, D2 = D1.crash kept torn bytes := ⟨_, rfl⟩
  have hi2 : D2.img = D1.img := by rw [hD2]; exact crash_clean D1 hu1 _ _ _
  have ci2 : ∀ p, Ct Tryd.prog W 27 [.pointer (some ⟨p, 0, none⟩)] [DiskP p D2] (fun _ : Unit => strV D1.img) (fun _ => [DiskP p D2]) := fun p => image_ct.val fun _ => by rw [hi2]
  have co2 : ∀ p, Ct Tryd.prog W 30 [.pointer (some ⟨p, 0, none⟩)] [DiskP p D2] (fun _ : Unit => .bool false) (fun _ => [DiskP p D2]) := fun p => off_ct.val fun _ => by rw [hD2]; rfl
  have cc : ∀ p g c, Ct Tryd.prog W 29 [.pointer (some ⟨p, 0, none⟩), .agg #[.slice (some ⟨g, 0, none⟩) kept.length c, .int .i64 torn, .int .i64 bytes]] [DiskP p D1, rowP (.slice (some ⟨g, 0, none⟩) (kept.length + 3) c) 4 1 (kept.length + 3) (kept.map .bool ++ [.bool true, .bool false, .bool true])] (fun _ : Unit => .tuple #[]) (fun _ => [DiskP p D2, rowP (.slice (some ⟨g, 0, none⟩) (kept.length + 3) c) 4 1 (kept.length + 3) (kept.map .bool ++ [.bool true, .bool false, .bool true])]) := fun p g c => by
    rw [hD2]; exact crash_row g c _ kept _ torn bytes rfl (by rw [hu1]; simp) (by omega)
  refine Ct.enter Tryd.func3 rfl Tryd.ntmps3 (by simp) (fun R => ?_)
  repeat' (first 
    | (refine is_list ?_; first | (refine KJ_plain ?_) | (refine KJ_nil ?_) | (refine KJ_guard_dec_t rfl rfl rfl (fun _ => ?_) (fun _ => ?_) <;> first | (exfalso; omega) | skip) | (refine KJ_guard_dec_f rfl rfl rfl (fun _ => ?_) (fun _ => ?_) <;> first | (exfalso; omega) | skip) | (refine KJ_guard_yes rfl rfl ?_) | (refine KJ_guard_no rfl rfl rfl rfl ?_))
    | (refine is_oper ?_; first | (refine is_store ?_; first | (refine KJ_store rfl rfl (by (repeat' (first | exact Sel.here | apply Sel.there)); first | done | fail) (by first | exact CellsOf.agg | exact CellsOf.one rfl) (by rfl) (by (repeat' (first | exact Ones.nil | exact Ones_bvs _ | refine Ones.cons rfl ?_)); first | done | fail) (by (repeat' (first | exact Laid.nil | apply Laid.cons | apply Laid.skip)); first | done | fail) (by (repeat' (first | exact Rep.here | apply Rep.there)); first | done | fail) ?_)) | (refine is_box ?_; first | (refine KJ_box rfl (by first | exact CellsOf.agg | exact CellsOf.one rfl) rfl (fun g5 => ?_)) | (refine KJ_box rfl (by first | exact CellsOf.agg | exact CellsOf.one rfl) rfl (fun _ => ?_))) | (refine is_call ?_; first | (refine KJ_call (by (repeat' (first | exact Evs.nil | refine Evs.cons rfl ?_)); first | done | fail) (cp _) (by (repeat' (first | exact Pick.nil | apply Pick.cons | exact Sel.here | apply Sel.there)); first | done | fail) rfl (fun _ => ?_)) | (refine KJ_call (by (repeat' (first | exact Evs.nil | refine Evs.cons rfl ?_)); first | done | fail) (cf _) (by (repeat' (first | exact Pick.nil | apply Pick.cons | exact Sel.here | apply Sel.there)); first | done | fail) rfl (fun _ => ?_)) | (refine KJ_call (by (repeat' (first | exact Evs.nil | refine Evs.cons rfl ?_)); first | done | fail) cm (by (repeat' (first | exact Pick.nil | apply Pick.cons | exact Sel.here | apply Sel.there)); first | done | fail) rfl (fun p => ?_)) | (refine KJ_call (by (repeat' (first | exact Evs.nil | refine Evs.cons rfl ?_)); first | done | fail) (lives06_ct hE hg) (by (repeat' (first | exact Pick.nil | apply Pick.cons | exact Sel.here | apply Sel.there)); first | done | fail) rfl (fun _ => ?_))) | (refine KJ_ek rfl ?_) | (refine KJ_ek0 ?_))
    | (refine is_ek ?_; first | (refine ek_move ?_; first | (refine EK_ev (Ev_move rfl) ?_)) | (refine ek_assign ?_; first | (refine EK_ev (Ev_assign rfl) ?_)) | (refine ek_pick ?_; first | (refine EK_ev (Ev_pick_t rfl rfl) ?_) | (refine EK_ev (Ev_pick_f rfl rfl) ?_)) | (refine ek_load ?_; first | (refine EK_ev (Ev_load rfl (by (repeat' (first | exact Sel.here | apply Sel.there)); first | done | fail) (by rfl)) ?_) | (refine EK_ev (Ev_loadOld rfl (by assumption)) ?_) | (refine EK_ev (Ev_loadAgg rfl (by (repeat' (first | exact Sel.here | apply Sel.there)); first | done | fail) (by (repeat' (first | exact Cut.nil | apply Cut.cons | apply Cut.skip)); first | done | fail)) ?_)) | (refine ek_un ?_; first | (refine EK_ev (Ev_notD rfl) ?_) | (refine EK_ev (Ev_not rfl) ?_) | (refine EK_ev (Ev_neg rfl) ?_)) | (refine ek_extract ?_; first | (refine EK_ev (Ev_extract rfl rfl) ?_)) | (refine ek_add ?_; first | (refine EK_ev (Ev_addI rfl rfl (by omega)) ?_) | (refine EK_ev (Ev_addS rfl rfl (by simp <;> omega)) ?_) | (refine EK_ev (Ev_add rfl rfl) ?_)) | (refine ek_eql ?_; first | (refine EK_ev (Ev_eqlI rfl rfl) ?_) | (refine EK_ev (Ev_eqlS rfl rfl) ?_) | (refine EK_ev (Ev_eqlNil rfl rfl) ?_) | (refine EK_ev (Ev_eqlB rfl rfl) ?_) | (refine EK_ev (Ev_eqlO rfl rfl rfl (fun _ => rfl)) ?_)) | (refine ek_neq ?_; first | (refine EK_ev (Ev_neqI rfl rfl) ?_) | (refine EK_ev (Ev_neqS rfl rfl) ?_) | (refine EK_ev (Ev_neqNil rfl rfl) ?_) | (refine EK_ev (Ev_neqB rfl rfl) ?_) | (refine EK_ev (Ev_neqO rfl rfl rfl (fun _ => rfl)) ?_)) | (refine ek_lss ?_; first | (refine EK_ev (Ev_lssI rfl rfl) ?_) | (refine EK_ev (Ev_lssS rfl rfl) ?_)))
    | (refine is_ex ?_; first | (refine KJ_seq_normal ?_) | (refine KJ_seq_ret ?_) | (refine KJ_seq_exit ?_) | (refine KJ_thn_normal ?_) | (refine KJ_thn_ret ?_) | (refine KJ_thn_exit ?_) | (refine KJ_blk_normal ?_) | (refine KJ_blk_ret ?_) | (refine KJ_blk_exit ?_) | (refine KJ_blk_exit' rfl ?_))
    | (refine is_code ?_; first | (refine KJ_seq ?_) | (refine KJ_region ?_) | (refine KJ_cond_dec rfl (fun _ => ?_) (fun _ => ?_) <;> first | (exfalso; omega) | skip) | (refine KJ_cond_t rfl ?_) | (refine KJ_cond_f rfl ?_) | (refine KJ_skip ?_) | (refine KJ_ret ?_) | (refine KJ_exit ?_) | (refine KJ_block ?_)))
  refine KJ_loop (fun i : {k : Nat // k ≤ N} => [(0, .int .i64 (N : Nat)), (5, .pointer (some ⟨g5, 0, none⟩)), (7, .pointer (some ⟨p, 0, none⟩)), (8, strV (D1.img.take (256 * i.1))), (9, .int .i64 (i.1 : Nat))])
    (fun i => [DiskP p D1, cellsP g5 [.slice ka kept.length kc, .int .i64 torn, .int .i64 bytes] 25] ++ R) (fun i => N - i.1) ⟨0, by omega⟩ (by (repeat' (first | exact Subs.nil | refine Subs.cons rfl ?_)); first | done | fail) (Ent.of (by (repeat' (first | exact Pick.nil | apply Pick.cons | exact Sel.here | apply Sel.there)); first | done | fail) (by (repeat' (first | exact DropTo.refl | apply DropTo.there)); first | done | fail)) (fun ⟨k, hk⟩ => ?_)
  dsimp only
  by_cases hlt : k < N
  · have hr := read_clean hc1 hu1 k (by omega)
    have cr : ∀ p, Ct Tryd.prog W 26 [.pointer (some ⟨p, 0, none⟩), .int .i64 (k : Nat)] [DiskP p D1] (fun _ : Unit => .tuple #[strV (cut D1.img (k * 256) 256), errV E 0]) (fun _ => [DiskP p D1]) := fun p => (read_ct hE.on (k : Nat)).val fun _ => by rw [hr.1, hr.2]
    have htc := take_cut D1.img k
    have hbd : (D1.img.take (256 * k)).length + (cut D1.img (k * 256) 256).length ≤ 9223372036854775807 := by
      rw [List.length_take, cut_length _ _ _ (by omega)]; omega
    have hs' : ∀ v, strV (D1.img.take (256 * k) ++ cut D1.img (k * 256) 256) = v → strV (D1.img.take (256 * (k + 1))) = v := fun v h => by rw [← htc]; exact h
    repeat' (first 
    | (refine is_list ?_; first | (refine KJ_plain ?_) | (refine KJ_nil ?_) | (refine KJ_guard_dec_t rfl rfl rfl (fun _ => ?_) (fun _ => ?_) <;> first | (exfalso; omega) | skip) | (refine KJ_guard_dec_f rfl rfl rfl (fun _ => ?_) (fun _ => ?_) <;> first | (exfalso; omega) | skip) | (refine KJ_guard_yes rfl rfl ?_) | (refine KJ_guard_no rfl rfl rfl rfl ?_))
    | (refine is_oper ?_; first | (refine is_store ?_; first | (refine KJ_store rfl rfl (by (repeat' (first | exact Sel.here | apply Sel.there)); first | done | fail) (by first | exact CellsOf.agg | exact CellsOf.one rfl) (by rfl) (by (repeat' (first | exact Ones.nil | exact Ones_bvs _ | refine Ones.cons rfl ?_)); first | done | fail) (by (repeat' (first | exact Laid.nil | apply Laid.cons | apply Laid.skip)); first | done | fail) (by (repeat' (first | exact Rep.here | apply Rep.there)); first | done | fail) ?_)) | (refine is_box ?_; first | (refine KJ_box rfl (by first | exact CellsOf.agg | exact CellsOf.one rfl) rfl (fun _ => ?_))) | (refine is_call ?_; first | (refine KJ_call (by (repeat' (first | exact Evs.nil | refine Evs.cons rfl ?_)); first | done | fail) (cr _) (by (repeat' (first | exact Pick.nil | apply Pick.cons | exact Sel.here | apply Sel.there)); first | done | fail) rfl (fun _ => ?_))) | (refine KJ_ek rfl ?_) | (refine KJ_ek0 ?_))
    | (refine is_ek ?_; first | (refine ek_move ?_; first | (refine EK_ev (Ev_move rfl) ?_)) | (refine ek_assign ?_; first | (refine EK_ev (Ev_assign rfl) ?_)) | (refine ek_pick ?_; first | (refine EK_ev (Ev_pick_t rfl rfl) ?_) | (refine EK_ev (Ev_pick_f rfl rfl) ?_)) | (refine ek_load ?_; first | (refine EK_ev (Ev_load rfl (by (repeat' (first | exact Sel.here | apply Sel.there)); first | done | fail) (by rfl)) ?_) | (refine EK_ev (Ev_loadOld rfl (by assumption)) ?_) | (refine EK_ev (Ev_loadAgg rfl (by (repeat' (first | exact Sel.here | apply Sel.there)); first | done | fail) (by (repeat' (first | exact Cut.nil | apply Cut.cons | apply Cut.skip)); first | done | fail)) ?_)) | (refine ek_un ?_; first | (refine EK_ev (Ev_notD rfl) ?_) | (refine EK_ev (Ev_not rfl) ?_) | (refine EK_ev (Ev_neg rfl) ?_)) | (refine ek_extract ?_; first | (refine EK_ev (Ev_extract rfl rfl) ?_)) | (refine ek_add ?_; first | (refine EK_ev (Ev_addS rfl rfl hbd) ?_) | (refine EK_ev (Ev_addI rfl rfl (by omega)) ?_) | (refine EK_ev (Ev_addS rfl rfl (by simp <;> omega)) ?_) | (refine EK_ev (Ev_add rfl rfl) ?_)) | (refine ek_eql ?_; first | (refine EK_ev (Ev_eqlI rfl rfl) ?_) | (refine EK_ev (Ev_eqlS rfl rfl) ?_) | (refine EK_ev (Ev_eqlNil rfl rfl) ?_) | (refine EK_ev (Ev_eqlB rfl rfl) ?_) | (refine EK_ev (Ev_eqlO rfl rfl rfl (fun _ => rfl)) ?_)) | (refine ek_neq ?_; first | (refine EK_ev (Ev_neqI rfl rfl) ?_) | (refine EK_ev (Ev_neqS rfl rfl) ?_) | (refine EK_ev (Ev_neqNil rfl rfl) ?_) | (refine EK_ev (Ev_neqB rfl rfl) ?_) | (refine EK_ev (Ev_neqO rfl rfl rfl (fun _ => rfl)) ?_)) | (refine ek_lss ?_; first | (refine EK_ev (Ev_lssI rfl rfl) ?_) | (refine EK_ev (Ev_lssS rfl rfl) ?_)))
    | (refine is_ex ?_; first | (refine KJ_seq_normal ?_) | (refine KJ_seq_ret ?_) | (refine KJ_seq_exit ?_) | (refine KJ_thn_normal ?_) | (refine KJ_thn_ret ?_) | (refine KJ_thn_exit ?_) | (refine KJ_blk_normal ?_) | (refine KJ_blk_ret ?_) | (refine KJ_blk_exit ?_) | (refine KJ_blk_exit' rfl ?_))
    | (refine is_code ?_; first | (refine KJ_seq ?_) | (refine KJ_region ?_) | (refine KJ_cond_dec rfl (fun _ => ?_) (fun _ => ?_) <;> first | (exfalso; omega) | skip) | (refine KJ_cond_t rfl ?_) | (refine KJ_cond_f rfl ?_) | (refine KJ_skip ?_) | (refine KJ_ret ?_) | (refine KJ_exit ?_) | (refine KJ_block ?_)))
    rw [htc]
    refine KJ_again ⟨k + 1, by omega⟩ (by show N - (k + 1) < N - k; omega) (by (repeat' (first | exact Subs.nil | refine Subs.cons rfl ?_)); first | done | fail) (Ent.of (by (repeat' (first | exact Pick.nil | apply Pick.cons | exact Sel.here | apply Sel.there)); first | done | fail) (by (repeat' (first | exact DropTo.refl | apply DropTo.there)); first | done | fail))
  · have hkN : k = N := by omega
    subst hkN
    rw [List.take_of_length_le (by omega)]
    repeat' (first 
    | (refine is_list ?_; first | (refine KJ_plain ?_) | (refine KJ_nil ?_) | (refine KJ_guard_dec_t rfl rfl rfl (fun _ => ?_) (fun _ => ?_) <;> first | (exfalso; omega) | skip) | (refine KJ_guard_dec_f rfl rfl rfl (fun _ => ?_) (fun _ => ?_) <;> first | (exfalso; omega) | skip) | (refine KJ_guard_yes rfl rfl ?_) | (refine KJ_guard_no rfl rfl rfl rfl ?_))
    | (refine is_oper ?_; first | (refine is_store ?_; first | (refine KJ_store rfl rfl (by (repeat' (first | exact Sel.here | apply Sel.there)); first | done | fail) (by first | exact CellsOf.agg | exact CellsOf.one rfl) (by rfl) (by (repeat' (first | exact Ones.nil | exact Ones_bvs _ | refine Ones.cons rfl ?_)); first | done | fail) (by (repeat' (first | exact Laid.nil | apply Laid.cons | apply Laid.skip)); first | done | fail) (by (repeat' (first | exact Rep.here | apply Rep.there)); first | done | fail) ?_)) | (refine is_box ?_; first | (refine KJ_box rfl (by first | exact CellsOf.agg | exact CellsOf.one rfl) rfl (fun _ => ?_))) | (refine is_call ?_; first | (refine KJ_call (by (repeat' (first | exact Evs.nil | refine Evs.cons rfl ?_)); first | done | fail) (spare_ct _ kept torn bytes hk0 hkl) (by (repeat' (first | exact Pick.nil | apply Pick.cons | exact Sel.here | apply Sel.there)); first | done | fail) rfl (fun x => ?_)) | (refine KJ_call (by (repeat' (first | exact Evs.nil | refine Evs.cons rfl ?_)); first | done | fail) (cc _ _ _) (by (repeat' (first | exact Pick.nil | apply Pick.cons | exact Sel.here | apply Sel.there)); first | done | fail) rfl (fun _ => ?_)) | (refine KJ_call (by (repeat' (first | exact Evs.nil | refine Evs.cons rfl ?_)); first | done | fail) (co2 _) (by (repeat' (first | exact Pick.nil | apply Pick.cons | exact Sel.here | apply Sel.there)); first | done | fail) rfl (fun _ => ?_)) | (refine KJ_call (by (repeat' (first | exact Evs.nil | refine Evs.cons rfl ?_)); first | done | fail) (ci2 _) (by (repeat' (first | exact Pick.nil | apply Pick.cons | exact Sel.here | apply Sel.there)); first | done | fail) rfl (fun _ => ?_)) | (refine KJ_call (by (repeat' (first | exact Evs.nil | refine Evs.cons rfl ?_)); first | done | fail) (ci _) (by (repeat' (first | exact Pick.nil | apply Pick.cons | exact Sel.here | apply Sel.there)); first | done | fail) rfl (fun _ => ?_))) | (refine KJ_ek rfl ?_) | (refine KJ_ek0 ?_))
    | (refine is_ek ?_; first | (refine ek_move ?_; first | (refine EK_ev (Ev_move rfl) ?_)) | (refine ek_assign ?_; first | (refine EK_ev (Ev_assign rfl) ?_)) | (refine ek_pick ?_; first | (refine EK_ev (Ev_pick_t rfl rfl) ?_) | (refine EK_ev (Ev_pick_f rfl rfl) ?_)) | (refine ek_load ?_; first | (refine EK_ev (Ev_load rfl (by (repeat' (first | exact Sel.here | apply Sel.there)); first | done | fail) (by rfl)) ?_) | (refine EK_ev (Ev_loadOld rfl (by assumption)) ?_) | (refine EK_ev (Ev_loadAgg rfl (by (repeat' (first | exact Sel.here | apply Sel.there)); first | done | fail) (by (repeat' (first | exact Cut.nil | apply Cut.cons | apply Cut.skip)); first | done | fail)) ?_)) | (refine ek_un ?_; first | (refine EK_ev (Ev_notD rfl) ?_) | (refine EK_ev (Ev_not rfl) ?_) | (refine EK_ev (Ev_neg rfl) ?_)) | (refine ek_extract ?_; first | (refine EK_ev (Ev_extract rfl rfl) ?_)) | (refine ek_add ?_; first | (refine EK_ev (Ev_addI rfl rfl (by omega)) ?_) | (refine EK_ev (Ev_addS rfl rfl (by simp <;> omega)) ?_) | (refine EK_ev (Ev_add rfl rfl) ?_)) | (refine ek_eql ?_; first | (refine EK_ev (Ev_eqlS_t rfl rfl rfl) ?_) | (refine EK_ev (Ev_eqlI rfl rfl) ?_) | (refine EK_ev (Ev_eqlS rfl rfl) ?_) | (refine EK_ev (Ev_eqlNil rfl rfl) ?_) | (refine EK_ev (Ev_eqlB rfl rfl) ?_) | (refine EK_ev (Ev_eqlO rfl rfl rfl (fun _ => rfl)) ?_)) | (refine ek_neq ?_; first | (refine EK_ev (Ev_neqS_f rfl rfl rfl) ?_) | (refine EK_ev (Ev_neqI rfl rfl) ?_) | (refine EK_ev (Ev_neqS rfl rfl) ?_) | (refine EK_ev (Ev_neqNil rfl rfl) ?_) | (refine EK_ev (Ev_neqB rfl rfl) ?_) | (refine EK_ev (Ev_neqO rfl rfl rfl (fun _ => rfl)) ?_)) | (refine ek_lss ?_; first | (refine EK_ev (Ev_lssI rfl rfl) ?_) | (refine EK_ev (Ev_lssS rfl rfl) ?_)))
    | (refine is_ex ?_; first | (refine KJ_seq_normal ?_) | (refine KJ_seq_ret ?_) | (refine KJ_seq_exit ?_) | (refine KJ_thn_normal ?_) | (refine KJ_thn_ret ?_) | (refine KJ_thn_exit ?_) | (refine KJ_blk_normal ?_) | (refine KJ_blk_ret ?_) | (refine KJ_blk_exit ?_) | (refine KJ_blk_exit' rfl ?_))
    | (refine is_code ?_; first | (refine KJ_seq ?_) | (refine KJ_region ?_) | (refine KJ_cond_dec rfl (fun _ => ?_) (fun _ => ?_) <;> first | (exfalso; omega) | skip) | (refine KJ_cond_t rfl ?_) | (refine KJ_cond_f rfl ?_) | (refine KJ_skip ?_) | (refine KJ_ret ?_) | (refine KJ_exit ?_) | (refine KJ_block ?_)))
    all_goals (refine is_ex ?_; exact KJ_done (by first | exact Or.inl rfl | exact Or.inr rfl) rfl (by (repeat' (first | exact Rvs.nil | (apply Rvs.tmp; exact rfl))); first | done | fail) () (by rfl) (Ent.of (by (repeat' (first | exact Pick.nil | apply Pick.cons | exact Sel.here | apply Sel.there)); first | done | fail) (by (repeat' (first | exact DropTo.refl | apply DropTo.there)); first | done | fail)))
end Go.Proofs.YteklldbfdmaafaaDoor
