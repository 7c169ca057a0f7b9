/-
  BgR, BgP, BgW, BgV.
-/
import Derived.Test.YtdbfemdpdpaffaaGreatDoorPBD
import Derived.Test.YtdbfemdpdpaffaaGreatDoorPAR
import Derived.Test.YtdbfemdpdpaffaaGreatDoorPAX
import Derived.Laws.Externs
import Derived.Laws.Twins
import Derived.Laws.MakeOwn
import Derived.Laws.IdiomCopy
import Derived.Lib.Builder
import Derived.Shelf.Spec.BitsCarry
/-
  What math/big needs of the walk: entries of the model's own, twins, make with spare room, a copy of one cell.
-/
namespace Go.Proofs.YtdbfemdpdpaffaaGreatDoor
open Go Go.RowKit
section
variable {P : Program} {W : World} {n d : Nat} {E : Env} {H H' R : List SP} {k : KK} {x y z : Operand} {t u e T : TypeId} {b off c m : Nat} {X : Type}
/-- a call that the model answers by an entry of its own -/
theorem KJ_ext {f : FuncId} {fn : Func} {en : Array Value → Sem Value} {xs : List Operand} {ts : Array TypeId} {vs : List Value} {v : Value} (hf : P.funcs[f]? = some fn) (h1 : (fn.name == "runtime.NumGoroutine") = false) (h2 : fn.body.isNone = true) (h3 : Extern.findNext fn = none) (h4 : Extern.find fn = some en)
    (hx : Evs E xs vs) (he : ∀ w, (en vs.toArray).run P w = .ok v w) (hn : Nat.blt d n = true) (h : KJ W n k ((d, v) :: E) H) : KJ W n (.oper P (.call { callee := .value (.func f), args := xs.toArray, argTypes := ts }) (some d) k) E H :=
  KJ_ev (Ev.mk fun o ho a w p _ => by
    have e0 : a.eval (.func f) = .func (.func f) #[] #[] := rfl
    have hc := run_callFunc_extern hf h1 h2 h3 h4 vs.toArray w
    rw [he] at hc
    have hv := p.evs hx
    simp [execOp, ho, resolve, e0, Deferred.ofValue, invoke, hv, hc, Result.andThen]) hn h
/-- a function whose call enters its twin -/
class TwIs (P : Program) (f : FuncId) (g : outParam FuncId) : Prop where h : ∀ args w, (callFunc f args).run P w = .ok (.enter g args) w
theorem KJ_callT' {dd : Option Tmp} {f g : FuncId} {xs : List Operand} {ts : Array TypeId} {vs : List Value} {Hpre : List SP} {r : X → Value} {Hp : X → List SP} [tw : TwIs P f g] (hx : Evs E xs vs)
    (hc : Ct P W g vs Hpre r Hp) (hp : Pick Hpre H R) (hn : dstOk n dd = true) (h : ∀ c, KJ W n k (Env.put E dd (r c)) (Hp c ++ R)) : KJ W n (.oper P (.call { callee := .value (.func f), args := xs.toArray, argTypes := ts }) dd k) E H := by
  refine ⟨fun a w p s o ho hd => ?_⟩
  subst hd
  show uponP P o a _ ((execOp a.eval o).run P w)
  have e0 : a.eval (.func f) = .func (.func f) #[] #[] := rfl
  have hv := p.evs hx
  have hq := tw.h vs.toArray w
  have hrun : (execOp a.eval o).run P w = .ok (.enter g vs.toArray) w := by
    simp [execOp, ho, resolve, e0, Deferred.ofValue, invoke, hv, hq, Result.andThen]
  rw [hrun]
  refine (hc.go (R ++ dm a.defers) w (s.perm ((hp.perm.append_right _).trans (by rw [List.append_assoc])))).mono ?_
  rintro e w' ⟨c, rfl, s⟩
  refine ⟨_, rfl, (h c).go _ w' (p.put hn _) ?_⟩
  show St W (_ ++ dm (a.put o.dst _).defers) w'
  rw [put_defers, List.append_assoc]; exact s
theorem KJ_callT {f g : FuncId} {xs : List Operand} {ts : Array TypeId} {vs : List Value} {Hpre : List SP} {r : X → Value} {Hp : X → List SP} [tw : TwIs P f g] (hx : Evs E xs vs)
    (hc : Ct P W g vs Hpre r Hp) (hp : Pick Hpre H R) (hn : Nat.blt d n = true) (h : ∀ c, KJ W n k ((d, r c) :: E) (Hp c ++ R)) : KJ W n (.oper P (.call { callee := .value (.func f), args := xs.toArray, argTypes := ts }) (some d) k) E H :=
  KJ_callT' hx hc hp hn h
/-- make with spare room, of one-cell elements -/
theorem KJ_makeNC {v : Value} {bytes l : Nat} {A B : Int} (hx : Env.ev E x = some (.int .i64 A)) (hy : Env.ev E y = some (.int .i64 B)) [hu : UIs P t (.slice e)] [hs : SzIs P e 1] [hb : ByIs P e bytes] [hz : ZcIs P e [v]] (hA : A = (l : Int)) (hB : B = (c : Int)) (hlc : l ≤ c) (hbc : bytes * c ≤ 281474976710656) (h63 : c ≤ 9223372036854775807) (hn : Nat.blt d n = true)
    (h : ∀ g, KJ W n k ((d, .slice (some ⟨g, 0, none⟩) l c) :: E) (cellsP g (List.replicate c v) e :: H)) : KJ W n (.oper P (.makeSlice t x y) (some d) k) E H := by
  refine ⟨fun a w p s o ho hd => ?_⟩
  have hz := hz.h
  have hs := hs.h
  have hb := hb.h
  cases hq : P.info? e with
  | none => simp [hq] at hz
  | some i =>
    simp [hq] at hz hs hb
    obtain ⟨zv, hz1, hz2⟩ := hz
    have hr := run_make (P := P) w t e i zv hu.h hq hz1 .i64 .i64 (l : Int) (c : Int) (by omega) (by omega) (by rw [hb, ← Int.natCast_mul]; omega) (by omega)
    have hrep : madeCells zv.cells (c * i.size) = (List.replicate c v).toArray := by
      apply Array.ext'
      rw [hz2, hs, Nat.mul_one]
      show (madeCells #[v] c).toList = _
      apply List.ext_getElem
      · simp [madeCells]
      · intro i h1 h2
        simp [madeCells, Nat.mod_one]
    rw [Int.toNat_natCast, Int.toNat_natCast, hrep] at hr
    show uponP P o a _ ((execOp a.eval o).run P w)
    have hrun : (execOp a.eval o).run P w = .ok (.value (.slice (some ⟨w.heap.size, 0, none⟩) l c)) (w.alloc (.cells (List.replicate c v).toArray e)) := by
      simp only [execOp, ho, p.ev hx, p.ev hy, hA, hB, Sem.run_bind, hr, Result.andThen_ok, Sem.run_pure]
    rw [hrun]
    have := (h w.heap.size).go _ _ (p.put (d := some d) hn _) (St.new (cs := List.replicate c v) (T := e) s)
    rw [← hd] at this
    exact this
/-- copy(dst, src), one cell -/
theorem KJ_copy1 {v : Value} {dT sT T2 : TypeId} {c2 b2 off2 : Nat} {cs cs2 : List Value} (hx : Env.ev E x = some (.slice (some ⟨b, off, none⟩) 1 c)) (hy : Env.ev E y = some (.slice (some ⟨b2, off2, none⟩) 1 c2)) [hu : UIs P dT (.slice e)] [hi : SzIs P e 1] (hs2 : Sel (cellsP b2 cs2 T2) H R) (hv : cs2[off2]? = some v) (h1 : v.oneCell' = true)
    {H0 : List SP} (hs : Sel (cellsP b cs T) H H0) (hfit : off + 1 ≤ cs.length) (hr : Rep (cellsP b cs T) (cellsP b (lay cs off [v]) T) H H') (hn : Nat.blt d n = true) (h : KJ W n k ((d, .int .i64 1) :: E) H') :
    KJ W n (.oper P (.call { callee := .builtin .copy, args := #[x, y], argTypes := #[dT, sT] }) (some d) k) E H := by
  refine ⟨fun a w p s o ho hd => ?_⟩
  have hb := (s.left.blk hs).2
  have hb2 := (s.left.blk hs2).2
  have hst := run_storeCells_at P b off T [v] 0 cs.toArray w hb (by simpa using hfit) (by simpa using h1)
  have hsrc : ∀ j q, [v][j]? = some q → w.cell? ((⟨b2, off2, none⟩ : Addr).add j) = some q := by
    intro j q hq
    match j with
    | 0 =>
      cases hq
      rw [Addr.add_mid, Nat.add_zero, hb2.cell]
      exact hv
    | j + 1 => cases hq
  have hl := run_loadCells_list (P := P) w ⟨b2, off2, none⟩ [v] hsrc
  have hrun' : (Builtin.copy_ #[dT, sT] o.type #[.slice (some ⟨b, off, none⟩) 1 c, .slice (some ⟨b2, off2, none⟩) 1 c2]).run P w = .ok (goInt 1) (w.setRow b (lay cs off [v]).toArray) := by
    have hi := hi.h
    cases hq : P.info? e with
    | none => simp [hq] at hi
    | some i =>
      have hi' : i.size = 1 := by simpa [hq] using hi
      have hl' : (loadCells (⟨b2, off2, none⟩ : Addr) 1).run P w = .ok #[v] w := by simpa using hl
      simp only [Nat.add_zero] at hst
      simp [Builtin.copy_, run_underlying hu.h, Builtin.lenOf, Builtin.firstCells, sizeOf, typeInfo, hq, hi', hl', hst, lay, Result.andThen]
  show uponP P o a _ ((execOp a.eval o).run P w)
  have e2 : (execOp a.eval o).run P w = .ok (.value (goInt 1)) (w.setRow b (lay cs off [v]).toArray) := by
    simp [execOp, ho, resolve, invoke, builtin, p.ev hx, p.ev hy, hrun', Result.andThen]
  rw [e2]
  have := h.go _ _ (p.put (d := some d) hn (goInt 1)) (s.setRow (hr.app _))
  rw [← hd] at this
  exact this
theorem Ev_cap_slice {ad : Option Addr} {m c : Nat} (hx : Env.ev E x = some (.slice ad m c)) [hu : UIs P t (.slice e)] : Ev P W n E H (.call { callee := .builtin .cap, args := #[x], argTypes := #[t] }) (.int .i64 c) :=
  Ev.mk fun o ho a w p _ => by simp [execOp, ho, resolve, invoke, builtin, p.ev hx, Builtin.cap_, run_underlying hu.h, goInt]
/-- a pointer against itself -/
theorem Ev_neqSameP {a : Addr} {z : Nat} (hx : Env.ev E x = some (.pointer (some a))) (hy : Env.ev E y = some (.pointer (some a))) [hu : UIs P t (.pointer u)] [hz : SzIs P u z] {v : TypeId} (hg : ∀ w, (eqGuard .neq t x y (.pointer (some a)) (.pointer (some a))).run P w = .ok () w) : Ev P W n E H (.binOp .neq t x y v) (.bool false) :=
  Ev_bin hx hy hg fun w => by
    have hz := hz.h
    cases hq : P.info? u with
    | none => simp [hq] at hz
    | some j => exact Lib.run_neq_ptr_same w a hu.h hq
theorem Ev_slice0 {j s : Nat} {ki kj : IntKind} (hx : Env.ev E x = some (.slice (some ⟨b, off, none⟩) m c)) (hy : Env.ev E y = some (.int ki 0)) (hz : Env.ev E z = some (.int kj (j : Nat))) [hu : UIs P t (.slice e)] [hi : SzIs P e s] (hb : j ≤ c) (hc : 0 < c) : Ev P W n E H (.slice t x (some y) (some z) none) (.slice (some ⟨b, off, none⟩) j c) := by
  have := Ev_slice (P := P) (W := W) (n := n) (H := H) hx hy hz (hu := hu) (hi := hi) (by omega)
  simpa using this
theorem Ev_slice12 {ki kj : IntKind} (hx : Env.ev E x = some (.slice (some ⟨b, 0, none⟩) m c)) (hy : Env.ev E y = some (.int ki 1)) (hz : Env.ev E z = some (.int kj 2)) [hu : UIs P t (.slice e)] [hi : SzIs P e 1] (hc : 2 ≤ c) : Ev P W n E H (.slice t x (some y) (some z) none) (.slice (some ⟨b, 1, none⟩) 1 (c - 1)) := by
  have := Ev_slice (P := P) (W := W) (n := n) (H := H) hx hy hz (hu := hu) (hi := hi) (by omega)
  simpa using this
theorem Ev_slice1f {ki : IntKind} (hx : Env.ev E x = some (.slice (some ⟨b, 0, none⟩) 2 c)) (hy : Env.ev E y = some (.int ki 1)) [hu : UIs P t (.slice e)] [hi : SzIs P e 1] (hc : 2 ≤ c) : Ev P W n E H (.slice t x (some y) none none) (.slice (some ⟨b, 1, none⟩) 1 (c - 1)) := by
  have := Ev_sliceFrom (P := P) (W := W) (n := n) (H := H) hx hy (hu := hu) (hi := hi) (by omega)
  simpa using this
theorem Ev_pick_tv {c x y : Operand} {v v' : Value} (hc : Env.ev E c = some (.bool true)) (hx : Env.ev E x = some v) (h : v = v') : Ev P W n E H (.pick c x y) v' := by subst h; exact Ev_pick_t hc hx
theorem Ev_pick_fv {c x y : Operand} {v v' : Value} (hc : Env.ev E c = some (.bool false)) (hy : Env.ev E y = some v) (h : v = v') : Ev P W n E H (.pick c x y) v' := by subst h; exact Ev_pick_f hc hy
theorem Ct.mapX {Y : Type} {f : FuncId} {vs : List Value} {A A' : List SP} {r : X → Value} {r' : Y → Value} {Hp : X → List SP} {Hp' : Y → List SP} (h : Ct P W f vs A r Hp) (hpre : ∀ M g, starL (A' ++ M) g → starL (A ++ M) g) (q : X → Y) (hr : ∀ x, r x = r' (q x)) (hpost : ∀ x M g, starL (Hp x ++ M) g → starL (Hp' (q x) ++ M) g) : Ct P W f vs A' r' Hp' :=
  ⟨fun M w s => (h.go M w (s.mono (hpre M))).mono fun e w' ⟨x, he, s⟩ => ⟨q x, by rw [he, hr], s.mono (hpost x M)⟩⟩
/-- some claims as one -/
def bagP (key : Nat) (L : List SP) : SP := ⟨52, key, fun h => starL L h⟩
theorem bag_open {L H : List SP} {key : Nat} {g : Hl} (q : starL (bagP key L :: H) g) : starL (L ++ H) g := by
  obtain ⟨h1, h2, d, l1, l2, s1, s2⟩ := q
  exact (starL_append g).2 ⟨h1, h2, d, l1, l2, s1, s2⟩
theorem bag_shut {L H : List SP} {key : Nat} {g : Hl} (q : starL (L ++ H) g) : starL (bagP key L :: H) g := by
  obtain ⟨h1, h2, d, l1, l2, s1, s2⟩ := (starL_append g).1 q
  exact ⟨h1, h2, d, l1, l2, s1, s2⟩
theorem KJ.bagShut {L : List SP} (key : Nat) (p : Pick L H R) (h : KJ W n k E (bagP key L :: R)) : KJ W n k E H :=
  ⟨fun a w q s => h.go a w q ((s.perm (p.perm.append_right _)).mono fun g hg => by
    rw [List.append_assoc] at hg
    exact bag_shut hg)⟩
end
end Go.Proofs.YtdbfemdpdpaffaaGreatDoor
/-
  math/big as plain data: numbers of at most two words, in a block of one word or of six.
-/
namespace Go.Proofs.YtdbfemdpdpaffaaGreatDoor
open Go Go.RowKit
def wv (x : Nat) : Value := .int .u64 (x : Nat)
structure NSt where
  o : Option (Nat × List Nat)
  n : Nat
def NSt.v (z : NSt) : Value := .slice (z.o.map fun q => ⟨q.1, 0, none⟩) z.n (z.o.elim 0 fun q => q.2.length)
def NSt.cl (T : TypeId) (z : NSt) : List SP := z.o.elim [] fun q => [cellsP q.1 (q.2.map wv) T]
def mag : List Nat → Nat → Nat
  | w0 :: _, 1 => w0
  | w0 :: w1 :: _, 2 => w0 + 18446744073709551616 * w1
  | _, _ => 0
def NSt.m (z : NSt) : Nat := z.o.elim 0 fun q => mag q.2 z.n
/-- a normal number -/
inductive NOk : NSt → Prop
  | no : NOk ⟨none, 0⟩
  | z1 {g w} : w < 18446744073709551616 → NOk ⟨some (g, [w]), 0⟩
  | o1 {g w} : w < 18446744073709551616 → w ≠ 0 → NOk ⟨some (g, [w]), 1⟩
  | z6 {g w0 w1 w2 t} : t.length = 3 → w0 < 18446744073709551616 → NOk ⟨some (g, w0 :: w1 :: w2 :: t), 0⟩
  | o6 {g w0 w1 w2 t} : t.length = 3 → w0 < 18446744073709551616 → w0 ≠ 0 → NOk ⟨some (g, w0 :: w1 :: w2 :: t), 1⟩
  | t6 {g w0 w1 w2 t} : t.length = 3 → w0 < 18446744073709551616 → w1 < 18446744073709551616 → w1 ≠ 0 → NOk ⟨some (g, w0 :: w1 :: w2 :: t), 2⟩
theorem NSt.m_on (g : Nat) (ws : List Nat) (n : Nat) : NSt.m ⟨some (g, ws), n⟩ = mag ws n := rfl
theorem mag_zero : ∀ (ws : List Nat), mag ws 0 = 0
  | [] => rfl
  | [_] => rfl
  | _ :: _ :: _ => rfl
theorem mag_one (w : Nat) : ∀ (t : List Nat), mag (w :: t) 1 = w
  | [] => rfl
  | _ :: _ => rfl
theorem mag_two (w0 w1 : Nat) (t : List Nat) : mag (w0 :: w1 :: t) 2 = w0 + 18446744073709551616 * w1 := rfl
theorem NOk.pos {z : NSt} (h : NOk z) : z.n = 0 ↔ z.m = 0 := by
  cases h with
  | no => exact ⟨fun _ => rfl, fun _ => rfl⟩
  | z1 _ => rw [NSt.m_on, mag_zero]
  | o1 _ h => rw [NSt.m_on, mag_one]; exact ⟨fun q => (Nat.one_ne_zero q).elim, fun q => (h q).elim⟩
  | z6 _ _ => rw [NSt.m_on, mag_zero]
  | o6 _ _ h => rw [NSt.m_on, mag_one]; exact ⟨fun q => (Nat.one_ne_zero q).elim, fun q => (h q).elim⟩
  | t6 _ _ _ h =>
    rw [NSt.m_on, mag_two]
    exact ⟨fun q => (Nat.succ_ne_zero 1 q).elim, fun q => (h (by omega)).elim⟩
/-- leading words that are 0 don't count -/
def nrm (ws : List Nat) : Nat → Nat
  | 0 => 0
  | k + 1 => if ws[k]? = some 0 then nrm ws k else k + 1
theorem nrm_z {ws : List Nat} {k : Nat} (h : ws[k]? = some 0) : nrm ws (k + 1) = nrm ws k := if_pos h
theorem nrm_s {ws : List Nat} {k : Nat} (h : ws[k]? ≠ some 0) : nrm ws (k + 1) = k + 1 := if_neg h
end Go.Proofs.YtdbfemdpdpaffaaGreatDoor
/-
  math/big: the words' functions.
-/
namespace Go.Proofs.YtdbfemdpdpaffaaGreatDoor
open Go Go.RowKit
instance : FnIs Tryz.prog 45 := ⟨by kernel_rfl⟩
instance : FnIs Tryz.prog 46 := ⟨by kernel_rfl⟩
instance : FnIs Tryz.prog 50 := ⟨by kernel_rfl⟩
instance : FnIs Tryz.prog 73 := ⟨by kernel_rfl⟩
instance : FnIs Tryz.prog 74 := ⟨by kernel_rfl⟩
instance : FnIs Tryz.prog 79 := ⟨by kernel_rfl⟩
instance : FnIs Tryz.prog 80 := ⟨by kernel_rfl⟩
instance : FnIs Tryz.prog 81 := ⟨by kernel_rfl⟩
instance : FnIs Tryz.prog 106 := ⟨by kernel_rfl⟩
instance : FnIs Tryz.prog 107 := ⟨by kernel_rfl⟩
instance : FnIs Tryz.prog 109 := ⟨by kernel_rfl⟩
instance : FnIs Tryz.prog 110 := ⟨by kernel_rfl⟩
instance : FnIs Tryz.prog 111 := ⟨by kernel_rfl⟩
instance : FnIs Tryz.prog 113 := ⟨by kernel_rfl⟩
instance : FnIs Tryz.prog 114 := ⟨by kernel_rfl⟩
section
variable {W : World}
theorem add_run {P : Program} (x y c : Nat) (hc : c ≤ 1) (w : World) : (add64Entry [wv x, wv y, wv c].toArray).run P w = .ok (.tuple #[wv ((x + y + c) % 18446744073709551616), wv ((x + y + c) / 18446744073709551616)]) w := by
  show (add64Entry #[.int .u64 (x : Int), .int .u64 (y : Int), .int .u64 (c : Int)]).run P w = _
  rw [run_add64 x y c (by omega) (by omega) (by omega) (by omega)]
  unfold wv
  congr 4 <;> omega
theorem sub_run {P : Program} (x y b : Nat) (hb : b ≤ 1) (w : World) : (sub64Entry [wv x, wv y, wv b].toArray).run P w = .ok (.tuple #[wv ((x + 18446744073709551616 - y - b) % 18446744073709551616), wv (if x < y + b then 1 else 0)]) w := run_sub64 x y b hb w
theorem bitsAdd_ct (x y c : Nat) (hc : c ≤ 1) : Ct Tryz.prog W 111 [wv x, wv y, wv c] [] (fun _ : Unit => .tuple #[wv ((x + y + c) % 18446744073709551616), wv ((x + y + c) / 18446744073709551616)]) (fun _ => []) := by
  refine Ct.enter Tryz.func111 rfl Tryz.ntmps111 (by simp) (fun R => ?_)
  repeat' (first 
    | (refine is_call ?_; refine KJ_ext Tryz.func125 (by kernel_rfl) (by kernel_rfl) (by kernel_rfl) (en := add64Entry) (by kernel_rfl) xE (fun w => add_run x y c hc w) rfl ?_)
    | refine xst ?_
    | (refine xsa ?_; intro _)
    | (refine xsb ?_ ?_ <;> intro _ <;> first | (exfalso; omega) | skip)
    | refine xsc ?_
    | fail)
  all_goals (exact xdn ())
theorem bitsSub_ct (x y b : Nat) (hb : b ≤ 1) : Ct Tryz.prog W 114 [wv x, wv y, wv b] [] (fun _ : Unit => .tuple #[wv ((x + 18446744073709551616 - y - b) % 18446744073709551616), wv (if x < y + b then 1 else 0)]) (fun _ => []) := by
  refine Ct.enter Tryz.func114 rfl Tryz.ntmps114 (by simp) (fun R => ?_)
  repeat' (first 
    | (refine is_call ?_; refine KJ_ext Tryz.func127 (by kernel_rfl) (by kernel_rfl) (by kernel_rfl) (en := sub64Entry) (by kernel_rfl) xE (fun w => sub_run x y b hb w) rfl ?_)
    | refine xst ?_
    | (refine xsa ?_; intro _)
    | (refine xsb ?_ ?_ <;> intro _ <;> first | (exfalso; omega) | skip)
    | refine xsc ?_
    | fail)
  all_goals (exact xdn ())
instance : TwIs Tryz.prog 108 73 := ⟨fun args w => run_callFunc_twin (twin := "math/big.addVV_g") Tryz.func108 (by kernel_rfl) (by kernel_rfl) (by kernel_rfl) (by kernel_rfl) Tryz.func73 (by kernel_rfl) (by kernel_rfl) (by kernel_rfl) args w⟩
instance : TwIs Tryz.prog 112 74 := ⟨fun args w => run_callFunc_twin (twin := "math/big.subVV_g") Tryz.func112 (by kernel_rfl) (by kernel_rfl) (by kernel_rfl) (by kernel_rfl) Tryz.func74 (by kernel_rfl) (by kernel_rfl) (by kernel_rfl) args w⟩
end
end Go.Proofs.YtdbfemdpdpaffaaGreatDoor
/-
  math/big: make, set, norm and the loops over words (printed by genbgv.py).
-/
namespace Go.Proofs.YtdbfemdpdpaffaaGreatDoor
open Go Go.RowKit
section
variable {W : World}
theorem nmake_in {g m c : Nat} (k : Nat) (h : k ≤ c) : Ct Tryz.prog W 107 [.slice (some ⟨g, 0, none⟩) m c, .int .i64 (k : Nat)] [] (fun _ : Unit => .slice (some ⟨g, 0, none⟩) k c) (fun _ => []) := by
  have ql : decide (((k : Nat) : Int) ≤ ((c : Nat) : Int)) = true := decide_eq_true (by omega)
  refine Ct.enter Tryz.func107 rfl Tryz.ntmps107 (by simp) (fun R => ?_)
  repeat' (first 
    | (refine ek_slice ?_; refine EK_ev (Ev_sliceToG rfl rfl (by omega)) ?_)
    | (refine ek_cap ?_; refine EK_ev (Ev_cap_slice rfl) ?_)
    | (refine ek_leq ?_; refine EK_ev (Ev_leqI_q rfl rfl ql) ?_)
    | refine xst ?_
    | (refine xsa ?_; intro _)
    | (refine xsb ?_ ?_ <;> intro _ <;> first | (exfalso; omega) | skip)
    | refine xsc ?_
    | fail)
  all_goals (exact xdn ())

theorem nmake_no : Ct Tryz.prog W 107 [.slice none 0 0, .int .i64 1] [] (fun g : Nat => .slice (some ⟨g, 0, none⟩) 1 1) (fun g => [cellsP g [wv 0] 127]) := by
  refine Ct.enter Tryz.func107 rfl Tryz.ntmps107 (by simp) (fun R => ?_)
  repeat' (first 
    | (refine is_mkSlice ?_; refine KJ_makeNC (l := 1) (c := 1) (v := wv 0) rfl rfl rfl rfl (by omega) (by omega) (by omega) rfl (fun g => ?_))
    | (refine ek_cap ?_; refine EK_ev (Ev_cap_slice rfl) ?_)
    | refine xst ?_
    | (refine xsa ?_; intro _)
    | (refine xsb ?_ ?_ <;> intro _ <;> first | (exfalso; omega) | skip)
    | refine xsc ?_
    | fail)
  all_goals (exact xdn g)

theorem nmake_new {g m : Nat} : Ct Tryz.prog W 107 [.slice (some ⟨g, 0, none⟩) m 1, .int .i64 2] [] (fun g : Nat => .slice (some ⟨g, 0, none⟩) 2 6) (fun g => [cellsP g [wv 0, wv 0, wv 0, wv 0, wv 0, wv 0] 127]) := by
  refine Ct.enter Tryz.func107 rfl Tryz.ntmps107 (by simp) (fun R => ?_)
  repeat' (first 
    | (refine is_mkSlice ?_; refine KJ_makeNC (l := 2) (c := 6) (v := wv 0) rfl rfl rfl rfl (by omega) (by omega) (by omega) rfl (fun g => ?_))
    | (refine ek_cap ?_; refine EK_ev (Ev_cap_slice rfl) ?_)
    | refine xst ?_
    | (refine xsa ?_; intro _)
    | (refine xsb ?_ ?_ <;> intro _ <;> first | (exfalso; omega) | skip)
    | refine xsc ?_
    | fail)
  all_goals (exact xdn g)

theorem nset_in {g m c h a y : Nat} {t : List Value} (hc : 1 ≤ c) : Ct Tryz.prog W 106 [.slice (some ⟨g, 0, none⟩) m c, .slice (some ⟨h, 0, none⟩) 1 1] [cellsP g (wv a :: t) 127, cellsP h [wv y] 127] (fun _ : Unit => .slice (some ⟨g, 0, none⟩) 1 c) (fun _ => [cellsP g (wv y :: t) 127, cellsP h [wv y] 127]) := by
  have cm := nmake_in (W := W) (g := g) (m := m) 1 hc
  refine Ct.enter Tryz.func106 rfl Tryz.ntmps106 (by simp) (fun R => ?_)
  repeat' (first 
    | (refine is_call ?_; refine KJ_call xE cm xP rfl (fun _ => ?_))
    | (refine is_copy ?_; refine KJ_copy1 rfl rfl xS rfl rfl xS (by simp) xR rfl ?_)
    | refine xst ?_
    | (refine xsa ?_; intro _)
    | (refine xsb ?_ ?_ <;> intro _ <;> first | (exfalso; omega) | skip)
    | refine xsc ?_
    | fail)
  all_goals (exact xdn ())

theorem nset_no {h y : Nat} : Ct Tryz.prog W 106 [.slice none 0 0, .slice (some ⟨h, 0, none⟩) 1 1] [cellsP h [wv y] 127] (fun g : Nat => .slice (some ⟨g, 0, none⟩) 1 1) (fun g => [cellsP g [wv y] 127, cellsP h [wv y] 127]) := by
  have cm := nmake_no (W := W)
  refine Ct.enter Tryz.func106 rfl Tryz.ntmps106 (by simp) (fun R => ?_)
  repeat' (first 
    | (refine is_call ?_; refine KJ_call xE cm xP rfl (fun g => ?_))
    | (refine is_copy ?_; refine KJ_copy1 rfl rfl xS rfl rfl xS (by simp) xR rfl ?_)
    | refine xst ?_
    | (refine xsa ?_; intro _)
    | (refine xsb ?_ ?_ <;> intro _ <;> first | (exfalso; omega) | skip)
    | refine xsc ?_
    | fail)
  all_goals (exact xdn g)

theorem nnorm_ct {g c k : Nat} (ws : List Nat) (hk : k ≤ ws.length) (hc : ws.length ≤ c) (h1 : 1 ≤ c) (h1k : c ≤ 1000) : Ct Tryz.prog W 110 [.slice (some ⟨g, 0, none⟩) k c] [cellsP g (ws.map wv) 127] (fun _ : Unit => .slice (some ⟨g, 0, none⟩) (nrm ws k) c) (fun _ => [cellsP g (ws.map wv) 127]) := by
  obtain ⟨r, hr⟩ : ∃ r, r = nrm ws k := ⟨_, rfl⟩
  rw [← hr]
  refine Ct.enter Tryz.func110 rfl Tryz.ntmps110 (by simp) (fun R => ?_)
  repeat' (first 
    | refine xst ?_
    | (refine xsa ?_; intro _)
    | (refine xsb ?_ ?_ <;> intro _ <;> first | (exfalso; omega) | skip)
    | refine xsc ?_
    | fail)
  refine KJ_loop (fun i : {i : Nat // i ≤ k ∧ nrm ws i = r} => [(0, .slice (some ⟨g, 0, none⟩) k c), (3, .int .i64 (i.1 : Nat))]) (fun _ => [cellsP g (ws.map wv) 127] ++ R) (fun i => i.1) ⟨k, Nat.le_refl _, hr.symm⟩ xB (xN) (fun ⟨i, hi, hn⟩ => ?_)
  dsimp only
  match i, hi, hn with
  | 0, hi, hn =>
    have hn : 0 = r := hn
    subst hn
    repeat' (first 
    | (refine ek_slice ?_; refine EK_ev (Ev_slice0 rfl rfl rfl (by omega) (by omega)) ?_)
    | refine xst ?_
    | (refine xsa ?_; intro _)
    | (refine xsb ?_ ?_ <;> intro _ <;> first | (exfalso; omega) | skip)
    | refine xsc ?_
    | fail)
    all_goals (exact xdn ())
  | i + 1, hi, hn =>
    have q0 : decide ((0 : Int) < ((i + 1 : Nat) : Int)) = true := decide_eq_true (by omega)
    have hlt : i < ws.length := by omega
    obtain ⟨x, hx⟩ : ∃ x, ws[i]? = some x := ⟨_, List.getElem?_eq_getElem hlt⟩
    have hx' : (ws.map wv)[i]? = some (wv x) := by rw [List.getElem?_map, hx]; rfl
    have e1 : (((i + 1 : Nat) : Int) - 1) = ((i : Nat) : Int) := by omega
    by_cases h0 : x = 0
    · subst h0
      have hn' : nrm ws i = r := by rw [← hn, nrm_z hx]
      have qe : decide (((0 : Nat) : Int) = 0) = true := rfl
      repeat' (first 
    | (refine ek_load ?_; refine EK_ev (Ev_load rfl xS (by first | exact hx' | (simpa using hx'))) ?_)
    | (refine ek_sub ?_; refine EK_ev (Ev_subI_v rfl rfl e1 (by omega)) ?_)
    | (refine ek_eql ?_; refine EK_ev (Ev_eqlI_q rfl rfl qe) ?_)
    | (refine ek_gtr ?_; refine EK_ev (Ev_gtrI_q rfl rfl q0) ?_)
    | refine xst ?_
    | (refine xsa ?_; intro _)
    | (refine xsb ?_ ?_ <;> intro _ <;> first | (exfalso; omega) | skip)
    | refine xsc ?_
    | fail)
      all_goals exact KJ_again ⟨i, by omega, hn'⟩ (by show i < i + 1; omega) xB (xN)
    · have hn' : nrm ws (i + 1) = i + 1 := nrm_s (by rw [hx]; intro q; cases q; exact h0 rfl)
      have hn : i + 1 = r := by rw [← hn, hn']
      subst hn
      have qe : decide (((x : Nat) : Int) = 0) = false := decide_eq_false (by omega)
      repeat' (first 
    | (refine ek_load ?_; refine EK_ev (Ev_load rfl xS (by first | exact hx' | (simpa using hx'))) ?_)
    | (refine ek_slice ?_; refine EK_ev (Ev_slice0 rfl rfl rfl (by omega) (by omega)) ?_)
    | (refine ek_sub ?_; refine EK_ev (Ev_subI_v rfl rfl e1 (by omega)) ?_)
    | (refine ek_eql ?_; refine EK_ev (Ev_eqlI_q rfl rfl qe) ?_)
    | (refine ek_gtr ?_; refine EK_ev (Ev_gtrI_q rfl rfl q0) ?_)
    | refine xst ?_
    | (refine xsa ?_; intro _)
    | (refine xsb ?_ ?_ <;> intro _ <;> first | (exfalso; omega) | skip)
    | refine xsc ?_
    | fail)
      all_goals (exact xdn ())

set_option maxHeartbeats 1000000 in
theorem addVV_in {g h c1 c2 c3 a y : Nat} {t : List Value} : Ct Tryz.prog W 73 [(.slice (some ⟨g, 0, none⟩) 1 c1), (.slice (some ⟨g, 0, none⟩) 1 c2), (.slice (some ⟨h, 0, none⟩) 1 c3)] [cellsP g (wv a :: t) 127, cellsP h [wv y] 127] (fun _ : Unit => wv ((a + y + 0) / 18446744073709551616)) (fun _ => [cellsP g (wv ((a + y + 0) % 18446744073709551616) :: t) 127, cellsP h [wv y] 127]) := by
  have cb := bitsAdd_ct (W := W) a y 0 (by omega)
  refine Ct.enter Tryz.func73 rfl Tryz.ntmps73 (by simp) (fun R => ?_)
  repeat' (first 
    | refine xst ?_
    | (refine xsa ?_; intro _)
    | (refine xsb ?_ ?_ <;> intro _ <;> first | (exfalso; omega) | skip)
    | refine xsc ?_
    | (refine KJ_draws (id := 6) (.op 0 (.op 1 (.op 2 (.op 3 (.op 4 (.op 5 (.op 6 (.op 7 (.op 8 (.ef 9 [] (.op 10 (.op 11 (.op 12 (.op 13 (.op 14 .nil))))))))))))))) (by kernel_rfl) (by kernel_rfl) ?_)
    | refine FW_alt ?_ ?_
    | refine FW_efn rfl rfl rfl rfl rfl ?_ ?_
    | refine KJ_flow ?_ ?_
    | exact Rech.nil
    | fail)
  refine KJ_loop (fun i : Bool => [(0, (.slice (some ⟨g, 0, none⟩) 1 c1)), (1, (.slice (some ⟨g, 0, none⟩) 1 c2)), (2, (.slice (some ⟨h, 0, none⟩) 1 c3)), (6, bif i then wv ((a + y + 0) / 18446744073709551616) else wv 0), (24, .int .i64 1), (25, bif i then .int .i64 1 else .int .i64 0)]) (fun i => (bif i then [cellsP g (wv ((a + y + 0) % 18446744073709551616) :: t) 127, cellsP h [wv y] 127] else [cellsP g (wv a :: t) 127, cellsP h [wv y] 127]) ++ R) (fun i => bif i then 0 else 1) false xB (xN) (fun i => ?_)
  cases i
  · dsimp only [cond_false]
    repeat' (first 
    | (refine is_call ?_; refine KJ_call xE cb xP rfl (fun _ => ?_))
    | refine xst ?_
    | (refine xsa ?_; intro _)
    | (refine xsb ?_ ?_ <;> intro _ <;> first | (exfalso; omega) | skip)
    | refine xsc ?_
    | (refine KJ_draws (id := 6) (.op 0 (.op 1 (.op 2 (.op 3 (.op 4 (.op 5 (.op 6 (.op 7 (.op 8 (.ef 9 [] (.op 10 (.op 11 (.op 12 (.op 13 (.op 14 .nil))))))))))))))) (by kernel_rfl) (by kernel_rfl) ?_)
    | refine FW_alt ?_ ?_
    | refine FW_efn rfl rfl rfl rfl rfl ?_ ?_
    | refine KJ_flow ?_ ?_
    | exact Rech.nil
    | fail)
    all_goals exact KJ_again true (by decide) xB (xN)
  · dsimp only [cond_true]
    repeat' (first 
    | refine xst ?_
    | (refine xsa ?_; intro _)
    | (refine xsb ?_ ?_ <;> intro _ <;> first | (exfalso; omega) | skip)
    | refine xsc ?_
    | (refine KJ_draws (id := 6) (.op 0 (.op 1 (.op 2 (.op 3 (.op 4 (.op 5 (.op 6 (.op 7 (.op 8 (.ef 9 [] (.op 10 (.op 11 (.op 12 (.op 13 (.op 14 .nil))))))))))))))) (by kernel_rfl) (by kernel_rfl) ?_)
    | refine FW_alt ?_ ?_
    | refine FW_efn rfl rfl rfl rfl rfl ?_ ?_
    | refine KJ_flow ?_ ?_
    | exact Rech.nil
    | fail)
    all_goals (exact xdn ())

set_option maxHeartbeats 1000000 in
theorem addVV_new {g h k c1 c2 c3 a y : Nat} {z : Value} {s t : List Value} : Ct Tryz.prog W 73 [(.slice (some ⟨k, 0, none⟩) 1 c1), (.slice (some ⟨g, 0, none⟩) 1 c2), (.slice (some ⟨h, 0, none⟩) 1 c3)] [cellsP k (z :: s) 127, cellsP g (wv a :: t) 127, cellsP h [wv y] 127] (fun _ : Unit => wv ((a + y + 0) / 18446744073709551616)) (fun _ => [cellsP k (wv ((a + y + 0) % 18446744073709551616) :: s) 127, cellsP g (wv a :: t) 127, cellsP h [wv y] 127]) := by
  have cb := bitsAdd_ct (W := W) a y 0 (by omega)
  refine Ct.enter Tryz.func73 rfl Tryz.ntmps73 (by simp) (fun R => ?_)
  repeat' (first 
    | refine xst ?_
    | (refine xsa ?_; intro _)
    | (refine xsb ?_ ?_ <;> intro _ <;> first | (exfalso; omega) | skip)
    | refine xsc ?_
    | (refine KJ_draws (id := 6) (.op 0 (.op 1 (.op 2 (.op 3 (.op 4 (.op 5 (.op 6 (.op 7 (.op 8 (.ef 9 [] (.op 10 (.op 11 (.op 12 (.op 13 (.op 14 .nil))))))))))))))) (by kernel_rfl) (by kernel_rfl) ?_)
    | refine FW_alt ?_ ?_
    | refine FW_efn rfl rfl rfl rfl rfl ?_ ?_
    | refine KJ_flow ?_ ?_
    | exact Rech.nil
    | fail)
  refine KJ_loop (fun i : Bool => [(0, (.slice (some ⟨k, 0, none⟩) 1 c1)), (1, (.slice (some ⟨g, 0, none⟩) 1 c2)), (2, (.slice (some ⟨h, 0, none⟩) 1 c3)), (6, bif i then wv ((a + y + 0) / 18446744073709551616) else wv 0), (24, .int .i64 1), (25, bif i then .int .i64 1 else .int .i64 0)]) (fun i => (bif i then [cellsP k (wv ((a + y + 0) % 18446744073709551616) :: s) 127, cellsP g (wv a :: t) 127, cellsP h [wv y] 127] else [cellsP k (z :: s) 127, cellsP g (wv a :: t) 127, cellsP h [wv y] 127]) ++ R) (fun i => bif i then 0 else 1) false xB (xN) (fun i => ?_)
  cases i
  · dsimp only [cond_false]
    repeat' (first 
    | (refine is_call ?_; refine KJ_call xE cb xP rfl (fun _ => ?_))
    | refine xst ?_
    | (refine xsa ?_; intro _)
    | (refine xsb ?_ ?_ <;> intro _ <;> first | (exfalso; omega) | skip)
    | refine xsc ?_
    | (refine KJ_draws (id := 6) (.op 0 (.op 1 (.op 2 (.op 3 (.op 4 (.op 5 (.op 6 (.op 7 (.op 8 (.ef 9 [] (.op 10 (.op 11 (.op 12 (.op 13 (.op 14 .nil))))))))))))))) (by kernel_rfl) (by kernel_rfl) ?_)
    | refine FW_alt ?_ ?_
    | refine FW_efn rfl rfl rfl rfl rfl ?_ ?_
    | refine KJ_flow ?_ ?_
    | exact Rech.nil
    | fail)
    all_goals exact KJ_again true (by decide) xB (xN)
  · dsimp only [cond_true]
    repeat' (first 
    | refine xst ?_
    | (refine xsa ?_; intro _)
    | (refine xsb ?_ ?_ <;> intro _ <;> first | (exfalso; omega) | skip)
    | refine xsc ?_
    | (refine KJ_draws (id := 6) (.op 0 (.op 1 (.op 2 (.op 3 (.op 4 (.op 5 (.op 6 (.op 7 (.op 8 (.ef 9 [] (.op 10 (.op 11 (.op 12 (.op 13 (.op 14 .nil))))))))))))))) (by kernel_rfl) (by kernel_rfl) ?_)
    | refine FW_alt ?_ ?_
    | refine FW_efn rfl rfl rfl rfl rfl ?_ ?_
    | refine KJ_flow ?_ ?_
    | exact Rech.nil
    | fail)
    all_goals (exact xdn ())

set_option maxHeartbeats 1000000 in
theorem subVV_in {g h c1 c2 c3 a y : Nat} {t : List Value} : Ct Tryz.prog W 74 [(.slice (some ⟨g, 0, none⟩) 1 c1), (.slice (some ⟨g, 0, none⟩) 1 c2), (.slice (some ⟨h, 0, none⟩) 1 c3)] [cellsP g (wv a :: t) 127, cellsP h [wv y] 127] (fun _ : Unit => wv (if a < y + 0 then 1 else 0)) (fun _ => [cellsP g (wv ((a + 18446744073709551616 - y - 0) % 18446744073709551616) :: t) 127, cellsP h [wv y] 127]) := by
  have cb := bitsSub_ct (W := W) a y 0 (by omega)
  refine Ct.enter Tryz.func74 rfl Tryz.ntmps74 (by simp) (fun R => ?_)
  repeat' (first 
    | refine xst ?_
    | (refine xsa ?_; intro _)
    | (refine xsb ?_ ?_ <;> intro _ <;> first | (exfalso; omega) | skip)
    | refine xsc ?_
    | (refine KJ_draws (id := 6) (.op 0 (.op 1 (.op 2 (.op 3 (.op 4 (.op 5 (.op 6 (.op 7 (.op 8 (.ef 9 [] (.op 10 (.op 11 (.op 12 (.op 13 (.op 14 .nil))))))))))))))) (by kernel_rfl) (by kernel_rfl) ?_)
    | refine FW_alt ?_ ?_
    | refine FW_efn rfl rfl rfl rfl rfl ?_ ?_
    | refine KJ_flow ?_ ?_
    | exact Rech.nil
    | fail)
  refine KJ_loop (fun i : Bool => [(0, (.slice (some ⟨g, 0, none⟩) 1 c1)), (1, (.slice (some ⟨g, 0, none⟩) 1 c2)), (2, (.slice (some ⟨h, 0, none⟩) 1 c3)), (6, bif i then wv (if a < y + 0 then 1 else 0) else wv 0), (24, .int .i64 1), (25, bif i then .int .i64 1 else .int .i64 0)]) (fun i => (bif i then [cellsP g (wv ((a + 18446744073709551616 - y - 0) % 18446744073709551616) :: t) 127, cellsP h [wv y] 127] else [cellsP g (wv a :: t) 127, cellsP h [wv y] 127]) ++ R) (fun i => bif i then 0 else 1) false xB (xN) (fun i => ?_)
  cases i
  · dsimp only [cond_false]
    repeat' (first 
    | (refine is_call ?_; refine KJ_call xE cb xP rfl (fun _ => ?_))
    | refine xst ?_
    | (refine xsa ?_; intro _)
    | (refine xsb ?_ ?_ <;> intro _ <;> first | (exfalso; omega) | skip)
    | refine xsc ?_
    | (refine KJ_draws (id := 6) (.op 0 (.op 1 (.op 2 (.op 3 (.op 4 (.op 5 (.op 6 (.op 7 (.op 8 (.ef 9 [] (.op 10 (.op 11 (.op 12 (.op 13 (.op 14 .nil))))))))))))))) (by kernel_rfl) (by kernel_rfl) ?_)
    | refine FW_alt ?_ ?_
    | refine FW_efn rfl rfl rfl rfl rfl ?_ ?_
    | refine KJ_flow ?_ ?_
    | exact Rech.nil
    | fail)
    all_goals exact KJ_again true (by decide) xB (xN)
  · dsimp only [cond_true]
    repeat' (first 
    | refine xst ?_
    | (refine xsa ?_; intro _)
    | (refine xsb ?_ ?_ <;> intro _ <;> first | (exfalso; omega) | skip)
    | refine xsc ?_
    | (refine KJ_draws (id := 6) (.op 0 (.op 1 (.op 2 (.op 3 (.op 4 (.op 5 (.op 6 (.op 7 (.op 8 (.ef 9 [] (.op 10 (.op 11 (.op 12 (.op 13 (.op 14 .nil))))))))))))))) (by kernel_rfl) (by kernel_rfl) ?_)
    | refine FW_alt ?_ ?_
    | refine FW_efn rfl rfl rfl rfl rfl ?_ ?_
    | refine KJ_flow ?_ ?_
    | exact Rech.nil
    | fail)
    all_goals (exact xdn ())

set_option maxHeartbeats 1000000 in
theorem subVV_rev {g h c1 c2 c3 a y : Nat} {t : List Value} : Ct Tryz.prog W 74 [(.slice (some ⟨g, 0, none⟩) 1 c1), (.slice (some ⟨h, 0, none⟩) 1 c3), (.slice (some ⟨g, 0, none⟩) 1 c2)] [cellsP g (wv a :: t) 127, cellsP h [wv y] 127] (fun _ : Unit => wv (if y < a + 0 then 1 else 0)) (fun _ => [cellsP g (wv ((y + 18446744073709551616 - a - 0) % 18446744073709551616) :: t) 127, cellsP h [wv y] 127]) := by
  have cb := bitsSub_ct (W := W) y a 0 (by omega)
  refine Ct.enter Tryz.func74 rfl Tryz.ntmps74 (by simp) (fun R => ?_)
  repeat' (first 
    | refine xst ?_
    | (refine xsa ?_; intro _)
    | (refine xsb ?_ ?_ <;> intro _ <;> first | (exfalso; omega) | skip)
    | refine xsc ?_
    | (refine KJ_draws (id := 6) (.op 0 (.op 1 (.op 2 (.op 3 (.op 4 (.op 5 (.op 6 (.op 7 (.op 8 (.ef 9 [] (.op 10 (.op 11 (.op 12 (.op 13 (.op 14 .nil))))))))))))))) (by kernel_rfl) (by kernel_rfl) ?_)
    | refine FW_alt ?_ ?_
    | refine FW_efn rfl rfl rfl rfl rfl ?_ ?_
    | refine KJ_flow ?_ ?_
    | exact Rech.nil
    | fail)
  refine KJ_loop (fun i : Bool => [(0, (.slice (some ⟨g, 0, none⟩) 1 c1)), (1, (.slice (some ⟨h, 0, none⟩) 1 c3)), (2, (.slice (some ⟨g, 0, none⟩) 1 c2)), (6, bif i then wv (if y < a + 0 then 1 else 0) else wv 0), (24, .int .i64 1), (25, bif i then .int .i64 1 else .int .i64 0)]) (fun i => (bif i then [cellsP g (wv ((y + 18446744073709551616 - a - 0) % 18446744073709551616) :: t) 127, cellsP h [wv y] 127] else [cellsP g (wv a :: t) 127, cellsP h [wv y] 127]) ++ R) (fun i => bif i then 0 else 1) false xB (xN) (fun i => ?_)
  cases i
  · dsimp only [cond_false]
    repeat' (first 
    | (refine is_call ?_; refine KJ_call xE cb xP rfl (fun _ => ?_))
    | refine xst ?_
    | (refine xsa ?_; intro _)
    | (refine xsb ?_ ?_ <;> intro _ <;> first | (exfalso; omega) | skip)
    | refine xsc ?_
    | (refine KJ_draws (id := 6) (.op 0 (.op 1 (.op 2 (.op 3 (.op 4 (.op 5 (.op 6 (.op 7 (.op 8 (.ef 9 [] (.op 10 (.op 11 (.op 12 (.op 13 (.op 14 .nil))))))))))))))) (by kernel_rfl) (by kernel_rfl) ?_)
    | refine FW_alt ?_ ?_
    | refine FW_efn rfl rfl rfl rfl rfl ?_ ?_
    | refine KJ_flow ?_ ?_
    | exact Rech.nil
    | fail)
    all_goals exact KJ_again true (by decide) xB (xN)
  · dsimp only [cond_true]
    repeat' (first 
    | refine xst ?_
    | (refine xsa ?_; intro _)
    | (refine xsb ?_ ?_ <;> intro _ <;> first | (exfalso; omega) | skip)
    | refine xsc ?_
    | (refine KJ_draws (id := 6) (.op 0 (.op 1 (.op 2 (.op 3 (.op 4 (.op 5 (.op 6 (.op 7 (.op 8 (.ef 9 [] (.op 10 (.op 11 (.op 12 (.op 13 (.op 14 .nil))))))))))))))) (by kernel_rfl) (by kernel_rfl) ?_)
    | refine FW_alt ?_ ?_
    | refine FW_efn rfl rfl rfl rfl rfl ?_ ?_
    | refine KJ_flow ?_ ?_
    | exact Rech.nil
    | fail)
    all_goals (exact xdn ())

set_option maxHeartbeats 1000000 in
theorem addVW_in {g c1 c2 a b : Nat} {w0 : Value} {t : List Value} (hq : (a + b + 0) / 18446744073709551616 = 0) (hc1 : 1 ≤ c1) (hc2 : 1 ≤ c2) : Ct Tryz.prog W 109 [.slice (some ⟨g, 1, none⟩) 1 c1, .slice (some ⟨g, 1, none⟩) 1 c2, wv b] [cellsP g (w0 :: wv a :: t) 127] (fun _ : Unit => wv 0) (fun _ => [cellsP g (w0 :: wv ((a + b + 0) % 18446744073709551616) :: t) 127]) := by
  have cb := bitsAdd_ct (W := W) a b 0 (by omega)
  rw [hq] at cb
  refine Ct.enter Tryz.func109 rfl Tryz.ntmps109 (by simp) (fun R => ?_)
  repeat' (first 
    | (refine is_call ?_; refine KJ_call xE cb xP rfl (fun _ => ?_))
    | (refine ek_neq ?_; refine EK_ev (Ev_neqSameP rfl rfl (fun _ => rfl)) ?_)
    | refine xst ?_
    | (refine xsa ?_; intro _)
    | (refine xsb ?_ ?_ <;> intro _ <;> first | (exfalso; omega) | skip)
    | refine xsc ?_
    | (refine KJ_draws (id := 8) (.op 0 (.op 1 (.op 2 (.op 3 (.op 4 .nil))))) (by kernel_rfl) (by kernel_rfl) ?_)
    | (refine KJ_draws (id := 9) (.op 0 (.op 1 (.op 2 (.op 3 (.ef 4 [] .nil))))) (by kernel_rfl) (by kernel_rfl) ?_)
    | (refine KJ_draws (id := 17) (.op 0 (.op 1 (.op 2 (.op 3 (.op 4 .nil))))) (by kernel_rfl) (by kernel_rfl) ?_)
    | (refine KJ_draws (id := 18) (.op 0 (.op 1 (.op 2 (.op 3 (.op 4 (.op 5 (.op 6 (.op 7 (.ef 8 [] .nil))))))))) (by kernel_rfl) (by kernel_rfl) ?_)
    | refine FW_alt ?_ ?_
    | refine FW_efn rfl rfl rfl rfl rfl ?_ ?_
    | refine KJ_flow ?_ ?_
    | exact Rech.nil
    | fail)
  all_goals (exact xdn ())

set_option maxHeartbeats 1000000 in
theorem subVW_in {g c1 c2 a b : Nat} {w0 : Value} {t : List Value} (hq : (if a < b + 0 then 1 else 0) = 0) (hc1 : 1 ≤ c1) (hc2 : 1 ≤ c2) : Ct Tryz.prog W 113 [.slice (some ⟨g, 1, none⟩) 1 c1, .slice (some ⟨g, 1, none⟩) 1 c2, wv b] [cellsP g (w0 :: wv a :: t) 127] (fun _ : Unit => wv 0) (fun _ => [cellsP g (w0 :: wv ((a + 18446744073709551616 - b - 0) % 18446744073709551616) :: t) 127]) := by
  have cb := bitsSub_ct (W := W) a b 0 (by omega)
  rw [hq] at cb
  refine Ct.enter Tryz.func113 rfl Tryz.ntmps113 (by simp) (fun R => ?_)
  repeat' (first 
    | (refine is_call ?_; refine KJ_call xE cb xP rfl (fun _ => ?_))
    | (refine ek_neq ?_; refine EK_ev (Ev_neqSameP rfl rfl (fun _ => rfl)) ?_)
    | refine xst ?_
    | (refine xsa ?_; intro _)
    | (refine xsb ?_ ?_ <;> intro _ <;> first | (exfalso; omega) | skip)
    | refine xsc ?_
    | (refine KJ_draws (id := 8) (.op 0 (.op 1 (.op 2 (.op 3 (.op 4 .nil))))) (by kernel_rfl) (by kernel_rfl) ?_)
    | (refine KJ_draws (id := 9) (.op 0 (.op 1 (.op 2 (.op 3 (.ef 4 [] .nil))))) (by kernel_rfl) (by kernel_rfl) ?_)
    | (refine KJ_draws (id := 17) (.op 0 (.op 1 (.op 2 (.op 3 (.op 4 .nil))))) (by kernel_rfl) (by kernel_rfl) ?_)
    | (refine KJ_draws (id := 18) (.op 0 (.op 1 (.op 2 (.op 3 (.op 4 (.op 5 (.op 6 (.op 7 (.ef 8 [] .nil))))))))) (by kernel_rfl) (by kernel_rfl) ?_)
    | refine FW_alt ?_ ?_
    | refine FW_efn rfl rfl rfl rfl rfl ?_ ?_
    | refine KJ_flow ?_ ?_
    | exact Rech.nil
    | fail)
  all_goals (exact xdn ())

end
end Go.Proofs.YtdbfemdpdpaffaaGreatDoor
