/-
  PoF1, PoF2.
-/
import Derived.Test.YtdbfemdpdpaffaaGreatDoorPBI
import Derived.Test.YtdbfemdpdpaffaaGreatDoorPCK
import Derived.Test.YtdbfemdpdpaffaaGreatDoorPBX
import Derived.Test.YtdbfemdpdpaffaaGreatDoorPCS
import Derived.Test.YtdbfemdpdpaffaaGreatDoorPCF
/-
  math/big: nought added; numbers as int64.
-/
namespace Go.Proofs.YtdbfemdpdpaffaaGreatDoor
open Go Go.RowKit Go.MapKept
section
variable {P : Program} {W : World} {n d : Nat} {E : Env} {H H' R R' : List SP} {k : KK} {t u e : TypeId} {x y z : Operand} {b off c : Nat} {T : TypeId}
/-- copy(v, v) -/
theorem KJ_copySelf {dT sT : TypeId} {m : Nat} {cs : List Value} (hx : Env.ev E x = some (.slice (some ⟨b, 0, none⟩) m c)) (hy : Env.ev E y = some (.slice (some ⟨b, 0, none⟩) m c)) [hu : UIs P dT (.slice e)] [hi : SzIs P e 1] (hs : Sel (cellsP b cs T) H R) (hm : m ≤ cs.length) (h1 : ∀ v ∈ cs, v.oneCell' = true)
    (hr : Rep (cellsP b cs T) (cellsP b cs T) H H') (hn : Nat.blt d n = true) (h : KJ W n k ((d, .int .i64 ((m : Nat) : Int)) :: E) H') :
    KJ W n (.oper P (.call { callee := .builtin .copy, args := #[x, y], argTypes := #[dT, sT] }) (some d) k) E H := by
  refine ⟨fun a w p s o ho hd => ?_⟩
  have hb := (s.left.blk hs).2
  have hvl : (cs.take m).length = m := by rw [List.length_take]; omega
  have hst := run_storeCells_at P b 0 T (cs.take m) 0 cs.toArray w hb (by simp; omega) (fun v hv => h1 v (List.mem_of_mem_take hv))
  have hsrc : ∀ j q, (cs.take m)[j]? = some q → w.cell? ((⟨b, 0, none⟩ : Addr).add j) = some q := by
    intro j q hq
    rw [Addr.add_mid, Nat.zero_add, hb.cell]
    have hj : j < m := by have := (List.getElem?_eq_some_iff.1 hq).1; omega
    rwa [List.getElem?_take_of_lt hj] at hq
  have hl := run_loadCells_list (P := P) w ⟨b, 0, none⟩ (cs.take m) hsrc
  rw [hvl] at hl
  have hrow : cs.toArray.toList.take (0 + 0) ++ cs.take m ++ cs.toArray.toList.drop (0 + 0 + (cs.take m).length) = cs := by
    rw [hvl]; simp
  rw [hrow] at hst
  have hrun' : (Builtin.copy_ #[dT, sT] o.type #[.slice (some ⟨b, 0, none⟩) m c, .slice (some ⟨b, 0, none⟩) m c]).run P w = .ok (goInt ((m : Nat) : Int)) (w.setRow b cs.toArray) := by
    have hi := hi.h
    cases hq : P.info? e with
    | none => simp [hq] at hi
    | some i =>
      have hi' : i.size = 1 := by simpa [hq] using hi
      simp [Builtin.copy_, run_underlying hu.h, Builtin.lenOf, Builtin.firstCells, sizeOf, typeInfo, hq, hi', hl, hst, Result.andThen]
  show uponP P o a _ ((execOp a.eval o).run P w)
  have e2 : (execOp a.eval o).run P w = .ok (.value (goInt ((m : Nat) : Int))) (w.setRow b cs.toArray) := by
    simp [execOp, ho, resolve, invoke, builtin, p.ev hx, p.ev hy, hrun', Result.andThen]
  rw [e2]
  have := h.go _ _ (p.put (d := some d) hn (goInt ((m : Nat) : Int))) (s.setRow (hr.app _))
  rw [← hd] at this
  exact this
theorem Ev_sliceNil {kj : IntKind} {s : Nat} (hx : Env.ev E x = some (.slice none 0 0)) (hz : Env.ev E z = some (.int kj 0)) [hu : UIs P t (.slice e)] [hi : SzIs P e s] : Ev P W n E H (.slice t x none (some z) none) (.slice none 0 0) :=
  Ev.mk fun op ho a w p q => by
    have hi := hi.h
    cases hq : P.info? e with
    | none => simp [hq] at hi
    | some i =>
      simp [execOp, ho, p.ev hx, p.ev hz, Instr.sliceAt, Instr.slice, run_underlying hu.h, Instr.sliceBounds, Instr.sliceBound, asIntOf, sizeOf, typeInfo, hq, Result.andThen]
end
theorem wv_ones (ws : List Nat) : ∀ v ∈ ws.map wv, v.oneCell' = true := fun v hv => by
  obtain ⟨x, _, rfl⟩ := List.mem_map.1 hv
  rfl
section
variable {W : World} {f : FuncId} {vs : List Value}
theorem nset_self {g m c : Nat} (ws : List Nat) (hm : m ≤ ws.length) (hc : m ≤ c) : Ct Tryz.prog W 106 [.slice (some ⟨g, 0, none⟩) m c, .slice (some ⟨g, 0, none⟩) m c] [cellsP g (ws.map wv) 127] (fun _ : Unit => .slice (some ⟨g, 0, none⟩) m c) (fun _ => [cellsP g (ws.map wv) 127]) := by
  have cm := nmake_in (W := W) (g := g) (m := m) m hc
  have h1 := wv_ones ws
  have hl : m ≤ (ws.map wv).length := by rw [List.length_map]; exact hm
  refine Ct.enter Tryz.func106 rfl Tryz.ntmps106 (by simp) (fun R => ?_)
  repeat' (first 
    | (refine is_call ?_; refine KJ_call xE cm xP rfl (fun _ => ?_))
    | (refine is_copy ?_; refine KJ_copySelf rfl rfl xS hl h1 xR rfl ?_)
    | refine xst ?_
    | (refine xsa ?_; intro _)
    | (refine xsb ?_ ?_ <;> intro _ <;> first | (exfalso; omega) | skip)
    | refine xsc ?_
    | fail)
  all_goals (exact xdn ())
theorem nadd_nil_no : Ct Tryz.prog W 79 [.slice none 0 0, .slice none 0 0, .slice none 0 0] [] (fun _ : Unit => .slice none 0 0) (fun _ => []) := by
  refine Ct.enter Tryz.func79 rfl Tryz.ntmps79 (by simp) (fun R => ?_)
  repeat' (first 
    | (refine ek_slice ?_; refine EK_ev (Ev_sliceNil rfl rfl) ?_)
    | refine xst ?_
    | (refine xsa ?_; intro _)
    | (refine xsb ?_ ?_ <;> intro _ <;> first | (exfalso; omega) | skip)
    | refine xsc ?_
    | (refine KJ_draws (id := 10) (.op 0 (.op 1 (.op 2 (.op 3 (.op 4 (.op 5 (.op 6 (.op 7 (.op 8 (.ef 9 [] (.op 10 .nil))))))))))) (by kernel_rfl) (by kernel_rfl) ?_)
    | (refine KJ_draws (id := 12) (.op 0 (.op 1 (.op 2 (.op 3 (.op 4 (.op 5 (.op 6 (.op 7 (.ef 8 [] (.ef 9 [] .nil)))))))))) (by kernel_rfl) (by kernel_rfl) ?_)
    | refine FW_alt ?_ ?_
    | refine FW_efn rfl rfl rfl rfl rfl ?_ ?_
    | refine KJ_flow ?_ ?_
    | exact Rech.nil
    | fail)
  all_goals (exact xdn ())
theorem nadd_nil_z {g c : Nat} : Ct Tryz.prog W 79 [.slice (some ⟨g, 0, none⟩) 0 c, .slice (some ⟨g, 0, none⟩) 0 c, .slice none 0 0] [] (fun _ : Unit => .slice (some ⟨g, 0, none⟩) 0 c) (fun _ => []) := by
  refine Ct.enter Tryz.func79 rfl Tryz.ntmps79 (by simp) (fun R => ?_)
  repeat' (first 
    | (refine ek_slice ?_; refine EK_ev (Ev_sliceToG rfl rfl (by omega)) ?_)
    | refine xst ?_
    | (refine xsa ?_; intro _)
    | (refine xsb ?_ ?_ <;> intro _ <;> first | (exfalso; omega) | skip)
    | refine xsc ?_
    | (refine KJ_draws (id := 10) (.op 0 (.op 1 (.op 2 (.op 3 (.op 4 (.op 5 (.op 6 (.op 7 (.op 8 (.ef 9 [] (.op 10 .nil))))))))))) (by kernel_rfl) (by kernel_rfl) ?_)
    | (refine KJ_draws (id := 12) (.op 0 (.op 1 (.op 2 (.op 3 (.op 4 (.op 5 (.op 6 (.op 7 (.ef 8 [] (.ef 9 [] .nil)))))))))) (by kernel_rfl) (by kernel_rfl) ?_)
    | refine FW_alt ?_ ?_
    | refine FW_efn rfl rfl rfl rfl rfl ?_ ?_
    | refine KJ_flow ?_ ?_
    | exact Rech.nil
    | fail)
  all_goals (exact xdn ())
theorem nadd_nil_s {g m c : Nat} (ws : List Nat) (hm : m ≤ ws.length) (hc : m ≤ c) (h0 : 0 < m) : Ct Tryz.prog W 79 [.slice (some ⟨g, 0, none⟩) m c, .slice (some ⟨g, 0, none⟩) m c, .slice none 0 0] [cellsP g (ws.map wv) 127] (fun _ : Unit => .slice (some ⟨g, 0, none⟩) m c) (fun _ => [cellsP g (ws.map wv) 127]) := by
  have cs := nset_self (W := W) (g := g) (m := m) (c := c) ws hm hc
  have q1 : decide (((m : Nat) : Int) < 0) = false := decide_eq_false (by omega)
  have q2 : decide (((m : Nat) : Int) = 0) = false := decide_eq_false (by omega)
  refine Ct.enter Tryz.func79 rfl Tryz.ntmps79 (by simp) (fun R => ?_)
  repeat' (first 
    | (refine is_call ?_; refine KJ_call xE cs xP rfl (fun _ => ?_))
    | (refine ek_eql ?_; refine EK_ev (Ev_eqlI_q rfl rfl q2) ?_)
    | (refine ek_lss ?_; refine EK_ev (Ev_lssI_q rfl rfl q1) ?_)
    | refine xst ?_
    | (refine xsa ?_; intro _)
    | (refine xsb ?_ ?_ <;> intro _ <;> first | (exfalso; omega) | skip)
    | refine xsc ?_
    | (refine KJ_draws (id := 10) (.op 0 (.op 1 (.op 2 (.op 3 (.op 4 (.op 5 (.op 6 (.op 7 (.op 8 (.ef 9 [] (.op 10 .nil))))))))))) (by kernel_rfl) (by kernel_rfl) ?_)
    | (refine KJ_draws (id := 12) (.op 0 (.op 1 (.op 2 (.op 3 (.op 4 (.op 5 (.op 6 (.op 7 (.ef 8 [] (.ef 9 [] .nil)))))))))) (by kernel_rfl) (by kernel_rfl) ?_)
    | refine FW_alt ?_ ?_
    | refine FW_efn rfl rfl rfl rfl rfl ?_ ?_
    | refine KJ_flow ?_ ?_
    | exact Rech.nil
    | fail)
  all_goals (exact xdn ())
theorem nsub_nil_s {g m c : Nat} (ws : List Nat) (hm : m ≤ ws.length) (hc : m ≤ c) (h0 : 0 < m) : Ct Tryz.prog W 81 [.slice (some ⟨g, 0, none⟩) m c, .slice (some ⟨g, 0, none⟩) m c, .slice none 0 0] [cellsP g (ws.map wv) 127] (fun _ : Unit => .slice (some ⟨g, 0, none⟩) m c) (fun _ => [cellsP g (ws.map wv) 127]) := by
  have cs := nset_self (W := W) (g := g) (m := m) (c := c) ws hm hc
  have q1 : decide (((m : Nat) : Int) < 0) = false := decide_eq_false (by omega)
  have q2 : decide (((m : Nat) : Int) = 0) = false := decide_eq_false (by omega)
  refine Ct.enter Tryz.func81 rfl Tryz.ntmps81 (by simp) (fun R => ?_)
  repeat' (first 
    | (refine is_call ?_; refine KJ_call xE cs xP rfl (fun _ => ?_))
    | (refine ek_eql ?_; refine EK_ev (Ev_eqlI_q rfl rfl q2) ?_)
    | (refine ek_lss ?_; refine EK_ev (Ev_lssI_q rfl rfl q1) ?_)
    | refine xst ?_
    | (refine xsa ?_; intro _)
    | (refine xsb ?_ ?_ <;> intro _ <;> first | (exfalso; omega) | skip)
    | refine xsc ?_
    | (refine KJ_draws (id := 10) (.op 0 (.op 1 (.op 2 (.op 3 (.op 4 (.op 5 (.op 6 (.op 7 (.op 8 (.ef 9 [] (.op 10 .nil))))))))))) (by kernel_rfl) (by kernel_rfl) ?_)
    | (refine KJ_draws (id := 12) (.op 0 (.op 1 (.op 2 (.op 3 (.op 4 (.op 5 (.op 6 (.ef 7 [] (.ef 8 [] .nil))))))))) (by kernel_rfl) (by kernel_rfl) ?_)
    | refine FW_alt ?_ ?_
    | refine FW_efn rfl rfl rfl rfl rfl ?_ ?_
    | refine KJ_flow ?_ ?_
    | exact Rech.nil
    | fail)
  all_goals (exact xdn ())
theorem ncmp_nil {o : Option Addr} {m c : Nat} (h0 : 0 < m) : Ct Tryz.prog W 80 [.slice o m c, .slice none 0 0] [] (fun _ : Unit => .int .i64 1) (fun _ => []) := by
  have q1 : decide (((m : Nat) : Int) < 0) = false := decide_eq_false (by omega)
  have q2 : decide (((m : Nat) : Int) ≠ 0) = true := decide_eq_true (by omega)
  have q3 : decide ((0 : Int) < ((m : Nat) : Int)) = true := decide_eq_true (by omega)
  refine Ct.enter Tryz.func80 rfl Tryz.ntmps80 (by simp) (fun R => ?_)
  repeat' (first 
    | (refine ek_neq ?_; refine EK_ev (Ev_neqI_q rfl rfl q2) ?_)
    | (refine ek_lss ?_; refine EK_ev (Ev_lssI_q rfl rfl q1) ?_)
    | (refine ek_gtr ?_; refine EK_ev (Ev_gtrI_q rfl rfl q3) ?_)
    | refine xst ?_
    | (refine xsa ?_; intro _)
    | (refine xsb ?_ ?_ <;> intro _ <;> first | (exfalso; omega) | skip)
    | refine xsc ?_
    | (refine KJ_draws (id := 9) (.op 0 (.op 1 (.op 2 (.op 3 (.op 4 (.op 5 (.op 6 (.op 7 (.op 8 (.op 9 (.op 10 (.op 11 (.op 12 .nil))))))))))))) (by kernel_rfl) (by kernel_rfl) ?_)
    | (refine KJ_draws (id := 11) (.op 0 (.op 1 (.op 2 (.op 3 (.op 4 (.op 5 (.op 6 (.op 7 (.op 8 (.op 9 .nil)))))))))) (by kernel_rfl) (by kernel_rfl) ?_)
    | (refine KJ_draws (id := 13) (.op 0 (.op 1 (.op 2 (.op 3 (.op 4 (.op 5 (.op 6 (.op 7 (.op 8 (.op 9 .nil)))))))))) (by kernel_rfl) (by kernel_rfl) ?_)
    | refine FW_alt ?_ ?_
    | refine FW_efn rfl rfl rfl rfl rfl ?_ ?_
    | refine KJ_flow ?_ ?_
    | exact Rech.nil
    | fail)
  all_goals (exact xdn ())
/-- a contract over a number's block, told of the number -/
theorem Ct.zed {g n : Nat} {ws : List Nat} {r : Value} (c : Ct Tryz.prog W f vs [cellsP g (ws.map wv) 127] (fun _ : Unit => r) (fun _ => [cellsP g (ws.map wv) 127])) : Ct Tryz.prog W f vs [natP ⟨some (g, ws), n⟩] (fun _ : Unit => r) (fun _ => [natP ⟨some (g, ws), n⟩]) :=
  c.mapX (fun _ _ q => bag_open (L := [cellsP g (ws.map wv) 127]) q) id (fun _ => rfl) (fun _ _ _ q => bag_shut (L := [cellsP g (ws.map wv) 127]) q)
theorem Ct.fr0 {B : SP} {r : Value} (c : Ct Tryz.prog W f vs [] (fun _ : Unit => r) (fun _ => [])) : Ct Tryz.prog W f vs [B] (fun _ : Unit => r) (fun _ => [B]) :=
  ⟨fun M w s => (c.go (B :: M) w s).mono fun _ _ ⟨x, he, s⟩ => ⟨x, he, s⟩⟩
theorem Ct.behind {A : SP} {r : Value} (c : Ct Tryz.prog W f vs [A] (fun _ : Unit => r) (fun _ => [A])) : Ct Tryz.prog W f vs [A, noP] (fun _ : Unit => r) (fun _ => [A, noP]) :=
  ⟨fun M w s => (c.go (noP :: M) w s).mono fun _ _ ⟨x, he, s⟩ => ⟨x, he, s⟩⟩
theorem nat_add0 (z : NSt) (hz : NOk z) : Ct Tryz.prog W 79 [z.v, z.v, .slice none 0 0] [natP z] (fun _ : Unit => z.v) (fun _ => [natP z]) := by
  cases hz with
  | no => exact (nadd_nil_no (W := W)).fr0
  | @z1 g w hw => exact (nadd_nil_z (W := W) (g := g) (c := ([w] : List Nat).length)).fr0
  | @z6 g w0 w1 w2 t ht hw => exact (nadd_nil_z (W := W) (g := g) (c := ((w0 :: w1 :: w2 :: t) : List Nat).length)).fr0
  | @o1 g w hw h0 => exact (nadd_nil_s (W := W) (g := g) (m := 1) (c := ([w] : List Nat).length) [w] (by simp) (by simp) (by omega)).zed
  | @o6 g w0 w1 w2 t ht hw h0 => exact (nadd_nil_s (W := W) (g := g) (m := 1) (c := ((w0 :: w1 :: w2 :: t) : List Nat).length) (w0 :: w1 :: w2 :: t) (by simp) (by simp) (by omega)).zed
  | @t6 g w0 w1 w2 t ht hw hw1 h1 => exact (nadd_nil_s (W := W) (g := g) (m := 2) (c := ((w0 :: w1 :: w2 :: t) : List Nat).length) (w0 :: w1 :: w2 :: t) (by simp) (by simp) (by omega)).zed
theorem nat_sub0 (z : NSt) (hz : NOk z) (hn : z.n ≠ 0) : Ct Tryz.prog W 81 [z.v, z.v, .slice none 0 0] [natP z] (fun _ : Unit => z.v) (fun _ => [natP z]) := by
  cases hz with
  | no => exact absurd rfl hn
  | @z1 g w hw => exact absurd rfl hn
  | @z6 g w0 w1 w2 t ht hw => exact absurd rfl hn
  | @o1 g w hw h0 => exact (nsub_nil_s (W := W) (g := g) (m := 1) (c := ([w] : List Nat).length) [w] (by simp) (by simp) (by omega)).zed
  | @o6 g w0 w1 w2 t ht hw h0 => exact (nsub_nil_s (W := W) (g := g) (m := 1) (c := ((w0 :: w1 :: w2 :: t) : List Nat).length) (w0 :: w1 :: w2 :: t) (by simp) (by simp) (by omega)).zed
  | @t6 g w0 w1 w2 t ht hw hw1 h1 => exact (nsub_nil_s (W := W) (g := g) (m := 2) (c := ((w0 :: w1 :: w2 :: t) : List Nat).length) (w0 :: w1 :: w2 :: t) (by simp) (by simp) (by omega)).zed
/-- a number added to a number of one's own, nought or not -/
def amtV (x : Int) (h : Nat) : Value := if x = 0 then .slice none 0 0 else .slice (some ⟨h, 0, none⟩) 1 1
def amtP (x : Int) (h : Nat) : SP := if x = 0 then noP else oneP h x.natAbs
theorem big_add0 {p q : Nat} (s : Bool) (z : NSt) (hz : NOk z) (hs : s = true → z.n ≠ 0) :
    Ct Tryz.prog W 45 [.pointer (some ⟨p, 0, none⟩), .pointer (some ⟨p, 0, none⟩), .pointer (some ⟨q, 0, none⟩)] [bigP p s z, natP z, cellsP q [.bool false, .slice none 0 0] 83, noP]
      (fun _ : Unit => .pointer (some ⟨p, 0, none⟩)) (fun _ => [bigP p s z, natP z, cellsP q [.bool false, .slice none 0 0] 83, noP]) := by
  cases s with
  | false => exact iadd_same (W := W) (p := p) (q := q) (s := false) (X := Unit) (fun _ => false) (fun _ _ => rfl) (fun _ _ => rfl) (nat_add0 (W := W) z hz).behind
  | true =>
    have hn := hs rfl
    have cc := (ncmp_nil (W := W) (o := z.o.map fun q => ⟨q.1, 0, none⟩) (m := z.n) (c := z.o.elim 0 fun q => q.2.length) (by omega)).fr0 (B := natP z)
    exact iadd_ge (W := W) (p := p) (q := q) (s := true) (X := Unit) (fun _ => true) (fun _ e => absurd e hn) (fun _ _ => rfl) 1 (by omega) cc.behind (nat_sub0 (W := W) z hz hn).behind
theorem big_addU {p q h : Nat} (s : Bool) (z : NSt) (hz : NOk z) (hs : s = true → z.n ≠ 0) (x : Int) (hx : -9223372036854775808 ≤ x ∧ x ≤ 9223372036854775807) (hb : z.m + 9223372036854775808 < 170141183460469231731687303715884105728) :
    Ct Tryz.prog W 45 [.pointer (some ⟨p, 0, none⟩), .pointer (some ⟨p, 0, none⟩), .pointer (some ⟨q, 0, none⟩)] [bigP p s z, natP z, cellsP q [.bool (decide (x < 0)), amtV x h] 83, amtP x h]
      (fun _ : {r : Bool × NSt // NOk r.2 ∧ (r.1 = true → r.2.n ≠ 0) ∧ ival r.1 r.2 = ival s z + x} => .pointer (some ⟨p, 0, none⟩)) (fun r => [bigP p r.1.1 r.1.2, natP r.1.2, cellsP q [.bool (decide (x < 0)), amtV x h] 83, amtP x h]) := by
  by_cases h0 : x = 0
  · subst h0
    exact (big_add0 (W := W) (p := p) (q := q) s z hz hs).mapX (fun _ _ q => q) (fun _ => ⟨(s, z), hz, hs, by rw [Int.add_zero]⟩) (fun _ => rfl) (fun _ _ _ q => q)
  · have e1 : amtV x h = .slice (some ⟨h, 0, none⟩) 1 1 := if_neg h0
    have e2 : amtP x h = oneP h x.natAbs := if_neg h0
    rw [e1, e2]
    refine (big_add (W := W) (p := p) (q := q) (h := h) (y := x.natAbs) s z hz hs (decide (x < 0)) (by omega) (by omega) (by omega)).mapX (fun _ _ q => q) (fun r => ⟨r.1, r.2.1, r.2.2.1, ?_⟩) (fun _ => rfl) (fun _ _ _ q => q)
    rw [r.2.2.2]
    by_cases hl : x < 0
    · rw [if_pos (decide_eq_true hl)]; omega
    · rw [if_neg (by simpa using hl)]; omega
theorem newint0_ct : Ct Tryz.prog W 46 [.int .i64 0] [] (fun q : Nat => .pointer (some ⟨q, 0, none⟩)) (fun q => [cellsP q [.bool false, .slice none 0 0] 83]) := by
  have q0 : decide ((0 : Int) = 0) = true := rfl
  have q1 : decide ((0 : Int) < 0) = false := rfl
  have c1 : IntKind.u64.wrap (0 : Int) = 0 := by decide
  refine Ct.enter Tryz.func46 rfl Tryz.ntmps46 (by simp) (fun R => ?_)
  repeat' (first 
    | (refine is_box ?_; refine KJ_box rfl xF rfl (fun b => ?_))
    | (refine ek_conv ?_; refine EK_ev (Ev_convI_v rfl c1) ?_)
    | (refine ek_build ?_; refine EK_ev (Ev_build xV xW) ?_)
    | (refine ek_eql ?_; refine EK_ev (Ev_eqlI_q rfl rfl q0) ?_)
    | (refine ek_lss ?_; refine EK_ev (Ev_lssI_q rfl rfl q1) ?_)
    | refine xst ?_
    | (refine xsa ?_; intro _)
    | (refine xsb ?_ ?_ <;> intro _ <;> first | (exfalso; omega) | skip)
    | refine xsc ?_
    | fail)
  all_goals (exact xdn b)
theorem newintU (x : Int) (hx : -9223372036854775808 ≤ x ∧ x ≤ 9223372036854775807) : Ct Tryz.prog W 46 [.int .i64 x] [] (fun q : Nat × Nat => .pointer (some ⟨q.1, 0, none⟩)) (fun q => [cellsP q.1 [.bool (decide (x < 0)), amtV x q.2] 83, amtP x q.2]) := by
  by_cases h0 : x = 0
  · subst h0
    exact (newint0_ct (W := W)).mapX (fun _ _ q => q) (fun q => (q, 0)) (fun _ => rfl) (fun x M g q => starL_swap _ (noP_star _ q))
  · have c := newint_ct (W := W) x h0 hx
    have e1 : ∀ h, amtV x h = .slice (some ⟨h, 0, none⟩) 1 1 := fun h => if_neg h0
    have e2 : ∀ h, amtP x h = oneP h x.natAbs := fun h => if_neg h0
    exact c.mapX (fun _ _ q => q) id (fun _ => rfl) (fun q M g s => by show starL ([cellsP q.1 [.bool (decide (x < 0)), amtV x q.2] 83, amtP x q.2] ++ M) g; rw [e1, e2]; exact s)
end
end Go.Proofs.YtdbfemdpdpaffaaGreatDoor
/-
  math/big: IsInt64, Int64, Sign over normal numbers.
-/
namespace Go.Proofs.YtdbfemdpdpaffaaGreatDoor
open Go Go.RowKit Go.MapKept
instance fiBig1 : FnIs Tryz.prog 85 := ⟨by kernel_rfl⟩
instance fiBig2 : FnIs Tryz.prog 49 := ⟨by kernel_rfl⟩
instance fiBig3 : FnIs Tryz.prog 51 := ⟨by kernel_rfl⟩
theorem i64_big (m : Nat) (h : m < 18446744073709551616) : IntKind.i64.wrap ((m : Nat) : Int) = if m < 9223372036854775808 then ((m : Nat) : Int) else ((m : Nat) : Int) - 18446744073709551616 := by
  simp only [IntKind.wrap, IntKind.signed, IntKind.bits]
  simp
  split <;> split <;> omega
def sgn (s : Bool) (m : Nat) : Int := if s = true then -(m : Int) else (m : Int)
section
variable {W : World} {p n c : Nat} {o : Option Addr} {s : Bool}
theorem low_0 : Ct Tryz.prog W 85 [.slice o 0 c] [] (fun _ : Unit => .int .u64 ((0 : Nat) : Int)) (fun _ => []) := by
  have q0 : decide (((0 : Nat) : Int) = 0) = true := rfl
  refine Ct.enter Tryz.func85 rfl Tryz.ntmps85 (by simp) (fun R => ?_)
  repeat' (first 
    | (refine ek_eql ?_; refine EK_ev (Ev_eqlI_q rfl rfl q0) ?_)
    | refine xst ?_
    | (refine xsa ?_; intro _)
    | (refine xsb ?_ ?_ <;> intro _ <;> first | (exfalso; omega) | skip)
    | refine xsc ?_
    | fail)
  all_goals (exact xdn ())
theorem low_1 {g w : Nat} {t : List Nat} : Ct Tryz.prog W 85 [.slice (some ⟨g, 0, none⟩) 1 c] [cellsP g ((w :: t).map wv) 127] (fun _ : Unit => .int .u64 ((w : Nat) : Int)) (fun _ => [cellsP g ((w :: t).map wv) 127]) := by
  have q0 : decide (((1 : Nat) : Int) = 0) = false := rfl
  rw [List.map_cons]
  refine Ct.enter Tryz.func85 rfl Tryz.ntmps85 (by simp) (fun R => ?_)
  repeat' (first 
    | (refine ek_eql ?_; refine EK_ev (Ev_eqlI_q rfl rfl q0) ?_)
    | refine xst ?_
    | (refine xsa ?_; intro _)
    | (refine xsb ?_ ?_ <;> intro _ <;> first | (exfalso; omega) | skip)
    | refine xsc ?_
    | fail)
  all_goals (exact xdn ())
theorem nat_low (z : NSt) (hz : NOk z) (hn : z.n ≤ 1) : Ct Tryz.prog W 85 [z.v] [natP z] (fun _ : Unit => .int .u64 ((z.m : Nat) : Int)) (fun _ => [natP z]) := by
  cases hz with
  | no => exact (low_0 (W := W)).fr0
  | @z1 g w hw => rw [NSt.m_on, mag_zero]; exact (low_0 (W := W)).fr0
  | @z6 g w0 w1 w2 t ht hw => rw [NSt.m_on, mag_zero]; exact (low_0 (W := W)).fr0
  | @o1 g w hw h0 => rw [NSt.m_on, mag_one]; exact (low_1 (W := W) (g := g) (w := w) (t := []) (c := ([w] : List Nat).length)).zed
  | @o6 g w0 w1 w2 t ht hw h0 => rw [NSt.m_on, mag_one]; exact (low_1 (W := W) (g := g) (w := w0) (t := w1 :: w2 :: t) (c := ((w0 :: w1 :: w2 :: t) : List Nat).length)).zed
  | @t6 g w0 w1 w2 t ht hw hw1 h1 => exact absurd hn (by show ¬ 2 ≤ 1; omega)
theorem nok_small {z : NSt} (hz : NOk z) : (z.n ≤ 1 → z.m < 18446744073709551616) ∧ (¬ z.n ≤ 1 → 18446744073709551616 ≤ z.m) ∧ z.n ≤ 2 := by
  cases hz with
  | no => exact ⟨fun _ => by decide, fun h => absurd (by decide) h, by decide⟩
  | @z1 g w hw => rw [NSt.m_on, mag_zero]; exact ⟨fun _ => by omega, fun h => absurd (Nat.zero_le _) h, Nat.zero_le _⟩
  | @z6 g w0 w1 w2 t ht hw => rw [NSt.m_on, mag_zero]; exact ⟨fun _ => by omega, fun h => absurd (Nat.zero_le _) h, Nat.zero_le _⟩
  | @o1 g w hw h0 => rw [NSt.m_on, mag_one]; exact ⟨fun _ => hw, fun h => absurd (Nat.le_refl _) h, by show 1 ≤ 2; omega⟩
  | @o6 g w0 w1 w2 t ht hw h0 => rw [NSt.m_on, mag_one]; exact ⟨fun _ => hw, fun h => absurd (Nat.le_refl _) h, by show 1 ≤ 2; omega⟩
  | @t6 g w0 w1 w2 t ht hw hw1 h1 => rw [NSt.m_on, mag_two]; exact ⟨fun h => absurd h (by show ¬ 2 ≤ 1; omega), fun _ => by omega, Nat.le_refl _⟩
set_option maxHeartbeats 2000000 in
theorem isint_gen (A : SP) (m : Nat) (cl : Ct Tryz.prog W 85 [.slice o n c] [A] (fun _ : Unit => .int .u64 ((m : Nat) : Int)) (fun _ => [A])) (hm : m < 18446744073709551616) (hn : n ≤ 1) :
    Ct Tryz.prog W 49 [.pointer (some ⟨p, 0, none⟩)] [cellsP p [.bool s, .slice o n c] 83, A] (fun _ : Unit => .bool (fitsI (sgn s m))) (fun _ => [cellsP p [.bool s, .slice o n c] 83, A]) := by
  have qn : decide (((n : Nat) : Int) ≤ 1) = true := decide_eq_true (by omega)
  have hw := i64_big m hm
  obtain ⟨r, hr⟩ : ∃ r, r = fitsI (sgn s m) := ⟨_, rfl⟩
  rw [← hr]
  unfold fitsI sgn at hr
  by_cases h : m < 9223372036854775808
  · rw [if_pos h] at hw
    have hr2 : r = true := by rw [hr, Bool.and_eq_true, decide_eq_true_eq, decide_eq_true_eq]; split <;> omega
    subst hr2
    have q1 : decide ((0 : Int) ≤ ((m : Nat) : Int)) = true := decide_eq_true (by omega)
    cases s
    all_goals refine Ct.enter Tryz.func49 rfl Tryz.ntmps49 (by simp) (fun R => ?_)
    all_goals repeat' (first 
    | (refine is_call ?_; refine KJ_call xE cl xP rfl (fun _ => ?_))
    | (refine ek_conv ?_; refine EK_ev (Ev_convI_v rfl hw) ?_)
    | (refine ek_leq ?_; refine EK_ev (Ev_leqI_q rfl rfl qn) ?_)
    | (refine ek_geq ?_; refine EK_ev (Ev_geqI_q rfl rfl q1) ?_)
    | refine xst ?_
    | (refine xsa ?_; intro _)
    | (refine xsb ?_ ?_ <;> intro _ <;> first | (exfalso; omega) | skip)
    | refine xsc ?_
    | fail)
    all_goals (exact xdn ())
  · rw [if_neg h] at hw
    obtain ⟨w, hwe⟩ : ∃ w : Int, w = ((m : Nat) : Int) - 18446744073709551616 := ⟨_, rfl⟩
    rw [← hwe] at hw
    have q1 : decide ((0 : Int) ≤ w) = false := decide_eq_false (by omega)
    cases s with
    | false =>
      have hr2 : r = false := by rw [hr, Bool.and_eq_false_iff]; right; exact decide_eq_false (by show ¬ (m : Int) ≤ _; omega)
      subst hr2
      refine Ct.enter Tryz.func49 rfl Tryz.ntmps49 (by simp) (fun R => ?_)
      repeat' (first 
    | (refine is_call ?_; refine KJ_call xE cl xP rfl (fun _ => ?_))
    | (refine ek_conv ?_; refine EK_ev (Ev_convI_v rfl hw) ?_)
    | (refine ek_leq ?_; refine EK_ev (Ev_leqI_q rfl rfl qn) ?_)
    | (refine ek_geq ?_; refine EK_ev (Ev_geqI_q rfl rfl q1) ?_)
    | refine xst ?_
    | (refine xsa ?_; intro _)
    | (refine xsb ?_ ?_ <;> intro _ <;> first | (exfalso; omega) | skip)
    | refine xsc ?_
    | fail)
      all_goals (exact xdn ())
    | true =>
      obtain ⟨w2, hw2⟩ : ∃ w2, w2 = IntKind.i64.wrap (0 - w) := ⟨_, rfl⟩
      have e2 : IntKind.i64.wrap (0 - w) = if w = -9223372036854775808 then -9223372036854775808 else 0 - w := by
        simp only [IntKind.wrap, IntKind.signed, IntKind.bits]
        simp
        split <;> split <;> omega
      have q2 : decide (w = w2) = r := by
        rw [hr, Bool.eq_iff_iff, Bool.and_eq_true, decide_eq_true_eq, decide_eq_true_eq, decide_eq_true_eq, hw2, e2, if_pos rfl]
        split <;> omega
      have w1 : IntKind.i64.wrap (0 - w) = w2 := hw2.symm
      clear hr hw2 e2
      refine Ct.enter Tryz.func49 rfl Tryz.ntmps49 (by simp) (fun R => ?_)
      repeat' (first 
    | (refine is_call ?_; refine KJ_call xE cl xP rfl (fun _ => ?_))
    | (refine ek_un ?_; refine EK_ev (Ev_neg_v rfl w1) ?_)
    | (refine ek_conv ?_; refine EK_ev (Ev_convI_v rfl hw) ?_)
    | (refine ek_eql ?_; refine EK_ev (Ev_eqlI_q rfl rfl q2) ?_)
    | (refine ek_leq ?_; refine EK_ev (Ev_leqI_q rfl rfl qn) ?_)
    | (refine ek_geq ?_; refine EK_ev (Ev_geqI_q rfl rfl q1) ?_)
    | refine xst ?_
    | (refine xsa ?_; intro _)
    | (refine xsb ?_ ?_ <;> intro _ <;> first | (exfalso; omega) | skip)
    | refine xsc ?_
    | fail)
      all_goals (exact xdn ())
theorem isint_big (hn : ¬ n ≤ 1) : Ct Tryz.prog W 49 [.pointer (some ⟨p, 0, none⟩)] [cellsP p [.bool s, .slice o n c] 83] (fun _ : Unit => .bool false) (fun _ => [cellsP p [.bool s, .slice o n c] 83]) := by
  have qn : decide (((n : Nat) : Int) ≤ 1) = false := decide_eq_false (by omega)
  refine Ct.enter Tryz.func49 rfl Tryz.ntmps49 (by simp) (fun R => ?_)
  repeat' (first 
    | (refine ek_leq ?_; refine EK_ev (Ev_leqI_q rfl rfl qn) ?_)
    | refine xst ?_
    | (refine xsa ?_; intro _)
    | (refine xsb ?_ ?_ <;> intro _ <;> first | (exfalso; omega) | skip)
    | refine xsc ?_
    | fail)
  all_goals (exact xdn ())
theorem isint_ct (z : NSt) (hz : NOk z) : Ct Tryz.prog W 49 [.pointer (some ⟨p, 0, none⟩)] [bigP p s z, natP z] (fun _ : Unit => .bool (fitsI (ival s z))) (fun _ => [bigP p s z, natP z]) := by
  obtain ⟨h1, h2, h3⟩ := nok_small hz
  by_cases hn : z.n ≤ 1
  · exact isint_gen (natP z) z.m (nat_low z hz hn) (h1 hn) hn
  · have e : fitsI (ival s z) = false := by
      have := h2 hn
      unfold fitsI ival
      rw [Bool.and_eq_false_iff]
      cases s with
      | true => left; exact decide_eq_false (by rw [if_pos rfl]; omega)
      | false => right; exact decide_eq_false (by rw [if_neg (by decide)]; omega)
    rw [e]
    have c := isint_big (W := W) (p := p) (s := s) (o := z.o.map fun q => ⟨q.1, 0, none⟩) (c := z.o.elim 0 fun q => q.2.length) hn
    exact ⟨fun M w q => (c.go (natP z :: M) w q).mono fun _ _ ⟨x, he, q⟩ => ⟨x, he, q⟩⟩
theorem int64_gen (A : SP) (m : Nat) (cl : Ct Tryz.prog W 85 [.slice o n c] [A] (fun _ : Unit => .int .u64 ((m : Nat) : Int)) (fun _ => [A])) (hm : m < 18446744073709551616) (hf : fitsI (sgn s m) = true) :
    Ct Tryz.prog W 51 [.pointer (some ⟨p, 0, none⟩)] [cellsP p [.bool s, .slice o n c] 83, A] (fun _ : Unit => .int .i64 (sgn s m)) (fun _ => [cellsP p [.bool s, .slice o n c] 83, A]) := by
  have hw := i64_big m hm
  unfold fitsI at hf
  rw [Bool.and_eq_true, decide_eq_true_eq, decide_eq_true_eq] at hf
  unfold sgn at hf ⊢
  obtain ⟨w, hwe⟩ : ∃ w : Int, w = if m < 9223372036854775808 then ((m : Nat) : Int) else ((m : Nat) : Int) - 18446744073709551616 := ⟨_, rfl⟩
  rw [← hwe] at hw
  cases s with
  | false =>
    rw [if_neg (by decide)] at hf ⊢
    have e : w = (m : Int) := by rw [hwe, if_pos (by omega)]
    subst e
    refine Ct.enter Tryz.func51 rfl Tryz.ntmps51 (by simp) (fun R => ?_)
    repeat' (first 
    | (refine is_call ?_; refine KJ_call xE cl xP rfl (fun _ => ?_))
    | (refine ek_conv ?_; refine EK_ev (Ev_convI_v rfl hw) ?_)
    | refine xst ?_
    | (refine xsa ?_; intro _)
    | (refine xsb ?_ ?_ <;> intro _ <;> first | (exfalso; omega) | skip)
    | refine xsc ?_
    | fail)
    all_goals (exact xdn ())
  | true =>
    rw [if_pos rfl] at hf ⊢
    have w1 : IntKind.i64.wrap (0 - w) = -(m : Int) := by
      rw [hwe]
      simp only [IntKind.wrap, IntKind.signed, IntKind.bits]
      simp
      split <;> split <;> omega
    refine Ct.enter Tryz.func51 rfl Tryz.ntmps51 (by simp) (fun R => ?_)
    repeat' (first 
    | (refine is_call ?_; refine KJ_call xE cl xP rfl (fun _ => ?_))
    | (refine ek_un ?_; refine EK_ev (Ev_neg_v rfl w1) ?_)
    | (refine ek_conv ?_; refine EK_ev (Ev_convI_v rfl hw) ?_)
    | refine xst ?_
    | (refine xsa ?_; intro _)
    | (refine xsb ?_ ?_ <;> intro _ <;> first | (exfalso; omega) | skip)
    | refine xsc ?_
    | fail)
    all_goals (exact xdn ())
theorem int64_ct (z : NSt) (hz : NOk z) (hf : fitsI (ival s z) = true) : Ct Tryz.prog W 51 [.pointer (some ⟨p, 0, none⟩)] [bigP p s z, natP z] (fun _ : Unit => .int .i64 (ival s z)) (fun _ => [bigP p s z, natP z]) := by
  obtain ⟨h1, h2, h3⟩ := nok_small hz
  have hn : z.n ≤ 1 := Decidable.byContradiction fun hn => by
    have := h2 hn
    unfold fitsI ival at hf
    rw [Bool.and_eq_true, decide_eq_true_eq, decide_eq_true_eq] at hf
    split at hf <;> omega
  exact int64_gen (natP z) z.m (nat_low z hz hn) (h1 hn) hf
theorem sign_ct (z : NSt) (hz : NOk z) (hs : s = true → z.n ≠ 0) : Ct Tryz.prog W 50 [.pointer (some ⟨p, 0, none⟩)] [bigP p s z] (fun _ : Unit => .int .i64 (if z.n = 0 then 0 else if s = true then -1 else 1)) (fun _ => [bigP p s z]) :=
  isign_ct (p := p) (s := s) (oz := z.o.map fun q => ⟨q.1, 0, none⟩) (nz := z.n) (cz := z.o.elim 0 fun q => q.2.length) hs (by have := (nok_small hz).2.2; omega)
/-- Sign tells whether it is nought -/
theorem sign_zero (z : NSt) (hz : NOk z) : decide ((if z.n = 0 then (0 : Int) else if s = true then -1 else 1) ≠ 0) = decide (ival s z ≠ 0) := by
  have hp := hz.pos
  have hi : ival s z = 0 ↔ z.m = 0 := by unfold ival; split <;> omega
  rw [Bool.eq_iff_iff, decide_eq_true_eq, decide_eq_true_eq, ne_eq, ne_eq, hi, ← hp]
  by_cases h : z.n = 0
  · rw [if_pos h]; simp [h]
  · rw [if_neg h]; split <;> simp [h]
end
end Go.Proofs.YtdbfemdpdpaffaaGreatDoor
