/-
  TbP, TbW1, TbW2, TbW3, TbW4, TbW5, TbW6.
-/
import Derived.Test.YtehheokalgmbgaaDoorHBQ
import Derived.Test.YtehheokalgmbgaaDoorHCB
import Derived.Test.YtehheokalgmbgaaDoorHBS
import Derived.Test.YtehheokalgmbgaaDoorHAM
import Derived.Test.YtehheokalgmbgaaDoorHBY
import Derived.Laws.MakeOwn
/-
  A table's nodes: once made they never change. All of them are one claim; that a tree lies there is a plain fact.
-/
namespace Go.Proofs.YtehheokalgmbgaaDoor
open Go Go.RowKit
/-- a node: its block and what it holds -/
structure Nd where
  b : Nat
  k : List UInt8
  v : List UInt8
  l : Option Addr
  r : Option Addr
  h : Nat
  s : Nat
def ndC (x : Nd) : List Value := [strV x.k, strV x.v, .pointer x.l, .pointer x.r, .int .i64 (x.h : Nat), .int .i64 (x.s : Nat)]
/-- these nodes lie in memory -/
def arP (N : List Nd) : SP := ⟨50, 0, fun h => ∀ x ∈ N, h x.b = some (.cells (ndC x).toArray 121 (0, 0))⟩
theorem arP_up {N : List Nd} : ∀ h g, Hl.le h g → (arP N).ok h → (arP N).ok g := fun _ _ le q x hx => le _ _ (q x hx)
/-- a tree lies among the nodes -/
def TrAt (N : List Nd) : Option Addr → Tr → Prop
  | a, .nil => a = none
  | a, .node l k v r h s => ∃ b al ar, a = some ⟨b, 0, none⟩ ∧ ⟨b, k, v, al, ar, h, s⟩ ∈ N ∧ TrAt N al l ∧ TrAt N ar r
theorem TrAt.mono {N N' : List Nd} (h : ∀ x ∈ N, x ∈ N') : ∀ {t : Tr} {a : Option Addr}, TrAt N a t → TrAt N' a t
  | .nil, _, q => q
  | .node _ _ _ _ _ _, _, ⟨b, al, ar, e, hm, q1, q2⟩ => ⟨b, al, ar, e, h _ hm, q1.mono h, q2.mono h⟩
section
variable {P : Program} {W : World} {n d : Nat} {E : Env} {H H' R R' : List SP} {k : KK} {t u e : TypeId} {x y z : Operand}
/-- a cell of a node -/
theorem Ev_loadNd {nd : Nd} {N : List Nd} {j : Nat} {v : Value} (hx : Env.ev E x = some (.pointer (some ⟨nd.b, j, none⟩))) [hu : ScIs P t] (hs : Sel (arP N) H R) (hn : nd ∈ N) (hv : (ndC nd)[j]? = some v) : Ev P W n E H (.load t x) v :=
  Ev.mk fun op hop ac w p s => by
    obtain ⟨dd, hu, hd⟩ := hu.h
    obtain ⟨h, ha, l⟩ := s.sel hs arP_up
    have hb := (l nd.b _ (ha nd hn)).2
    have hc : w.cell? ⟨nd.b, j, none⟩ = some v := by
      have hblk : Blk w nd.b (ndC nd) 121 := hb
      rw [hblk.cell]; exact hv
    simp [execOp, hop, p.ev hx, run_loadAt_one w hc hu hd, Result.andThen]
/-- a new node -/
theorem arAdd_star {N : List Nd} {nd : Nd} : ∀ g, starL (cellsP nd.b (ndC nd) 121 :: arP N :: H) g → starL (arP (nd :: N) :: H) g := fun g q => by
  obtain ⟨h1, h2, dj, l1, l2, hA, hH⟩ := (starL_append (A := [cellsP nd.b (ndC nd) 121, arP N]) (B := H) g).1 q
  refine ⟨h1, h2, dj, l1, l2, ?_, hH⟩
  obtain ⟨k1, k2, _, m1, m2, c1, c2⟩ := hA
  intro x hx
  rcases List.mem_cons.1 hx with e | e
  · subst e; exact m1 _ _ c1
  · exact m2 _ _ (starL_one' arP_up c2 x e)
theorem KJ.arAdd {N : List Nd} (nd : Nd) {g : Nat} {cs : List Value} {T : TypeId} (hg : nd.b = g) (hcs : ndC nd = cs) (hT : T = 121) (p : Pick [cellsP g cs T, arP N] H R) (h : KJ W n k E (arP (nd :: N) :: R)) : KJ W n k E H := by
  subst hg hcs hT
  exact ⟨fun a w q s => h.go a w q ((s.perm (p.perm.append_right _)).mono arAdd_star)⟩
/-- no nodes -/
theorem arNil_star : ∀ g, starL H g → starL (arP [] :: H) g := fun g q => ⟨fun _ => none, g, (fun _ _ q => by cases q), (fun _ _ q => by cases q), .rfl, (by intro x hx; cases hx), q⟩
theorem KJ.arNil (h : KJ W n k E (arP [] :: H)) : KJ W n k E H := ⟨fun a w q s => h.go a w q (s.mono arNil_star)⟩
end
/-- the nodes grew, and a tree lies there -/
abbrev Grew (N : List Nd) (t : Tr) : Type := {x : List Nd × Option Addr // (∀ y ∈ N, y ∈ x.1) ∧ TrAt x.1 x.2 t}
theorem cmpV (a c : List UInt8) : (Op.bytesLess a c = true ∧ Op.bytesLess c a = false) ∨ (Op.bytesLess a c = false ∧ Op.bytesLess c a = true) ∨ (Op.bytesLess a c = false ∧ Op.bytesLess c a = false) := by
  cases h : Op.bytesLess a c with
  | true => exact .inl ⟨rfl, tl_asym h⟩
  | false => cases h2 : Op.bytesLess c a with
    | true => exact .inr (.inl ⟨rfl, rfl⟩)
    | false => exact .inr (.inr ⟨rfl, rfl⟩)
section
variable {W : World}
/-- -1, 0 or 1 -/
def cmpI (a c : List UInt8) : Int := if Op.bytesLess a c = true then -1 else if Op.bytesLess c a = true then 1 else 0
instance : FnIs Tryd.prog 93 := ⟨by kernel_rfl⟩
instance : FnIs Tryd.prog 67 := ⟨by kernel_rfl⟩
theorem isNaN_ct (a : List UInt8) : Ct Tryd.prog W 93 [strV a] [] (fun _ : Unit => .bool false) (fun _ => []) := by
  refine Ct.enter Tryd.func93 rfl Tryd.ntmps93 (by simp) (fun R => ?_)
  repeat' (first 
    | (refine ek_neq ?_; refine EK_ev (Ev_neqS_f rfl rfl rfl) ?_)
    | refine xst ?_
    | (refine xsa ?_; intro _)
    | (refine xsb ?_ ?_ <;> intro _ <;> first | (exfalso; omega) | skip)
    | refine xsc ?_
    | fail)
  all_goals (exact xdn ())
theorem compare_ct (a c : List UInt8) : Ct Tryd.prog W 67 [strV a, strV c] [] (fun _ : Unit => .int .i64 (cmpI a c)) (fun _ => []) := by
  have c1 := isNaN_ct (W := W) a
  have c2 := isNaN_ct (W := W) c
  have hg : (!(Op.bytesLess a c || decide (a = c))) = Op.bytesLess c a := by rw [leq_not, Bool.not_not]
  rcases cmpV a c with ⟨h1, h2⟩ | ⟨h1, h2⟩ | ⟨h1, h2⟩
  · have e : cmpI a c = -1 := by unfold cmpI; rw [if_pos h1]
    rw [e]
    refine Ct.enter Tryd.func67 rfl Tryd.ntmps67 (by simp) (fun R => ?_)
    repeat' (first 
    | (refine is_call ?_; first | (refine KJ_call xE c2 xP rfl (fun _ => ?_)) | (refine KJ_call xE c1 xP rfl (fun _ => ?_)))
    | (refine ek_lss ?_; refine EK_ev (Ev_lssS_q rfl rfl h1) ?_)
    | refine xst ?_
    | (refine xsa ?_; intro _)
    | (refine xsb ?_ ?_ <;> intro _ <;> first | (exfalso; omega) | skip)
    | refine xsc ?_
    | fail)
    all_goals (exact xdn ())
  · have e : cmpI a c = 1 := by unfold cmpI; rw [if_neg (by rw [h1]; decide), if_pos h2]
    rw [e]
    rw [h2] at hg
    refine Ct.enter Tryd.func67 rfl Tryd.ntmps67 (by simp) (fun R => ?_)
    repeat' (first 
    | (refine is_call ?_; first | (refine KJ_call xE c2 xP rfl (fun _ => ?_)) | (refine KJ_call xE c1 xP rfl (fun _ => ?_)))
    | (refine ek_lss ?_; refine EK_ev (Ev_lssS_q rfl rfl h1) ?_)
    | (refine ek_gtr ?_; refine EK_ev (Ev_gtrS_q rfl rfl hg) ?_)
    | refine xst ?_
    | (refine xsa ?_; intro _)
    | (refine xsb ?_ ?_ <;> intro _ <;> first | (exfalso; omega) | skip)
    | refine xsc ?_
    | fail)
    all_goals (exact xdn ())
  · have e : cmpI a c = 0 := by unfold cmpI; rw [if_neg (by rw [h1]; decide), if_neg (by rw [h2]; decide)]
    rw [e]
    rw [h2] at hg
    refine Ct.enter Tryd.func67 rfl Tryd.ntmps67 (by simp) (fun R => ?_)
    repeat' (first 
    | (refine is_call ?_; first | (refine KJ_call xE c2 xP rfl (fun _ => ?_)) | (refine KJ_call xE c1 xP rfl (fun _ => ?_)))
    | (refine ek_lss ?_; refine EK_ev (Ev_lssS_q rfl rfl h1) ?_)
    | (refine ek_gtr ?_; refine EK_ev (Ev_gtrS_q rfl rfl hg) ?_)
    | refine xst ?_
    | (refine xsa ?_; intro _)
    | (refine xsb ?_ ?_ <;> intro _ <;> first | (exfalso; omega) | skip)
    | refine xsc ?_
    | fail)
    all_goals (exact xdn ())
end
end Go.Proofs.YtehheokalgmbgaaDoor
/-
  The package table: tall, count, join.
-/
namespace Go.Proofs.YtehheokalgmbgaaDoor
open Go Go.RowKit
section
variable {W : World} {N : List Nd} {a c : Option Addr} {l r t : Tr} {k v : List UInt8}
theorem tall_ct (hT : TrAt N a t) : Ct Tryd.prog W 101 [.pointer a] [arP N] (fun _ : Unit => .int .i64 (t.tall : Nat)) (fun _ => [arP N]) := by
  cases t with
  | nil =>
    cases hT
    refine Ct.enter Tryd.func101 rfl Tryd.ntmps101 (by simp) (fun R => ?_)
    repeat' (first 
    | refine xst ?_
    | (refine xsa ?_; intro _)
    | (refine xsb ?_ ?_ <;> intro _ <;> first | (exfalso; omega) | skip)
    | refine xsc ?_
    | fail)
    all_goals (exact xdn ())
  | node tl tk tv tr th ts =>
    obtain ⟨b, al, ar, rfl, hm, -, -⟩ := hT
    refine Ct.enter Tryd.func101 rfl Tryd.ntmps101 (by simp) (fun R => ?_)
    repeat' (first 
    | (refine ek_load ?_; refine EK_ev (Ev_loadNd (nd := ⟨b, tk, tv, al, ar, th, ts⟩) rfl xS hm rfl) ?_)
    | refine xst ?_
    | (refine xsa ?_; intro _)
    | (refine xsb ?_ ?_ <;> intro _ <;> first | (exfalso; omega) | skip)
    | refine xsc ?_
    | fail)
    all_goals (exact xdn ())
theorem count_ct (hT : TrAt N a t) : Ct Tryd.prog W 64 [.pointer a] [arP N] (fun _ : Unit => .int .i64 (t.cnt : Nat)) (fun _ => [arP N]) := by
  cases t with
  | nil =>
    cases hT
    refine Ct.enter Tryd.func64 rfl Tryd.ntmps64 (by simp) (fun R => ?_)
    repeat' (first 
    | refine xst ?_
    | (refine xsa ?_; intro _)
    | (refine xsb ?_ ?_ <;> intro _ <;> first | (exfalso; omega) | skip)
    | refine xsc ?_
    | fail)
    all_goals (exact xdn ())
  | node tl tk tv tr th ts =>
    obtain ⟨b, al, ar, rfl, hm, -, -⟩ := hT
    refine Ct.enter Tryd.func64 rfl Tryd.ntmps64 (by simp) (fun R => ?_)
    repeat' (first 
    | (refine ek_load ?_; refine EK_ev (Ev_loadNd (nd := ⟨b, tk, tv, al, ar, th, ts⟩) rfl xS hm rfl) ?_)
    | refine xst ?_
    | (refine xsa ?_; intro _)
    | (refine xsb ?_ ?_ <;> intro _ <;> first | (exfalso; omega) | skip)
    | refine xsc ?_
    | fail)
    all_goals (exact xdn ())
set_option maxHeartbeats 1000000 in
theorem join_ct (hl : TrAt N a l) (hr : TrAt N c r) (h1 : l.tall ≤ 2305843009213693952) (h2 : r.tall ≤ 2305843009213693952) (h3 : l.cnt ≤ 2305843009213693952) (h4 : r.cnt ≤ 2305843009213693952) :
    Ct Tryd.prog W 92 [.pointer a, strV k, strV v, .pointer c] [arP N] (fun x : Grew N (Tr.join l k v r) => .pointer x.1.2) (fun x => [arP x.1.1]) := by
  have c1 := tall_ct (W := W) hl
  have c2 := tall_ct (W := W) hr
  have c3 := count_ct (W := W) hl
  have c4 := count_ct (W := W) hr
  obtain ⟨tl, htl⟩ : ∃ x, x = l.tall := ⟨_, rfl⟩
  obtain ⟨tr, htr⟩ : ∃ x, x = r.tall := ⟨_, rfl⟩
  obtain ⟨nl, hnl⟩ : ∃ x, x = l.cnt := ⟨_, rfl⟩
  obtain ⟨nr, hnr⟩ : ∃ x, x = r.cnt := ⟨_, rfl⟩
  rw [← htl] at h1 c1
  rw [← htr] at h2 c2
  rw [← hnl] at h3 c3
  rw [← hnr] at h4 c4
  have hmx : max ((tl : Nat) : Int) ((tr : Nat) : Int) = ((max tl tr : Nat) : Int) := by omega
  refine Ct.enter Tryd.func92 rfl Tryd.ntmps92 (by simp) (fun R => ?_)
  repeat' (first 
    | (refine is_box ?_; refine KJ_box rfl xF rfl (fun g => ?_); refine KJ.arAdd ⟨g, k, v, a, c, max tl tr + 1, nl + nr + 1⟩ rfl rfl rfl xP ?_)
    | (refine is_call ?_; first | (refine KJ_call xE c4 xP rfl (fun _ => ?_)) | (refine KJ_call xE c3 xP rfl (fun _ => ?_)) | (refine KJ_call xE c2 xP rfl (fun _ => ?_)) | (refine KJ_call xE c1 xP rfl (fun _ => ?_)))
    | (refine ek_build ?_; refine EK_ev (Ev_build xV xW) ?_)
    | (refine ek_max ?_; refine EK_ev (Ev_max_w rfl rfl hmx) ?_)
    | (refine ek_add ?_; first | refine EK_ev (Ev_addI_v (r := ((nl + nr + 1 : Nat) : Int)) rfl rfl (by omega) (by omega)) ?_ | refine EK_ev (Ev_addI_v (r := ((nl + nr : Nat) : Int)) rfl rfl (by omega) (by omega)) ?_ | refine EK_ev (Ev_addI_v (r := ((max tl tr + 1 : Nat) : Int)) rfl rfl (by omega) (by omega)) ?_)
    | refine xst ?_
    | (refine xsa ?_; intro _)
    | (refine xsb ?_ ?_ <;> intro _ <;> first | (exfalso; omega) | skip)
    | refine xsc ?_
    | fail)
  all_goals (exact xdn ⟨(⟨g, k, v, a, c, max tl tr + 1, nl + nr + 1⟩ :: N, some ⟨g, 0, none⟩), fun y hy => List.mem_cons_of_mem _ hy, ⟨g, a, c, rfl, by rw [htl, htr, hnl, hnr]; exact List.mem_cons_self .., hl.mono fun y hy => List.mem_cons_of_mem _ hy, hr.mono fun y hy => List.mem_cons_of_mem _ hy⟩⟩)
end
end Go.Proofs.YtehheokalgmbgaaDoor
/-
  The package table: level. (Printed by gentb2.py.)
-/
namespace Go.Proofs.YtehheokalgmbgaaDoor
open Go Go.RowKit
theorem Tr.child {l r : Tr} {k v : List UInt8} {h s : Nat} (q : (Tr.node l k v r h s).Ok) : l.Ok ∧ r.Ok ∧ l.tall ≤ h ∧ r.tall ≤ h ∧ l.cnt ≤ s ∧ r.cnt ≤ s := ⟨q.1, q.2.1, by have := q.2.2.1; omega, by have := q.2.2.1; omega, by have := q.2.2.2.1; omega, by have := q.2.2.2.1; omega⟩
theorem join_tall (l r : Tr) (k v : List UInt8) : (Tr.join l k v r).tall = max l.tall r.tall + 1 := rfl
theorem join_cnt (l r : Tr) (k v : List UInt8) : (Tr.join l k v r).cnt = l.cnt + r.cnt + 1 := rfl
section
variable {W : World} {N : List Nd} {a c : Option Addr} {l r t : Tr} {k v : List UInt8}
set_option maxHeartbeats 4000000 in
theorem level_ct (hl : TrAt N a l) (hr : TrAt N c r) (ol : l.Ok) (or_ : r.Ok) (h3 : l.cnt ≤ 576460752303423488) (h4 : r.cnt ≤ 576460752303423488) :
    Ct Tryd.prog W 91 [.pointer a, strV k, strV v, .pointer c] [arP N] (fun x : Grew N (Tr.level l k v r) => .pointer x.1.2) (fun x => [arP x.1.1]) := by
  have h1 := Tr.tall_cnt ol
  have h2 := Tr.tall_cnt or_
  have c1 := tall_ct (W := W) hl
  have c2 := tall_ct (W := W) hr
  by_cases hc : r.tall + 1 < l.tall
  · have hcn : True := trivial
    cases l with
    | nil => exact absurd hc (by simp only [Tr.t0]; omega)
    | node tl yk yv tr yh ys =>
      obtain ⟨b, yl, yr, rfl, hm, hyl, hyr⟩ := hl
      have hN : TrAt N (some ⟨b, 0, none⟩) (.node tl yk yv tr yh ys) := ⟨b, yl, yr, rfl, hm, hyl, hyr⟩
      obtain ⟨k1, k2, k3, k4, k5, k6⟩ := Tr.child ol
      rw [Tr.tn] at h1 c1
      simp only [Tr.tn] at hc hcn
      have c3 := tall_ct (W := W) hyl
      have c4 := tall_ct (W := W) hyr
      have h3 : ys ≤ 576460752303423488 := h3
      have h1 : yh ≤ ys := h1
      have q1 : decide (((r.tall + 1 : Nat) : Int) < ((yh : Nat) : Int)) = true := decide_eq_true (by omega)
      by_cases hc2 : tr.tall ≤ tl.tall
      · have q3 : decide (((tr.tall : Nat) : Int) ≤ ((tl.tall : Nat) : Int)) = true := decide_eq_true (by omega)
        have he : Tr.level (.node tl yk yv tr yh ys) k v r = Tr.join tl yk yv (Tr.join tr k v r) := by unfold Tr.level; exact (if_pos (by simp only [Tr.tn]; exact hc)).trans (if_pos hc2)
        have b1 := join_tall tr r k v
        have b2 := join_cnt tr r k v
        rw [he]
        refine Ct.enter Tryd.func91 rfl Tryd.ntmps91 (by simp) (fun R => ?_)
        repeat' (first 
    | (refine is_call ?_; first | (refine KJ_call xE (join_ct (W := W) (hyr) (hr) (by omega) (by omega) (by omega) (by omega)) xP rfl (fun x => ?_); obtain ⟨⟨N1, p1⟩, g1, t1⟩ := x; dsimp only at g1 t1 ⊢; refine hold ?_) | (refine KJ_call xE c4 xP rfl (fun _ => ?_)) | (refine KJ_call xE c3 xP rfl (fun _ => ?_)) | (refine KJ_call xE c2 xP rfl (fun _ => ?_)) | (refine KJ_call xE c1 xP rfl (fun _ => ?_)))
    | (refine ek_load ?_; refine EK_ev (Ev_loadNd (nd := ⟨b, yk, yv, yl, yr, yh, ys⟩) rfl xS hm rfl) ?_)
    | (refine ek_add ?_; refine EK_ev (Ev_addI_v (r := ((r.tall + 1 : Nat) : Int)) rfl rfl (by omega) (by omega)) ?_)
    | (refine ek_gtr ?_; refine EK_ev (Ev_gtrI_q rfl rfl q1) ?_)
    | (refine ek_geq ?_; refine EK_ev (Ev_geqI_q rfl rfl q3) ?_)
    | refine xst ?_
    | (refine xsa ?_; intro _)
    | (refine xsb ?_ ?_ <;> intro _ <;> first | (exfalso; omega) | skip)
    | refine xsc ?_
    | (refine KJ_draws (id := 3) (.op 0 (.op 1 (.op 2 (.op 3 (.op 5 (.op 6 (.op 7 (.op 8 (.ef 4 [8, 7, 6, 5] (.ef 9 [] (.op 10 .nil))))))))))) (by kernel_rfl) (by kernel_rfl) ?_)
    | (refine KJ_draws (id := 4) (.op 0 (.op 1 (.op 2 (.op 3 (.op 4 (.op 5 (.op 6 (.op 7 (.op 8 (.op 9 (.op 10 (.op 11 (.op 12 (.op 13 (.op 14 (.op 15 (.op 16 (.op 17 (.op 18 (.ef 19 [11, 10, 9, 8, 7, 6, 5, 4, 3, 2, 1, 0] (.ef 20 [] (.op 21 .nil)))))))))))))))))))))) (by kernel_rfl) (by kernel_rfl) ?_)
    | (refine KJ_draws (id := 6) (.op 0 (.op 1 (.op 2 (.op 3 (.op 4 (.op 5 (.op 6 (.op 7 (.op 8 (.op 9 (.op 10 (.op 11 (.op 12 (.op 13 (.op 14 (.op 15 (.op 17 (.op 18 (.op 19 (.op 20 (.op 21 (.op 22 (.op 23 (.op 24 (.op 25 (.op 26 (.op 27 (.op 28 (.op 29 (.op 30 (.op 31 (.ef 16 [31, 30, 29, 28, 27, 26, 25, 24, 23, 22, 21, 20, 19, 18, 17] (.ef 32 [24, 23, 22, 21, 20, 19, 18, 17] (.ef 33 [] (.op 34 .nil))))))))))))))))))))))))))))))))))) (by kernel_rfl) (by kernel_rfl) ?_)
    | (refine KJ_draws (id := 8) (.op 0 (.op 1 (.op 2 (.op 3 (.op 5 (.op 6 (.op 7 (.op 8 (.ef 4 [8, 7, 6, 5] (.ef 9 [] (.op 10 .nil))))))))))) (by kernel_rfl) (by kernel_rfl) ?_)
    | (refine KJ_draws (id := 9) (.op 0 (.op 1 (.op 2 (.op 3 (.op 4 (.op 5 (.op 6 (.op 8 (.op 9 (.op 10 (.op 11 (.op 12 (.op 13 (.op 14 (.op 15 (.op 16 (.op 17 (.op 18 (.op 19 (.ef 7 [19, 18, 17, 16, 15, 14, 13, 12, 11, 10, 9, 8] (.ef 20 [] (.op 21 .nil)))))))))))))))))))))) (by kernel_rfl) (by kernel_rfl) ?_)
    | (refine KJ_draws (id := 11) (.op 0 (.op 1 (.op 2 (.op 3 (.op 4 (.op 5 (.op 6 (.op 8 (.op 9 (.op 10 (.op 11 (.op 12 (.op 13 (.op 14 (.op 15 (.op 16 (.op 17 (.op 18 (.op 19 (.op 20 (.op 21 (.op 22 (.op 23 (.op 24 (.op 25 (.op 26 (.op 27 (.op 28 (.op 29 (.op 30 (.op 31 (.ef 7 [31, 30, 29, 28, 27, 26, 25, 24, 23, 22, 21, 20, 19, 18, 17, 16, 15, 14, 13, 12, 11, 10, 9, 8] (.ef 32 [15, 14, 13, 12, 11, 10, 9, 8] (.ef 33 [] (.op 34 .nil))))))))))))))))))))))))))))))))))) (by kernel_rfl) (by kernel_rfl) ?_)
    | refine FW_alt ?_ ?_
    | refine FW_efn rfl rfl rfl rfl rfl ?_ ?_
    | refine KJ_flow ?_ ?_
    | exact Rech.nil
    | fail)
        refine Hold.mk ?_
        repeat' (first 
    | (refine is_call ?_; refine KJ_call xE (join_ct (W := W) (hyl.mono g1) (t1) (by omega) (by omega) (by omega) (by omega)) xP rfl (fun x => ?_); obtain ⟨⟨N2, p2⟩, g2, t2⟩ := x; dsimp only at g2 t2 ⊢)
    | (refine ek_load ?_; refine EK_ev (Ev_loadNd (nd := ⟨b, yk, yv, yl, yr, yh, ys⟩) rfl xS (g1 _ hm) rfl) ?_)
    | refine xst ?_
    | (refine xsa ?_; intro _)
    | (refine xsb ?_ ?_ <;> intro _ <;> first | (exfalso; omega) | skip)
    | refine xsc ?_
    | (refine KJ_draws (id := 3) (.op 0 (.op 1 (.op 2 (.op 3 (.op 5 (.op 6 (.op 7 (.op 8 (.ef 4 [8, 7, 6, 5] (.ef 9 [] (.op 10 .nil))))))))))) (by kernel_rfl) (by kernel_rfl) ?_)
    | (refine KJ_draws (id := 4) (.op 0 (.op 1 (.op 2 (.op 3 (.op 4 (.op 5 (.op 6 (.op 7 (.op 8 (.op 9 (.op 10 (.op 11 (.op 12 (.op 13 (.op 14 (.op 15 (.op 16 (.op 17 (.op 18 (.ef 19 [11, 10, 9, 8, 7, 6, 5, 4, 3, 2, 1, 0] (.ef 20 [] (.op 21 .nil)))))))))))))))))))))) (by kernel_rfl) (by kernel_rfl) ?_)
    | (refine KJ_draws (id := 6) (.op 0 (.op 1 (.op 2 (.op 3 (.op 4 (.op 5 (.op 6 (.op 7 (.op 8 (.op 9 (.op 10 (.op 11 (.op 12 (.op 13 (.op 14 (.op 15 (.op 17 (.op 18 (.op 19 (.op 20 (.op 21 (.op 22 (.op 23 (.op 24 (.op 25 (.op 26 (.op 27 (.op 28 (.op 29 (.op 30 (.op 31 (.ef 16 [31, 30, 29, 28, 27, 26, 25, 24, 23, 22, 21, 20, 19, 18, 17] (.ef 32 [24, 23, 22, 21, 20, 19, 18, 17] (.ef 33 [] (.op 34 .nil))))))))))))))))))))))))))))))))))) (by kernel_rfl) (by kernel_rfl) ?_)
    | (refine KJ_draws (id := 8) (.op 0 (.op 1 (.op 2 (.op 3 (.op 5 (.op 6 (.op 7 (.op 8 (.ef 4 [8, 7, 6, 5] (.ef 9 [] (.op 10 .nil))))))))))) (by kernel_rfl) (by kernel_rfl) ?_)
    | (refine KJ_draws (id := 9) (.op 0 (.op 1 (.op 2 (.op 3 (.op 4 (.op 5 (.op 6 (.op 8 (.op 9 (.op 10 (.op 11 (.op 12 (.op 13 (.op 14 (.op 15 (.op 16 (.op 17 (.op 18 (.op 19 (.ef 7 [19, 18, 17, 16, 15, 14, 13, 12, 11, 10, 9, 8] (.ef 20 [] (.op 21 .nil)))))))))))))))))))))) (by kernel_rfl) (by kernel_rfl) ?_)
    | (refine KJ_draws (id := 11) (.op 0 (.op 1 (.op 2 (.op 3 (.op 4 (.op 5 (.op 6 (.op 8 (.op 9 (.op 10 (.op 11 (.op 12 (.op 13 (.op 14 (.op 15 (.op 16 (.op 17 (.op 18 (.op 19 (.op 20 (.op 21 (.op 22 (.op 23 (.op 24 (.op 25 (.op 26 (.op 27 (.op 28 (.op 29 (.op 30 (.op 31 (.ef 7 [31, 30, 29, 28, 27, 26, 25, 24, 23, 22, 21, 20, 19, 18, 17, 16, 15, 14, 13, 12, 11, 10, 9, 8] (.ef 32 [15, 14, 13, 12, 11, 10, 9, 8] (.ef 33 [] (.op 34 .nil))))))))))))))))))))))))))))))))))) (by kernel_rfl) (by kernel_rfl) ?_)
    | refine FW_alt ?_ ?_
    | refine FW_efn rfl rfl rfl rfl rfl ?_ ?_
    | refine KJ_flow ?_ ?_
    | exact Rech.nil
    | fail)
        all_goals (exact xdn ⟨(N2, p2), fun y hy => g2 y (g1 y hy), t2⟩)
      · have q3 : decide (((tr.tall : Nat) : Int) ≤ ((tl.tall : Nat) : Int)) = false := decide_eq_false (by omega)
        cases tr with
        | nil => exact absurd hc2 (by simp only [Tr.t0]; omega)
        | node ml zk zv mr zh zs =>
          obtain ⟨d, zl, zr, hze, hmz, hzl, hzr⟩ := hyr
          subst hze
          obtain ⟨m1, m2, m3, m4, m5, m6⟩ := Tr.child k2
          rw [Tr.tn] at c4 q3
          simp only [Tr.tn] at hc2
          have k4 : zh ≤ yh := k4
          have k6 : zs ≤ ys := k6
          have he : Tr.level (.node tl yk yv (.node ml zk zv mr zh zs) yh ys) k v r = Tr.join (Tr.join tl yk yv ml) zk zv (Tr.join mr k v r) := by unfold Tr.level; exact (if_pos (by simp only [Tr.tn]; exact hc)).trans (if_neg (by simp only [Tr.tn]; exact hc2))
          have b1 := join_tall tl ml yk yv
          have b2 := join_cnt tl ml yk yv
          have b3 := join_tall mr r k v
          have b4 := join_cnt mr r k v
          rw [he]
          refine Ct.enter Tryd.func91 rfl Tryd.ntmps91 (by simp) (fun R => ?_)
          repeat' (first 
    | (refine is_call ?_; first | (refine KJ_call xE (join_ct (W := W) (hyl) (hzl) (by omega) (by omega) (by omega) (by omega)) xP rfl (fun x => ?_); obtain ⟨⟨N1, p1⟩, g1, t1⟩ := x; dsimp only at g1 t1 ⊢; refine hold ?_) | (refine KJ_call xE c4 xP rfl (fun _ => ?_)) | (refine KJ_call xE c3 xP rfl (fun _ => ?_)) | (refine KJ_call xE c2 xP rfl (fun _ => ?_)) | (refine KJ_call xE c1 xP rfl (fun _ => ?_)))
    | (refine ek_load ?_; first | refine EK_ev (Ev_loadNd (nd := ⟨d, zk, zv, zl, zr, zh, zs⟩) rfl xS hmz rfl) ?_ | refine EK_ev (Ev_loadNd (nd := ⟨b, yk, yv, yl, some ⟨d, 0, none⟩, yh, ys⟩) rfl xS hm rfl) ?_)
    | (refine ek_add ?_; refine EK_ev (Ev_addI_v (r := ((r.tall + 1 : Nat) : Int)) rfl rfl (by omega) (by omega)) ?_)
    | (refine ek_gtr ?_; refine EK_ev (Ev_gtrI_q rfl rfl q1) ?_)
    | (refine ek_geq ?_; refine EK_ev (Ev_geqI_q rfl rfl q3) ?_)
    | refine xst ?_
    | (refine xsa ?_; intro _)
    | (refine xsb ?_ ?_ <;> intro _ <;> first | (exfalso; omega) | skip)
    | refine xsc ?_
    | (refine KJ_draws (id := 3) (.op 0 (.op 1 (.op 2 (.op 3 (.op 5 (.op 6 (.op 7 (.op 8 (.ef 4 [8, 7, 6, 5] (.ef 9 [] (.op 10 .nil))))))))))) (by kernel_rfl) (by kernel_rfl) ?_)
    | (refine KJ_draws (id := 4) (.op 0 (.op 1 (.op 2 (.op 3 (.op 4 (.op 5 (.op 6 (.op 7 (.op 8 (.op 9 (.op 10 (.op 11 (.op 12 (.op 13 (.op 14 (.op 15 (.op 16 (.op 17 (.op 18 (.ef 19 [11, 10, 9, 8, 7, 6, 5, 4, 3, 2, 1, 0] (.ef 20 [] (.op 21 .nil)))))))))))))))))))))) (by kernel_rfl) (by kernel_rfl) ?_)
    | (refine KJ_draws (id := 6) (.op 0 (.op 1 (.op 2 (.op 3 (.op 4 (.op 5 (.op 6 (.op 7 (.op 8 (.op 9 (.op 10 (.op 11 (.op 12 (.op 13 (.op 14 (.op 15 (.op 17 (.op 18 (.op 19 (.op 20 (.op 21 (.op 22 (.op 23 (.op 24 (.op 25 (.op 26 (.op 27 (.op 28 (.op 29 (.op 30 (.op 31 (.ef 16 [31, 30, 29, 28, 27, 26, 25, 24, 23, 22, 21, 20, 19, 18, 17] (.ef 32 [24, 23, 22, 21, 20, 19, 18, 17] (.ef 33 [] (.op 34 .nil))))))))))))))))))))))))))))))))))) (by kernel_rfl) (by kernel_rfl) ?_)
    | (refine KJ_draws (id := 8) (.op 0 (.op 1 (.op 2 (.op 3 (.op 5 (.op 6 (.op 7 (.op 8 (.ef 4 [8, 7, 6, 5] (.ef 9 [] (.op 10 .nil))))))))))) (by kernel_rfl) (by kernel_rfl) ?_)
    | (refine KJ_draws (id := 9) (.op 0 (.op 1 (.op 2 (.op 3 (.op 4 (.op 5 (.op 6 (.op 8 (.op 9 (.op 10 (.op 11 (.op 12 (.op 13 (.op 14 (.op 15 (.op 16 (.op 17 (.op 18 (.op 19 (.ef 7 [19, 18, 17, 16, 15, 14, 13, 12, 11, 10, 9, 8] (.ef 20 [] (.op 21 .nil)))))))))))))))))))))) (by kernel_rfl) (by kernel_rfl) ?_)
    | (refine KJ_draws (id := 11) (.op 0 (.op 1 (.op 2 (.op 3 (.op 4 (.op 5 (.op 6 (.op 8 (.op 9 (.op 10 (.op 11 (.op 12 (.op 13 (.op 14 (.op 15 (.op 16 (.op 17 (.op 18 (.op 19 (.op 20 (.op 21 (.op 22 (.op 23 (.op 24 (.op 25 (.op 26 (.op 27 (.op 28 (.op 29 (.op 30 (.op 31 (.ef 7 [31, 30, 29, 28, 27, 26, 25, 24, 23, 22, 21, 20, 19, 18, 17, 16, 15, 14, 13, 12, 11, 10, 9, 8] (.ef 32 [15, 14, 13, 12, 11, 10, 9, 8] (.ef 33 [] (.op 34 .nil))))))))))))))))))))))))))))))))))) (by kernel_rfl) (by kernel_rfl) ?_)
    | refine FW_alt ?_ ?_
    | refine FW_efn rfl rfl rfl rfl rfl ?_ ?_
    | refine KJ_flow ?_ ?_
    | exact Rech.nil
    | fail)
          refine Hold.mk ?_
          repeat' (first 
    | (refine is_call ?_; refine KJ_call xE (join_ct (W := W) (hzr.mono g1) (hr.mono g1) (by omega) (by omega) (by omega) (by omega)) xP rfl (fun x => ?_); obtain ⟨⟨N2, p2⟩, g2, t2⟩ := x; dsimp only at g2 t2 ⊢; refine hold ?_)
    | (refine ek_load ?_; first | refine EK_ev (Ev_loadNd (nd := ⟨d, zk, zv, zl, zr, zh, zs⟩) rfl xS (g1 _ hmz) rfl) ?_ | refine EK_ev (Ev_loadNd (nd := ⟨b, yk, yv, yl, some ⟨d, 0, none⟩, yh, ys⟩) rfl xS (g1 _ hm) rfl) ?_)
    | refine xst ?_
    | (refine xsa ?_; intro _)
    | (refine xsb ?_ ?_ <;> intro _ <;> first | (exfalso; omega) | skip)
    | refine xsc ?_
    | (refine KJ_draws (id := 3) (.op 0 (.op 1 (.op 2 (.op 3 (.op 5 (.op 6 (.op 7 (.op 8 (.ef 4 [8, 7, 6, 5] (.ef 9 [] (.op 10 .nil))))))))))) (by kernel_rfl) (by kernel_rfl) ?_)
    | (refine KJ_draws (id := 4) (.op 0 (.op 1 (.op 2 (.op 3 (.op 4 (.op 5 (.op 6 (.op 7 (.op 8 (.op 9 (.op 10 (.op 11 (.op 12 (.op 13 (.op 14 (.op 15 (.op 16 (.op 17 (.op 18 (.ef 19 [11, 10, 9, 8, 7, 6, 5, 4, 3, 2, 1, 0] (.ef 20 [] (.op 21 .nil)))))))))))))))))))))) (by kernel_rfl) (by kernel_rfl) ?_)
    | (refine KJ_draws (id := 6) (.op 0 (.op 1 (.op 2 (.op 3 (.op 4 (.op 5 (.op 6 (.op 7 (.op 8 (.op 9 (.op 10 (.op 11 (.op 12 (.op 13 (.op 14 (.op 15 (.op 17 (.op 18 (.op 19 (.op 20 (.op 21 (.op 22 (.op 23 (.op 24 (.op 25 (.op 26 (.op 27 (.op 28 (.op 29 (.op 30 (.op 31 (.ef 16 [31, 30, 29, 28, 27, 26, 25, 24, 23, 22, 21, 20, 19, 18, 17] (.ef 32 [24, 23, 22, 21, 20, 19, 18, 17] (.ef 33 [] (.op 34 .nil))))))))))))))))))))))))))))))))))) (by kernel_rfl) (by kernel_rfl) ?_)
    | (refine KJ_draws (id := 8) (.op 0 (.op 1 (.op 2 (.op 3 (.op 5 (.op 6 (.op 7 (.op 8 (.ef 4 [8, 7, 6, 5] (.ef 9 [] (.op 10 .nil))))))))))) (by kernel_rfl) (by kernel_rfl) ?_)
    | (refine KJ_draws (id := 9) (.op 0 (.op 1 (.op 2 (.op 3 (.op 4 (.op 5 (.op 6 (.op 8 (.op 9 (.op 10 (.op 11 (.op 12 (.op 13 (.op 14 (.op 15 (.op 16 (.op 17 (.op 18 (.op 19 (.ef 7 [19, 18, 17, 16, 15, 14, 13, 12, 11, 10, 9, 8] (.ef 20 [] (.op 21 .nil)))))))))))))))))))))) (by kernel_rfl) (by kernel_rfl) ?_)
    | (refine KJ_draws (id := 11) (.op 0 (.op 1 (.op 2 (.op 3 (.op 4 (.op 5 (.op 6 (.op 8 (.op 9 (.op 10 (.op 11 (.op 12 (.op 13 (.op 14 (.op 15 (.op 16 (.op 17 (.op 18 (.op 19 (.op 20 (.op 21 (.op 22 (.op 23 (.op 24 (.op 25 (.op 26 (.op 27 (.op 28 (.op 29 (.op 30 (.op 31 (.ef 7 [31, 30, 29, 28, 27, 26, 25, 24, 23, 22, 21, 20, 19, 18, 17, 16, 15, 14, 13, 12, 11, 10, 9, 8] (.ef 32 [15, 14, 13, 12, 11, 10, 9, 8] (.ef 33 [] (.op 34 .nil))))))))))))))))))))))))))))))))))) (by kernel_rfl) (by kernel_rfl) ?_)
    | refine FW_alt ?_ ?_
    | refine FW_efn rfl rfl rfl rfl rfl ?_ ?_
    | refine KJ_flow ?_ ?_
    | exact Rech.nil
    | fail)
          refine Hold.mk ?_
          repeat' (first 
    | (refine is_call ?_; refine KJ_call xE (join_ct (W := W) (t1.mono g2) (t2) (by omega) (by omega) (by omega) (by omega)) xP rfl (fun x => ?_); obtain ⟨⟨N3, p3⟩, g3, t3⟩ := x; dsimp only at g3 t3 ⊢)
    | (refine ek_load ?_; first | refine EK_ev (Ev_loadNd (nd := ⟨d, zk, zv, zl, zr, zh, zs⟩) rfl xS (g2 _ (g1 _ hmz)) rfl) ?_ | refine EK_ev (Ev_loadNd (nd := ⟨b, yk, yv, yl, some ⟨d, 0, none⟩, yh, ys⟩) rfl xS (g2 _ (g1 _ hm)) rfl) ?_)
    | refine xst ?_
    | (refine xsa ?_; intro _)
    | (refine xsb ?_ ?_ <;> intro _ <;> first | (exfalso; omega) | skip)
    | refine xsc ?_
    | (refine KJ_draws (id := 3) (.op 0 (.op 1 (.op 2 (.op 3 (.op 5 (.op 6 (.op 7 (.op 8 (.ef 4 [8, 7, 6, 5] (.ef 9 [] (.op 10 .nil))))))))))) (by kernel_rfl) (by kernel_rfl) ?_)
    | (refine KJ_draws (id := 4) (.op 0 (.op 1 (.op 2 (.op 3 (.op 4 (.op 5 (.op 6 (.op 7 (.op 8 (.op 9 (.op 10 (.op 11 (.op 12 (.op 13 (.op 14 (.op 15 (.op 16 (.op 17 (.op 18 (.ef 19 [11, 10, 9, 8, 7, 6, 5, 4, 3, 2, 1, 0] (.ef 20 [] (.op 21 .nil)))))))))))))))))))))) (by kernel_rfl) (by kernel_rfl) ?_)
    | (refine KJ_draws (id := 6) (.op 0 (.op 1 (.op 2 (.op 3 (.op 4 (.op 5 (.op 6 (.op 7 (.op 8 (.op 9 (.op 10 (.op 11 (.op 12 (.op 13 (.op 14 (.op 15 (.op 17 (.op 18 (.op 19 (.op 20 (.op 21 (.op 22 (.op 23 (.op 24 (.op 25 (.op 26 (.op 27 (.op 28 (.op 29 (.op 30 (.op 31 (.ef 16 [31, 30, 29, 28, 27, 26, 25, 24, 23, 22, 21, 20, 19, 18, 17] (.ef 32 [24, 23, 22, 21, 20, 19, 18, 17] (.ef 33 [] (.op 34 .nil))))))))))))))))))))))))))))))))))) (by kernel_rfl) (by kernel_rfl) ?_)
    | (refine KJ_draws (id := 8) (.op 0 (.op 1 (.op 2 (.op 3 (.op 5 (.op 6 (.op 7 (.op 8 (.ef 4 [8, 7, 6, 5] (.ef 9 [] (.op 10 .nil))))))))))) (by kernel_rfl) (by kernel_rfl) ?_)
    | (refine KJ_draws (id := 9) (.op 0 (.op 1 (.op 2 (.op 3 (.op 4 (.op 5 (.op 6 (.op 8 (.op 9 (.op 10 (.op 11 (.op 12 (.op 13 (.op 14 (.op 15 (.op 16 (.op 17 (.op 18 (.op 19 (.ef 7 [19, 18, 17, 16, 15, 14, 13, 12, 11, 10, 9, 8] (.ef 20 [] (.op 21 .nil)))))))))))))))))))))) (by kernel_rfl) (by kernel_rfl) ?_)
    | (refine KJ_draws (id := 11) (.op 0 (.op 1 (.op 2 (.op 3 (.op 4 (.op 5 (.op 6 (.op 8 (.op 9 (.op 10 (.op 11 (.op 12 (.op 13 (.op 14 (.op 15 (.op 16 (.op 17 (.op 18 (.op 19 (.op 20 (.op 21 (.op 22 (.op 23 (.op 24 (.op 25 (.op 26 (.op 27 (.op 28 (.op 29 (.op 30 (.op 31 (.ef 7 [31, 30, 29, 28, 27, 26, 25, 24, 23, 22, 21, 20, 19, 18, 17, 16, 15, 14, 13, 12, 11, 10, 9, 8] (.ef 32 [15, 14, 13, 12, 11, 10, 9, 8] (.ef 33 [] (.op 34 .nil))))))))))))))))))))))))))))))))))) (by kernel_rfl) (by kernel_rfl) ?_)
    | refine FW_alt ?_ ?_
    | refine FW_efn rfl rfl rfl rfl rfl ?_ ?_
    | refine KJ_flow ?_ ?_
    | exact Rech.nil
    | fail)
          all_goals (exact xdn ⟨(N3, p3), fun y hy => g3 y (g2 y (g1 y hy)), t3⟩)
  have hcn := hc
  clear hc
  by_cases hc : l.tall + 1 < r.tall
  ·
    cases r with
    | nil => exact absurd hc (by simp only [Tr.t0]; omega)
    | node tl yk yv tr yh ys =>
      obtain ⟨b, yl, yr, rfl, hm, hyl, hyr⟩ := hr
      have hN : TrAt N (some ⟨b, 0, none⟩) (.node tl yk yv tr yh ys) := ⟨b, yl, yr, rfl, hm, hyl, hyr⟩
      obtain ⟨k1, k2, k3, k4, k5, k6⟩ := Tr.child or_
      rw [Tr.tn] at h2 c2
      simp only [Tr.tn] at hc hcn
      have c3 := tall_ct (W := W) hyl
      have c4 := tall_ct (W := W) hyr
      have h4 : ys ≤ 576460752303423488 := h4
      have h2 : yh ≤ ys := h2
      have q1 : decide (((yh + 1 : Nat) : Int) < ((l.tall : Nat) : Int)) = false := decide_eq_false (by omega)
      have q2 : decide (((l.tall + 1 : Nat) : Int) < ((yh : Nat) : Int)) = true := decide_eq_true (by omega)
      by_cases hc2 : tl.tall ≤ tr.tall
      · have q3 : decide (((tl.tall : Nat) : Int) ≤ ((tr.tall : Nat) : Int)) = true := decide_eq_true (by omega)
        have he : Tr.level l k v (.node tl yk yv tr yh ys) = Tr.join (Tr.join l k v tl) yk yv tr := by unfold Tr.level; exact (if_neg (by simp only [Tr.tn]; exact hcn)).trans ((if_pos (by simp only [Tr.tn]; exact hc)).trans (if_pos hc2))
        have b1 := join_tall l tl k v
        have b2 := join_cnt l tl k v
        rw [he]
        refine Ct.enter Tryd.func91 rfl Tryd.ntmps91 (by simp) (fun R => ?_)
        repeat' (first 
    | (refine is_call ?_; first | (refine KJ_call xE (join_ct (W := W) (hl) (hyl) (by omega) (by omega) (by omega) (by omega)) xP rfl (fun x => ?_); obtain ⟨⟨N1, p1⟩, g1, t1⟩ := x; dsimp only at g1 t1 ⊢; refine hold ?_) | (refine KJ_call xE c4 xP rfl (fun _ => ?_)) | (refine KJ_call xE c3 xP rfl (fun _ => ?_)) | (refine KJ_call xE c2 xP rfl (fun _ => ?_)) | (refine KJ_call xE c1 xP rfl (fun _ => ?_)))
    | (refine ek_load ?_; refine EK_ev (Ev_loadNd (nd := ⟨b, yk, yv, yl, yr, yh, ys⟩) rfl xS hm rfl) ?_)
    | (refine ek_add ?_; first | refine EK_ev (Ev_addI_v (r := ((l.tall + 1 : Nat) : Int)) rfl rfl (by omega) (by omega)) ?_ | refine EK_ev (Ev_addI_v (r := ((yh + 1 : Nat) : Int)) rfl rfl (by omega) (by omega)) ?_)
    | (refine ek_gtr ?_; first | refine EK_ev (Ev_gtrI_q rfl rfl q2) ?_ | refine EK_ev (Ev_gtrI_q rfl rfl q1) ?_)
    | (refine ek_geq ?_; refine EK_ev (Ev_geqI_q rfl rfl q3) ?_)
    | refine xst ?_
    | (refine xsa ?_; intro _)
    | (refine xsb ?_ ?_ <;> intro _ <;> first | (exfalso; omega) | skip)
    | refine xsc ?_
    | (refine KJ_draws (id := 3) (.op 0 (.op 1 (.op 2 (.op 3 (.op 5 (.op 6 (.op 7 (.op 8 (.ef 4 [8, 7, 6, 5] (.ef 9 [] (.op 10 .nil))))))))))) (by kernel_rfl) (by kernel_rfl) ?_)
    | (refine KJ_draws (id := 4) (.op 0 (.op 1 (.op 2 (.op 3 (.op 4 (.op 5 (.op 6 (.op 7 (.op 8 (.op 9 (.op 10 (.op 11 (.op 12 (.op 13 (.op 14 (.op 15 (.op 16 (.op 17 (.op 18 (.ef 19 [11, 10, 9, 8, 7, 6, 5, 4, 3, 2, 1, 0] (.ef 20 [] (.op 21 .nil)))))))))))))))))))))) (by kernel_rfl) (by kernel_rfl) ?_)
    | (refine KJ_draws (id := 6) (.op 0 (.op 1 (.op 2 (.op 3 (.op 4 (.op 5 (.op 6 (.op 7 (.op 8 (.op 9 (.op 10 (.op 11 (.op 12 (.op 13 (.op 14 (.op 15 (.op 17 (.op 18 (.op 19 (.op 20 (.op 21 (.op 22 (.op 23 (.op 24 (.op 25 (.op 26 (.op 27 (.op 28 (.op 29 (.op 30 (.op 31 (.ef 16 [31, 30, 29, 28, 27, 26, 25, 24, 23, 22, 21, 20, 19, 18, 17] (.ef 32 [24, 23, 22, 21, 20, 19, 18, 17] (.ef 33 [] (.op 34 .nil))))))))))))))))))))))))))))))))))) (by kernel_rfl) (by kernel_rfl) ?_)
    | (refine KJ_draws (id := 8) (.op 0 (.op 1 (.op 2 (.op 3 (.op 5 (.op 6 (.op 7 (.op 8 (.ef 4 [8, 7, 6, 5] (.ef 9 [] (.op 10 .nil))))))))))) (by kernel_rfl) (by kernel_rfl) ?_)
    | (refine KJ_draws (id := 9) (.op 0 (.op 1 (.op 2 (.op 3 (.op 4 (.op 5 (.op 6 (.op 8 (.op 9 (.op 10 (.op 11 (.op 12 (.op 13 (.op 14 (.op 15 (.op 16 (.op 17 (.op 18 (.op 19 (.ef 7 [19, 18, 17, 16, 15, 14, 13, 12, 11, 10, 9, 8] (.ef 20 [] (.op 21 .nil)))))))))))))))))))))) (by kernel_rfl) (by kernel_rfl) ?_)
    | (refine KJ_draws (id := 11) (.op 0 (.op 1 (.op 2 (.op 3 (.op 4 (.op 5 (.op 6 (.op 8 (.op 9 (.op 10 (.op 11 (.op 12 (.op 13 (.op 14 (.op 15 (.op 16 (.op 17 (.op 18 (.op 19 (.op 20 (.op 21 (.op 22 (.op 23 (.op 24 (.op 25 (.op 26 (.op 27 (.op 28 (.op 29 (.op 30 (.op 31 (.ef 7 [31, 30, 29, 28, 27, 26, 25, 24, 23, 22, 21, 20, 19, 18, 17, 16, 15, 14, 13, 12, 11, 10, 9, 8] (.ef 32 [15, 14, 13, 12, 11, 10, 9, 8] (.ef 33 [] (.op 34 .nil))))))))))))))))))))))))))))))))))) (by kernel_rfl) (by kernel_rfl) ?_)
    | refine FW_alt ?_ ?_
    | refine FW_efn rfl rfl rfl rfl rfl ?_ ?_
    | refine KJ_flow ?_ ?_
    | exact Rech.nil
    | fail)
        refine Hold.mk ?_
        repeat' (first 
    | (refine is_call ?_; refine KJ_call xE (join_ct (W := W) (t1) (hyr.mono g1) (by omega) (by omega) (by omega) (by omega)) xP rfl (fun x => ?_); obtain ⟨⟨N2, p2⟩, g2, t2⟩ := x; dsimp only at g2 t2 ⊢)
    | (refine ek_load ?_; refine EK_ev (Ev_loadNd (nd := ⟨b, yk, yv, yl, yr, yh, ys⟩) rfl xS (g1 _ hm) rfl) ?_)
    | refine xst ?_
    | (refine xsa ?_; intro _)
    | (refine xsb ?_ ?_ <;> intro _ <;> first | (exfalso; omega) | skip)
    | refine xsc ?_
    | (refine KJ_draws (id := 3) (.op 0 (.op 1 (.op 2 (.op 3 (.op 5 (.op 6 (.op 7 (.op 8 (.ef 4 [8, 7, 6, 5] (.ef 9 [] (.op 10 .nil))))))))))) (by kernel_rfl) (by kernel_rfl) ?_)
    | (refine KJ_draws (id := 4) (.op 0 (.op 1 (.op 2 (.op 3 (.op 4 (.op 5 (.op 6 (.op 7 (.op 8 (.op 9 (.op 10 (.op 11 (.op 12 (.op 13 (.op 14 (.op 15 (.op 16 (.op 17 (.op 18 (.ef 19 [11, 10, 9, 8, 7, 6, 5, 4, 3, 2, 1, 0] (.ef 20 [] (.op 21 .nil)))))))))))))))))))))) (by kernel_rfl) (by kernel_rfl) ?_)
    | (refine KJ_draws (id := 6) (.op 0 (.op 1 (.op 2 (.op 3 (.op 4 (.op 5 (.op 6 (.op 7 (.op 8 (.op 9 (.op 10 (.op 11 (.op 12 (.op 13 (.op 14 (.op 15 (.op 17 (.op 18 (.op 19 (.op 20 (.op 21 (.op 22 (.op 23 (.op 24 (.op 25 (.op 26 (.op 27 (.op 28 (.op 29 (.op 30 (.op 31 (.ef 16 [31, 30, 29, 28, 27, 26, 25, 24, 23, 22, 21, 20, 19, 18, 17] (.ef 32 [24, 23, 22, 21, 20, 19, 18, 17] (.ef 33 [] (.op 34 .nil))))))))))))))))))))))))))))))))))) (by kernel_rfl) (by kernel_rfl) ?_)
    | (refine KJ_draws (id := 8) (.op 0 (.op 1 (.op 2 (.op 3 (.op 5 (.op 6 (.op 7 (.op 8 (.ef 4 [8, 7, 6, 5] (.ef 9 [] (.op 10 .nil))))))))))) (by kernel_rfl) (by kernel_rfl) ?_)
    | (refine KJ_draws (id := 9) (.op 0 (.op 1 (.op 2 (.op 3 (.op 4 (.op 5 (.op 6 (.op 8 (.op 9 (.op 10 (.op 11 (.op 12 (.op 13 (.op 14 (.op 15 (.op 16 (.op 17 (.op 18 (.op 19 (.ef 7 [19, 18, 17, 16, 15, 14, 13, 12, 11, 10, 9, 8] (.ef 20 [] (.op 21 .nil)))))))))))))))))))))) (by kernel_rfl) (by kernel_rfl) ?_)
    | (refine KJ_draws (id := 11) (.op 0 (.op 1 (.op 2 (.op 3 (.op 4 (.op 5 (.op 6 (.op 8 (.op 9 (.op 10 (.op 11 (.op 12 (.op 13 (.op 14 (.op 15 (.op 16 (.op 17 (.op 18 (.op 19 (.op 20 (.op 21 (.op 22 (.op 23 (.op 24 (.op 25 (.op 26 (.op 27 (.op 28 (.op 29 (.op 30 (.op 31 (.ef 7 [31, 30, 29, 28, 27, 26, 25, 24, 23, 22, 21, 20, 19, 18, 17, 16, 15, 14, 13, 12, 11, 10, 9, 8] (.ef 32 [15, 14, 13, 12, 11, 10, 9, 8] (.ef 33 [] (.op 34 .nil))))))))))))))))))))))))))))))))))) (by kernel_rfl) (by kernel_rfl) ?_)
    | refine FW_alt ?_ ?_
    | refine FW_efn rfl rfl rfl rfl rfl ?_ ?_
    | refine KJ_flow ?_ ?_
    | exact Rech.nil
    | fail)
        all_goals (exact xdn ⟨(N2, p2), fun y hy => g2 y (g1 y hy), t2⟩)
      · have q3 : decide (((tl.tall : Nat) : Int) ≤ ((tr.tall : Nat) : Int)) = false := decide_eq_false (by omega)
        cases tl with
        | nil => exact absurd hc2 (by simp only [Tr.t0]; omega)
        | node ml zk zv mr zh zs =>
          obtain ⟨d, zl, zr, hze, hmz, hzl, hzr⟩ := hyl
          subst hze
          obtain ⟨m1, m2, m3, m4, m5, m6⟩ := Tr.child k1
          rw [Tr.tn] at c3 q3
          simp only [Tr.tn] at hc2
          have k3 : zh ≤ yh := k3
          have k5 : zs ≤ ys := k5
          have he : Tr.level l k v (.node (.node ml zk zv mr zh zs) yk yv tr yh ys) = Tr.join (Tr.join l k v ml) zk zv (Tr.join mr yk yv tr) := by unfold Tr.level; exact (if_neg (by simp only [Tr.tn]; exact hcn)).trans ((if_pos (by simp only [Tr.tn]; exact hc)).trans (if_neg (by simp only [Tr.tn]; exact hc2)))
          have b1 := join_tall l ml k v
          have b2 := join_cnt l ml k v
          have b3 := join_tall mr tr yk yv
          have b4 := join_cnt mr tr yk yv
          rw [he]
          refine Ct.enter Tryd.func91 rfl Tryd.ntmps91 (by simp) (fun R => ?_)
          repeat' (first 
    | (refine is_call ?_; first | (refine KJ_call xE (join_ct (W := W) (hl) (hzl) (by omega) (by omega) (by omega) (by omega)) xP rfl (fun x => ?_); obtain ⟨⟨N1, p1⟩, g1, t1⟩ := x; dsimp only at g1 t1 ⊢; refine hold ?_) | (refine KJ_call xE c4 xP rfl (fun _ => ?_)) | (refine KJ_call xE c3 xP rfl (fun _ => ?_)) | (refine KJ_call xE c2 xP rfl (fun _ => ?_)) | (refine KJ_call xE c1 xP rfl (fun _ => ?_)))
    | (refine ek_load ?_; first | refine EK_ev (Ev_loadNd (nd := ⟨d, zk, zv, zl, zr, zh, zs⟩) rfl xS hmz rfl) ?_ | refine EK_ev (Ev_loadNd (nd := ⟨b, yk, yv, some ⟨d, 0, none⟩, yr, yh, ys⟩) rfl xS hm rfl) ?_)
    | (refine ek_add ?_; first | refine EK_ev (Ev_addI_v (r := ((l.tall + 1 : Nat) : Int)) rfl rfl (by omega) (by omega)) ?_ | refine EK_ev (Ev_addI_v (r := ((yh + 1 : Nat) : Int)) rfl rfl (by omega) (by omega)) ?_)
    | (refine ek_gtr ?_; first | refine EK_ev (Ev_gtrI_q rfl rfl q2) ?_ | refine EK_ev (Ev_gtrI_q rfl rfl q1) ?_)
    | (refine ek_geq ?_; refine EK_ev (Ev_geqI_q rfl rfl q3) ?_)
    | refine xst ?_
    | (refine xsa ?_; intro _)
    | (refine xsb ?_ ?_ <;> intro _ <;> first | (exfalso; omega) | skip)
    | refine xsc ?_
    | (refine KJ_draws (id := 3) (.op 0 (.op 1 (.op 2 (.op 3 (.op 5 (.op 6 (.op 7 (.op 8 (.ef 4 [8, 7, 6, 5] (.ef 9 [] (.op 10 .nil))))))))))) (by kernel_rfl) (by kernel_rfl) ?_)
    | (refine KJ_draws (id := 4) (.op 0 (.op 1 (.op 2 (.op 3 (.op 4 (.op 5 (.op 6 (.op 7 (.op 8 (.op 9 (.op 10 (.op 11 (.op 12 (.op 13 (.op 14 (.op 15 (.op 16 (.op 17 (.op 18 (.ef 19 [11, 10, 9, 8, 7, 6, 5, 4, 3, 2, 1, 0] (.ef 20 [] (.op 21 .nil)))))))))))))))))))))) (by kernel_rfl) (by kernel_rfl) ?_)
    | (refine KJ_draws (id := 6) (.op 0 (.op 1 (.op 2 (.op 3 (.op 4 (.op 5 (.op 6 (.op 7 (.op 8 (.op 9 (.op 10 (.op 11 (.op 12 (.op 13 (.op 14 (.op 15 (.op 17 (.op 18 (.op 19 (.op 20 (.op 21 (.op 22 (.op 23 (.op 24 (.op 25 (.op 26 (.op 27 (.op 28 (.op 29 (.op 30 (.op 31 (.ef 16 [31, 30, 29, 28, 27, 26, 25, 24, 23, 22, 21, 20, 19, 18, 17] (.ef 32 [24, 23, 22, 21, 20, 19, 18, 17] (.ef 33 [] (.op 34 .nil))))))))))))))))))))))))))))))))))) (by kernel_rfl) (by kernel_rfl) ?_)
    | (refine KJ_draws (id := 8) (.op 0 (.op 1 (.op 2 (.op 3 (.op 5 (.op 6 (.op 7 (.op 8 (.ef 4 [8, 7, 6, 5] (.ef 9 [] (.op 10 .nil))))))))))) (by kernel_rfl) (by kernel_rfl) ?_)
    | (refine KJ_draws (id := 9) (.op 0 (.op 1 (.op 2 (.op 3 (.op 4 (.op 5 (.op 6 (.op 8 (.op 9 (.op 10 (.op 11 (.op 12 (.op 13 (.op 14 (.op 15 (.op 16 (.op 17 (.op 18 (.op 19 (.ef 7 [19, 18, 17, 16, 15, 14, 13, 12, 11, 10, 9, 8] (.ef 20 [] (.op 21 .nil)))))))))))))))))))))) (by kernel_rfl) (by kernel_rfl) ?_)
    | (refine KJ_draws (id := 11) (.op 0 (.op 1 (.op 2 (.op 3 (.op 4 (.op 5 (.op 6 (.op 8 (.op 9 (.op 10 (.op 11 (.op 12 (.op 13 (.op 14 (.op 15 (.op 16 (.op 17 (.op 18 (.op 19 (.op 20 (.op 21 (.op 22 (.op 23 (.op 24 (.op 25 (.op 26 (.op 27 (.op 28 (.op 29 (.op 30 (.op 31 (.ef 7 [31, 30, 29, 28, 27, 26, 25, 24, 23, 22, 21, 20, 19, 18, 17, 16, 15, 14, 13, 12, 11, 10, 9, 8] (.ef 32 [15, 14, 13, 12, 11, 10, 9, 8] (.ef 33 [] (.op 34 .nil))))))))))))))))))))))))))))))))))) (by kernel_rfl) (by kernel_rfl) ?_)
    | refine FW_alt ?_ ?_
    | refine FW_efn rfl rfl rfl rfl rfl ?_ ?_
    | refine KJ_flow ?_ ?_
    | exact Rech.nil
    | fail)
          refine Hold.mk ?_
          repeat' (first 
    | (refine is_call ?_; refine KJ_call xE (join_ct (W := W) (hzr.mono g1) (hyr.mono g1) (by omega) (by omega) (by omega) (by omega)) xP rfl (fun x => ?_); obtain ⟨⟨N2, p2⟩, g2, t2⟩ := x; dsimp only at g2 t2 ⊢; refine hold ?_)
    | (refine ek_load ?_; first | refine EK_ev (Ev_loadNd (nd := ⟨d, zk, zv, zl, zr, zh, zs⟩) rfl xS (g1 _ hmz) rfl) ?_ | refine EK_ev (Ev_loadNd (nd := ⟨b, yk, yv, some ⟨d, 0, none⟩, yr, yh, ys⟩) rfl xS (g1 _ hm) rfl) ?_)
    | refine xst ?_
    | (refine xsa ?_; intro _)
    | (refine xsb ?_ ?_ <;> intro _ <;> first | (exfalso; omega) | skip)
    | refine xsc ?_
    | (refine KJ_draws (id := 3) (.op 0 (.op 1 (.op 2 (.op 3 (.op 5 (.op 6 (.op 7 (.op 8 (.ef 4 [8, 7, 6, 5] (.ef 9 [] (.op 10 .nil))))))))))) (by kernel_rfl) (by kernel_rfl) ?_)
    | (refine KJ_draws (id := 4) (.op 0 (.op 1 (.op 2 (.op 3 (.op 4 (.op 5 (.op 6 (.op 7 (.op 8 (.op 9 (.op 10 (.op 11 (.op 12 (.op 13 (.op 14 (.op 15 (.op 16 (.op 17 (.op 18 (.ef 19 [11, 10, 9, 8, 7, 6, 5, 4, 3, 2, 1, 0] (.ef 20 [] (.op 21 .nil)))))))))))))))))))))) (by kernel_rfl) (by kernel_rfl) ?_)
    | (refine KJ_draws (id := 6) (.op 0 (.op 1 (.op 2 (.op 3 (.op 4 (.op 5 (.op 6 (.op 7 (.op 8 (.op 9 (.op 10 (.op 11 (.op 12 (.op 13 (.op 14 (.op 15 (.op 17 (.op 18 (.op 19 (.op 20 (.op 21 (.op 22 (.op 23 (.op 24 (.op 25 (.op 26 (.op 27 (.op 28 (.op 29 (.op 30 (.op 31 (.ef 16 [31, 30, 29, 28, 27, 26, 25, 24, 23, 22, 21, 20, 19, 18, 17] (.ef 32 [24, 23, 22, 21, 20, 19, 18, 17] (.ef 33 [] (.op 34 .nil))))))))))))))))))))))))))))))))))) (by kernel_rfl) (by kernel_rfl) ?_)
    | (refine KJ_draws (id := 8) (.op 0 (.op 1 (.op 2 (.op 3 (.op 5 (.op 6 (.op 7 (.op 8 (.ef 4 [8, 7, 6, 5] (.ef 9 [] (.op 10 .nil))))))))))) (by kernel_rfl) (by kernel_rfl) ?_)
    | (refine KJ_draws (id := 9) (.op 0 (.op 1 (.op 2 (.op 3 (.op 4 (.op 5 (.op 6 (.op 8 (.op 9 (.op 10 (.op 11 (.op 12 (.op 13 (.op 14 (.op 15 (.op 16 (.op 17 (.op 18 (.op 19 (.ef 7 [19, 18, 17, 16, 15, 14, 13, 12, 11, 10, 9, 8] (.ef 20 [] (.op 21 .nil)))))))))))))))))))))) (by kernel_rfl) (by kernel_rfl) ?_)
    | (refine KJ_draws (id := 11) (.op 0 (.op 1 (.op 2 (.op 3 (.op 4 (.op 5 (.op 6 (.op 8 (.op 9 (.op 10 (.op 11 (.op 12 (.op 13 (.op 14 (.op 15 (.op 16 (.op 17 (.op 18 (.op 19 (.op 20 (.op 21 (.op 22 (.op 23 (.op 24 (.op 25 (.op 26 (.op 27 (.op 28 (.op 29 (.op 30 (.op 31 (.ef 7 [31, 30, 29, 28, 27, 26, 25, 24, 23, 22, 21, 20, 19, 18, 17, 16, 15, 14, 13, 12, 11, 10, 9, 8] (.ef 32 [15, 14, 13, 12, 11, 10, 9, 8] (.ef 33 [] (.op 34 .nil))))))))))))))))))))))))))))))))))) (by kernel_rfl) (by kernel_rfl) ?_)
    | refine FW_alt ?_ ?_
    | refine FW_efn rfl rfl rfl rfl rfl ?_ ?_
    | refine KJ_flow ?_ ?_
    | exact Rech.nil
    | fail)
          refine Hold.mk ?_
          repeat' (first 
    | (refine is_call ?_; refine KJ_call xE (join_ct (W := W) (t1.mono g2) (t2) (by omega) (by omega) (by omega) (by omega)) xP rfl (fun x => ?_); obtain ⟨⟨N3, p3⟩, g3, t3⟩ := x; dsimp only at g3 t3 ⊢)
    | (refine ek_load ?_; first | refine EK_ev (Ev_loadNd (nd := ⟨d, zk, zv, zl, zr, zh, zs⟩) rfl xS (g2 _ (g1 _ hmz)) rfl) ?_ | refine EK_ev (Ev_loadNd (nd := ⟨b, yk, yv, some ⟨d, 0, none⟩, yr, yh, ys⟩) rfl xS (g2 _ (g1 _ hm)) rfl) ?_)
    | refine xst ?_
    | (refine xsa ?_; intro _)
    | (refine xsb ?_ ?_ <;> intro _ <;> first | (exfalso; omega) | skip)
    | refine xsc ?_
    | (refine KJ_draws (id := 3) (.op 0 (.op 1 (.op 2 (.op 3 (.op 5 (.op 6 (.op 7 (.op 8 (.ef 4 [8, 7, 6, 5] (.ef 9 [] (.op 10 .nil))))))))))) (by kernel_rfl) (by kernel_rfl) ?_)
    | (refine KJ_draws (id := 4) (.op 0 (.op 1 (.op 2 (.op 3 (.op 4 (.op 5 (.op 6 (.op 7 (.op 8 (.op 9 (.op 10 (.op 11 (.op 12 (.op 13 (.op 14 (.op 15 (.op 16 (.op 17 (.op 18 (.ef 19 [11, 10, 9, 8, 7, 6, 5, 4, 3, 2, 1, 0] (.ef 20 [] (.op 21 .nil)))))))))))))))))))))) (by kernel_rfl) (by kernel_rfl) ?_)
    | (refine KJ_draws (id := 6) (.op 0 (.op 1 (.op 2 (.op 3 (.op 4 (.op 5 (.op 6 (.op 7 (.op 8 (.op 9 (.op 10 (.op 11 (.op 12 (.op 13 (.op 14 (.op 15 (.op 17 (.op 18 (.op 19 (.op 20 (.op 21 (.op 22 (.op 23 (.op 24 (.op 25 (.op 26 (.op 27 (.op 28 (.op 29 (.op 30 (.op 31 (.ef 16 [31, 30, 29, 28, 27, 26, 25, 24, 23, 22, 21, 20, 19, 18, 17] (.ef 32 [24, 23, 22, 21, 20, 19, 18, 17] (.ef 33 [] (.op 34 .nil))))))))))))))))))))))))))))))))))) (by kernel_rfl) (by kernel_rfl) ?_)
    | (refine KJ_draws (id := 8) (.op 0 (.op 1 (.op 2 (.op 3 (.op 5 (.op 6 (.op 7 (.op 8 (.ef 4 [8, 7, 6, 5] (.ef 9 [] (.op 10 .nil))))))))))) (by kernel_rfl) (by kernel_rfl) ?_)
    | (refine KJ_draws (id := 9) (.op 0 (.op 1 (.op 2 (.op 3 (.op 4 (.op 5 (.op 6 (.op 8 (.op 9 (.op 10 (.op 11 (.op 12 (.op 13 (.op 14 (.op 15 (.op 16 (.op 17 (.op 18 (.op 19 (.ef 7 [19, 18, 17, 16, 15, 14, 13, 12, 11, 10, 9, 8] (.ef 20 [] (.op 21 .nil)))))))))))))))))))))) (by kernel_rfl) (by kernel_rfl) ?_)
    | (refine KJ_draws (id := 11) (.op 0 (.op 1 (.op 2 (.op 3 (.op 4 (.op 5 (.op 6 (.op 8 (.op 9 (.op 10 (.op 11 (.op 12 (.op 13 (.op 14 (.op 15 (.op 16 (.op 17 (.op 18 (.op 19 (.op 20 (.op 21 (.op 22 (.op 23 (.op 24 (.op 25 (.op 26 (.op 27 (.op 28 (.op 29 (.op 30 (.op 31 (.ef 7 [31, 30, 29, 28, 27, 26, 25, 24, 23, 22, 21, 20, 19, 18, 17, 16, 15, 14, 13, 12, 11, 10, 9, 8] (.ef 32 [15, 14, 13, 12, 11, 10, 9, 8] (.ef 33 [] (.op 34 .nil))))))))))))))))))))))))))))))))))) (by kernel_rfl) (by kernel_rfl) ?_)
    | refine FW_alt ?_ ?_
    | refine FW_efn rfl rfl rfl rfl rfl ?_ ?_
    | refine KJ_flow ?_ ?_
    | exact Rech.nil
    | fail)
          all_goals (exact xdn ⟨(N3, p3), fun y hy => g3 y (g2 y (g1 y hy)), t3⟩)
  have he : Tr.level l k v r = Tr.join l k v r := by unfold Tr.level; rw [if_neg hcn, if_neg hc]
  have q1 : decide (((r.tall + 1 : Nat) : Int) < ((l.tall : Nat) : Int)) = false := decide_eq_false (by omega)
  have q2 : decide (((l.tall + 1 : Nat) : Int) < ((r.tall : Nat) : Int)) = false := decide_eq_false (by omega)
  rw [he]
  refine Ct.enter Tryd.func91 rfl Tryd.ntmps91 (by simp) (fun R => ?_)
  repeat' (first 
    | (refine is_call ?_; first | (refine KJ_call xE (join_ct (W := W) (hl) (hr) (by omega) (by omega) (by omega) (by omega)) xP rfl (fun x => ?_); obtain ⟨⟨N1, p1⟩, g1, t1⟩ := x; dsimp only at g1 t1 ⊢) | (refine KJ_call xE c2 xP rfl (fun _ => ?_)) | (refine KJ_call xE c1 xP rfl (fun _ => ?_)))
    | (refine ek_add ?_; first | refine EK_ev (Ev_addI_v (r := ((l.tall + 1 : Nat) : Int)) rfl rfl (by omega) (by omega)) ?_ | refine EK_ev (Ev_addI_v (r := ((r.tall + 1 : Nat) : Int)) rfl rfl (by omega) (by omega)) ?_)
    | (refine ek_gtr ?_; first | refine EK_ev (Ev_gtrI_q rfl rfl q2) ?_ | refine EK_ev (Ev_gtrI_q rfl rfl q1) ?_)
    | refine xst ?_
    | (refine xsa ?_; intro _)
    | (refine xsb ?_ ?_ <;> intro _ <;> first | (exfalso; omega) | skip)
    | refine xsc ?_
    | (refine KJ_draws (id := 3) (.op 0 (.op 1 (.op 2 (.op 3 (.op 5 (.op 6 (.op 7 (.op 8 (.ef 4 [8, 7, 6, 5] (.ef 9 [] (.op 10 .nil))))))))))) (by kernel_rfl) (by kernel_rfl) ?_)
    | (refine KJ_draws (id := 4) (.op 0 (.op 1 (.op 2 (.op 3 (.op 4 (.op 5 (.op 6 (.op 7 (.op 8 (.op 9 (.op 10 (.op 11 (.op 12 (.op 13 (.op 14 (.op 15 (.op 16 (.op 17 (.op 18 (.ef 19 [11, 10, 9, 8, 7, 6, 5, 4, 3, 2, 1, 0] (.ef 20 [] (.op 21 .nil)))))))))))))))))))))) (by kernel_rfl) (by kernel_rfl) ?_)
    | (refine KJ_draws (id := 6) (.op 0 (.op 1 (.op 2 (.op 3 (.op 4 (.op 5 (.op 6 (.op 7 (.op 8 (.op 9 (.op 10 (.op 11 (.op 12 (.op 13 (.op 14 (.op 15 (.op 17 (.op 18 (.op 19 (.op 20 (.op 21 (.op 22 (.op 23 (.op 24 (.op 25 (.op 26 (.op 27 (.op 28 (.op 29 (.op 30 (.op 31 (.ef 16 [31, 30, 29, 28, 27, 26, 25, 24, 23, 22, 21, 20, 19, 18, 17] (.ef 32 [24, 23, 22, 21, 20, 19, 18, 17] (.ef 33 [] (.op 34 .nil))))))))))))))))))))))))))))))))))) (by kernel_rfl) (by kernel_rfl) ?_)
    | (refine KJ_draws (id := 8) (.op 0 (.op 1 (.op 2 (.op 3 (.op 5 (.op 6 (.op 7 (.op 8 (.ef 4 [8, 7, 6, 5] (.ef 9 [] (.op 10 .nil))))))))))) (by kernel_rfl) (by kernel_rfl) ?_)
    | (refine KJ_draws (id := 9) (.op 0 (.op 1 (.op 2 (.op 3 (.op 4 (.op 5 (.op 6 (.op 8 (.op 9 (.op 10 (.op 11 (.op 12 (.op 13 (.op 14 (.op 15 (.op 16 (.op 17 (.op 18 (.op 19 (.ef 7 [19, 18, 17, 16, 15, 14, 13, 12, 11, 10, 9, 8] (.ef 20 [] (.op 21 .nil)))))))))))))))))))))) (by kernel_rfl) (by kernel_rfl) ?_)
    | (refine KJ_draws (id := 11) (.op 0 (.op 1 (.op 2 (.op 3 (.op 4 (.op 5 (.op 6 (.op 8 (.op 9 (.op 10 (.op 11 (.op 12 (.op 13 (.op 14 (.op 15 (.op 16 (.op 17 (.op 18 (.op 19 (.op 20 (.op 21 (.op 22 (.op 23 (.op 24 (.op 25 (.op 26 (.op 27 (.op 28 (.op 29 (.op 30 (.op 31 (.ef 7 [31, 30, 29, 28, 27, 26, 25, 24, 23, 22, 21, 20, 19, 18, 17, 16, 15, 14, 13, 12, 11, 10, 9, 8] (.ef 32 [15, 14, 13, 12, 11, 10, 9, 8] (.ef 33 [] (.op 34 .nil))))))))))))))))))))))))))))))))))) (by kernel_rfl) (by kernel_rfl) ?_)
    | refine FW_alt ?_ ?_
    | refine FW_efn rfl rfl rfl rfl rfl ?_ ?_
    | refine KJ_flow ?_ ?_
    | exact Rech.nil
    | fail)
  all_goals (exact xdn ⟨(N1, p1), g1, t1⟩)
end
end Go.Proofs.YtehheokalgmbgaaDoor
/-
  The package table: get, put. (Printed by gentb3.py.)
-/
namespace Go.Proofs.YtehheokalgmbgaaDoor
open Go Go.RowKit
def Tr.sz : Tr → Nat
  | .nil => 0
  | .node l _ _ r _ _ => l.sz + r.sz + 1
theorem insB_len {γ : Type} {f : γ → List UInt8} (l : List γ) (x : γ) : (insB f l x).length = l.length + 1 := by
  have := atB_le (f := f) l (f x)
  rw [insB_eq]
  simp only [List.length_append, List.length_take, List.length_drop, List.length_singleton]
  omega
theorem putR_len (r : Rows) (k v : List UInt8) : (putR r k v).length ≤ r.length + 1 := by
  unfold putR
  split
  · rw [List.length_map]; omega
  · rw [insB_len]; exact Nat.le_refl _
theorem put_cnt {t : Tr} (h : t.Ok) (hr : RisR t.rows) (k v : List UInt8) : (t.put k v).cnt ≤ t.cnt + 1 := by
  obtain ⟨o, e, -, -⟩ := Tr.put_ok h hr k v
  rw [Tr.cnt_rows o, e, Tr.cnt_rows h]
  exact putR_len _ _ _
theorem remove_cnt {t : Tr} (h : t.Ok) (hr : RisR t.rows) (k : List UInt8) (hk : (lk t.rows k).isSome = true) : (t.remove k).cnt ≤ t.cnt := by
  obtain ⟨o, e, -, -⟩ := Tr.remove_ok h hr k hk
  rw [Tr.cnt_rows o, e, Tr.cnt_rows h]
  exact List.length_filter_le _ _
theorem cmp_l {a c : List UInt8} (h : Op.bytesLess a c = true) : cmpI a c = -1 := by unfold cmpI; rw [if_pos h]
theorem cmp_g {a c : List UInt8} (h : Op.bytesLess a c = false) (h2 : Op.bytesLess c a = true) : cmpI a c = 1 := by unfold cmpI; rw [if_neg (by rw [h]; decide), if_pos h2]
theorem cmp_e {a c : List UInt8} (h : Op.bytesLess a c = false) (h2 : Op.bytesLess c a = false) : cmpI a c = 0 := by unfold cmpI; rw [if_neg (by rw [h]; decide), if_neg (by rw [h2]; decide)]
theorem gl_of {l r : Tr} {k v x : List UInt8} {h s : Nat} (c : Op.bytesLess x k = true) : (Tr.node l k v r h s).get x = l.get x := if_pos c
theorem gr_of {l r : Tr} {k v x : List UInt8} {h s : Nat} (c : Op.bytesLess x k = false) (c2 : Op.bytesLess k x = true) : (Tr.node l k v r h s).get x = r.get x := (if_neg (by rw [c]; decide)).trans (if_pos c2)
theorem ge_of {l r : Tr} {k v x : List UInt8} {h s : Nat} (c : Op.bytesLess x k = false) (c2 : Op.bytesLess k x = false) : (Tr.node l k v r h s).get x = some v := (if_neg (by rw [c]; decide)).trans (if_neg (by rw [c2]; decide))
section
variable {W : World} {N : List Nd}
set_option maxHeartbeats 4000000 in
theorem get_ct {a : Option Addr} {t : Tr} (hT : TrAt N a t) (x : List UInt8) :
    Ct Tryd.prog W 51 [.pointer a, strV x] [arP N] (fun _ : Unit => .tuple #[strV ((t.get x).getD []), .bool (t.get x).isSome]) (fun _ => [arP N]) := by
  refine Ct.enter Tryd.func51 rfl Tryd.ntmps51 (by simp) (fun R => ?_)
  repeat' (first 
    | refine xst ?_
    | (refine xsa ?_; intro _)
    | (refine xsb ?_ ?_ <;> intro _ <;> first | (exfalso; omega) | skip)
    | refine xsc ?_
    | fail)
  refine KJ_loop (fun i : {i : Option Addr × Tr // TrAt N i.1 i.2 ∧ i.2.get x = t.get x} => [(0, .pointer i.1.1), (1, strV x)])
    (fun _ => [arP N] ++ R) (fun i => i.1.2.sz) ⟨(a, t), hT, rfl⟩ xB (xN) (fun ⟨(b, u), hb, hu⟩ => ?_)
  dsimp only at hb hu ⊢
  cases u with
  | nil =>
    cases hb
    repeat' (first 
    | refine xst ?_
    | (refine xsa ?_; intro _)
    | (refine xsb ?_ ?_ <;> intro _ <;> first | (exfalso; omega) | skip)
    | refine xsc ?_
    | fail)
    all_goals exact xdn () (hc := by rw [← hu]; rfl)
  | node yl yk yv yr yh ys =>
    obtain ⟨b, al, ar, rfl, hm, hal, har⟩ := hb
    have cc := compare_ct (W := W) x yk
    rcases cmpV x yk with ⟨h1, h2⟩ | ⟨h1, h2⟩ | ⟨h1, h2⟩
    · rw [cmp_l h1] at cc
      rw [gl_of h1] at hu
      have q1 : decide ((-1 : Int) < 0) = true := rfl
      repeat' (first 
    | (refine is_call ?_; refine KJ_call xE cc xP rfl (fun _ => ?_))
    | (refine ek_load ?_; refine EK_ev (Ev_loadNd (nd := ⟨b, yk, yv, al, ar, yh, ys⟩) rfl xS hm rfl) ?_)
    | (refine ek_lss ?_; refine EK_ev (Ev_lssI_q rfl rfl q1) ?_)
    | refine xst ?_
    | (refine xsa ?_; intro _)
    | (refine xsb ?_ ?_ <;> intro _ <;> first | (exfalso; omega) | skip)
    | refine xsc ?_
    | fail)
      all_goals refine KJ_again ⟨(al, yl), hal, hu⟩ (by show yl.sz < yl.sz + yr.sz + 1; omega) xB (xN)
    · rw [cmp_g h1 h2] at cc
      rw [gr_of h1 h2] at hu
      have q1 : decide ((1 : Int) < 0) = false := rfl
      have q2 : decide ((0 : Int) < 1) = true := rfl
      repeat' (first 
    | (refine is_call ?_; refine KJ_call xE cc xP rfl (fun _ => ?_))
    | (refine ek_load ?_; refine EK_ev (Ev_loadNd (nd := ⟨b, yk, yv, al, ar, yh, ys⟩) rfl xS hm rfl) ?_)
    | (refine ek_lss ?_; refine EK_ev (Ev_lssI_q rfl rfl q1) ?_)
    | (refine ek_gtr ?_; refine EK_ev (Ev_gtrI_q rfl rfl q2) ?_)
    | refine xst ?_
    | (refine xsa ?_; intro _)
    | (refine xsb ?_ ?_ <;> intro _ <;> first | (exfalso; omega) | skip)
    | refine xsc ?_
    | fail)
      all_goals refine KJ_again ⟨(ar, yr), har, hu⟩ (by show yr.sz < yl.sz + yr.sz + 1; omega) xB (xN)
    · rw [cmp_e h1 h2] at cc
      rw [ge_of h1 h2] at hu
      have q1 : decide ((0 : Int) < 0) = false := rfl
      repeat' (first 
    | (refine is_call ?_; refine KJ_call xE cc xP rfl (fun _ => ?_))
    | (refine ek_load ?_; refine EK_ev (Ev_loadNd (nd := ⟨b, yk, yv, al, ar, yh, ys⟩) rfl xS hm rfl) ?_)
    | (refine ek_lss ?_; refine EK_ev (Ev_lssI_q rfl rfl q1) ?_)
    | (refine ek_gtr ?_; refine EK_ev (Ev_gtrI_q rfl rfl q1) ?_)
    | refine xst ?_
    | (refine xsa ?_; intro _)
    | (refine xsb ?_ ?_ <;> intro _ <;> first | (exfalso; omega) | skip)
    | refine xsc ?_
    | fail)
      all_goals exact xdn () (hc := by rw [← hu]; rfl)
set_option maxHeartbeats 4000000 in
theorem put_ct (x y : List UInt8) : ∀ (t : Tr) {N : List Nd} {a : Option Addr}, TrAt N a t → t.Ok → RisR t.rows → t.cnt ≤ 288230376151711744 →
    Ct Tryd.prog W 63 [.pointer a, strV x, strV y] [arP N] (fun z : Grew N (t.put x y) => .pointer z.1.2) (fun z => [arP z.1.1]) := by
  intro t
  induction t with
  | nil =>
    intro N a hT ho hr hc
    cases hT
    have cj := join_ct (W := W) (N := N) (a := none) (c := none) (l := .nil) (r := .nil) (k := x) (v := y) rfl rfl (by decide) (by decide) (by decide) (by decide)
    refine Ct.enter Tryd.func63 rfl Tryd.ntmps63 (by simp) (fun R => ?_)
    repeat' (first 
    | (refine is_call ?_; refine KJ_call xE (cj) xP rfl (fun x => ?_); obtain ⟨⟨N1, p1⟩, g1, t1⟩ := x; dsimp only at g1 t1 ⊢)
    | refine xst ?_
    | (refine xsa ?_; intro _)
    | (refine xsb ?_ ?_ <;> intro _ <;> first | (exfalso; omega) | skip)
    | refine xsc ?_
    | (refine KJ_draws (id := 5) (.op 0 (.op 1 (.op 2 (.op 3 (.op 4 (.op 5 (.op 7 (.op 8 (.op 9 (.op 10 (.op 11 (.op 12 (.op 13 (.op 14 (.op 15 (.op 16 (.op 17 (.op 18 (.ef 6 [18, 17, 16, 15, 14, 13, 12, 11, 10, 9, 8, 7] (.ef 19 [] (.op 20 .nil))))))))))))))))))))) (by kernel_rfl) (by kernel_rfl) ?_)
    | (refine KJ_draws (id := 7) (.op 0 (.op 1 (.op 2 (.op 3 (.op 4 (.op 5 (.op 6 (.op 7 (.op 8 (.op 9 (.op 10 (.op 11 (.op 12 (.op 13 (.op 14 (.op 15 (.op 16 (.op 17 (.ef 18 [11, 10, 9, 8, 7, 6, 5, 4, 3, 2, 1, 0] (.ef 19 [] (.op 20 .nil))))))))))))))))))))) (by kernel_rfl) (by kernel_rfl) ?_)
    | (refine KJ_draws (id := 8) (.op 0 (.op 1 (.op 2 (.op 3 (.op 4 (.op 5 (.op 6 (.op 7 (.op 8 (.op 9 (.ef 10 [] (.op 11 .nil)))))))))))) (by kernel_rfl) (by kernel_rfl) ?_)
    | refine FW_alt ?_ ?_
    | refine FW_efn rfl rfl rfl rfl rfl ?_ ?_
    | refine KJ_flow ?_ ?_
    | exact Rech.nil
    | fail)
    all_goals (exact xdn ⟨(N1, p1), g1, t1⟩)
  | node yl yk yv yr yh ys ihl ihr =>
    intro N a hT ho hr hc
    obtain ⟨b, al, ar, rfl, hm, hal, har⟩ := hT
    obtain ⟨r1, r2, r3, r4⟩ := ris_mid.1 (show RisR (yl.rows ++ (yk, yv) :: yr.rows) from hr)
    obtain ⟨k1, k2, k3, k4, k5, k6⟩ := Tr.child ho
    have hc : ys ≤ 288230376151711744 := hc
    have u1 := Tr.tall_cnt k1
    have u2 := Tr.tall_cnt k2
    have cc := compare_ct (W := W) x yk
    rcases cmpV x yk with ⟨h1, h2⟩ | ⟨h1, h2⟩ | ⟨h1, h2⟩
    · rw [cmp_l h1] at cc
      have q1 : decide ((-1 : Int) < 0) = true := rfl
      have cp := ihl hal k1 r1 (by omega)
      have he : (Tr.node yl yk yv yr yh ys).put x y = Tr.level (yl.put x y) yk yv yr := if_pos h1
      obtain ⟨pok, -⟩ := Tr.put_ok k1 r1 x y
      have pc := put_cnt k1 r1 x y
      rw [he]
      refine Ct.enter Tryd.func63 rfl Tryd.ntmps63 (by simp) (fun R => ?_)
      repeat' (first 
    | (refine is_call ?_; first | (refine KJ_call xE (cp) xP rfl (fun x => ?_); obtain ⟨⟨N1, p1⟩, g1, t1⟩ := x; dsimp only at g1 t1 ⊢; refine hold ?_) | (refine KJ_call xE cc xP rfl (fun _ => ?_)))
    | (refine ek_load ?_; refine EK_ev (Ev_loadNd (nd := ⟨b, yk, yv, al, ar, yh, ys⟩) rfl xS (hm) rfl) ?_)
    | (refine ek_lss ?_; refine EK_ev (Ev_lssI_q rfl rfl q1) ?_)
    | refine xst ?_
    | (refine xsa ?_; intro _)
    | (refine xsb ?_ ?_ <;> intro _ <;> first | (exfalso; omega) | skip)
    | refine xsc ?_
    | (refine KJ_draws (id := 5) (.op 0 (.op 1 (.op 2 (.op 3 (.op 4 (.op 5 (.op 7 (.op 8 (.op 9 (.op 10 (.op 11 (.op 12 (.op 13 (.op 14 (.op 15 (.op 16 (.op 17 (.op 18 (.ef 6 [18, 17, 16, 15, 14, 13, 12, 11, 10, 9, 8, 7] (.ef 19 [] (.op 20 .nil))))))))))))))))))))) (by kernel_rfl) (by kernel_rfl) ?_)
    | (refine KJ_draws (id := 7) (.op 0 (.op 1 (.op 2 (.op 3 (.op 4 (.op 5 (.op 6 (.op 7 (.op 8 (.op 9 (.op 10 (.op 11 (.op 12 (.op 13 (.op 14 (.op 15 (.op 16 (.op 17 (.ef 18 [11, 10, 9, 8, 7, 6, 5, 4, 3, 2, 1, 0] (.ef 19 [] (.op 20 .nil))))))))))))))))))))) (by kernel_rfl) (by kernel_rfl) ?_)
    | (refine KJ_draws (id := 8) (.op 0 (.op 1 (.op 2 (.op 3 (.op 4 (.op 5 (.op 6 (.op 7 (.op 8 (.op 9 (.ef 10 [] (.op 11 .nil)))))))))))) (by kernel_rfl) (by kernel_rfl) ?_)
    | refine FW_alt ?_ ?_
    | refine FW_efn rfl rfl rfl rfl rfl ?_ ?_
    | refine KJ_flow ?_ ?_
    | exact Rech.nil
    | fail)
      refine Hold.mk ?_
      repeat' (first 
    | (refine is_call ?_; refine KJ_call xE (level_ct (W := W) t1 (har.mono g1) pok k2 (by omega) (by omega)) xP rfl (fun x => ?_); obtain ⟨⟨N2, p2⟩, g2, t2⟩ := x; dsimp only at g2 t2 ⊢)
    | (refine ek_load ?_; refine EK_ev (Ev_loadNd (nd := ⟨b, yk, yv, al, ar, yh, ys⟩) rfl xS (g1 _ hm) rfl) ?_)
    | refine xst ?_
    | (refine xsa ?_; intro _)
    | (refine xsb ?_ ?_ <;> intro _ <;> first | (exfalso; omega) | skip)
    | refine xsc ?_
    | (refine KJ_draws (id := 5) (.op 0 (.op 1 (.op 2 (.op 3 (.op 4 (.op 5 (.op 7 (.op 8 (.op 9 (.op 10 (.op 11 (.op 12 (.op 13 (.op 14 (.op 15 (.op 16 (.op 17 (.op 18 (.ef 6 [18, 17, 16, 15, 14, 13, 12, 11, 10, 9, 8, 7] (.ef 19 [] (.op 20 .nil))))))))))))))))))))) (by kernel_rfl) (by kernel_rfl) ?_)
    | (refine KJ_draws (id := 7) (.op 0 (.op 1 (.op 2 (.op 3 (.op 4 (.op 5 (.op 6 (.op 7 (.op 8 (.op 9 (.op 10 (.op 11 (.op 12 (.op 13 (.op 14 (.op 15 (.op 16 (.op 17 (.ef 18 [11, 10, 9, 8, 7, 6, 5, 4, 3, 2, 1, 0] (.ef 19 [] (.op 20 .nil))))))))))))))))))))) (by kernel_rfl) (by kernel_rfl) ?_)
    | (refine KJ_draws (id := 8) (.op 0 (.op 1 (.op 2 (.op 3 (.op 4 (.op 5 (.op 6 (.op 7 (.op 8 (.op 9 (.ef 10 [] (.op 11 .nil)))))))))))) (by kernel_rfl) (by kernel_rfl) ?_)
    | refine FW_alt ?_ ?_
    | refine FW_efn rfl rfl rfl rfl rfl ?_ ?_
    | refine KJ_flow ?_ ?_
    | exact Rech.nil
    | fail)
      all_goals (exact xdn ⟨(N2, p2), fun y hy => g2 y (g1 y hy), t2⟩)
    · rw [cmp_g h1 h2] at cc
      have q1 : decide ((1 : Int) < 0) = false := rfl
      have q2 : decide ((0 : Int) < 1) = true := rfl
      have cp := ihr har k2 r2 (by omega)
      have he : (Tr.node yl yk yv yr yh ys).put x y = Tr.level yl yk yv (yr.put x y) := (if_neg (by rw [h1]; decide)).trans (if_pos h2)
      obtain ⟨pok, -⟩ := Tr.put_ok k2 r2 x y
      have pc := put_cnt k2 r2 x y
      rw [he]
      refine Ct.enter Tryd.func63 rfl Tryd.ntmps63 (by simp) (fun R => ?_)
      repeat' (first 
    | (refine is_call ?_; first | (refine KJ_call xE (cp) xP rfl (fun x => ?_); obtain ⟨⟨N1, p1⟩, g1, t1⟩ := x; dsimp only at g1 t1 ⊢; refine hold ?_) | (refine KJ_call xE cc xP rfl (fun _ => ?_)))
    | (refine ek_load ?_; refine EK_ev (Ev_loadNd (nd := ⟨b, yk, yv, al, ar, yh, ys⟩) rfl xS (hm) rfl) ?_)
    | (refine ek_lss ?_; refine EK_ev (Ev_lssI_q rfl rfl q1) ?_)
    | (refine ek_gtr ?_; refine EK_ev (Ev_gtrI_q rfl rfl q2) ?_)
    | refine xst ?_
    | (refine xsa ?_; intro _)
    | (refine xsb ?_ ?_ <;> intro _ <;> first | (exfalso; omega) | skip)
    | refine xsc ?_
    | (refine KJ_draws (id := 5) (.op 0 (.op 1 (.op 2 (.op 3 (.op 4 (.op 5 (.op 7 (.op 8 (.op 9 (.op 10 (.op 11 (.op 12 (.op 13 (.op 14 (.op 15 (.op 16 (.op 17 (.op 18 (.ef 6 [18, 17, 16, 15, 14, 13, 12, 11, 10, 9, 8, 7] (.ef 19 [] (.op 20 .nil))))))))))))))))))))) (by kernel_rfl) (by kernel_rfl) ?_)
    | (refine KJ_draws (id := 7) (.op 0 (.op 1 (.op 2 (.op 3 (.op 4 (.op 5 (.op 6 (.op 7 (.op 8 (.op 9 (.op 10 (.op 11 (.op 12 (.op 13 (.op 14 (.op 15 (.op 16 (.op 17 (.ef 18 [11, 10, 9, 8, 7, 6, 5, 4, 3, 2, 1, 0] (.ef 19 [] (.op 20 .nil))))))))))))))))))))) (by kernel_rfl) (by kernel_rfl) ?_)
    | (refine KJ_draws (id := 8) (.op 0 (.op 1 (.op 2 (.op 3 (.op 4 (.op 5 (.op 6 (.op 7 (.op 8 (.op 9 (.ef 10 [] (.op 11 .nil)))))))))))) (by kernel_rfl) (by kernel_rfl) ?_)
    | refine FW_alt ?_ ?_
    | refine FW_efn rfl rfl rfl rfl rfl ?_ ?_
    | refine KJ_flow ?_ ?_
    | exact Rech.nil
    | fail)
      refine Hold.mk ?_
      repeat' (first 
    | (refine is_call ?_; refine KJ_call xE (level_ct (W := W) (hal.mono g1) t1 k1 pok (by omega) (by omega)) xP rfl (fun x => ?_); obtain ⟨⟨N2, p2⟩, g2, t2⟩ := x; dsimp only at g2 t2 ⊢)
    | (refine ek_load ?_; refine EK_ev (Ev_loadNd (nd := ⟨b, yk, yv, al, ar, yh, ys⟩) rfl xS (g1 _ hm) rfl) ?_)
    | refine xst ?_
    | (refine xsa ?_; intro _)
    | (refine xsb ?_ ?_ <;> intro _ <;> first | (exfalso; omega) | skip)
    | refine xsc ?_
    | (refine KJ_draws (id := 5) (.op 0 (.op 1 (.op 2 (.op 3 (.op 4 (.op 5 (.op 7 (.op 8 (.op 9 (.op 10 (.op 11 (.op 12 (.op 13 (.op 14 (.op 15 (.op 16 (.op 17 (.op 18 (.ef 6 [18, 17, 16, 15, 14, 13, 12, 11, 10, 9, 8, 7] (.ef 19 [] (.op 20 .nil))))))))))))))))))))) (by kernel_rfl) (by kernel_rfl) ?_)
    | (refine KJ_draws (id := 7) (.op 0 (.op 1 (.op 2 (.op 3 (.op 4 (.op 5 (.op 6 (.op 7 (.op 8 (.op 9 (.op 10 (.op 11 (.op 12 (.op 13 (.op 14 (.op 15 (.op 16 (.op 17 (.ef 18 [11, 10, 9, 8, 7, 6, 5, 4, 3, 2, 1, 0] (.ef 19 [] (.op 20 .nil))))))))))))))))))))) (by kernel_rfl) (by kernel_rfl) ?_)
    | (refine KJ_draws (id := 8) (.op 0 (.op 1 (.op 2 (.op 3 (.op 4 (.op 5 (.op 6 (.op 7 (.op 8 (.op 9 (.ef 10 [] (.op 11 .nil)))))))))))) (by kernel_rfl) (by kernel_rfl) ?_)
    | refine FW_alt ?_ ?_
    | refine FW_efn rfl rfl rfl rfl rfl ?_ ?_
    | refine KJ_flow ?_ ?_
    | exact Rech.nil
    | fail)
      all_goals (exact xdn ⟨(N2, p2), fun y hy => g2 y (g1 y hy), t2⟩)
    · rw [cmp_e h1 h2] at cc
      have q1 : decide ((0 : Int) < 0) = false := rfl
      have he : (Tr.node yl yk yv yr yh ys).put x y = Tr.join yl x y yr := (if_neg (by rw [h1]; decide)).trans (if_neg (by rw [h2]; decide))
      rw [he]
      refine Ct.enter Tryd.func63 rfl Tryd.ntmps63 (by simp) (fun R => ?_)
      repeat' (first 
    | (refine is_call ?_; first | (refine KJ_call xE (join_ct (W := W) hal har (by omega) (by omega) (by omega) (by omega)) xP rfl (fun x => ?_); obtain ⟨⟨N1, p1⟩, g1, t1⟩ := x; dsimp only at g1 t1 ⊢) | (refine KJ_call xE cc xP rfl (fun _ => ?_)))
    | (refine ek_load ?_; refine EK_ev (Ev_loadNd (nd := ⟨b, yk, yv, al, ar, yh, ys⟩) rfl xS (hm) rfl) ?_)
    | (refine ek_lss ?_; refine EK_ev (Ev_lssI_q rfl rfl q1) ?_)
    | (refine ek_gtr ?_; refine EK_ev (Ev_gtrI_q rfl rfl q1) ?_)
    | refine xst ?_
    | (refine xsa ?_; intro _)
    | (refine xsb ?_ ?_ <;> intro _ <;> first | (exfalso; omega) | skip)
    | refine xsc ?_
    | (refine KJ_draws (id := 5) (.op 0 (.op 1 (.op 2 (.op 3 (.op 4 (.op 5 (.op 7 (.op 8 (.op 9 (.op 10 (.op 11 (.op 12 (.op 13 (.op 14 (.op 15 (.op 16 (.op 17 (.op 18 (.ef 6 [18, 17, 16, 15, 14, 13, 12, 11, 10, 9, 8, 7] (.ef 19 [] (.op 20 .nil))))))))))))))))))))) (by kernel_rfl) (by kernel_rfl) ?_)
    | (refine KJ_draws (id := 7) (.op 0 (.op 1 (.op 2 (.op 3 (.op 4 (.op 5 (.op 6 (.op 7 (.op 8 (.op 9 (.op 10 (.op 11 (.op 12 (.op 13 (.op 14 (.op 15 (.op 16 (.op 17 (.ef 18 [11, 10, 9, 8, 7, 6, 5, 4, 3, 2, 1, 0] (.ef 19 [] (.op 20 .nil))))))))))))))))))))) (by kernel_rfl) (by kernel_rfl) ?_)
    | (refine KJ_draws (id := 8) (.op 0 (.op 1 (.op 2 (.op 3 (.op 4 (.op 5 (.op 6 (.op 7 (.op 8 (.op 9 (.ef 10 [] (.op 11 .nil)))))))))))) (by kernel_rfl) (by kernel_rfl) ?_)
    | refine FW_alt ?_ ?_
    | refine FW_efn rfl rfl rfl rfl rfl ?_ ?_
    | refine KJ_flow ?_ ?_
    | exact Rech.nil
    | fail)
      all_goals (exact xdn ⟨(N1, p1), g1, t1⟩)
end
end Go.Proofs.YtehheokalgmbgaaDoor
/-
  The package table: remove. (Printed by gentb4.py.)
-/
namespace Go.Proofs.YtehheokalgmbgaaDoor
open Go Go.RowKit
section
variable {W : World}
set_option maxHeartbeats 8000000 in
theorem remove_ct : ∀ (t : Tr) (x : List UInt8) {N : List Nd} {a : Option Addr}, TrAt N a t → t.Ok → RisR t.rows → t.cnt ≤ 288230376151711744 → (lk t.rows x).isSome = true →
    Ct Tryd.prog W 62 [.pointer a, strV x] [arP N] (fun z : Grew N (t.remove x) => .pointer z.1.2) (fun z => [arP z.1.1]) := by
  intro t
  induction t with
  | nil => intro x N a hT ho hr hc hx; cases hx
  | node yl yk yv yr yh ys ihl ihr =>
    intro x N a hT ho hr hc hx
    obtain ⟨b, al, ar, rfl, hm, hal, har⟩ := hT
    have hr' : RisR (yl.rows ++ (yk, yv) :: yr.rows) := hr
    obtain ⟨r1, r2, r3, r4⟩ := ris_mid.1 hr'
    obtain ⟨k1, k2, k3, k4, k5, k6⟩ := Tr.child ho
    have hc : ys ≤ 288230376151711744 := hc
    have u1 := Tr.tall_cnt k1
    have u2 := Tr.tall_cnt k2
    rw [show (Tr.node yl yk yv yr yh ys).rows = yl.rows ++ (yk, yv) :: yr.rows from rfl, lk_mid hr'] at hx
    have cc := compare_ct (W := W) x yk
    rcases cmpV x yk with ⟨h1, h2⟩ | ⟨h1, h2⟩ | ⟨h1, h2⟩
    · rw [cmp_l h1] at cc
      rw [if_pos h1] at hx
      have q1 : decide ((-1 : Int) < 0) = true := rfl
      have cp := ihl x hal k1 r1 (by omega) hx
      have he : (Tr.node yl yk yv yr yh ys).remove x = Tr.level (yl.remove x) yk yv yr := by (conv => lhs; unfold Tr.remove); exact if_pos h1
      obtain ⟨pok, -⟩ := Tr.remove_ok k1 r1 x hx
      have pc := remove_cnt k1 r1 x hx
      rw [he]
      refine Ct.enter Tryd.func62 rfl Tryd.ntmps62 (by simp) (fun R => ?_)
      repeat' (first 
    | (refine is_call ?_; first | (refine KJ_call xE (cp) xP rfl (fun x => ?_); obtain ⟨⟨N1, p1⟩, g1, t1⟩ := x; dsimp only at g1 t1 ⊢; refine hold ?_) | (refine KJ_call xE cc xP rfl (fun _ => ?_)))
    | (refine ek_load ?_; refine EK_ev (Ev_loadNd (nd := ⟨b, yk, yv, al, ar, yh, ys⟩) rfl xS (hm) rfl) ?_)
    | (refine ek_lss ?_; refine EK_ev (Ev_lssI_q rfl rfl q1) ?_)
    | refine xst ?_
    | (refine xsa ?_; intro _)
    | (refine xsb ?_ ?_ <;> intro _ <;> first | (exfalso; omega) | skip)
    | refine xsc ?_
    | (refine KJ_draws (id := 3) (.op 0 (.op 1 (.op 2 (.op 3 (.op 4 (.op 6 (.op 7 (.op 8 (.op 9 (.op 10 (.op 11 (.op 12 (.op 13 (.op 14 (.op 15 (.op 16 (.op 17 (.ef 5 [17, 16, 15, 14, 13, 12, 11, 10, 9, 8, 7, 6] (.ef 18 [] (.op 19 .nil)))))))))))))))))))) (by kernel_rfl) (by kernel_rfl) ?_)
    | (refine KJ_draws (id := 5) (.op 0 (.op 1 (.op 2 (.op 3 (.op 4 (.op 5 (.op 6 (.op 7 (.op 8 (.op 9 (.op 10 (.op 11 (.op 12 (.op 13 (.op 14 (.op 15 (.op 16 (.ef 17 [11, 10, 9, 8, 7, 6, 5, 4, 3, 2, 1, 0] (.ef 18 [] (.op 19 .nil)))))))))))))))))))) (by kernel_rfl) (by kernel_rfl) ?_)
    | (refine KJ_draws (id := 13) (.op 0 (.op 1 (.op 2 (.op 3 (.op 4 (.op 5 (.op 6 (.op 7 (.op 8 (.op 9 (.op 10 (.op 11 (.op 12 (.op 13 (.op 14 (.op 15 (.op 16 (.op 17 (.op 18 (.op 19 (.ef 20 [11, 10, 9, 8, 7, 6, 5, 4, 3, 2, 1, 0] (.ef 21 [] (.op 22 .nil))))))))))))))))))))))) (by kernel_rfl) (by kernel_rfl) ?_)
    | refine FW_alt ?_ ?_
    | refine FW_efn rfl rfl rfl rfl rfl ?_ ?_
    | refine KJ_flow ?_ ?_
    | exact Rech.nil
    | fail)
      refine Hold.mk ?_
      repeat' (first 
    | (refine is_call ?_; refine KJ_call xE (level_ct (W := W) t1 (har.mono g1) pok k2 (by omega) (by omega)) xP rfl (fun x => ?_); obtain ⟨⟨N2, p2⟩, g2, t2⟩ := x; dsimp only at g2 t2 ⊢)
    | (refine ek_load ?_; refine EK_ev (Ev_loadNd (nd := ⟨b, yk, yv, al, ar, yh, ys⟩) rfl xS (g1 _ hm) rfl) ?_)
    | refine xst ?_
    | (refine xsa ?_; intro _)
    | (refine xsb ?_ ?_ <;> intro _ <;> first | (exfalso; omega) | skip)
    | refine xsc ?_
    | (refine KJ_draws (id := 3) (.op 0 (.op 1 (.op 2 (.op 3 (.op 4 (.op 6 (.op 7 (.op 8 (.op 9 (.op 10 (.op 11 (.op 12 (.op 13 (.op 14 (.op 15 (.op 16 (.op 17 (.ef 5 [17, 16, 15, 14, 13, 12, 11, 10, 9, 8, 7, 6] (.ef 18 [] (.op 19 .nil)))))))))))))))))))) (by kernel_rfl) (by kernel_rfl) ?_)
    | (refine KJ_draws (id := 5) (.op 0 (.op 1 (.op 2 (.op 3 (.op 4 (.op 5 (.op 6 (.op 7 (.op 8 (.op 9 (.op 10 (.op 11 (.op 12 (.op 13 (.op 14 (.op 15 (.op 16 (.ef 17 [11, 10, 9, 8, 7, 6, 5, 4, 3, 2, 1, 0] (.ef 18 [] (.op 19 .nil)))))))))))))))))))) (by kernel_rfl) (by kernel_rfl) ?_)
    | (refine KJ_draws (id := 13) (.op 0 (.op 1 (.op 2 (.op 3 (.op 4 (.op 5 (.op 6 (.op 7 (.op 8 (.op 9 (.op 10 (.op 11 (.op 12 (.op 13 (.op 14 (.op 15 (.op 16 (.op 17 (.op 18 (.op 19 (.ef 20 [11, 10, 9, 8, 7, 6, 5, 4, 3, 2, 1, 0] (.ef 21 [] (.op 22 .nil))))))))))))))))))))))) (by kernel_rfl) (by kernel_rfl) ?_)
    | refine FW_alt ?_ ?_
    | refine FW_efn rfl rfl rfl rfl rfl ?_ ?_
    | refine KJ_flow ?_ ?_
    | exact Rech.nil
    | fail)
      all_goals (exact xdn ⟨(N2, p2), fun y hy => g2 y (g1 y hy), t2⟩)
    · rw [cmp_g h1 h2] at cc
      rw [if_neg (by rw [h1]; decide), if_pos h2] at hx
      have q1 : decide ((1 : Int) < 0) = false := rfl
      have q2 : decide ((0 : Int) < 1) = true := rfl
      have cp := ihr x har k2 r2 (by omega) hx
      have he : (Tr.node yl yk yv yr yh ys).remove x = Tr.level yl yk yv (yr.remove x) := by (conv => lhs; unfold Tr.remove); exact (if_neg (by rw [h1]; decide)).trans (if_pos h2)
      obtain ⟨pok, -⟩ := Tr.remove_ok k2 r2 x hx
      have pc := remove_cnt k2 r2 x hx
      rw [he]
      refine Ct.enter Tryd.func62 rfl Tryd.ntmps62 (by simp) (fun R => ?_)
      repeat' (first 
    | (refine is_call ?_; first | (refine KJ_call xE (cp) xP rfl (fun x => ?_); obtain ⟨⟨N1, p1⟩, g1, t1⟩ := x; dsimp only at g1 t1 ⊢; refine hold ?_) | (refine KJ_call xE cc xP rfl (fun _ => ?_)))
    | (refine ek_load ?_; refine EK_ev (Ev_loadNd (nd := ⟨b, yk, yv, al, ar, yh, ys⟩) rfl xS (hm) rfl) ?_)
    | (refine ek_lss ?_; refine EK_ev (Ev_lssI_q rfl rfl q1) ?_)
    | (refine ek_gtr ?_; refine EK_ev (Ev_gtrI_q rfl rfl q2) ?_)
    | refine xst ?_
    | (refine xsa ?_; intro _)
    | (refine xsb ?_ ?_ <;> intro _ <;> first | (exfalso; omega) | skip)
    | refine xsc ?_
    | (refine KJ_draws (id := 3) (.op 0 (.op 1 (.op 2 (.op 3 (.op 4 (.op 6 (.op 7 (.op 8 (.op 9 (.op 10 (.op 11 (.op 12 (.op 13 (.op 14 (.op 15 (.op 16 (.op 17 (.ef 5 [17, 16, 15, 14, 13, 12, 11, 10, 9, 8, 7, 6] (.ef 18 [] (.op 19 .nil)))))))))))))))))))) (by kernel_rfl) (by kernel_rfl) ?_)
    | (refine KJ_draws (id := 5) (.op 0 (.op 1 (.op 2 (.op 3 (.op 4 (.op 5 (.op 6 (.op 7 (.op 8 (.op 9 (.op 10 (.op 11 (.op 12 (.op 13 (.op 14 (.op 15 (.op 16 (.ef 17 [11, 10, 9, 8, 7, 6, 5, 4, 3, 2, 1, 0] (.ef 18 [] (.op 19 .nil)))))))))))))))))))) (by kernel_rfl) (by kernel_rfl) ?_)
    | (refine KJ_draws (id := 13) (.op 0 (.op 1 (.op 2 (.op 3 (.op 4 (.op 5 (.op 6 (.op 7 (.op 8 (.op 9 (.op 10 (.op 11 (.op 12 (.op 13 (.op 14 (.op 15 (.op 16 (.op 17 (.op 18 (.op 19 (.ef 20 [11, 10, 9, 8, 7, 6, 5, 4, 3, 2, 1, 0] (.ef 21 [] (.op 22 .nil))))))))))))))))))))))) (by kernel_rfl) (by kernel_rfl) ?_)
    | refine FW_alt ?_ ?_
    | refine FW_efn rfl rfl rfl rfl rfl ?_ ?_
    | refine KJ_flow ?_ ?_
    | exact Rech.nil
    | fail)
      refine Hold.mk ?_
      repeat' (first 
    | (refine is_call ?_; refine KJ_call xE (level_ct (W := W) (hal.mono g1) t1 k1 pok (by omega) (by omega)) xP rfl (fun x => ?_); obtain ⟨⟨N2, p2⟩, g2, t2⟩ := x; dsimp only at g2 t2 ⊢)
    | (refine ek_load ?_; refine EK_ev (Ev_loadNd (nd := ⟨b, yk, yv, al, ar, yh, ys⟩) rfl xS (g1 _ hm) rfl) ?_)
    | refine xst ?_
    | (refine xsa ?_; intro _)
    | (refine xsb ?_ ?_ <;> intro _ <;> first | (exfalso; omega) | skip)
    | refine xsc ?_
    | (refine KJ_draws (id := 3) (.op 0 (.op 1 (.op 2 (.op 3 (.op 4 (.op 6 (.op 7 (.op 8 (.op 9 (.op 10 (.op 11 (.op 12 (.op 13 (.op 14 (.op 15 (.op 16 (.op 17 (.ef 5 [17, 16, 15, 14, 13, 12, 11, 10, 9, 8, 7, 6] (.ef 18 [] (.op 19 .nil)))))))))))))))))))) (by kernel_rfl) (by kernel_rfl) ?_)
    | (refine KJ_draws (id := 5) (.op 0 (.op 1 (.op 2 (.op 3 (.op 4 (.op 5 (.op 6 (.op 7 (.op 8 (.op 9 (.op 10 (.op 11 (.op 12 (.op 13 (.op 14 (.op 15 (.op 16 (.ef 17 [11, 10, 9, 8, 7, 6, 5, 4, 3, 2, 1, 0] (.ef 18 [] (.op 19 .nil)))))))))))))))))))) (by kernel_rfl) (by kernel_rfl) ?_)
    | (refine KJ_draws (id := 13) (.op 0 (.op 1 (.op 2 (.op 3 (.op 4 (.op 5 (.op 6 (.op 7 (.op 8 (.op 9 (.op 10 (.op 11 (.op 12 (.op 13 (.op 14 (.op 15 (.op 16 (.op 17 (.op 18 (.op 19 (.ef 20 [11, 10, 9, 8, 7, 6, 5, 4, 3, 2, 1, 0] (.ef 21 [] (.op 22 .nil))))))))))))))))))))))) (by kernel_rfl) (by kernel_rfl) ?_)
    | refine FW_alt ?_ ?_
    | refine FW_efn rfl rfl rfl rfl rfl ?_ ?_
    | refine KJ_flow ?_ ?_
    | exact Rech.nil
    | fail)
      all_goals (exact xdn ⟨(N2, p2), fun y hy => g2 y (g1 y hy), t2⟩)
    · rw [cmp_e h1 h2] at cc
      have q1 : decide ((0 : Int) < 0) = false := rfl
      cases yl with
      | nil =>
        cases hal
        have he : (Tr.node .nil yk yv yr yh ys).remove x = yr := by (conv => lhs; unfold Tr.remove); exact (if_neg (by rw [h1]; decide)).trans ((if_neg (by rw [h2]; decide)).trans (by cases yr <;> rfl))
        rw [he]
        refine Ct.enter Tryd.func62 rfl Tryd.ntmps62 (by simp) (fun R => ?_)
        repeat' (first 
    | (refine is_call ?_; refine KJ_call xE cc xP rfl (fun _ => ?_))
    | (refine ek_load ?_; refine EK_ev (Ev_loadNd (nd := ⟨b, yk, yv, none, ar, yh, ys⟩) rfl xS (hm) rfl) ?_)
    | (refine ek_lss ?_; refine EK_ev (Ev_lssI_q rfl rfl q1) ?_)
    | (refine ek_gtr ?_; refine EK_ev (Ev_gtrI_q rfl rfl q1) ?_)
    | refine xst ?_
    | (refine xsa ?_; intro _)
    | (refine xsb ?_ ?_ <;> intro _ <;> first | (exfalso; omega) | skip)
    | refine xsc ?_
    | (refine KJ_draws (id := 3) (.op 0 (.op 1 (.op 2 (.op 3 (.op 4 (.op 6 (.op 7 (.op 8 (.op 9 (.op 10 (.op 11 (.op 12 (.op 13 (.op 14 (.op 15 (.op 16 (.op 17 (.ef 5 [17, 16, 15, 14, 13, 12, 11, 10, 9, 8, 7, 6] (.ef 18 [] (.op 19 .nil)))))))))))))))))))) (by kernel_rfl) (by kernel_rfl) ?_)
    | (refine KJ_draws (id := 5) (.op 0 (.op 1 (.op 2 (.op 3 (.op 4 (.op 5 (.op 6 (.op 7 (.op 8 (.op 9 (.op 10 (.op 11 (.op 12 (.op 13 (.op 14 (.op 15 (.op 16 (.ef 17 [11, 10, 9, 8, 7, 6, 5, 4, 3, 2, 1, 0] (.ef 18 [] (.op 19 .nil)))))))))))))))))))) (by kernel_rfl) (by kernel_rfl) ?_)
    | (refine KJ_draws (id := 13) (.op 0 (.op 1 (.op 2 (.op 3 (.op 4 (.op 5 (.op 6 (.op 7 (.op 8 (.op 9 (.op 10 (.op 11 (.op 12 (.op 13 (.op 14 (.op 15 (.op 16 (.op 17 (.op 18 (.op 19 (.ef 20 [11, 10, 9, 8, 7, 6, 5, 4, 3, 2, 1, 0] (.ef 21 [] (.op 22 .nil))))))))))))))))))))))) (by kernel_rfl) (by kernel_rfl) ?_)
    | refine FW_alt ?_ ?_
    | refine FW_efn rfl rfl rfl rfl rfl ?_ ?_
    | refine KJ_flow ?_ ?_
    | exact Rech.nil
    | fail)
        all_goals (exact xdn ⟨(N, ar), fun y hy => hy, har⟩)
      | node ll lk' lv lr lh ls =>
        have hal' := hal
        obtain ⟨d, dl, dr, rfl, hmd, -, -⟩ := hal
        cases yr with
        | nil =>
          cases har
          have he : (Tr.node (.node ll lk' lv lr lh ls) yk yv .nil yh ys).remove x = .node ll lk' lv lr lh ls := by (conv => lhs; unfold Tr.remove); exact (if_neg (by rw [h1]; decide)).trans ((if_neg (by rw [h2]; decide)).trans rfl)
          rw [he]
          refine Ct.enter Tryd.func62 rfl Tryd.ntmps62 (by simp) (fun R => ?_)
          repeat' (first 
    | (refine is_call ?_; refine KJ_call xE cc xP rfl (fun _ => ?_))
    | (refine ek_load ?_; refine EK_ev (Ev_loadNd (nd := ⟨b, yk, yv, some ⟨d, 0, none⟩, none, yh, ys⟩) rfl xS (hm) rfl) ?_)
    | (refine ek_lss ?_; refine EK_ev (Ev_lssI_q rfl rfl q1) ?_)
    | (refine ek_gtr ?_; refine EK_ev (Ev_gtrI_q rfl rfl q1) ?_)
    | refine xst ?_
    | (refine xsa ?_; intro _)
    | (refine xsb ?_ ?_ <;> intro _ <;> first | (exfalso; omega) | skip)
    | refine xsc ?_
    | (refine KJ_draws (id := 3) (.op 0 (.op 1 (.op 2 (.op 3 (.op 4 (.op 6 (.op 7 (.op 8 (.op 9 (.op 10 (.op 11 (.op 12 (.op 13 (.op 14 (.op 15 (.op 16 (.op 17 (.ef 5 [17, 16, 15, 14, 13, 12, 11, 10, 9, 8, 7, 6] (.ef 18 [] (.op 19 .nil)))))))))))))))))))) (by kernel_rfl) (by kernel_rfl) ?_)
    | (refine KJ_draws (id := 5) (.op 0 (.op 1 (.op 2 (.op 3 (.op 4 (.op 5 (.op 6 (.op 7 (.op 8 (.op 9 (.op 10 (.op 11 (.op 12 (.op 13 (.op 14 (.op 15 (.op 16 (.ef 17 [11, 10, 9, 8, 7, 6, 5, 4, 3, 2, 1, 0] (.ef 18 [] (.op 19 .nil)))))))))))))))))))) (by kernel_rfl) (by kernel_rfl) ?_)
    | (refine KJ_draws (id := 13) (.op 0 (.op 1 (.op 2 (.op 3 (.op 4 (.op 5 (.op 6 (.op 7 (.op 8 (.op 9 (.op 10 (.op 11 (.op 12 (.op 13 (.op 14 (.op 15 (.op 16 (.op 17 (.op 18 (.op 19 (.ef 20 [11, 10, 9, 8, 7, 6, 5, 4, 3, 2, 1, 0] (.ef 21 [] (.op 22 .nil))))))))))))))))))))))) (by kernel_rfl) (by kernel_rfl) ?_)
    | refine FW_alt ?_ ?_
    | refine FW_efn rfl rfl rfl rfl rfl ?_ ?_
    | refine KJ_flow ?_ ?_
    | exact Rech.nil
    | fail)
          all_goals (exact xdn ⟨(N, some ⟨d, 0, none⟩), fun y hy => hy, hal'⟩)
        | node rl rk rv rr rh rs =>
          have har' := har
          obtain ⟨e, el, er, rfl, hme, -, -⟩ := har
          have he : (Tr.node (.node ll lk' lv lr lh ls) yk yv (.node rl rk rv rr rh rs) yh ys).remove x = Tr.level (.node ll lk' lv lr lh ls) (Tr.node rl rk rv rr rh rs).first.1 (Tr.node rl rk rv rr rh rs).first.2 ((Tr.node rl rk rv rr rh rs).remove (Tr.node rl rk rv rr rh rs).first.1) := by (conv => lhs; unfold Tr.remove); exact (if_neg (by rw [h1]; decide)).trans ((if_neg (by rw [h2]; decide)).trans rfl)
          rw [he]
          obtain ⟨yr, hyr⟩ : ∃ z, z = Tr.node rl rk rv rr rh rs := ⟨_, rfl⟩
          obtain ⟨yl, hyl⟩ : ∃ z, z = Tr.node ll lk' lv lr lh ls := ⟨_, rfl⟩
          have hne : yr ≠ .nil := by rw [hyr]; intro h; cases h
          obtain ⟨R0, hR0⟩ := Tr.first_rows hne
          rw [← hyr] at har' k2 r2 k4 k6 ihr u2 ⊢
          rw [← hyl] at hal' k1 k3 k5 u1 ⊢
          obtain ⟨⟨k0, v0⟩, hkv⟩ : ∃ z, z = yr.first := ⟨_, rfl⟩
          rw [← hkv] at hR0 ⊢
          clear he hx ihl r3 r4 hr' hr ho
          have hsome : (lk yr.rows k0).isSome = true := by rw [hR0, lk_cons, if_pos rfl]; rfl
          have cp := ihr k0 har' k2 r2 (by omega) hsome
          obtain ⟨pok, -⟩ := Tr.remove_ok k2 r2 _ hsome
          have pc := remove_cnt k2 r2 _ hsome
          refine Ct.enter Tryd.func62 rfl Tryd.ntmps62 (by simp) (fun R => ?_)
          repeat' (first 
    | (refine is_call ?_; refine KJ_call xE cc xP rfl (fun _ => ?_))
    | (refine ek_load ?_; refine EK_ev (Ev_loadNd (nd := ⟨b, yk, yv, some ⟨d, 0, none⟩, some ⟨e, 0, none⟩, yh, ys⟩) rfl xS (hm) rfl) ?_)
    | (refine ek_lss ?_; refine EK_ev (Ev_lssI_q rfl rfl q1) ?_)
    | (refine ek_gtr ?_; refine EK_ev (Ev_gtrI_q rfl rfl q1) ?_)
    | refine xst ?_
    | (refine xsa ?_; intro _)
    | (refine xsb ?_ ?_ <;> intro _ <;> first | (exfalso; omega) | skip)
    | refine xsc ?_
    | (refine KJ_draws (id := 3) (.op 0 (.op 1 (.op 2 (.op 3 (.op 4 (.op 6 (.op 7 (.op 8 (.op 9 (.op 10 (.op 11 (.op 12 (.op 13 (.op 14 (.op 15 (.op 16 (.op 17 (.ef 5 [17, 16, 15, 14, 13, 12, 11, 10, 9, 8, 7, 6] (.ef 18 [] (.op 19 .nil)))))))))))))))))))) (by kernel_rfl) (by kernel_rfl) ?_)
    | (refine KJ_draws (id := 5) (.op 0 (.op 1 (.op 2 (.op 3 (.op 4 (.op 5 (.op 6 (.op 7 (.op 8 (.op 9 (.op 10 (.op 11 (.op 12 (.op 13 (.op 14 (.op 15 (.op 16 (.ef 17 [11, 10, 9, 8, 7, 6, 5, 4, 3, 2, 1, 0] (.ef 18 [] (.op 19 .nil)))))))))))))))))))) (by kernel_rfl) (by kernel_rfl) ?_)
    | (refine KJ_draws (id := 13) (.op 0 (.op 1 (.op 2 (.op 3 (.op 4 (.op 5 (.op 6 (.op 7 (.op 8 (.op 9 (.op 10 (.op 11 (.op 12 (.op 13 (.op 14 (.op 15 (.op 16 (.op 17 (.op 18 (.op 19 (.ef 20 [11, 10, 9, 8, 7, 6, 5, 4, 3, 2, 1, 0] (.ef 21 [] (.op 22 .nil))))))))))))))))))))))) (by kernel_rfl) (by kernel_rfl) ?_)
    | refine FW_alt ?_ ?_
    | refine FW_efn rfl rfl rfl rfl rfl ?_ ?_
    | refine KJ_flow ?_ ?_
    | exact Rech.nil
    | fail)
          refine KJ_loop (fun i : {i : Option Addr × Tr // TrAt N i.1 i.2 ∧ i.2 ≠ .nil ∧ i.2.first = (k0, v0)} => [(0, .pointer (some ⟨b, 0, none⟩)), (6, .pointer i.1.1)])
            (fun _ => [arP N] ++ R) (fun i => i.1.2.sz) ⟨(some ⟨e, 0, none⟩, yr), har', hne, hkv.symm⟩ xB (xN) (fun ⟨(f, u), hb, hu, hfi⟩ => ?_)
          dsimp only at hb hu hfi ⊢
          cases u with
          | nil => exact absurd rfl hu
          | node wl wk wv wr wh ws =>
            obtain ⟨f, fl, fr, rfl, hmf, hfl, hfr⟩ := hb
            cases wl with
            | nil =>
              cases hfl
              have hfi : (wk, wv) = (k0, v0) := hfi
              have hk1 : wk = k0 := congrArg Prod.fst hfi
              have hv1 : wv = v0 := congrArg Prod.snd hfi
              subst hk1; subst hv1
              repeat' (first 
    | (refine is_call ?_; refine KJ_call xE (cp) xP rfl (fun x => ?_); obtain ⟨⟨N1, p1⟩, g1, t1⟩ := x; dsimp only at g1 t1 ⊢; refine hold ?_)
    | (refine ek_load ?_; first | refine EK_ev (Ev_loadNd (nd := ⟨f, wk, wv, none, fr, wh, ws⟩) rfl xS (hmf) rfl) ?_ | refine EK_ev (Ev_loadNd (nd := ⟨b, yk, yv, some ⟨d, 0, none⟩, some ⟨e, 0, none⟩, yh, ys⟩) rfl xS (hm) rfl) ?_)
    | refine xst ?_
    | (refine xsa ?_; intro _)
    | (refine xsb ?_ ?_ <;> intro _ <;> first | (exfalso; omega) | skip)
    | refine xsc ?_
    | (refine KJ_draws (id := 3) (.op 0 (.op 1 (.op 2 (.op 3 (.op 4 (.op 6 (.op 7 (.op 8 (.op 9 (.op 10 (.op 11 (.op 12 (.op 13 (.op 14 (.op 15 (.op 16 (.op 17 (.ef 5 [17, 16, 15, 14, 13, 12, 11, 10, 9, 8, 7, 6] (.ef 18 [] (.op 19 .nil)))))))))))))))))))) (by kernel_rfl) (by kernel_rfl) ?_)
    | (refine KJ_draws (id := 5) (.op 0 (.op 1 (.op 2 (.op 3 (.op 4 (.op 5 (.op 6 (.op 7 (.op 8 (.op 9 (.op 10 (.op 11 (.op 12 (.op 13 (.op 14 (.op 15 (.op 16 (.ef 17 [11, 10, 9, 8, 7, 6, 5, 4, 3, 2, 1, 0] (.ef 18 [] (.op 19 .nil)))))))))))))))))))) (by kernel_rfl) (by kernel_rfl) ?_)
    | (refine KJ_draws (id := 13) (.op 0 (.op 1 (.op 2 (.op 3 (.op 4 (.op 5 (.op 6 (.op 7 (.op 8 (.op 9 (.op 10 (.op 11 (.op 12 (.op 13 (.op 14 (.op 15 (.op 16 (.op 17 (.op 18 (.op 19 (.ef 20 [11, 10, 9, 8, 7, 6, 5, 4, 3, 2, 1, 0] (.ef 21 [] (.op 22 .nil))))))))))))))))))))))) (by kernel_rfl) (by kernel_rfl) ?_)
    | refine FW_alt ?_ ?_
    | refine FW_efn rfl rfl rfl rfl rfl ?_ ?_
    | refine KJ_flow ?_ ?_
    | exact Rech.nil
    | fail)
              refine Hold.mk ?_
              repeat' (first 
    | (refine is_call ?_; refine KJ_call xE (level_ct (W := W) (hal'.mono g1) t1 k1 pok (by omega) (by omega)) xP rfl (fun x => ?_); obtain ⟨⟨N2, p2⟩, g2, t2⟩ := x; dsimp only at g2 t2 ⊢)
    | (refine ek_load ?_; first | refine EK_ev (Ev_loadNd (nd := ⟨f, wk, wv, none, fr, wh, ws⟩) rfl xS (g1 _ hmf) rfl) ?_ | refine EK_ev (Ev_loadNd (nd := ⟨b, yk, yv, some ⟨d, 0, none⟩, some ⟨e, 0, none⟩, yh, ys⟩) rfl xS (g1 _ hm) rfl) ?_)
    | refine xst ?_
    | (refine xsa ?_; intro _)
    | (refine xsb ?_ ?_ <;> intro _ <;> first | (exfalso; omega) | skip)
    | refine xsc ?_
    | (refine KJ_draws (id := 3) (.op 0 (.op 1 (.op 2 (.op 3 (.op 4 (.op 6 (.op 7 (.op 8 (.op 9 (.op 10 (.op 11 (.op 12 (.op 13 (.op 14 (.op 15 (.op 16 (.op 17 (.ef 5 [17, 16, 15, 14, 13, 12, 11, 10, 9, 8, 7, 6] (.ef 18 [] (.op 19 .nil)))))))))))))))))))) (by kernel_rfl) (by kernel_rfl) ?_)
    | (refine KJ_draws (id := 5) (.op 0 (.op 1 (.op 2 (.op 3 (.op 4 (.op 5 (.op 6 (.op 7 (.op 8 (.op 9 (.op 10 (.op 11 (.op 12 (.op 13 (.op 14 (.op 15 (.op 16 (.ef 17 [11, 10, 9, 8, 7, 6, 5, 4, 3, 2, 1, 0] (.ef 18 [] (.op 19 .nil)))))))))))))))))))) (by kernel_rfl) (by kernel_rfl) ?_)
    | (refine KJ_draws (id := 13) (.op 0 (.op 1 (.op 2 (.op 3 (.op 4 (.op 5 (.op 6 (.op 7 (.op 8 (.op 9 (.op 10 (.op 11 (.op 12 (.op 13 (.op 14 (.op 15 (.op 16 (.op 17 (.op 18 (.op 19 (.ef 20 [11, 10, 9, 8, 7, 6, 5, 4, 3, 2, 1, 0] (.ef 21 [] (.op 22 .nil))))))))))))))))))))))) (by kernel_rfl) (by kernel_rfl) ?_)
    | refine FW_alt ?_ ?_
    | refine FW_efn rfl rfl rfl rfl rfl ?_ ?_
    | refine KJ_flow ?_ ?_
    | exact Rech.nil
    | fail)
              all_goals (exact xdn ⟨(N2, p2), fun y hy => g2 y (g1 y hy), t2⟩)
            | node vl vk vv vr vh vs =>
              have hfl' := hfl
              obtain ⟨q, ql, qr, rfl, hmq, -, -⟩ := hfl
              repeat' (first 
    | (refine ek_load ?_; refine EK_ev (Ev_loadNd (nd := ⟨f, wk, wv, some ⟨q, 0, none⟩, fr, wh, ws⟩) rfl xS (hmf) rfl) ?_)
    | refine xst ?_
    | (refine xsa ?_; intro _)
    | (refine xsb ?_ ?_ <;> intro _ <;> first | (exfalso; omega) | skip)
    | refine xsc ?_
    | (refine KJ_draws (id := 3) (.op 0 (.op 1 (.op 2 (.op 3 (.op 4 (.op 6 (.op 7 (.op 8 (.op 9 (.op 10 (.op 11 (.op 12 (.op 13 (.op 14 (.op 15 (.op 16 (.op 17 (.ef 5 [17, 16, 15, 14, 13, 12, 11, 10, 9, 8, 7, 6] (.ef 18 [] (.op 19 .nil)))))))))))))))))))) (by kernel_rfl) (by kernel_rfl) ?_)
    | (refine KJ_draws (id := 5) (.op 0 (.op 1 (.op 2 (.op 3 (.op 4 (.op 5 (.op 6 (.op 7 (.op 8 (.op 9 (.op 10 (.op 11 (.op 12 (.op 13 (.op 14 (.op 15 (.op 16 (.ef 17 [11, 10, 9, 8, 7, 6, 5, 4, 3, 2, 1, 0] (.ef 18 [] (.op 19 .nil)))))))))))))))))))) (by kernel_rfl) (by kernel_rfl) ?_)
    | (refine KJ_draws (id := 13) (.op 0 (.op 1 (.op 2 (.op 3 (.op 4 (.op 5 (.op 6 (.op 7 (.op 8 (.op 9 (.op 10 (.op 11 (.op 12 (.op 13 (.op 14 (.op 15 (.op 16 (.op 17 (.op 18 (.op 19 (.ef 20 [11, 10, 9, 8, 7, 6, 5, 4, 3, 2, 1, 0] (.ef 21 [] (.op 22 .nil))))))))))))))))))))))) (by kernel_rfl) (by kernel_rfl) ?_)
    | refine FW_alt ?_ ?_
    | refine FW_efn rfl rfl rfl rfl rfl ?_ ?_
    | refine KJ_flow ?_ ?_
    | exact Rech.nil
    | fail)
              all_goals refine KJ_again ⟨(some ⟨q, 0, none⟩, .node vl vk vv vr vh vs), hfl', (fun h => by cases h), hfi⟩ (by show Tr.sz (.node vl vk vv vr vh vs) < Tr.sz (.node vl vk vv vr vh vs) + wr.sz + 1; omega) xB (xN)
end
end Go.Proofs.YtehheokalgmbgaaDoor
/-
  The package table: rising: a walk over the rows from a key on, with any yield. make([]T, 0, c).
-/
namespace Go.Proofs.YtehheokalgmbgaaDoor
open Go Go.RowKit
section
variable {P : Program} {W : World} {n d m sz bytes : Nat} {E : Env} {H R : List SP} {k : KK} {t e : TypeId} {x y : Operand}
theorem KJ_make0 {C : Int} {zs : List Value} (hx : Env.ev E x = some (.int .i64 0)) (hy : Env.ev E y = some (.int .i64 C)) [hu : UIs P t (.slice e)] [hs : SzIs P e sz] [hb : ByIs P e bytes] [hz : ZcIs P e zs] (hC : C = (m : Int)) (hm : bytes * m ≤ 281474976710656) (hm2 : m ≤ 9223372036854775807) (hn : Nat.blt d n = true)
    (h : ∀ g c, KJ W n k ((d, .slice (some ⟨g, 0, none⟩) 0 c) :: E) (rowP (.slice (some ⟨g, 0, none⟩) 0 c) e sz 0 [] :: H)) : KJ W n (.oper P (.makeSlice t x y) (some d) k) E H := by
  refine ⟨fun a w p s o ho hd => ?_⟩
  have hz := hz.h
  have hs := hs.h
  have hb := hb.h
  cases hq : P.info? e with
  | none => simp [hq] at hz
  | some i =>
    simp [hq] at hz hs hb
    obtain ⟨zv, hz1, hz2⟩ := hz
    obtain ⟨w', h1, h2, h3⟩ := run_make_own (P := P) w W.heap.size t e i zv sz hu.h hq hz1 hs .i64 .i64 m (by rw [hb]; exact hm) (by unfold maxLen; omega) s.size
    show uponP P o a _ ((execOp a.eval o).run P w)
    have hrun : (execOp a.eval o).run P w = .ok (.value (.slice (some ⟨w.heap.size, 0, none⟩) 0 m)) w' := by
      simp only [execOp, ho, p.ev hx, p.ev hy, hC, Sem.run_bind, h1, Result.andThen_ok, Sem.run_pure]
    rw [hrun]
    obtain ⟨q1, q2⟩ := h2
    rcases q2 with ⟨q, _⟩ | ⟨g, cap, cur, hv, hg, hh, hle, hml, hsz, htk⟩
    · cases q
    · cases hv
      have st : St W (rowP (.slice (some ⟨w.heap.size, 0, none⟩) 0 m) e sz 0 [] :: (H ++ dm a.defers)) w' := by
        obtain ⟨h1', h2', dj, hA, hH, l1, l2⟩ := (show St W ([] ++ (H ++ dm a.defers)) w from s).split
        exact St.join (B := [rowP (.slice (some ⟨w.heap.size, 0, none⟩) 0 m) e sz 0 []]) (g := Hl.one w.heap.size (.cells cur e (0, 0))) s.below dj hH l1 l2 (starL_one ⟨q1, .inr ⟨_, _, cur, rfl, Hl.one_self _ _, hle, hml, hsz, htk⟩⟩) h3.os h3.tape h3.output h3.size
          (fun k o q => by obtain ⟨rfl, rfl⟩ := Hl.one_some q; exact hh) (fun k o q => by obtain ⟨rfl, rfl⟩ := Hl.one_some q; exact .inr (Nat.le_refl _)) (fun k hk _ => h3.block k hk (by simp))
      have := (h w.heap.size m).go _ w' (p.put (d := some d) hn _) st
      rw [← hd] at this
      exact this
/-- some claims as one -/
def allP (key : Nat) (L : List SP) : SP := ⟨51, key, fun h => starL L h⟩
theorem all_open {L H : List SP} {key : Nat} {g : Hl} (q : starL (allP key L :: H) g) : starL (L ++ H) g := by
  obtain ⟨h1, h2, d, l1, l2, s1, s2⟩ := q
  exact (starL_append g).2 ⟨h1, h2, d, l1, l2, s1, s2⟩
theorem all_shut {L H : List SP} {key : Nat} {g : Hl} (q : starL (L ++ H) g) : starL (allP key L :: H) g := by
  obtain ⟨h1, h2, d, l1, l2, s1, s2⟩ := (starL_append g).1 q
  exact ⟨h1, h2, d, l1, l2, s1, s2⟩
theorem KJ.allOpen {L : List SP} {key : Nat} (q : Sel (allP key L) H R) (h : KJ W n k E (L ++ R)) : KJ W n k E H :=
  ⟨fun a w p s => h.go a w p ((s.perm (q.perm.append_right _)).mono fun g hg => by
    have := all_open (L := L) (H := R ++ dm a.defers) hg
    rwa [← List.append_assoc] at this)⟩
theorem KJ.allShut {L : List SP} (key : Nat) (p : Pick L H R) (h : KJ W n k E (allP key L :: R)) : KJ W n k E H :=
  ⟨fun a w q s => h.go a w q ((s.perm (p.perm.append_right _)).mono fun g hg => by
    rw [List.append_assoc] at hg
    exact all_shut hg)⟩
theorem Yt.bif {l : Nat} {args : List Value} {Hpre A B : List SP} (h : Yt P W l args Hpre (fun b : Bool => b) (fun b => if b then A else B)) : Yt P W l args Hpre (fun b : Bool => b) (fun b => match b with | true => A | false => B) := by
  have e : (fun b : Bool => if b then A else B) = (fun b => match b with | true => A | false => B) := by funext b; cases b <;> rfl
  rwa [e] at h
end
/-- the rows from a key on -/
def Tr.frm (lo : List UInt8) : Tr → Rows
  | .nil => []
  | .node l k v r _ _ => if Op.bytesLess k lo = true then r.frm lo else l.frm lo ++ (k, v) :: r.frm lo
theorem frm_lo {l r : Tr} {k v lo : List UInt8} {h s : Nat} (c : Op.bytesLess k lo = true) : (Tr.node l k v r h s).frm lo = r.frm lo := if_pos c
theorem frm_hi {l r : Tr} {k v lo : List UInt8} {h s : Nat} (c : Op.bytesLess k lo = false) : (Tr.node l k v r h s).frm lo = l.frm lo ++ (k, v) :: r.frm lo := if_neg (by rw [c]; decide)
/-- how a walk is left: at its end, or behind row m -/
def jsP (J S : Nat → SP) (M : Nat) : Option Nat → SP
  | none => J M
  | some m => S m
section
variable {W : World} {N : List Nd} {L : Rows} {J S : Nat → SP} {lp : Nat}
set_option maxHeartbeats 4000000 in
theorem rising_ct (lo : List UInt8) (hy : ∀ i p, L[i]? = some p → Yt Tryd.prog W lp [strV p.1, strV p.2] [J i] (fun b : Bool => b) (fun b => match b with | true => [J (i + 1)] | false => [S i])) : ∀ (t : Tr) (a : Option Addr) (i0 M : Nat), TrAt N a t → M = i0 + (t.frm lo).length → (∀ j p, (t.frm lo)[j]? = some p → L[i0 + j]? = some p) →
    Ct Tryd.prog W 66 [.pointer a, strV lo, yv lp] [arP N, J i0] (fun x : {x : Option Nat // ∀ m, x = some m → m < M} => .bool x.1.isNone) (fun x => [arP N, jsP J S M x.1]) := by
  intro t
  induction t with
  | nil =>
    intro a i0 M hT hM hL
    cases hT
    have hM : M = i0 := hM
    subst hM
    refine Ct.enter Tryd.func66 rfl Tryd.ntmps66 (by simp) (fun R => ?_)
    repeat' (first 
    | refine xst ?_
    | (refine xsa ?_; intro _)
    | (refine xsb ?_ ?_ <;> intro _ <;> first | (exfalso; omega) | skip)
    | refine xsc ?_
    | (refine KJ_draws (id := 5) (.op 0 (.op 1 (.op 2 (.op 3 (.op 4 (.op 5 (.ef 6 [] (.op 7 (.op 8 (.op 9 (.op 10 (.op 11 (.op 12 (.op 13 (.op 14 (.op 15 (.op 16 (.ef 17 [] (.op 18 (.op 19 (.op 20 (.op 21 (.op 22 (.op 23 (.op 24 (.op 25 (.ef 26 [] (.op 27 (.op 28 .nil))))))))))))))))))))))))))))) (by kernel_rfl) (by kernel_rfl) ?_)
    | refine FW_alt ?_ ?_
    | refine FW_efn rfl rfl rfl rfl rfl ?_ ?_
    | refine KJ_flow ?_ ?_
    | exact Rech.nil
    | fail)
    all_goals (exact xdn ⟨none, fun m h => by cases h⟩)
  | node yl yk yv' yr yh ys ihl ihr =>
    intro a i0 M hT hM hL
    obtain ⟨b, al, ar, rfl, hm, hal, har⟩ := hT
    by_cases c : Op.bytesLess yk lo = true
    · rw [frm_lo c] at hM hL
      have cr := ihr ar i0 M har hM hL
      refine Ct.enter Tryd.func66 rfl Tryd.ntmps66 (by simp) (fun R => ?_)
      repeat' (first 
    | (refine is_call ?_; refine KJ_call xE cr xP rfl (fun x => ?_))
    | (refine ek_load ?_; refine EK_ev (Ev_loadNd (nd := ⟨b, yk, yv', al, ar, yh, ys⟩) rfl xS hm rfl) ?_)
    | (refine ek_lss ?_; refine EK_ev (Ev_lssS_q rfl rfl c) ?_)
    | refine xst ?_
    | (refine xsa ?_; intro _)
    | (refine xsb ?_ ?_ <;> intro _ <;> first | (exfalso; omega) | skip)
    | refine xsc ?_
    | (refine KJ_draws (id := 5) (.op 0 (.op 1 (.op 2 (.op 3 (.op 4 (.op 5 (.ef 6 [] (.op 7 (.op 8 (.op 9 (.op 10 (.op 11 (.op 12 (.op 13 (.op 14 (.op 15 (.op 16 (.ef 17 [] (.op 18 (.op 19 (.op 20 (.op 21 (.op 22 (.op 23 (.op 24 (.op 25 (.ef 26 [] (.op 27 (.op 28 .nil))))))))))))))))))))))))))))) (by kernel_rfl) (by kernel_rfl) ?_)
    | refine FW_alt ?_ ?_
    | refine FW_efn rfl rfl rfl rfl rfl ?_ ?_
    | refine KJ_flow ?_ ?_
    | exact Rech.nil
    | fail)
      all_goals (exact xdn x)
    · have c : Op.bytesLess yk lo = false := by simpa using c
      rw [frm_hi c] at hM hL
      rw [List.length_append, List.length_cons] at hM
      have cl := ihl al i0 (i0 + (yl.frm lo).length) hal rfl (fun j p h => hL j p (by rw [List.getElem?_append_left (List.getElem?_eq_some_iff.1 h).1]; exact h))
      have hyy := hy (i0 + (yl.frm lo).length) (yk, yv') (hL (yl.frm lo).length (yk, yv') (by rw [List.getElem?_append_right (Nat.le_refl _), Nat.sub_self]; rfl))
      have cr := ihr ar (i0 + (yl.frm lo).length + 1) M har (by omega) (fun j p h => by
        have := hL ((yl.frm lo).length + (j + 1)) p (by rw [List.getElem?_append_right (by omega), Nat.add_sub_cancel_left, List.getElem?_cons_succ]; exact h)
        rwa [← Nat.add_assoc, ← Nat.add_assoc, Nat.add_right_comm (i0 + _) j 1] at this)
      obtain ⟨m0, hm0⟩ : ∃ z, z = i0 + (yl.frm lo).length := ⟨_, rfl⟩
      rw [← hm0] at cl hyy cr
      refine Ct.enter Tryd.func66 rfl Tryd.ntmps66 (by simp) (fun R => ?_)
      repeat' (first 
    | (refine is_call ?_; refine KJ_call xE cl xP rfl (fun x => ?_); obtain ⟨x, hx⟩ := x; refine hold ?_)
    | (refine ek_load ?_; refine EK_ev (Ev_loadNd (nd := ⟨b, yk, yv', al, ar, yh, ys⟩) rfl xS hm rfl) ?_)
    | (refine ek_lss ?_; refine EK_ev (Ev_lssS_q rfl rfl c) ?_)
    | refine xst ?_
    | (refine xsa ?_; intro _)
    | (refine xsb ?_ ?_ <;> intro _ <;> first | (exfalso; omega) | skip)
    | refine xsc ?_
    | (refine KJ_draws (id := 5) (.op 0 (.op 1 (.op 2 (.op 3 (.op 4 (.op 5 (.ef 6 [] (.op 7 (.op 8 (.op 9 (.op 10 (.op 11 (.op 12 (.op 13 (.op 14 (.op 15 (.op 16 (.ef 17 [] (.op 18 (.op 19 (.op 20 (.op 21 (.op 22 (.op 23 (.op 24 (.op 25 (.ef 26 [] (.op 27 (.op 28 .nil))))))))))))))))))))))))))))) (by kernel_rfl) (by kernel_rfl) ?_)
    | refine FW_alt ?_ ?_
    | refine FW_efn rfl rfl rfl rfl rfl ?_ ?_
    | refine KJ_flow ?_ ?_
    | exact Rech.nil
    | fail)
      refine Hold.mk ?_
      dsimp only at hx ⊢
      cases x with
      | some j =>
        have hj := hx j rfl
        dsimp only [jsP, Option.isNone]
        repeat' (first 
    | (refine ek_load ?_; refine EK_ev (Ev_loadNd (nd := ⟨b, yk, yv', al, ar, yh, ys⟩) rfl xS hm rfl) ?_)
    | refine xst ?_
    | (refine xsa ?_; intro _)
    | (refine xsb ?_ ?_ <;> intro _ <;> first | (exfalso; omega) | skip)
    | refine xsc ?_
    | (refine KJ_draws (id := 5) (.op 0 (.op 1 (.op 2 (.op 3 (.op 4 (.op 5 (.ef 6 [] (.op 7 (.op 8 (.op 9 (.op 10 (.op 11 (.op 12 (.op 13 (.op 14 (.op 15 (.op 16 (.ef 17 [] (.op 18 (.op 19 (.op 20 (.op 21 (.op 22 (.op 23 (.op 24 (.op 25 (.ef 26 [] (.op 27 (.op 28 .nil))))))))))))))))))))))))))))) (by kernel_rfl) (by kernel_rfl) ?_)
    | refine FW_alt ?_ ?_
    | refine FW_efn rfl rfl rfl rfl rfl ?_ ?_
    | refine KJ_flow ?_ ?_
    | exact Rech.nil
    | fail)
        all_goals exact xdn ⟨some j, fun m h => by cases h; omega⟩ (hE := by dsimp only [jsP]; exact (xN))
      | none =>
        dsimp only [jsP, Option.isNone]
        repeat' (first 
    | (refine is_callV ?_; refine KJ_yield rfl xE hyy xP rfl (fun y => ?_); refine hold ?_)
    | (refine ek_load ?_; refine EK_ev (Ev_loadNd (nd := ⟨b, yk, yv', al, ar, yh, ys⟩) rfl xS hm rfl) ?_)
    | refine xst ?_
    | (refine xsa ?_; intro _)
    | (refine xsb ?_ ?_ <;> intro _ <;> first | (exfalso; omega) | skip)
    | refine xsc ?_
    | (refine KJ_draws (id := 5) (.op 0 (.op 1 (.op 2 (.op 3 (.op 4 (.op 5 (.ef 6 [] (.op 7 (.op 8 (.op 9 (.op 10 (.op 11 (.op 12 (.op 13 (.op 14 (.op 15 (.op 16 (.ef 17 [] (.op 18 (.op 19 (.op 20 (.op 21 (.op 22 (.op 23 (.op 24 (.op 25 (.ef 26 [] (.op 27 (.op 28 .nil))))))))))))))))))))))))))))) (by kernel_rfl) (by kernel_rfl) ?_)
    | refine FW_alt ?_ ?_
    | refine FW_efn rfl rfl rfl rfl rfl ?_ ?_
    | refine KJ_flow ?_ ?_
    | exact Rech.nil
    | fail)
        refine Hold.mk ?_
        cases y with
        | false =>
          dsimp only
          repeat' (first 
    | (refine ek_load ?_; refine EK_ev (Ev_loadNd (nd := ⟨b, yk, yv', al, ar, yh, ys⟩) rfl xS hm rfl) ?_)
    | refine xst ?_
    | (refine xsa ?_; intro _)
    | (refine xsb ?_ ?_ <;> intro _ <;> first | (exfalso; omega) | skip)
    | refine xsc ?_
    | (refine KJ_draws (id := 5) (.op 0 (.op 1 (.op 2 (.op 3 (.op 4 (.op 5 (.ef 6 [] (.op 7 (.op 8 (.op 9 (.op 10 (.op 11 (.op 12 (.op 13 (.op 14 (.op 15 (.op 16 (.ef 17 [] (.op 18 (.op 19 (.op 20 (.op 21 (.op 22 (.op 23 (.op 24 (.op 25 (.ef 26 [] (.op 27 (.op 28 .nil))))))))))))))))))))))))))))) (by kernel_rfl) (by kernel_rfl) ?_)
    | refine FW_alt ?_ ?_
    | refine FW_efn rfl rfl rfl rfl rfl ?_ ?_
    | refine KJ_flow ?_ ?_
    | exact Rech.nil
    | fail)
          all_goals exact xdn ⟨some m0, fun m h => by cases h; omega⟩ (hE := by dsimp only [jsP]; exact (xN))
        | true =>
          dsimp only
          repeat' (first 
    | (refine is_call ?_; refine KJ_call xE cr xP rfl (fun z => ?_))
    | (refine ek_load ?_; refine EK_ev (Ev_loadNd (nd := ⟨b, yk, yv', al, ar, yh, ys⟩) rfl xS hm rfl) ?_)
    | refine xst ?_
    | (refine xsa ?_; intro _)
    | (refine xsb ?_ ?_ <;> intro _ <;> first | (exfalso; omega) | skip)
    | refine xsc ?_
    | (refine KJ_draws (id := 5) (.op 0 (.op 1 (.op 2 (.op 3 (.op 4 (.op 5 (.ef 6 [] (.op 7 (.op 8 (.op 9 (.op 10 (.op 11 (.op 12 (.op 13 (.op 14 (.op 15 (.op 16 (.ef 17 [] (.op 18 (.op 19 (.op 20 (.op 21 (.op 22 (.op 23 (.op 24 (.op 25 (.ef 26 [] (.op 27 (.op 28 .nil))))))))))))))))))))))))))))) (by kernel_rfl) (by kernel_rfl) ?_)
    | refine FW_alt ?_ ?_
    | refine FW_efn rfl rfl rfl rfl rfl ?_ ?_
    | refine KJ_flow ?_ ?_
    | exact Rech.nil
    | fail)
          all_goals (exact xdn z)
end
end Go.Proofs.YtehheokalgmbgaaDoor
/-
  The package table: From's iterator, and a range over it.
-/
namespace Go.Proofs.YtehheokalgmbgaaDoor
open Go Go.RowKit
section
variable {P : Program} {W : World} {f : FuncId} {l : Nat} {args : List Value} {A A' : List SP} {X : Type}
theorem Ct.conv {r : X → Value} {B B' : X → List SP} (h : Ct P W f args A r B) (pre : ∀ R g, starL (A' ++ R) g → starL (A ++ R) g) (post : ∀ x R g, starL (B x ++ R) g → starL (B' x ++ R) g) : Ct P W f args A' r B' :=
  ⟨fun R w s => (h.go R w (s.mono (pre R))).mono fun _ _ ⟨x, e, s⟩ => ⟨x, e, s.mono (post x R)⟩⟩
theorem Yt.conv {r : X → Bool} {B B' : X → List SP} (h : Yt P W l args A r B) (pre : ∀ R g, starL (A' ++ R) g → starL (A ++ R) g) (post : ∀ x R g, starL (B x ++ R) g → starL (B' x ++ R) g) : Yt P W l args A' r B' :=
  ⟨fun R w s => by
    obtain ⟨f, tmps, asg, bd, h1, h2⟩ := h.go R w (s.mono (pre R))
    exact ⟨f, tmps, asg, bd, h1, h2.mono fun e w' ⟨x, he, s⟩ => ⟨x, he, s.mono (post x R)⟩⟩⟩
end
section
variable {W : World} {N : List Nd} {a : Option Addr} {t : Tr} {lo : List UInt8} {L : Rows} {gr gl : Nat}
set_option maxHeartbeats 1000000 in
theorem from1_ct {lp : Nat} {J S : Nat → SP} (hT : TrAt N a t) (hL : L = t.frm lo) (hy : ∀ i p, L[i]? = some p → Yt Tryd.prog W lp [strV p.1, strV p.2] [J i] (fun b : Bool => b) (fun b => match b with | true => [J (i + 1)] | false => [S i])) :
    Ct Tryd.prog W 65 [yv lp, .pointer (some ⟨gr, 0, none⟩), .pointer (some ⟨gl, 0, none⟩)] [J 0, cellsP gr [.pointer a] 94, cellsP gl [strV lo] 9, arP N]
      (fun _ : {x : Option Nat // ∀ m, x = some m → m < L.length} => .tuple #[]) (fun x => [jsP J S L.length x.1, cellsP gr [.pointer a] 94, cellsP gl [strV lo] 9, arP N]) := by
  have cr := rising_ct (W := W) (N := N) (L := L) (J := J) (S := S) (lp := lp) lo hy t a 0 L.length hT (by rw [hL]; omega) (fun j p h => by rw [hL, Nat.zero_add]; exact h)
  refine Ct.enter Tryd.func65 rfl Tryd.ntmps65 (by simp) (fun R => ?_)
  repeat' (first 
    | (refine is_call ?_; refine KJ_call xE cr xP rfl (fun x => ?_))
    | refine xst ?_
    | (refine xsa ?_; intro _)
    | (refine xsb ?_ ?_ <;> intro _ <;> first | (exfalso; omega) | skip)
    | refine xsc ?_
    | fail)
  all_goals (refine is_ex ?_; exact KJ_done (by first | exact Or.inl rfl | exact Or.inr rfl) rfl Rvs.nil x (by rfl) (xN))
/-- a range over From's iterator; jump: how a round leaves -/
theorem KJ_rangeFrom {n : Nat} {q : QQ} {gop : Operand} {En : Env} {H R : List SP} {psl : List Tmp} {asg bd : Code} (hro : q.ro = none) (hg : Env.ev En gop = some (.func (.func 65) #[] #[.pointer (some ⟨gr, 0, none⟩), .pointer (some ⟨gl, 0, none⟩)])) (hT : TrAt N a t) (hL : L = t.frm lo) (hpl : psl.length = 2) (hpn : ∀ p ∈ psl, p < n)
    (J S : Nat → SP) (jump : Code) (hp : Pick [J 0, cellsP gr [.pointer a] 94, cellsP gl [strV lo] 9, arP N] H R)
    (hb : ∀ l i p, L[i]? = some p → ∀ R, KJ W n (.code Tryd.prog asg (asgQ Tryd.prog l bd (roundPost Tryd.prog l (RPost W (fun b : Bool => b) (fun b => if b then recP l .ready none n En psl.toArray asg bd :: [J (i + 1)] else recP l .done (some jump) n En psl.toArray asg bd :: [S i]) R)))) (Env.ofPs psl [strV p.1, strV p.2] En) (recP l .ready none n En psl.toArray asg bd :: [J i] ++ R))
    (h0 : KJ W n (.ex q .normal) En ([J L.length, cellsP gr [.pointer a] 94, cellsP gl [strV lo] 9, arP N] ++ R)) (h1 : ∀ i, i < L.length → KJ W n (.code Tryd.prog jump q) En ([S i, cellsP gr [.pointer a] 94, cellsP gl [strV lo] 9, arP N] ++ R)) : KJ W n (.code Tryd.prog (Code.rangeFunc gop psl.toArray asg bd) q) En H := by
  refine KJ_range (X := {x : Option Nat // ∀ m, x = some m → m < L.length}) (lb := [.pointer (some ⟨gr, 0, none⟩), .pointer (some ⟨gl, 0, none⟩)]) (pe := fun x => match x.1 with | none => none | some _ => some jump) (Hp := fun x => [jsP J S L.length x.1, cellsP gr [.pointer a] 94, cellsP gl [strV lo] 9, arP N]) (v := fun _ => .tuple #[]) hro hg (fun l => ?_) hp (fun x hx => ?_) (fun x cc hx => ?_)
  · have key := from1_ct (W := W) (gr := gr) (gl := gl) (lp := l) (J := fun i => allP l [recP l .ready none n En psl.toArray asg bd, J i]) (S := fun i => allP l [recP l .done (some jump) n En psl.toArray asg bd, S i]) hT hL (fun i p hi => by
      have hy := Yt.of (n := n) (Hpre := [J i]) (by rw [hpl]; rfl) hpn (fun R => hb l i p hi R)
      refine hy.conv (fun R g q => all_open q) (fun b R g q => ?_)
      cases b
      · exact all_shut (L := [recP l .done (some jump) n En psl.toArray asg bd, S i]) q
      · exact all_shut (L := [recP l .ready none n En psl.toArray asg bd, J (i + 1)]) q)
    refine key.conv (fun R g q => all_shut (L := [recP l .ready none n En psl.toArray asg bd, J 0]) q) (fun x R g q => ?_)
    obtain ⟨x, hx⟩ := x
    cases x
    · exact all_open (L := [recP l .ready none n En psl.toArray asg bd, J L.length]) q
    · exact all_open (L := [recP l .done (some jump) n En psl.toArray asg bd, S _]) q
  · obtain ⟨x, hx'⟩ := x
    cases x with
    | none => exact h0
    | some i => cases hx
  · obtain ⟨x, hx'⟩ := x
    cases x with
    | none => cases hx
    | some i =>
      cases hx
      exact h1 i (hx' i rfl)
end
end Go.Proofs.YtehheokalgmbgaaDoor
