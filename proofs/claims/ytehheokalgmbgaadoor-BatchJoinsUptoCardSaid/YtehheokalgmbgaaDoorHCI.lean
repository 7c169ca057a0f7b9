/-
  TbW7, TbW8, TbW9.
-/
import Derived.Test.YtehheokalgmbgaaDoorHCA
import Derived.Test.YtehheokalgmbgaaDoorHBK
import Derived.Test.YtehheokalgmbgaaDoorHCB
import Derived.Test.YtehheokalgmbgaaDoorHBH
import Derived.Test.YtehheokalgmbgaaDoorHBP
/-
  The package table: New, Get, Put, Delete, Len, From, Rows, over the rows as plain data.
-/
namespace Go.Proofs.YtehheokalgmbgaaDoor
open Go Go.RowKit
/-- a tree of just these rows lies there -/
def TbOk (N : List Nd) (a : Option Addr) (r : Rows) : Prop := ∃ t, TrAt N a t ∧ t.Ok ∧ t.rows = r ∧ RisR r
theorem TbOk.mono {N N' : List Nd} {a : Option Addr} {r : Rows} (h : TbOk N a r) (hm : ∀ x ∈ N, x ∈ N') : TbOk N' a r := by
  obtain ⟨t, h1, h2, h3, h4⟩ := h
  exact ⟨t, h1.mono hm, h2, h3, h4⟩
theorem TbOk.ris {N : List Nd} {a : Option Addr} {r : Rows} (h : TbOk N a r) : RisR r := by obtain ⟨t, -, -, -, h4⟩ := h; exact h4
theorem TbOk.nil (N : List Nd) : TbOk N none [] := ⟨.nil, rfl, trivial, rfl, List.Pairwise.nil⟩
abbrev TbQ (N : List Nd) (r : Rows) : Type := {x : List Nd × Option Addr × Int // (∀ y ∈ N, y ∈ x.1) ∧ TbOk x.1 x.2.1 r}
/-- a table: its root and its bytes -/
abbrev tbP (p : Nat) (a : Option Addr) (b : Int) : SP := cellsP p [.pointer a, .int .i64 b] 96
theorem frm_nil : ∀ t : Tr, t.frm [] = t.rows
  | .nil => rfl
  | .node l k v r _ _ => by rw [frm_hi (by cases k <;> rfl), frm_nil l, frm_nil r]; rfl
theorem KJ_absurdT {W : World} {n : Nat} {k : KK} {E : Env} {H R : List SP} (hs : Sel (factP False) H R) : KJ W n k E H := ⟨fun _ _ _ s => (s.left.fact hs).elim⟩
section
variable {W : World} {N : List Nd} {a : Option Addr} {r : Rows} {p : Nat} {b : Int} {k v : List UInt8}
theorem tnew_ct : Ct Tryd.prog W 61 [] [] (fun p : Nat => .pointer (some ⟨p, 0, none⟩)) (fun p => [tbP p none 0]) := by
  refine Ct.enter Tryd.func61 rfl Tryd.ntmps61 (by simp) (fun R => ?_)
  repeat' (first 
    | (refine is_box ?_; refine KJ_box rfl xF rfl (fun g => ?_))
    | (refine ek_build ?_; refine EK_ev (Ev_build xV xW) ?_)
    | refine xst ?_
    | (refine xsa ?_; intro _)
    | (refine xsb ?_ ?_ <;> intro _ <;> first | (exfalso; omega) | skip)
    | refine xsc ?_
    | fail)
  all_goals (exact xdn g)
theorem tget_ct (hT : TbOk N a r) (x : List UInt8) :
    Ct Tryd.prog W 29 [.pointer (some ⟨p, 0, none⟩), strV x] [tbP p a b, arP N] (fun _ : Unit => .tuple #[strV ((lk r x).getD []), .bool (lk r x).isSome]) (fun _ => [tbP p a b, arP N]) := by
  obtain ⟨t, h1, h2, rfl, h4⟩ := hT
  have cg := get_ct (W := W) h1 x
  rw [Tr.get_rows h4] at cg
  refine Ct.enter Tryd.func29 rfl Tryd.ntmps29 (by simp) (fun R => ?_)
  repeat' (first 
    | (refine is_call ?_; refine KJ_call xE cg xP rfl (fun _ => ?_))
    | refine xst ?_
    | (refine xsa ?_; intro _)
    | (refine xsb ?_ ?_ <;> intro _ <;> first | (exfalso; omega) | skip)
    | refine xsc ?_
    | fail)
  all_goals (exact xdn ())
theorem tlen_ct (hT : TbOk N a r) : Ct Tryd.prog W 49 [.pointer (some ⟨p, 0, none⟩)] [tbP p a b, arP N] (fun _ : Unit => .int .i64 (r.length : Nat)) (fun _ => [tbP p a b, arP N]) := by
  obtain ⟨t, h1, h2, rfl, h4⟩ := hT
  have cg := count_ct (W := W) h1
  rw [Tr.cnt_rows h2] at cg
  refine Ct.enter Tryd.func49 rfl Tryd.ntmps49 (by simp) (fun R => ?_)
  repeat' (first 
    | (refine is_call ?_; refine KJ_call xE cg xP rfl (fun _ => ?_))
    | refine xst ?_
    | (refine xsa ?_; intro _)
    | (refine xsb ?_ ?_ <;> intro _ <;> first | (exfalso; omega) | skip)
    | refine xsc ?_
    | fail)
  all_goals (exact xdn ())
set_option maxHeartbeats 2000000 in
theorem tput_ct (hT : TbOk N a r) (hl : r.length ≤ 288230376151711744) :
    Ct Tryd.prog W 48 [.pointer (some ⟨p, 0, none⟩), strV k, strV v] [tbP p a b, arP N] (fun _ : TbQ N (putR r k v) => .bool (lk r k).isSome) (fun x => [tbP p x.1.2.1 x.1.2.2, arP x.1.1]) := by
  obtain ⟨t, h1, h2, rfl, h4⟩ := hT
  have cg := get_ct (W := W) h1 k
  rw [Tr.get_rows h4] at cg
  have cp := put_ct (W := W) k v t h1 h2 h4 (by rw [Tr.cnt_rows h2]; exact hl)
  obtain ⟨q1, q2, -, -⟩ := Tr.put_ok h2 h4 k v
  have q3 := putR_ris h4 k v
  cases hk : lk t.rows k with
  | none =>
    rw [hk] at cg
    refine Ct.enter Tryd.func48 rfl Tryd.ntmps48 (by simp) (fun R => ?_)
    repeat' (first 
    | (refine is_call ?_; first | (refine KJ_call xE cp xP rfl (fun x => ?_); obtain ⟨⟨N1, p1⟩, g1, t1⟩ := x; dsimp only at g1 t1 ⊢) | (refine KJ_call xE cg xP rfl (fun _ => ?_)))
    | refine xst ?_
    | (refine xsa ?_; intro _)
    | (refine xsb ?_ ?_ <;> intro _ <;> first | (exfalso; omega) | skip)
    | refine xsc ?_
    | fail)
    all_goals (exact xdn ⟨(N1, p1, _), g1, _, t1, q1, q2, q3⟩)
  | some old =>
    rw [hk] at cg
    refine Ct.enter Tryd.func48 rfl Tryd.ntmps48 (by simp) (fun R => ?_)
    repeat' (first 
    | (refine is_call ?_; first | (refine KJ_call xE cp xP rfl (fun x => ?_); obtain ⟨⟨N1, p1⟩, g1, t1⟩ := x; dsimp only at g1 t1 ⊢) | (refine KJ_call xE cg xP rfl (fun _ => ?_)))
    | refine xst ?_
    | (refine xsa ?_; intro _)
    | (refine xsb ?_ ?_ <;> intro _ <;> first | (exfalso; omega) | skip)
    | refine xsc ?_
    | fail)
    all_goals (exact xdn ⟨(N1, p1, _), g1, _, t1, q1, q2, q3⟩)
set_option maxHeartbeats 2000000 in
theorem tdel_ct (hT : TbOk N a r) (hl : r.length ≤ 288230376151711744) :
    Ct Tryd.prog W 47 [.pointer (some ⟨p, 0, none⟩), strV k] [tbP p a b, arP N] (fun _ : TbQ N (mdel r k) => .bool (lk r k).isSome) (fun x => [tbP p x.1.2.1 x.1.2.2, arP x.1.1]) := by
  obtain ⟨t, h1, h2, rfl, h4⟩ := hT
  have cg := get_ct (W := W) h1 k
  rw [Tr.get_rows h4] at cg
  have q3 := mdel_ris h4 k
  cases hk : lk t.rows k with
  | none =>
    rw [hk] at cg
    have hm := mdel_none hk
    refine Ct.enter Tryd.func47 rfl Tryd.ntmps47 (by simp) (fun R => ?_)
    repeat' (first 
    | (refine is_call ?_; refine KJ_call xE cg xP rfl (fun _ => ?_))
    | refine xst ?_
    | (refine xsa ?_; intro _)
    | (refine xsb ?_ ?_ <;> intro _ <;> first | (exfalso; omega) | skip)
    | refine xsc ?_
    | fail)
    all_goals (exact xdn ⟨(N, a, _), fun y hy => hy, t, h1, h2, hm.symm, q3⟩)
  | some old =>
    rw [hk] at cg
    have hs : (lk t.rows k).isSome = true := by rw [hk]; rfl
    have cp := remove_ct (W := W) t k h1 h2 h4 (by rw [Tr.cnt_rows h2]; exact hl) hs
    obtain ⟨q1, q2, -, -⟩ := Tr.remove_ok h2 h4 k hs
    refine Ct.enter Tryd.func47 rfl Tryd.ntmps47 (by simp) (fun R => ?_)
    repeat' (first 
    | (refine is_call ?_; first | (refine KJ_call xE cp xP rfl (fun x => ?_); obtain ⟨⟨N1, p1⟩, g1, t1⟩ := x; dsimp only at g1 t1 ⊢) | (refine KJ_call xE cg xP rfl (fun _ => ?_)))
    | refine xst ?_
    | (refine xsa ?_; intro _)
    | (refine xsb ?_ ?_ <;> intro _ <;> first | (exfalso; omega) | skip)
    | refine xsc ?_
    | fail)
    all_goals (exact xdn ⟨(N1, p1, _), g1, _, t1, q1, q2, q3⟩)
theorem tfrom_ct (x : List UInt8) : Ct Tryd.prog W 50 [.pointer (some ⟨p, 0, none⟩), strV x] [tbP p a b] (fun x : Nat × Nat => .func (.func 65) #[] #[.pointer (some ⟨x.1, 0, none⟩), .pointer (some ⟨x.2, 0, none⟩)])
    (fun z => [tbP p a b, cellsP z.1 [.pointer a] 94, cellsP z.2 [strV x] 9]) := by
  refine Ct.enter Tryd.func50 rfl Tryd.ntmps50 (by simp) (fun R => ?_)
  repeat' (first 
    | (refine is_alloc ?_; refine KJ_alloc rfl (fun gr => ?_))
    | (refine is_box ?_; refine KJ_box rfl xF rfl (fun gl => ?_))
    | (refine ek_mkFunc ?_; refine EK_ev (Ev_mkFunc2 rfl rfl) ?_)
    | refine xst ?_
    | (refine xsa ?_; intro _)
    | (refine xsb ?_ ?_ <;> intro _ <;> first | (exfalso; omega) | skip)
    | refine xsc ?_
    | fail)
  all_goals (exact xdn (gr, gl))
set_option maxHeartbeats 4000000 in
theorem trows_ct (hT : TbOk N a r) (hl : r.length * 32 ≤ 140737488355328) :
    Ct Tryd.prog W 26 [.pointer (some ⟨p, 0, none⟩)] [tbP p a b, arP N] (fun x : Option Addr × Nat => .slice x.1 r.length x.2) (fun x => [tbP p a b, arP N, lsP rC 65 2 (.slice x.1 r.length x.2) r]) := by
  have cl := tlen_ct (W := W) (p := p) (b := b) hT
  have cf := tfrom_ct (W := W) (p := p) (a := a) (b := b) []
  obtain ⟨t, h1, h2, ht, h4⟩ := hT
  have hL : r = t.frm [] := by rw [frm_nil, ht]
  refine Ct.enter Tryd.func26 rfl Tryd.ntmps26 (by simp) (fun R => ?_)
  repeat' (first 
    | (refine is_alloc ?_; refine KJ_alloc rfl (fun g3 => ?_))
    | (refine is_call ?_; first | (refine KJ_call xE cf xP rfl (fun z => ?_); obtain ⟨gr, gl⟩ := z) | (refine KJ_call xE cl xP rfl (fun _ => ?_)))
    | (refine is_mkSlice ?_; refine KJ_make0 (m := r.length) (bytes := 32) rfl rfl rfl (by omega) (by omega) rfl (fun gm cm => ?_))
    | refine xst ?_
    | (refine xsa ?_; intro _)
    | (refine xsb ?_ ?_ <;> intro _ <;> first | (exfalso; omega) | skip)
    | refine xsc ?_
    | fail)
  obtain ⟨F, hF⟩ : ∃ F : Nat → Option Addr × Nat → List SP, F = fun i x => [cellsP g3 [.slice x.1 (r.take i).length x.2] 45, lsP rC 65 2 (.slice x.1 (r.take i).length x.2) (r.take i)] := ⟨_, rfl⟩
  have hFi : ∀ i x, F i x = [cellsP g3 [.slice x.1 (r.take i).length x.2] 45, lsP rC 65 2 (.slice x.1 (r.take i).length x.2) (r.take i)] := fun i x => by rw [hF]
  clear hF
  refine KJ.packs (tag := 52) (key := g3) (F := F 0) (some ⟨gm, 0, none⟩, cm) (by rw [hFi]; exact xP) ?_
  refine KJ_rangeFrom (gr := gr) (gl := gl) (L := r) rfl rfl h1 hL rfl (by decide) (fun i => packP 52 g3 (F i)) (fun i => factP False) .ret xP (fun l i s hs R' => ?_) ?_ (fun i hi => ?_)
  · have hlt := (List.getElem?_eq_some_iff.1 hs).1
    dsimp only [Env.ofPs]
    refine KJ.unpack_at (F := F i) xS (fun x => ?_)
    rw [hFi]
    have em : r.take i ++ [s] = r.take (i + 1) := by rw [List.take_add_one, hs]; rfl
    have b1 : ((r.take i).length + 1) * 32 ≤ 140737488355328 := by rw [List.length_take]; omega
    have b2 : (r.take i).length + 1 ≤ 9223372036854775807 := by omega
    repeat' (first 
    | (refine is_begin ?_; refine KJ_begin xS ?_)
    | (refine is_append ?_; refine KJ_appOne (a := s) rC_ok rfl rfl rfl xS xS b1 b2 rfl (fun g5 c5 => ?_))
    | (refine is_bslice ?_; refine KJ_bslice1 rfl xF (by rfl) (by omega) rfl (fun gb => ?_))
    | (refine ek_build ?_; refine EK_ev (Ev_build xV xW) ?_)
    | refine xst ?_
    | (refine xsa ?_; intro _)
    | (refine xsb ?_ ?_ <;> intro _ <;> first | (exfalso; omega) | skip)
    | refine xsc ?_
    | fail)
    rw [em]
    refine KJ.packs (tag := 52) (key := g3) (F := F (i + 1)) (some ⟨g5, 0, none⟩, c5) (by rw [hFi]; exact xP) ?_
    exact KJ_round_t xS (xN)
  · refine KJ.unpack_at (F := F r.length) xS (fun x => ?_)
    rw [hFi, List.take_length]
    repeat' (first 
    | refine xst ?_
    | (refine xsa ?_; intro _)
    | (refine xsb ?_ ?_ <;> intro _ <;> first | (exfalso; omega) | skip)
    | refine xsc ?_
    | fail)
    all_goals (exact xdn x)
  · exact KJ_absurdT xS
end
end Go.Proofs.YtehheokalgmbgaaDoor
/-
  Tables made of rows; batch.Apply.
-/
namespace Go.Proofs.YtehheokalgmbgaaDoor
open Go Go.RowKit
/-- the rows that a list makes, the last of a key counts -/
def ofR (l : Rows) : Rows := l.foldl (fun r p => putR r p.1 p.2) []
theorem ofR_next {l : Rows} {i : Nat} {p : List UInt8 × List UInt8} (h : l[i]? = some p) : ofR (l.take (i + 1)) = putR (ofR (l.take i)) p.1 p.2 := by
  unfold ofR
  rw [List.take_add_one, h, List.foldl_append]; rfl
theorem ofR_len : ∀ (l r : Rows), (l.foldl (fun r p => putR r p.1 p.2) r).length ≤ r.length + l.length
  | [], r => by simp
  | p :: l, r => by
    have h1 := ofR_len l (putR r p.1 p.2)
    have h2 := putR_len r p.1 p.2
    rw [List.foldl_cons, List.length_cons]; omega
theorem apply1_len (r : Rows) (o : BOp) : (apply1 r o).length ≤ r.length + 1 := by
  unfold apply1
  split
  · have : (mdel r o.key).length ≤ r.length := List.length_filter_le _ _
    omega
  · exact putR_len _ _ _
theorem applyB_len : ∀ (ops : List BOp) (r : Rows), (applyB r ops).length ≤ r.length + ops.length
  | [], r => by simp [applyB]
  | o :: ops, r => by
    have h1 := applyB_len ops (apply1 r o)
    have h2 := apply1_len r o
    have e : applyB r (o :: ops) = applyB (apply1 r o) ops := rfl
    rw [e, List.length_cons]; omega
theorem applyB_next {r : Rows} {ops : List BOp} {i : Nat} {o : BOp} (h : ops[i]? = some o) : applyB r (ops.take (i + 1)) = apply1 (applyB r (ops.take i)) o := by
  unfold applyB
  rw [List.take_add_one, h, List.foldl_append]; rfl
/-- a new table of these rows, among nodes that grew -/
abbrev TbN (N : List Nd) (r : Rows) : Type := {x : Nat × List Nd × Option Addr × Int // (∀ y ∈ N, y ∈ x.2.1) ∧ TbOk x.2.1 x.2.2.1 r}
section
variable {W : World}
set_option maxHeartbeats 2000000 in
theorem tof_ct (N : List Nd) (A : SP) (a : Option Addr) (c : Nat) (l : Rows) (hL : Lv W rC 2 A a l) (hl : l.length ≤ 144115188075855872) :
    Ct Tryd.prog W 46 [.slice a l.length c] [A, arP N] (fun x : TbN N (ofR l) => .pointer (some ⟨x.1.1, 0, none⟩)) (fun x => [A, tbP x.1.1 x.1.2.2.1 x.1.2.2.2, arP x.1.2.1]) := by
  have cn := tnew_ct (W := W)
  refine Ct.enter Tryd.func46 rfl Tryd.ntmps46 (by simp) (fun R => ?_)
  repeat' (first 
    | (refine is_call ?_; refine KJ_call xE cn xP rfl (fun p => ?_))
    | refine xst ?_
    | (refine xsa ?_; intro _)
    | (refine xsb ?_ ?_ <;> intro _ <;> first | (exfalso; omega) | skip)
    | refine xsc ?_
    | fail)
  refine KJ_loop (fun x : {x : Nat × List Nd × Option Addr × Int // x.1 ≤ l.length ∧ (∀ y ∈ N, y ∈ x.2.1) ∧ TbOk x.2.1 x.2.2.1 (ofR (l.take x.1))} => [(3, .pointer (some ⟨p, 0, none⟩)), (7, .slice a l.length c), (8, .int .i64 (l.length : Nat)), (9, .int .i64 (x.1.1 : Nat))])
    (fun x => [A, tbP p x.1.2.2.1 x.1.2.2.2, arP x.1.2.1] ++ R) (fun x => l.length - x.1.1) ⟨(0, N, none, 0), Nat.zero_le _, fun y hy => hy, TbOk.nil N⟩ xB (xN) (fun ⟨(i, N1, a1, b1), hi, hN, hT⟩ => ?_)
  dsimp only at hi hN hT ⊢
  by_cases hlt : i < l.length
  · have ql : decide ((i : Int) < (l.length : Nat)) = true := decide_eq_true (by omega)
    obtain ⟨o, ho⟩ : ∃ s, l[i]? = some s := ⟨_, List.getElem?_eq_getElem hlt⟩
    refine KJ.lvSome hL xS (by omega) (fun b of hab => ?_)
    subst hab
    have hoff : of + Int.toNat (i : Int) * 2 = of + i * 2 := by simp
    have hlen := ofR_len (l.take i) []
    have cp := tput_ct (W := W) (p := p) (b := b1) (k := o.1) (v := o.2) hT (by unfold ofR; rw [List.length_take, List.length_nil] at hlen; omega)
    rw [← ofR_next ho] at cp
    repeat' (first 
    | (refine is_alloc ?_; refine KJ_alloc rfl (fun g5 => ?_))
    | (refine is_call ?_; refine KJ_call xE cp xP rfl (fun x => ?_); obtain ⟨⟨N2, a2, b2⟩, g2, t2⟩ := x; dsimp only at g2 t2 ⊢)
    | (refine ek_load ?_; refine EK_ev (Ev_loadLv rC_ok hL rfl rfl xS hoff ho) ?_)
    | (refine ek_add ?_; refine EK_ev (Ev_addI_v (r := ((i + 1 : Nat) : Int)) rfl rfl (by omega) (by omega)) ?_)
    | (refine ek_lss ?_; refine EK_ev (Ev_lssI_q rfl rfl ql) ?_)
    | refine xst ?_
    | (refine xsa ?_; intro _)
    | (refine xsb ?_ ?_ <;> intro _ <;> first | (exfalso; omega) | skip)
    | refine xsc ?_
    | fail)
    all_goals refine KJ_again ⟨(i + 1, N2, a2, b2), hlt, fun y hy => g2 y (hN y hy), t2⟩ (by show l.length - (i + 1) < l.length - i; omega) xB (xN)
  have ql : decide ((i : Int) < (l.length : Nat)) = false := decide_eq_false (by omega)
  obtain rfl : i = l.length := by omega
  rw [List.take_length] at hT
  repeat' (first 
    | (refine ek_lss ?_; refine EK_ev (Ev_lssI_q rfl rfl ql) ?_)
    | refine xst ?_
    | (refine xsa ?_; intro _)
    | (refine xsb ?_ ?_ <;> intro _ <;> first | (exfalso; omega) | skip)
    | refine xsc ?_
    | fail)
  all_goals (exact xdn ⟨(p, N1, a1, b1), hN, hT⟩)
set_option maxHeartbeats 2000000 in
theorem made_ct (N : List Nd) (A : SP) (a : Option Addr) (c : Nat) (l : Rows) (hL : Lv W rC 2 A a l) (hl : l.length * 32 ≤ 140737488355328) :
    Ct Tryd.prog W 21 [.slice a l.length c] [A, arP N] (fun x : TbN N (ofR l) => .pointer (some ⟨x.1.1, 0, none⟩)) (fun x => [A, tbP x.1.1 x.1.2.2.1 x.1.2.2.2, arP x.1.2.1]) := by
  have b1 : (([] : Rows).length + l.length) * 32 ≤ 140737488355328 := by simp; omega
  have b2 : ([] : Rows).length + l.length ≤ 9223372036854775807 := by simp; omega
  have co : ∀ xa xc, Ct Tryd.prog W 46 [.slice xa ([] ++ l).length xc] [lsP rC 65 2 (.slice xa ([] ++ l).length xc) ([] ++ l), arP N] (fun x : TbN N (ofR l) => .pointer (some ⟨x.1.1, 0, none⟩)) (fun x => [lsP rC 65 2 (.slice xa ([] ++ l).length xc) ([] ++ l), tbP x.1.1 x.1.2.2.1 x.1.2.2.2, arP x.1.2.1]) := fun xa xc =>
    tof_ct (W := W) N _ xa xc ([] ++ l) (Lv.own (e := 65) (c := xc) rC_ok rfl) (by rw [List.nil_append]; omega)
  refine Ct.enter Tryd.func21 rfl Tryd.ntmps21 (by simp) (fun R => ?_)
  refine KJ.lvOpen hL xS (fun b0 o0 ha0 => ?_)
  repeat' (first 
    | (refine is_call ?_; refine KJ_call xE (co _ _) xP rfl (fun x => ?_))
    | (refine is_append ?_; refine KJ_appAll (l := ([] : Rows)) (l2 := l) rC_ok rfl rfl rfl rfl xS (Src.lv hL ha0 xS) b1 b2 rfl (fun a1 c1 => ?_))
    | (refine is_bslice ?_; refine KJ_bslice0 rfl (fun g0 => ?_))
    | refine xst ?_
    | (refine xsa ?_; intro _)
    | (refine xsb ?_ ?_ <;> intro _ <;> first | (exfalso; omega) | skip)
    | refine xsc ?_
    | fail)
  all_goals (exact xdn x)
set_option maxHeartbeats 4000000 in
theorem bapply_ct {N : List Nd} {ta : Option Addr} {r : Rows} {p : Nat} {tb : Int} (hT : TbOk N ta r) (A : SP) (a : Option Addr) (c : Nat) (ops : List BOp) (hL : Lv W opC 3 A a ops) (hl : r.length + ops.length ≤ 144115188075855872) :
    Ct Tryd.prog W 22 [.pointer (some ⟨p, 0, none⟩), .slice a ops.length c] [A, tbP p ta tb, arP N] (fun _ : TbQ N (applyB r ops) => .tuple #[]) (fun x => [A, tbP p x.1.2.1 x.1.2.2, arP x.1.1]) := by
  refine Ct.enter Tryd.func22 rfl Tryd.ntmps22 (by simp) (fun R => ?_)
  repeat' (first 
    | refine xst ?_
    | (refine xsa ?_; intro _)
    | (refine xsb ?_ ?_ <;> intro _ <;> first | (exfalso; omega) | skip)
    | refine xsc ?_
    | fail)
  refine KJ_loop (fun x : {x : Nat × List Nd × Option Addr × Int // x.1 ≤ ops.length ∧ (∀ y ∈ N, y ∈ x.2.1) ∧ TbOk x.2.1 x.2.2.1 (applyB r (ops.take x.1))} => [(0, .pointer (some ⟨p, 0, none⟩)), (6, .slice a ops.length c), (7, .int .i64 (ops.length : Nat)), (8, .int .i64 (x.1.1 : Nat))])
    (fun x => [A, tbP p x.1.2.2.1 x.1.2.2.2, arP x.1.2.1] ++ R) (fun x => ops.length - x.1.1) ⟨(0, N, ta, tb), Nat.zero_le _, fun y hy => hy, hT⟩ xB (xN) (fun ⟨(i, N1, a1, b1), hi, hN, hT⟩ => ?_)
  dsimp only at hi hN hT ⊢
  by_cases hlt : i < ops.length
  · have ql : decide ((i : Int) < (ops.length : Nat)) = true := decide_eq_true (by omega)
    obtain ⟨o, ho⟩ : ∃ s, ops[i]? = some s := ⟨_, List.getElem?_eq_getElem hlt⟩
    refine KJ.lvSome hL xS (by omega) (fun b of hab => ?_)
    subst hab
    have hoff : of + Int.toNat (i : Int) * 3 = of + i * 3 := by simp
    have hlen := applyB_len (ops.take i) r
    rw [List.length_take] at hlen
    have hnx := applyB_next (r := r) ho
    obtain ⟨del, key, val⟩ := o
    cases del with
    | true =>
      have cd := tdel_ct (W := W) (p := p) (b := b1) (k := key) hT (by omega)
      rw [show mdel (applyB r (ops.take i)) key = applyB r (ops.take (i + 1)) from hnx.symm] at cd
      repeat' (first 
    | (refine is_alloc ?_; refine KJ_alloc rfl (fun g5 => ?_))
    | (refine is_call ?_; refine KJ_call xE cd xP rfl (fun x => ?_); obtain ⟨⟨N2, a2, b2⟩, g2, t2⟩ := x; dsimp only at g2 t2 ⊢)
    | (refine ek_load ?_; refine EK_ev (Ev_loadLv enc_op hL rfl rfl xS hoff ho) ?_)
    | (refine ek_add ?_; refine EK_ev (Ev_addI_v (r := ((i + 1 : Nat) : Int)) rfl rfl (by omega) (by omega)) ?_)
    | (refine ek_lss ?_; refine EK_ev (Ev_lssI_q rfl rfl ql) ?_)
    | refine xst ?_
    | (refine xsa ?_; intro _)
    | (refine xsb ?_ ?_ <;> intro _ <;> first | (exfalso; omega) | skip)
    | refine xsc ?_
    | fail)
      all_goals refine KJ_again ⟨(i + 1, N2, a2, b2), hlt, fun y hy => g2 y (hN y hy), t2⟩ (by show ops.length - (i + 1) < ops.length - i; omega) xB (xN)
    | false =>
      have cp := tput_ct (W := W) (p := p) (b := b1) (k := key) (v := val) hT (by omega)
      rw [show putR (applyB r (ops.take i)) key val = applyB r (ops.take (i + 1)) from hnx.symm] at cp
      repeat' (first 
    | (refine is_alloc ?_; refine KJ_alloc rfl (fun g5 => ?_))
    | (refine is_call ?_; refine KJ_call xE cp xP rfl (fun x => ?_); obtain ⟨⟨N2, a2, b2⟩, g2, t2⟩ := x; dsimp only at g2 t2 ⊢)
    | (refine ek_load ?_; refine EK_ev (Ev_loadLv enc_op hL rfl rfl xS hoff ho) ?_)
    | (refine ek_add ?_; refine EK_ev (Ev_addI_v (r := ((i + 1 : Nat) : Int)) rfl rfl (by omega) (by omega)) ?_)
    | (refine ek_lss ?_; refine EK_ev (Ev_lssI_q rfl rfl ql) ?_)
    | refine xst ?_
    | (refine xsa ?_; intro _)
    | (refine xsb ?_ ?_ <;> intro _ <;> first | (exfalso; omega) | skip)
    | refine xsc ?_
    | fail)
      all_goals refine KJ_again ⟨(i + 1, N2, a2, b2), hlt, fun y hy => g2 y (hN y hy), t2⟩ (by show ops.length - (i + 1) < ops.length - i; omega) xB (xN)
  have ql : decide ((i : Int) < (ops.length : Nat)) = false := decide_eq_false (by omega)
  obtain rfl : i = ops.length := by omega
  rw [List.take_length] at hT
  repeat' (first 
    | (refine ek_lss ?_; refine EK_ev (Ev_lssI_q rfl rfl ql) ?_)
    | refine xst ?_
    | (refine xsa ?_; intro _)
    | (refine xsb ?_ ?_ <;> intro _ <;> first | (exfalso; omega) | skip)
    | refine xsc ?_
    | fail)
  all_goals (exact xdn ⟨(N1, a1, b1), hN, hT⟩)
end
end Go.Proofs.YtehheokalgmbgaaDoor
/-
  The package table: tables that are only looked at, under any claim; batch.Between.
-/
namespace Go.Proofs.YtehheokalgmbgaaDoor
open Go Go.RowKit
/-- where T is owned, the table p has the root a -/
structure Tl (W : World) (T : SP) (p : Nat) (a : Option Addr) : Prop where
  go : ∀ w H R, Sel T H R → St W H w → w.cell? ⟨p, 0, none⟩ = some (.pointer a)
theorem Tl.own {W : World} {p : Nat} {a : Option Addr} {b : Int} : Tl W (tbP p a b) p a := ⟨fun w H R hs q => by rw [(q.blk hs).2.cell]; rfl⟩
theorem Tl.l {W : World} {p : Nat} {a : Option Addr} {b : Int} {key : Nat} {L : List SP} : Tl W (allP key (tbP p a b :: L)) p a := ⟨fun w H R hs q => by
  have s : St W (tbP p a b :: (L ++ R)) w := (q.perm hs.perm).mono fun g hg => all_open hg
  rw [(s.blk .here).2.cell]; rfl⟩
theorem Tl.r {W : World} {p : Nat} {a : Option Addr} {b : Int} {key : Nat} {A : SP} : Tl W (allP key [A, tbP p a b]) p a := ⟨fun w H R hs q => by
  have s : St W (A :: tbP p a b :: R) w := (q.perm hs.perm).mono fun g hg => all_open hg
  rw [(s.blk (.there .here)).2.cell]; rfl⟩
section
variable {P : Program} {W : World} {n : Nat} {E : Env} {H R : List SP} {t : TypeId} {x : Operand}
theorem Ev_loadTl {T : SP} {p j : Nat} {a : Option Addr} (hT : Tl W T p a) (hx : Env.ev E x = some (.pointer (some ⟨p, j, none⟩))) (hj : j = 0) [hu : ScIs P t] (hs : Sel T H R) : Ev P W n E H (.load t x) (.pointer a) :=
  Ev.mk fun op hop ac w q s => by
    subst hj
    obtain ⟨dd, hu, hd⟩ := hu.h
    simp [execOp, hop, q.ev hx, run_loadAt_one w (hT.go w H R hs s) hu hd, Result.andThen]
end
section
variable {W : World} {N : List Nd} {a : Option Addr} {r : Rows} {p : Nat} {T : SP}
theorem ltget_ct (hTl : Tl W T p a) (hT : TbOk N a r) (x : List UInt8) :
    Ct Tryd.prog W 29 [.pointer (some ⟨p, 0, none⟩), strV x] [T, arP N] (fun _ : Unit => .tuple #[strV ((lk r x).getD []), .bool (lk r x).isSome]) (fun _ => [T, arP N]) := by
  obtain ⟨t, h1, h2, rfl, h4⟩ := hT
  have cg := get_ct (W := W) h1 x
  rw [Tr.get_rows h4] at cg
  refine Ct.enter Tryd.func29 rfl Tryd.ntmps29 (by simp) (fun R => ?_)
  repeat' (first 
    | (refine is_call ?_; refine KJ_call xE cg xP rfl (fun _ => ?_))
    | (refine ek_load ?_; refine EK_ev (Ev_loadTl hTl rfl rfl xS) ?_)
    | refine xst ?_
    | (refine xsa ?_; intro _)
    | (refine xsb ?_ ?_ <;> intro _ <;> first | (exfalso; omega) | skip)
    | refine xsc ?_
    | fail)
  all_goals (exact xdn ())
theorem ltlen_ct (hTl : Tl W T p a) (hT : TbOk N a r) : Ct Tryd.prog W 49 [.pointer (some ⟨p, 0, none⟩)] [T, arP N] (fun _ : Unit => .int .i64 (r.length : Nat)) (fun _ => [T, arP N]) := by
  obtain ⟨t, h1, h2, rfl, h4⟩ := hT
  have cg := count_ct (W := W) h1
  rw [Tr.cnt_rows h2] at cg
  refine Ct.enter Tryd.func49 rfl Tryd.ntmps49 (by simp) (fun R => ?_)
  repeat' (first 
    | (refine is_call ?_; refine KJ_call xE cg xP rfl (fun _ => ?_))
    | (refine ek_load ?_; refine EK_ev (Ev_loadTl hTl rfl rfl xS) ?_)
    | refine xst ?_
    | (refine xsa ?_; intro _)
    | (refine xsb ?_ ?_ <;> intro _ <;> first | (exfalso; omega) | skip)
    | refine xsc ?_
    | fail)
  all_goals (exact xdn ())
theorem ltfrom_ct (hTl : Tl W T p a) (x : List UInt8) : Ct Tryd.prog W 50 [.pointer (some ⟨p, 0, none⟩), strV x] [T] (fun x : Nat × Nat => .func (.func 65) #[] #[.pointer (some ⟨x.1, 0, none⟩), .pointer (some ⟨x.2, 0, none⟩)])
    (fun z => [T, cellsP z.1 [.pointer a] 94, cellsP z.2 [strV x] 9]) := by
  refine Ct.enter Tryd.func50 rfl Tryd.ntmps50 (by simp) (fun R => ?_)
  repeat' (first 
    | (refine is_alloc ?_; refine KJ_alloc rfl (fun gr => ?_))
    | (refine is_box ?_; refine KJ_box rfl xF rfl (fun gl => ?_))
    | (refine ek_load ?_; refine EK_ev (Ev_loadTl hTl rfl rfl xS) ?_)
    | (refine ek_mkFunc ?_; refine EK_ev (Ev_mkFunc2 rfl rfl) ?_)
    | refine xst ?_
    | (refine xsa ?_; intro _)
    | (refine xsb ?_ ?_ <;> intro _ <;> first | (exfalso; omega) | skip)
    | refine xsc ?_
    | fail)
  all_goals (exact xdn (gr, gl))
set_option maxHeartbeats 4000000 in
theorem ltrows_ct (hTl : Tl W T p a) (hT : TbOk N a r) (hl : r.length * 32 ≤ 140737488355328) :
    Ct Tryd.prog W 26 [.pointer (some ⟨p, 0, none⟩)] [T, arP N] (fun x : Option Addr × Nat => .slice x.1 r.length x.2) (fun x => [T, arP N, lsP rC 65 2 (.slice x.1 r.length x.2) r]) := by
  have cl := ltlen_ct (W := W) (p := p) hTl hT
  have cf := ltfrom_ct (W := W) (p := p) (a := a) hTl []
  obtain ⟨t, h1, h2, ht, h4⟩ := hT
  have hL : r = t.frm [] := by rw [frm_nil, ht]
  refine Ct.enter Tryd.func26 rfl Tryd.ntmps26 (by simp) (fun R => ?_)
  repeat' (first 
    | (refine is_alloc ?_; refine KJ_alloc rfl (fun g3 => ?_))
    | (refine is_call ?_; first | (refine KJ_call xE cf xP rfl (fun z => ?_); obtain ⟨gr, gl⟩ := z) | (refine KJ_call xE cl xP rfl (fun _ => ?_)))
    | (refine is_mkSlice ?_; refine KJ_make0 (m := r.length) (bytes := 32) rfl rfl rfl (by omega) (by omega) rfl (fun gm cm => ?_))
    | (refine ek_load ?_; refine EK_ev (Ev_loadTl hTl rfl rfl xS) ?_)
    | refine xst ?_
    | (refine xsa ?_; intro _)
    | (refine xsb ?_ ?_ <;> intro _ <;> first | (exfalso; omega) | skip)
    | refine xsc ?_
    | fail)
  obtain ⟨F, hF⟩ : ∃ F : Nat → Option Addr × Nat → List SP, F = fun i x => [cellsP g3 [.slice x.1 (r.take i).length x.2] 45, lsP rC 65 2 (.slice x.1 (r.take i).length x.2) (r.take i)] := ⟨_, rfl⟩
  have hFi : ∀ i x, F i x = [cellsP g3 [.slice x.1 (r.take i).length x.2] 45, lsP rC 65 2 (.slice x.1 (r.take i).length x.2) (r.take i)] := fun i x => by rw [hF]
  clear hF
  refine KJ.packs (tag := 52) (key := g3) (F := F 0) (some ⟨gm, 0, none⟩, cm) (by rw [hFi]; exact xP) ?_
  refine KJ_rangeFrom (gr := gr) (gl := gl) (L := r) rfl rfl h1 hL rfl (by decide) (fun i => packP 52 g3 (F i)) (fun i => factP False) .ret xP (fun l i s hs R' => ?_) ?_ (fun i hi => ?_)
  · have hlt := (List.getElem?_eq_some_iff.1 hs).1
    dsimp only [Env.ofPs]
    refine KJ.unpack_at (F := F i) xS (fun x => ?_)
    rw [hFi]
    have em : r.take i ++ [s] = r.take (i + 1) := by rw [List.take_add_one, hs]; rfl
    have b1 : ((r.take i).length + 1) * 32 ≤ 140737488355328 := by rw [List.length_take]; omega
    have b2 : (r.take i).length + 1 ≤ 9223372036854775807 := by omega
    repeat' (first 
    | (refine is_begin ?_; refine KJ_begin xS ?_)
    | (refine is_append ?_; refine KJ_appOne (a := s) rC_ok rfl rfl rfl xS xS b1 b2 rfl (fun g5 c5 => ?_))
    | (refine is_bslice ?_; refine KJ_bslice1 rfl xF (by rfl) (by omega) rfl (fun gb => ?_))
    | (refine ek_load ?_; refine EK_ev (Ev_loadTl hTl rfl rfl xS) ?_)
    | (refine ek_build ?_; refine EK_ev (Ev_build xV xW) ?_)
    | refine xst ?_
    | (refine xsa ?_; intro _)
    | (refine xsb ?_ ?_ <;> intro _ <;> first | (exfalso; omega) | skip)
    | refine xsc ?_
    | fail)
    rw [em]
    refine KJ.packs (tag := 52) (key := g3) (F := F (i + 1)) (some ⟨g5, 0, none⟩, c5) (by rw [hFi]; exact xP) ?_
    exact KJ_round_t xS (xN)
  · refine KJ.unpack_at (F := F r.length) xS (fun x => ?_)
    rw [hFi, List.take_length]
    repeat' (first 
    | (refine ek_load ?_; refine EK_ev (Ev_loadTl hTl rfl rfl xS) ?_)
    | refine xst ?_
    | (refine xsa ?_; intro _)
    | (refine xsb ?_ ?_ <;> intro _ <;> first | (exfalso; omega) | skip)
    | refine xsc ?_
    | fail)
    all_goals (exact xdn x)
  · exact KJ_absurdT xS
theorem goes_next {a b : Rows} {i : Nat} {s : List UInt8 × List UInt8} (h : a[i]? = some s) : goes (a.take (i + 1)) b = goes (a.take i) b ++ (if (lk b s.1).isNone then [⟨true, s.1, []⟩] else []) := by
  unfold goes
  rw [List.take_add_one, h, List.filter_append, List.map_append]
  congr 1
  simp only [Option.toList, List.filter_cons, List.filter_nil]
  split <;> rfl
theorem comes_next {a b : Rows} {i : Nat} {s : List UInt8 × List UInt8} (h : b[i]? = some s) : comes a (b.take (i + 1)) = comes a (b.take i) ++ (if decide (lk a s.1 ≠ some s.2) = true then [⟨false, s.1, s.2⟩] else []) := by
  unfold comes
  rw [List.take_add_one, h, List.filter_append, List.map_append]
  congr 1
  simp only [Option.toList, List.filter_cons, List.filter_nil]
  split <;> rfl
theorem goes_len (a b : Rows) : (goes a b).length ≤ a.length := by unfold goes; rw [List.length_map]; exact List.length_filter_le _ _
theorem comes_len (a b : Rows) : (comes a b).length ≤ b.length := by unfold comes; rw [List.length_map]; exact List.length_filter_le _ _
set_option maxHeartbeats 8000000 in
theorem bbetween_ct {b : Option Addr} {r2 : Rows} {q : Nat} (hT1 : Tl W T p a) (hT2 : Tl W T q b) (h1 : TbOk N a r) (h2 : TbOk N b r2) (hl : (r.length + r2.length) * 40 ≤ 140737488355328) :
    Ct Tryd.prog W 27 [.pointer (some ⟨p, 0, none⟩), .pointer (some ⟨q, 0, none⟩)] [T, arP N] (fun x : Option Addr × Nat => .slice x.1 (between r r2).length x.2) (fun x => [T, arP N, lsP opC 29 3 (.slice x.1 (between r r2).length x.2) (between r r2)]) := by
  have cr1 := ltrows_ct (W := W) hT1 h1 (by omega)
  have cr2 := ltrows_ct (W := W) hT2 h2 (by omega)
  have cg1 := fun x => ltget_ct (W := W) hT1 h1 x
  have cg2 := fun x => ltget_ct (W := W) hT2 h2 x
  have hpr := between_prog h1.ris h2.ris
  refine Ct.enter Tryd.func27 rfl Tryd.ntmps27 (by simp) (fun R => ?_)
  repeat' (first 
    | (refine is_call ?_; refine KJ_call xE cr1 xP rfl (fun x => ?_); obtain ⟨xa, xc⟩ := x)
    | refine xst ?_
    | (refine xsa ?_; intro _)
    | (refine xsb ?_ ?_ <;> intro _ <;> first | (exfalso; omega) | skip)
    | refine xsc ?_
    | fail)
  refine KJ.nilrow 29 3 ?_
  refine KJ_loop (fun x : {x : Nat × List BOp × Option Addr × Nat // x.1 ≤ r.length ∧ x.2.1 = goes (r.take x.1) r2} => [(0, .pointer (some ⟨p, 0, none⟩)), (1, .pointer (some ⟨q, 0, none⟩)), (5, .slice x.1.2.2.1 x.1.2.1.length x.1.2.2.2), (15, .slice xa r.length xc), (16, .int .i64 (r.length : Nat)), (17, .int .i64 (x.1.1 : Nat))])
    (fun x => [T, arP N, lsP rC 65 2 (.slice xa r.length xc) r, lsP opC 29 3 (.slice x.1.2.2.1 x.1.2.1.length x.1.2.2.2) x.1.2.1] ++ R) (fun x => r.length - x.1.1) ⟨(0, [], none, 0), Nat.zero_le _, rfl⟩ xB (xN) (fun ⟨(i, O, sa, sc), hi, hO⟩ => ?_)
  dsimp only at hi hO ⊢
  have hOl := goes_len (r.take i) r2
  rw [← hO, List.length_take] at hOl
  by_cases hlt : i < r.length
  · have ql : decide ((i : Int) < (r.length : Nat)) = true := decide_eq_true (by omega)
    obtain ⟨s, hs⟩ : ∃ s, r[i]? = some s := ⟨_, List.getElem?_eq_getElem hlt⟩
    refine KJ.lsSome (a := xa) (l := r) xS (by omega) (fun g hg => ?_)
    subst hg
    have hoff : 0 + Int.toNat (i : Int) * 2 = i * 2 := by rw [Int.toNat_natCast]; omega
    have hnx := goes_next (b := r2) hs
    rw [← hO] at hnx
    have cg := cg2 s.1
    have b1 : (O.length + 1) * 40 ≤ 140737488355328 := by omega
    have b2 : O.length + 1 ≤ 9223372036854775807 := by omega
    cases hk : lk r2 s.1 with
    | none =>
      rw [hk] at cg hnx
      have hnx : goes (r.take (i + 1)) r2 = O ++ [⟨true, s.1, []⟩] := hnx
      repeat' (first 
    | (refine is_alloc ?_; refine KJ_alloc rfl (fun g7 => ?_))
    | (refine is_call ?_; refine KJ_call xE cg xP rfl (fun _ => ?_))
    | (refine is_append ?_; refine KJ_appOne (a := (⟨true, s.1, []⟩ : BOp)) enc_op rfl rfl rfl xS xS b1 b2 rfl (fun go co => ?_))
    | (refine is_bslice ?_; refine KJ_bslice1 rfl xF (by rfl) (by omega) rfl (fun gb => ?_))
    | (refine ek_load ?_; refine EK_ev (Ev_loadLs rC_ok rfl xS rfl hoff hs) ?_)
    | (refine ek_build ?_; refine EK_ev (Ev_build xV xW) ?_)
    | (refine ek_add ?_; refine EK_ev (Ev_addI_v (r := ((i + 1 : Nat) : Int)) rfl rfl (by omega) (by omega)) ?_)
    | (refine ek_lss ?_; refine EK_ev (Ev_lssI_q rfl rfl ql) ?_)
    | refine xst ?_
    | (refine xsa ?_; intro _)
    | (refine xsb ?_ ?_ <;> intro _ <;> first | (exfalso; omega) | skip)
    | refine xsc ?_
    | fail)
      all_goals refine KJ_again ⟨(i + 1, O ++ [⟨true, s.1, []⟩], some ⟨go, 0, none⟩, co), hlt, hnx.symm⟩ (by show r.length - (i + 1) < r.length - i; omega) xB (xN)
    | some v =>
      rw [hk] at cg hnx
      have hnx : goes (r.take (i + 1)) r2 = O := hnx.trans (List.append_nil O)
      repeat' (first 
    | (refine is_alloc ?_; refine KJ_alloc rfl (fun g7 => ?_))
    | (refine is_call ?_; refine KJ_call xE cg xP rfl (fun _ => ?_))
    | (refine ek_load ?_; refine EK_ev (Ev_loadLs rC_ok rfl xS rfl hoff hs) ?_)
    | (refine ek_add ?_; refine EK_ev (Ev_addI_v (r := ((i + 1 : Nat) : Int)) rfl rfl (by omega) (by omega)) ?_)
    | (refine ek_lss ?_; refine EK_ev (Ev_lssI_q rfl rfl ql) ?_)
    | refine xst ?_
    | (refine xsa ?_; intro _)
    | (refine xsb ?_ ?_ <;> intro _ <;> first | (exfalso; omega) | skip)
    | refine xsc ?_
    | fail)
      all_goals refine KJ_again ⟨(i + 1, O, sa, sc), hlt, hnx.symm⟩ (by show r.length - (i + 1) < r.length - i; omega) xB (xN)
  have ql : decide ((i : Int) < (r.length : Nat)) = false := decide_eq_false (by omega)
  rw [List.take_of_length_le (by omega)] at hO
  repeat' (first 
    | (refine is_call ?_; refine KJ_call xE cr2 xP rfl (fun x => ?_); obtain ⟨ya, yc⟩ := x)
    | (refine ek_lss ?_; refine EK_ev (Ev_lssI_q rfl rfl ql) ?_)
    | refine xst ?_
    | (refine xsa ?_; intro _)
    | (refine xsb ?_ ?_ <;> intro _ <;> first | (exfalso; omega) | skip)
    | refine xsc ?_
    | fail)
  refine KJ_loop (fun x : {x : Nat × List BOp × Option Addr × Nat // x.1 ≤ r2.length ∧ x.2.1 = goes r r2 ++ comes r (r2.take x.1)} => [(0, .pointer (some ⟨p, 0, none⟩)), (5, .slice x.1.2.2.1 x.1.2.1.length x.1.2.2.2), (38, .slice ya r2.length yc), (39, .int .i64 (r2.length : Nat)), (40, .int .i64 (x.1.1 : Nat))])
    (fun x => [T, arP N, lsP rC 65 2 (.slice ya r2.length yc) r2, lsP opC 29 3 (.slice x.1.2.2.1 x.1.2.1.length x.1.2.2.2) x.1.2.1] ++ R) (fun x => r2.length - x.1.1) ⟨(0, O, sa, sc), Nat.zero_le _, by rw [hO]; exact (List.append_nil _).symm⟩ xB (xN) (fun ⟨(j, M, ma, mc), hj, hM⟩ => ?_)
  dsimp only at hj hM ⊢
  have hMl := comes_len r (r2.take j)
  have hgl := goes_len r r2
  have hMl2 := congrArg List.length hM
  rw [List.length_append] at hMl2
  rw [List.length_take] at hMl
  by_cases hlt2 : j < r2.length
  · have q2 : decide ((j : Int) < (r2.length : Nat)) = true := decide_eq_true (by omega)
    obtain ⟨s, hs⟩ : ∃ s, r2[j]? = some s := ⟨_, List.getElem?_eq_getElem hlt2⟩
    refine KJ.lsSome (a := ya) (l := r2) xS (by omega) (fun g hg => ?_)
    subst hg
    have hoff : 0 + Int.toNat (j : Int) * 2 = j * 2 := by rw [Int.toNat_natCast]; omega
    have hnx : goes r r2 ++ comes r (r2.take (j + 1)) = M ++ (if decide (lk r s.1 ≠ some s.2) = true then [⟨false, s.1, s.2⟩] else []) := by rw [comes_next hs, ← List.append_assoc, ← hM]
    have cg := cg1 s.1
    have b1 : (M.length + 1) * 40 ≤ 140737488355328 := by omega
    have b2 : M.length + 1 ≤ 9223372036854775807 := by omega
    cases hk : lk r s.1 with
    | none =>
      rw [hk] at cg hnx
      have hnx : goes r r2 ++ comes r (r2.take (j + 1)) = M ++ [⟨false, s.1, s.2⟩] := hnx.trans (by rw [if_pos (by simp)])
      repeat' (first 
    | (refine is_alloc ?_; refine KJ_alloc rfl (fun g7 => ?_))
    | (refine is_call ?_; refine KJ_call xE cg xP rfl (fun _ => ?_))
    | (refine is_append ?_; refine KJ_appOne (a := (⟨false, s.1, s.2⟩ : BOp)) enc_op rfl rfl rfl xS xS b1 b2 rfl (fun go co => ?_))
    | (refine is_bslice ?_; refine KJ_bslice1 rfl xF (by rfl) (by omega) rfl (fun gb => ?_))
    | (refine ek_load ?_; refine EK_ev (Ev_loadLs rC_ok rfl xS rfl hoff hs) ?_)
    | (refine ek_build ?_; refine EK_ev (Ev_build xV xW) ?_)
    | (refine ek_add ?_; refine EK_ev (Ev_addI_v (r := ((j + 1 : Nat) : Int)) rfl rfl (by omega) (by omega)) ?_)
    | (refine ek_lss ?_; refine EK_ev (Ev_lssI_q rfl rfl q2) ?_)
    | refine xst ?_
    | (refine xsa ?_; intro _)
    | (refine xsb ?_ ?_ <;> intro _ <;> first | (exfalso; omega) | skip)
    | refine xsc ?_
    | fail)
      all_goals refine KJ_again ⟨(j + 1, M ++ [⟨false, s.1, s.2⟩], some ⟨go, 0, none⟩, co), hlt2, hnx.symm⟩ (by show r2.length - (j + 1) < r2.length - j; omega) xB (xN)
    | some v =>
      rw [hk] at cg hnx
      by_cases hv : v = s.2
      · have hnx : goes r r2 ++ comes r (r2.take (j + 1)) = M := hnx.trans (by rw [if_neg (by simp [hv])]; exact List.append_nil M)
        repeat' (first 
    | (refine is_alloc ?_; refine KJ_alloc rfl (fun g7 => ?_))
    | (refine is_call ?_; refine KJ_call xE cg xP rfl (fun _ => ?_))
    | (refine ek_load ?_; refine EK_ev (Ev_loadLs rC_ok rfl xS rfl hoff hs) ?_)
    | (refine ek_add ?_; refine EK_ev (Ev_addI_v (r := ((j + 1 : Nat) : Int)) rfl rfl (by omega) (by omega)) ?_)
    | (refine ek_neq ?_; refine EK_ev (Ev_neqS_f rfl rfl hv) ?_)
    | (refine ek_lss ?_; refine EK_ev (Ev_lssI_q rfl rfl q2) ?_)
    | refine xst ?_
    | (refine xsa ?_; intro _)
    | (refine xsb ?_ ?_ <;> intro _ <;> first | (exfalso; omega) | skip)
    | refine xsc ?_
    | fail)
        all_goals refine KJ_again ⟨(j + 1, M, ma, mc), hlt2, hnx.symm⟩ (by show r2.length - (j + 1) < r2.length - j; omega) xB (xN)
      · have hnx : goes r r2 ++ comes r (r2.take (j + 1)) = M ++ [⟨false, s.1, s.2⟩] := hnx.trans (by rw [if_pos (by simp [hv])])
        repeat' (first 
    | (refine is_alloc ?_; refine KJ_alloc rfl (fun g7 => ?_))
    | (refine is_call ?_; refine KJ_call xE cg xP rfl (fun _ => ?_))
    | (refine is_append ?_; refine KJ_appOne (a := (⟨false, s.1, s.2⟩ : BOp)) enc_op rfl rfl rfl xS xS b1 b2 rfl (fun go co => ?_))
    | (refine is_bslice ?_; refine KJ_bslice1 rfl xF (by rfl) (by omega) rfl (fun gb => ?_))
    | (refine ek_load ?_; refine EK_ev (Ev_loadLs rC_ok rfl xS rfl hoff hs) ?_)
    | (refine ek_build ?_; refine EK_ev (Ev_build xV xW) ?_)
    | (refine ek_add ?_; refine EK_ev (Ev_addI_v (r := ((j + 1 : Nat) : Int)) rfl rfl (by omega) (by omega)) ?_)
    | (refine ek_neq ?_; refine EK_ev (Ev_neqS_t rfl rfl hv) ?_)
    | (refine ek_lss ?_; refine EK_ev (Ev_lssI_q rfl rfl q2) ?_)
    | refine xst ?_
    | (refine xsa ?_; intro _)
    | (refine xsb ?_ ?_ <;> intro _ <;> first | (exfalso; omega) | skip)
    | refine xsc ?_
    | fail)
        all_goals refine KJ_again ⟨(j + 1, M ++ [⟨false, s.1, s.2⟩], some ⟨go, 0, none⟩, co), hlt2, hnx.symm⟩ (by show r2.length - (j + 1) < r2.length - j; omega) xB (xN)
  have q2 : decide ((j : Int) < (r2.length : Nat)) = false := decide_eq_false (by omega)
  rw [List.take_of_length_le (by omega)] at hM
  have cN := bnormal_ct (W := W) _ ma mc M (Lv.own (e := 29) (c := mc) enc_op rfl) (by omega)
  rw [show normD M = between r r2 by rw [hM]; exact hpr] at cN
  repeat' (first 
    | (refine is_call ?_; refine KJ_call xE cN xP rfl (fun x => ?_))
    | (refine ek_lss ?_; refine EK_ev (Ev_lssI_q rfl rfl q2) ?_)
    | refine xst ?_
    | (refine xsa ?_; intro _)
    | (refine xsb ?_ ?_ <;> intro _ <;> first | (exfalso; omega) | skip)
    | refine xsc ?_
    | fail)
  all_goals (exact xdn x)
end
end Go.Proofs.YtehheokalgmbgaaDoor
