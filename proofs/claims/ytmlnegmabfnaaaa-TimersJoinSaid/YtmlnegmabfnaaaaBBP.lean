/-
  TmW1, TmW2.
-/
import Derived.Test.YtmlnegmabfnaaaaBBJ
import Derived.Test.YtmlnegmabfnaaaaBBK
import Derived.Test.YtmlnegmabfnaaaaBBN
import Derived.Test.YtmlnegmabfnaaaaBAW
import Derived.Test.YtmlnegmabfnaaaaBAX
import Derived.Test.YtmlnegmabfnaaaaBBM
/-
  The package timers: its heap, over plain data.
-/
namespace Go.Proofs.Ytmlnegmabfnaaaa
open Go Go.RowKit
def dueC (x : Due) : List Value := [.int .i64 x.1, .int .i64 x.2]
abbrev dueV (x : Due) : Value := .agg (dueC x).toArray
theorem enc_due : EncOk dueC 2 where
  pos := by decide
  len := fun _ => rfl
  ones := fun x => by unfold dueC; exact xO
/-- a row's first things -/
theorem ls_cut {α : Type} {enc : α → List Value} {sz e g N c m : Nat} {l : List α} {H : List SP} (K : EncOk enc sz) (hN : N = l.length) (hm : m ≤ N) : ∀ h, starL (lsP enc e sz (.slice (some ⟨g, 0, none⟩) N c) l :: H) h → starL (lsP enc e sz (.slice (some ⟨g, 0, none⟩) m c) (l.take m) :: H) h := by
  intro h ⟨h1, h2, dj, l1, l2, ⟨q1, q2⟩, s2⟩
  subst hN
  have e1 : (l.take m).length = m := by rw [List.length_take]; omega
  refine ⟨h1, h2, dj, l1, l2, ⟨K.flat _, ?_⟩, s2⟩
  rcases q2 with ⟨hv, _⟩ | ⟨g', cap, cur, hv, a1, a2, a3, a4, a5⟩
  · cases hv
  · cases hv
    refine .inr ⟨g, c, cur, by rw [e1], a1, by rw [e1]; omega, a3, a4, ?_⟩
    rw [e1]
    have := K.take_flat l m hm
    rw [← this, ← a5, List.take_take]
    congr 1
    exact (Nat.min_eq_left (Nat.mul_le_mul_right sz hm)).symm
theorem KJ.lsCut {α : Type} {enc : α → List Value} {sz e g N c m : Nat} {l : List α} {W : World} {n : Nat} {E : Env} {H R : List SP} {k : KK} (K : EncOk enc sz) (hs : Sel (lsP enc e sz (.slice (some ⟨g, 0, none⟩) N c) l) H R) (hN : N = l.length) (hm : m ≤ N)
    (h : KJ W n k E (lsP enc e sz (.slice (some ⟨g, 0, none⟩) m c) (l.take m) :: R)) : KJ W n k E H :=
  ⟨fun a w q s => h.go a w q ((s.perm (hs.perm.append_right _)).mono (ls_cut K hN hm))⟩
section
variable {W : World} {h g c N mb t : Nat} {l : List Due}
theorem ahead_ct (a b : Due) : Ct Try.prog W 17 [dueV a, dueV b] [] (fun _ : Unit => .bool (aheadD a b)) (fun _ => []) := by
  obtain ⟨a1, a2⟩ := a
  obtain ⟨b1, b2⟩ := b
  unfold aheadD
  dsimp only
  by_cases hq : a1 = b1
  · rw [if_pos hq]
    refine Ct.enter Try.func17 rfl Try.ntmps17 (by simp) (fun R => ?_)
    repeat' (first 
    | (refine is_box ?_; refine KJ_box rfl xF rfl (fun gd => ?_))
    | (refine ek_neq ?_; refine EK_ev (Ev_neqI_f rfl rfl hq) ?_)
    | refine xst ?_
    | (refine xsa ?_; intro _)
    | (refine xsb ?_ ?_ <;> intro _ <;> first | (exfalso; omega) | skip)
    | refine xsc ?_
    | fail)
    all_goals (exact xdn ())
  · rw [if_neg hq]
    refine Ct.enter Try.func17 rfl Try.ntmps17 (by simp) (fun R => ?_)
    repeat' (first 
    | (refine is_box ?_; refine KJ_box rfl xF rfl (fun gd => ?_))
    | (refine ek_neq ?_; refine EK_ev (Ev_neqI_t rfl rfl hq) ?_)
    | refine xst ?_
    | (refine xsa ?_; intro _)
    | (refine xsb ?_ ?_ <;> intro _ <;> first | (exfalso; omega) | skip)
    | refine xsc ?_
    | fail)
    all_goals (exact xdn ())
abbrev HeL (h g N c : Nat) (l : List Due) : List SP := [cellsP h [.slice (some ⟨g, 0, none⟩) N c] 52, lsP dueC 37 2 (.slice (some ⟨g, 0, none⟩) N c) l]
instance fn_hswap : FnIs Try.prog 72 := ⟨by kernel_rfl⟩
set_option maxHeartbeats 4000000 in
theorem hswap_ct (hN : N = l.length) (i j : Nat) (hi : i < l.length) (hj : j < l.length) : Ct Try.prog W 72 [.pointer (some ⟨h, 0, none⟩), .int .i64 (i : Nat), .int .i64 (j : Nat)] (HeL h g N c l) (fun _ : Unit => .tuple #[]) (fun _ => HeL h g N c (swapD l i j)) := by
  have e1 : l[i]? = some l[i] := List.getElem?_eq_getElem hi
  have e2 : l[j]? = some l[j] := List.getElem?_eq_getElem hj
  have e3 : swapD l i j = (l.set i l[j]).set j l[i] := by unfold swapD; rw [e1, e2]
  rw [e3]
  obtain ⟨x, hx⟩ : ∃ x, x = l[i] := ⟨_, rfl⟩
  obtain ⟨y, hy⟩ : ∃ y, y = l[j] := ⟨_, rfl⟩
  rw [← hx] at e1 ⊢
  rw [← hy] at e2 ⊢
  have o1 : 0 + Int.toNat (i : Int) * 2 = i * 2 := by simp
  have o2 : 0 + Int.toNat (j : Int) * 2 = j * 2 := by simp
  have hN2 : N = (l.set i y).length := by rw [List.length_set]; exact hN
  refine Ct.enter Try.func72 rfl Try.ntmps72 (by simp) (fun R => ?_)
  repeat' (first 
    | (refine is_store ?_; first | (refine KJ_storeLs (i := j) (a := x) enc_due rfl rfl xS hN2 o2 (by rw [List.length_set]; exact hj) ?_) | (refine KJ_storeLs (i := i) (a := y) enc_due rfl rfl xS hN o1 hi ?_))
    | (refine ek_load ?_; first | refine EK_ev (Ev_loadLs enc_due rfl xS hN o2 e2) ?_ | refine EK_ev (Ev_loadLs enc_due rfl xS hN o1 e1) ?_)
    | refine xst ?_
    | (refine xsa ?_; intro _)
    | (refine xsb ?_ ?_ <;> intro _ <;> first | (exfalso; omega) | skip)
    | refine xsc ?_
    | (refine KJ_draws (id := 0) (.op 0 (.op 1 (.op 2 (.op 3 (.op 4 (.op 5 (.op 6 (.op 7 (.op 8 (.op 9 (.op 10 (.op 11 (.op 12 (.op 13 (.op 14 (.op 15 (.op 16 (.op 17 (.op 18 (.op 19 (.op 20 (.op 21 (.op 22 (.op 23 (.op 24 (.ef 25 [9] (.op 26 (.ef 27 [] .nil)))))))))))))))))))))))))))) (by kernel_rfl) (by kernel_rfl) ?_)
    | refine FW_alt ?_ ?_
    | refine FW_efn rfl rfl rfl rfl rfl ?_ ?_
    | refine KJ_flow ?_ ?_
    | exact Rech.nil
    | fail)
  all_goals (exact xdn ())
theorem aheadAt_eq {l : List Due} {i j : Nat} (hi : i < l.length) (hj : j < l.length) : aheadAt l i j = aheadD l[i] l[j] := by
  unfold aheadAt; rw [List.getElem?_eq_getElem hi, List.getElem?_eq_getElem hj]
theorem riseD_stop {f i : Nat} {l : List Due} (q : ¬ (0 < i ∧ aheadAt l i ((i - 1) / 2) = true)) : riseD f l i = l := by
  cases f with
  | zero => rfl
  | succ f => unfold riseD; rw [if_neg q]
theorem riseD_go {f i : Nat} {l : List Due} (h0 : 0 < i) (q : aheadAt l i ((i - 1) / 2) = true) : riseD (f + 1) l i = riseD f (swapD l i ((i - 1) / 2)) ((i - 1) / 2) := by
  conv => lhs; unfold riseD
  rw [if_pos ⟨h0, q⟩]
instance fn_hrise : FnIs Try.prog 71 := ⟨by kernel_rfl⟩
set_option maxHeartbeats 4000000 in
theorem hrise_ct (hN : N = l.length) (hm : N < 4611686018427387904) (f i : Nat) (hi : i < l.length) (hf : i ≤ f) : Ct Try.prog W 71 [.pointer (some ⟨h, 0, none⟩), .int .i64 (i : Nat)] (HeL h g N c l) (fun _ : Unit => .tuple #[]) (fun _ => HeL h g N c (riseD f l i)) := by
  obtain ⟨z, hz⟩ : ∃ z, z = riseD f l i := ⟨_, rfl⟩
  rw [← hz]
  refine Ct.enter Try.func71 rfl Try.ntmps71 (by simp) (fun R => ?_)
  repeat' (first 
    | refine xst ?_
    | (refine xsa ?_; intro _)
    | (refine xsb ?_ ?_ <;> intro _ <;> first | (exfalso; omega) | skip)
    | refine xsc ?_
    | (refine KJ_draws (id := 0) (.op 0 (.op 1 (.op 2 (.op 3 (.op 4 (.op 5 (.op 6 (.op 7 (.op 8 (.op 9 (.op 10 (.op 11 (.op 12 (.op 13 (.op 14 (.op 15 (.op 16 (.op 17 (.op 18 (.ef 19 [] (.op 20 .nil))))))))))))))))))))) (by kernel_rfl) (by kernel_rfl) ?_)
    | refine FW_alt ?_ ?_
    | refine FW_efn rfl rfl rfl rfl rfl ?_ ?_
    | refine KJ_flow ?_ ?_
    | exact Rech.nil
    | fail)
  refine KJ_loop (fun x : {x : Nat × Nat × List Due // x.2.1 ≤ x.1 ∧ x.2.1 < N ∧ N = x.2.2.length ∧ riseD x.1 x.2.2 x.2.1 = z} => [(0, .pointer (some ⟨h, 0, none⟩)), (1, .int .i64 (x.1.2.1 : Nat))])
    (fun x => HeL h g N c x.1.2.2 ++ R) (fun x => x.1.1) ⟨(f, i, l), hf, by dsimp only; omega, hN, hz.symm⟩ xB (xN) (fun ⟨(f, i, l), g1, g2, hN, g3⟩ => ?_)
  dsimp only at g1 g2 hN g3 ⊢
  by_cases h0 : 0 < i
  · have q1 : decide ((0 : Int) < ((i : Nat) : Int)) = true := decide_eq_true (by omega)
    have e1 : l[i]? = some l[i] := List.getElem?_eq_getElem (by omega)
    have e2 : l[(i - 1) / 2]? = some l[(i - 1) / 2] := List.getElem?_eq_getElem (by omega)
    have hq := aheadAt_eq (l := l) (i := i) (j := (i - 1) / 2) (by omega) (by omega)
    have ca := ahead_ct (W := W) l[i] l[(i - 1) / 2]
    have o1 : 0 + Int.toNat (i : Int) * 2 = i * 2 := by simp
    have o2 : 0 + Int.toNat (((i - 1) / 2 : Nat) : Int) * 2 = (i - 1) / 2 * 2 := by rw [Int.toNat_natCast, Nat.zero_add]
    have w1 : ((i - 1 : Nat) : Int) / 2 = (((i - 1) / 2 : Nat) : Int) := by omega
    rw [← hq] at ca
    obtain ⟨x, hx⟩ : ∃ x, x = l[i] := ⟨_, rfl⟩
    obtain ⟨y, hy⟩ : ∃ y, y = l[(i - 1) / 2] := ⟨_, rfl⟩
    rw [← hx] at e1 ca
    rw [← hy] at e2 ca
    clear hx hy hq
    cases hb : aheadAt l i ((i - 1) / 2) with
    | true =>
      obtain ⟨f, rfl⟩ : ∃ f', f = f' + 1 := ⟨f - 1, by omega⟩
      rw [hb] at ca
      rw [riseD_go h0 hb] at g3
      have cs := hswap_ct (W := W) (h := h) (g := g) (c := c) hN i ((i - 1) / 2) (by omega) (by omega)
      repeat' (first 
    | (refine is_call ?_; first | (refine KJ_call xE cs xP rfl (fun _ => ?_)) | (refine KJ_call xE ca xP rfl (fun _ => ?_)))
    | (refine ek_load ?_; first | refine EK_ev (Ev_loadLs enc_due rfl xS hN o2 e2) ?_ | refine EK_ev (Ev_loadLs enc_due rfl xS hN o1 e1) ?_)
    | (refine ek_indexAddr ?_; refine EK_ev (Ev_indexSlice rfl rfl (by omega)) ?_)
    | (refine ek_sub ?_; refine EK_ev (Ev_subI_v (r := ((i - 1 : Nat) : Int)) rfl rfl (by omega) (by omega)) ?_)
    | (refine ek_quo ?_; refine EK_ev (Ev_quo_w rfl rfl (by omega) w1) ?_)
    | (refine ek_gtr ?_; refine EK_ev (Ev_gtrI_q rfl rfl q1) ?_)
    | refine xst ?_
    | (refine xsa ?_; intro _)
    | (refine xsb ?_ ?_ <;> intro _ <;> first | (exfalso; omega) | skip)
    | refine xsc ?_
    | (refine KJ_draws (id := 0) (.op 0 (.op 1 (.op 2 (.op 3 (.op 4 (.op 5 (.op 6 (.op 7 (.op 8 (.op 9 (.op 10 (.op 11 (.op 12 (.op 13 (.op 14 (.op 15 (.op 16 (.op 17 (.op 18 (.ef 19 [] (.op 20 .nil))))))))))))))))))))) (by kernel_rfl) (by kernel_rfl) ?_)
    | refine FW_alt ?_ ?_
    | refine FW_efn rfl rfl rfl rfl rfl ?_ ?_
    | refine KJ_flow ?_ ?_
    | exact Rech.nil
    | fail)
      all_goals refine KJ_again ⟨(f, (i - 1) / 2, swapD l i ((i - 1) / 2)), by dsimp only; omega, by dsimp only; omega, by dsimp only; rw [swapD_len]; exact hN, g3⟩ (by dsimp only; omega) xB (xN)
    | false =>
      rw [hb] at ca
      rw [riseD_stop (fun q => by rw [hb] at q; cases q.2)] at g3
      repeat' (first 
    | (refine is_call ?_; refine KJ_call xE ca xP rfl (fun _ => ?_))
    | (refine ek_load ?_; first | refine EK_ev (Ev_loadLs enc_due rfl xS hN o2 e2) ?_ | refine EK_ev (Ev_loadLs enc_due rfl xS hN o1 e1) ?_)
    | (refine ek_indexAddr ?_; refine EK_ev (Ev_indexSlice rfl rfl (by omega)) ?_)
    | (refine ek_sub ?_; refine EK_ev (Ev_subI_v (r := ((i - 1 : Nat) : Int)) rfl rfl (by omega) (by omega)) ?_)
    | (refine ek_quo ?_; refine EK_ev (Ev_quo_w rfl rfl (by omega) w1) ?_)
    | (refine ek_gtr ?_; refine EK_ev (Ev_gtrI_q rfl rfl q1) ?_)
    | refine xst ?_
    | (refine xsa ?_; intro _)
    | (refine xsb ?_ ?_ <;> intro _ <;> first | (exfalso; omega) | skip)
    | refine xsc ?_
    | (refine KJ_draws (id := 0) (.op 0 (.op 1 (.op 2 (.op 3 (.op 4 (.op 5 (.op 6 (.op 7 (.op 8 (.op 9 (.op 10 (.op 11 (.op 12 (.op 13 (.op 14 (.op 15 (.op 16 (.op 17 (.op 18 (.ef 19 [] (.op 20 .nil))))))))))))))))))))) (by kernel_rfl) (by kernel_rfl) ?_)
    | refine FW_alt ?_ ?_
    | refine FW_efn rfl rfl rfl rfl rfl ?_ ?_
    | refine KJ_flow ?_ ?_
    | exact Rech.nil
    | fail)
      all_goals exact xdn () (hE := by rw [← g3]; exact (xN))
  · have q1 : decide ((0 : Int) < ((i : Nat) : Int)) = false := decide_eq_false (by omega)
    rw [riseD_stop (fun q => h0 q.1)] at g3
    repeat' (first 
    | (refine ek_gtr ?_; refine EK_ev (Ev_gtrI_q rfl rfl q1) ?_)
    | refine xst ?_
    | (refine xsa ?_; intro _)
    | (refine xsb ?_ ?_ <;> intro _ <;> first | (exfalso; omega) | skip)
    | refine xsc ?_
    | (refine KJ_draws (id := 0) (.op 0 (.op 1 (.op 2 (.op 3 (.op 4 (.op 5 (.op 6 (.op 7 (.op 8 (.op 9 (.op 10 (.op 11 (.op 12 (.op 13 (.op 14 (.op 15 (.op 16 (.op 17 (.op 18 (.ef 19 [] (.op 20 .nil))))))))))))))))))))) (by kernel_rfl) (by kernel_rfl) ?_)
    | refine FW_alt ?_ ?_
    | refine FW_efn rfl rfl rfl rfl rfl ?_ ?_
    | refine KJ_flow ?_ ?_
    | exact Rech.nil
    | fail)
    all_goals exact xdn () (hE := by rw [← g3]; exact (xN))
end
end Go.Proofs.Ytmlnegmabfnaaaa
/-
  The package timers: the heap's sink, out, put, take and their like.
-/
namespace Go.Proofs.Ytmlnegmabfnaaaa
open Go Go.RowKit
section
variable {W : World} {h g c N mb t : Nat} {l : List Due}
theorem below_in {l : List Due} {i : Nat} (hk : 2 * i + 1 < l.length) : below l i < l.length ∧ i < below l i := by
  unfold below; split <;> omega
theorem sinkD_end {f i : Nat} {l : List Due} (hk : l.length ≤ 2 * i + 1) : sinkD f l i = l := by
  cases f with
  | zero => rfl
  | succ f => unfold sinkD; rw [if_pos hk]
theorem sinkD_stop {f i : Nat} {l : List Due} (hk : 2 * i + 1 < l.length) (q : aheadAt l (below l i) i = false) : sinkD f l i = l := by
  cases f with
  | zero => rfl
  | succ f => unfold sinkD; rw [if_neg (by omega), if_pos q]
theorem sinkD_go {f i : Nat} {l : List Due} (hk : 2 * i + 1 < l.length) (q : aheadAt l (below l i) i = true) : sinkD (f + 1) l i = sinkD f (swapD l i (below l i)) (below l i) := by
  conv => lhs; unfold sinkD
  rw [if_neg (by omega), if_neg (by rw [q]; decide)]
instance fn_hsink : FnIs Try.prog 73 := ⟨by kernel_rfl⟩
set_option maxHeartbeats 8000000 in
theorem hsink_ct (hN : N = l.length) (hm : N < 2305843009213693952) (f i : Nat) (hi : i < l.length) (hf : l.length ≤ f + i) : Ct Try.prog W 73 [.pointer (some ⟨h, 0, none⟩), .int .i64 (i : Nat)] (HeL h g N c l) (fun _ : Unit => .tuple #[]) (fun _ => HeL h g N c (sinkD f l i)) := by
  obtain ⟨z, hz⟩ : ∃ z, z = sinkD f l i := ⟨_, rfl⟩
  rw [← hz]
  refine Ct.enter Try.func73 rfl Try.ntmps73 (by simp) (fun R => ?_)
  repeat' (first 
    | refine xst ?_
    | (refine xsa ?_; intro _)
    | (refine xsb ?_ ?_ <;> intro _ <;> first | (exfalso; omega) | skip)
    | refine xsc ?_
    | (refine KJ_draws (id := 2) (.op 0 (.op 1 (.op 2 (.op 3 (.op 4 (.op 5 (.op 6 (.op 7 (.op 8 (.op 9 (.op 10 (.op 11 (.op 12 (.op 13 (.op 14 (.op 15 (.op 16 (.op 17 (.op 18 (.op 19 (.op 20 (.op 21 (.op 22 (.op 23 (.ef 24 [] (.op 25 .nil)))))))))))))))))))))))))) (by kernel_rfl) (by kernel_rfl) ?_)
    | (refine KJ_draws (id := 4) (.op 0 (.op 1 (.op 2 (.op 3 (.op 4 (.op 5 (.op 6 (.op 7 (.op 8 (.op 9 (.op 10 (.op 11 (.op 12 (.op 13 (.ef 14 [] (.op 15 .nil)))))))))))))))) (by kernel_rfl) (by kernel_rfl) ?_)
    | refine FW_alt ?_ ?_
    | refine FW_efn rfl rfl rfl rfl rfl ?_ ?_
    | refine KJ_flow ?_ ?_
    | exact Rech.nil
    | fail)
  refine KJ_loop (fun x : {x : Nat × Nat × List Due // x.2.2.length ≤ x.1 + x.2.1 ∧ x.2.1 < N ∧ N = x.2.2.length ∧ sinkD x.1 x.2.2 x.2.1 = z} => [(0, .pointer (some ⟨h, 0, none⟩)), (1, .int .i64 (x.1.2.1 : Nat))])
    (fun x => HeL h g N c x.1.2.2 ++ R) (fun x => N - x.1.2.1) ⟨(f, i, l), hf, by dsimp only; omega, hN, hz.symm⟩ xB (xN) (fun ⟨(f, i, l), g1, g2, hN, g3⟩ => ?_)
  dsimp only at g1 g2 hN g3 ⊢
  by_cases hk : 2 * i + 1 < l.length
  rotate_left
  · have q1 : decide (((N : Nat) : Int) ≤ ((2 * i + 1 : Nat) : Int)) = true := decide_eq_true (by omega)
    rw [sinkD_end (by omega)] at g3
    repeat' (first 
    | (refine ek_add ?_; refine EK_ev (Ev_addI_v (r := ((2 * i + 1 : Nat) : Int)) rfl rfl (by omega) (by omega)) ?_)
    | (refine ek_mul ?_; refine EK_ev (Ev_mulI_v (r := ((2 * i : Nat) : Int)) rfl rfl (by omega) (by omega)) ?_)
    | (refine ek_geq ?_; refine EK_ev (Ev_geqI_q rfl rfl q1) ?_)
    | refine xst ?_
    | (refine xsa ?_; intro _)
    | (refine xsb ?_ ?_ <;> intro _ <;> first | (exfalso; omega) | skip)
    | refine xsc ?_
    | (refine KJ_draws (id := 2) (.op 0 (.op 1 (.op 2 (.op 3 (.op 4 (.op 5 (.op 6 (.op 7 (.op 8 (.op 9 (.op 10 (.op 11 (.op 12 (.op 13 (.op 14 (.op 15 (.op 16 (.op 17 (.op 18 (.op 19 (.op 20 (.op 21 (.op 22 (.op 23 (.ef 24 [] (.op 25 .nil)))))))))))))))))))))))))) (by kernel_rfl) (by kernel_rfl) ?_)
    | (refine KJ_draws (id := 4) (.op 0 (.op 1 (.op 2 (.op 3 (.op 4 (.op 5 (.op 6 (.op 7 (.op 8 (.op 9 (.op 10 (.op 11 (.op 12 (.op 13 (.ef 14 [] (.op 15 .nil)))))))))))))))) (by kernel_rfl) (by kernel_rfl) ?_)
    | refine FW_alt ?_ ?_
    | refine FW_efn rfl rfl rfl rfl rfl ?_ ?_
    | refine KJ_flow ?_ ?_
    | exact Rech.nil
    | fail)
    all_goals exact xdn () (hE := by rw [← g3]; exact (xN))
  have q1 : decide (((N : Nat) : Int) ≤ ((2 * i + 1 : Nat) : Int)) = false := decide_eq_false (by omega)
  obtain ⟨hb1, hb2⟩ := below_in hk
  obtain ⟨k, hkb⟩ : ∃ k, k = below l i := ⟨_, rfl⟩
  rw [← hkb] at hb1 hb2
  apply KJ_rest (fun K => KJ W 64 K [(0, .pointer (some ⟨h, 0, none⟩)), (1, .int .i64 (i : Nat)), (4, .int .i64 (k : Nat))] (HeL h g N c l ++ R))
  · intro rest
    by_cases h2 : 2 * i + 2 < l.length
    · have q2 : decide (((2 * i + 2 : Nat) : Int) < ((N : Nat) : Int)) = true := decide_eq_true (by omega)
      have e1 : l[2 * i + 2]? = some l[2 * i + 2] := List.getElem?_eq_getElem (by omega)
      have e2 : l[2 * i + 1]? = some l[2 * i + 1] := List.getElem?_eq_getElem (by omega)
      have hq := aheadAt_eq (l := l) (i := 2 * i + 2) (j := 2 * i + 1) (by omega) (by omega)
      have ca := ahead_ct (W := W) l[2 * i + 2] l[2 * i + 1]
      have o1 : 0 + Int.toNat ((2 * i + 2 : Nat) : Int) * 2 = (2 * i + 2) * 2 := by rw [Int.toNat_natCast, Nat.zero_add]
      have o2 : 0 + Int.toNat ((2 * i + 1 : Nat) : Int) * 2 = (2 * i + 1) * 2 := by rw [Int.toNat_natCast, Nat.zero_add]
      rw [← hq] at ca
      obtain ⟨x, hx⟩ : ∃ x, x = l[2 * i + 2] := ⟨_, rfl⟩
      obtain ⟨y, hy⟩ : ∃ y, y = l[2 * i + 1] := ⟨_, rfl⟩
      rw [← hx] at e1 ca
      rw [← hy] at e2 ca
      clear hx hy hq
      cases hb : aheadAt l (2 * i + 2) (2 * i + 1) with
      | true =>
        have e4 : k = 2 * i + 2 := by rw [hkb]; unfold below; rw [if_pos ⟨h2, hb⟩]
        have e9 : Value.int .i64 ((2 * i + 2 : Nat) : Int) = .int .i64 ((k : Nat) : Int) := by rw [e4]
        rw [hb] at ca
        repeat' (first 
    | (refine at_seq_region (id := 4) ?_; refine KJ.asv0 4 rfl e9 ?_; exact KJ.weak rest xB (xN))
    | (refine is_call ?_; refine KJ_call xE ca xP rfl (fun _ => ?_))
    | (refine ek_load ?_; first | refine EK_ev (Ev_loadLs enc_due rfl xS hN o2 e2) ?_ | refine EK_ev (Ev_loadLs enc_due rfl xS hN o1 e1) ?_)
    | (refine ek_indexAddr ?_; refine EK_ev (Ev_indexSlice rfl rfl (by omega)) ?_)
    | (refine ek_add ?_; first | refine EK_ev (Ev_addI_v (r := ((2 * i + 2 : Nat) : Int)) rfl rfl (by omega) (by omega)) ?_ | refine EK_ev (Ev_addI_v (r := ((2 * i + 1 : Nat) : Int)) rfl rfl (by omega) (by omega)) ?_)
    | (refine ek_mul ?_; refine EK_ev (Ev_mulI_v (r := ((2 * i : Nat) : Int)) rfl rfl (by omega) (by omega)) ?_)
    | (refine ek_lss ?_; refine EK_ev (Ev_lssI_q rfl rfl q2) ?_)
    | (refine ek_geq ?_; refine EK_ev (Ev_geqI_q rfl rfl q1) ?_)
    | refine xst ?_
    | (refine xsa ?_; intro _)
    | (refine xsb ?_ ?_ <;> intro _ <;> first | (exfalso; omega) | skip)
    | refine xsc ?_
    | (refine KJ_draws (id := 2) (.op 0 (.op 1 (.op 2 (.op 3 (.op 4 (.op 5 (.op 6 (.op 7 (.op 8 (.op 9 (.op 10 (.op 11 (.op 12 (.op 13 (.op 14 (.op 15 (.op 16 (.op 17 (.op 18 (.op 19 (.op 20 (.op 21 (.op 22 (.op 23 (.ef 24 [] (.op 25 .nil)))))))))))))))))))))))))) (by kernel_rfl) (by kernel_rfl) ?_)
    | (refine KJ_draws (id := 4) (.op 0 (.op 1 (.op 2 (.op 3 (.op 4 (.op 5 (.op 6 (.op 7 (.op 8 (.op 9 (.op 10 (.op 11 (.op 12 (.op 13 (.ef 14 [] (.op 15 .nil)))))))))))))))) (by kernel_rfl) (by kernel_rfl) ?_)
    | refine FW_alt ?_ ?_
    | refine FW_efn rfl rfl rfl rfl rfl ?_ ?_
    | refine KJ_flow ?_ ?_
    | exact Rech.nil
    | fail)
      | false =>
        have e4 : k = 2 * i + 1 := by rw [hkb]; unfold below; rw [if_neg (fun q => by rw [hb] at q; cases q.2)]
        have e9 : Value.int .i64 ((2 * i + 1 : Nat) : Int) = .int .i64 ((k : Nat) : Int) := by rw [e4]
        rw [hb] at ca
        repeat' (first 
    | (refine at_seq_region (id := 4) ?_; refine KJ.asv0 4 rfl e9 ?_; exact KJ.weak rest xB (xN))
    | (refine is_call ?_; refine KJ_call xE ca xP rfl (fun _ => ?_))
    | (refine ek_load ?_; first | refine EK_ev (Ev_loadLs enc_due rfl xS hN o2 e2) ?_ | refine EK_ev (Ev_loadLs enc_due rfl xS hN o1 e1) ?_)
    | (refine ek_indexAddr ?_; refine EK_ev (Ev_indexSlice rfl rfl (by omega)) ?_)
    | (refine ek_add ?_; first | refine EK_ev (Ev_addI_v (r := ((2 * i + 2 : Nat) : Int)) rfl rfl (by omega) (by omega)) ?_ | refine EK_ev (Ev_addI_v (r := ((2 * i + 1 : Nat) : Int)) rfl rfl (by omega) (by omega)) ?_)
    | (refine ek_mul ?_; refine EK_ev (Ev_mulI_v (r := ((2 * i : Nat) : Int)) rfl rfl (by omega) (by omega)) ?_)
    | (refine ek_lss ?_; refine EK_ev (Ev_lssI_q rfl rfl q2) ?_)
    | (refine ek_geq ?_; refine EK_ev (Ev_geqI_q rfl rfl q1) ?_)
    | refine xst ?_
    | (refine xsa ?_; intro _)
    | (refine xsb ?_ ?_ <;> intro _ <;> first | (exfalso; omega) | skip)
    | refine xsc ?_
    | (refine KJ_draws (id := 2) (.op 0 (.op 1 (.op 2 (.op 3 (.op 4 (.op 5 (.op 6 (.op 7 (.op 8 (.op 9 (.op 10 (.op 11 (.op 12 (.op 13 (.op 14 (.op 15 (.op 16 (.op 17 (.op 18 (.op 19 (.op 20 (.op 21 (.op 22 (.op 23 (.ef 24 [] (.op 25 .nil)))))))))))))))))))))))))) (by kernel_rfl) (by kernel_rfl) ?_)
    | (refine KJ_draws (id := 4) (.op 0 (.op 1 (.op 2 (.op 3 (.op 4 (.op 5 (.op 6 (.op 7 (.op 8 (.op 9 (.op 10 (.op 11 (.op 12 (.op 13 (.ef 14 [] (.op 15 .nil)))))))))))))))) (by kernel_rfl) (by kernel_rfl) ?_)
    | refine FW_alt ?_ ?_
    | refine FW_efn rfl rfl rfl rfl rfl ?_ ?_
    | refine KJ_flow ?_ ?_
    | exact Rech.nil
    | fail)
    · have q2 : decide (((2 * i + 2 : Nat) : Int) < ((N : Nat) : Int)) = false := decide_eq_false (by omega)
      have e4 : k = 2 * i + 1 := by rw [hkb]; unfold below; rw [if_neg (fun q => h2 q.1)]
      have e9 : Value.int .i64 ((2 * i + 1 : Nat) : Int) = .int .i64 ((k : Nat) : Int) := by rw [e4]
      repeat' (first 
    | (refine at_seq_region (id := 4) ?_; refine KJ.asv0 4 rfl e9 ?_; exact KJ.weak rest xB (xN))
    | (refine ek_add ?_; first | refine EK_ev (Ev_addI_v (r := ((2 * i + 2 : Nat) : Int)) rfl rfl (by omega) (by omega)) ?_ | refine EK_ev (Ev_addI_v (r := ((2 * i + 1 : Nat) : Int)) rfl rfl (by omega) (by omega)) ?_)
    | (refine ek_mul ?_; refine EK_ev (Ev_mulI_v (r := ((2 * i : Nat) : Int)) rfl rfl (by omega) (by omega)) ?_)
    | (refine ek_lss ?_; refine EK_ev (Ev_lssI_q rfl rfl q2) ?_)
    | (refine ek_geq ?_; refine EK_ev (Ev_geqI_q rfl rfl q1) ?_)
    | refine xst ?_
    | (refine xsa ?_; intro _)
    | (refine xsb ?_ ?_ <;> intro _ <;> first | (exfalso; omega) | skip)
    | refine xsc ?_
    | (refine KJ_draws (id := 2) (.op 0 (.op 1 (.op 2 (.op 3 (.op 4 (.op 5 (.op 6 (.op 7 (.op 8 (.op 9 (.op 10 (.op 11 (.op 12 (.op 13 (.op 14 (.op 15 (.op 16 (.op 17 (.op 18 (.op 19 (.op 20 (.op 21 (.op 22 (.op 23 (.ef 24 [] (.op 25 .nil)))))))))))))))))))))))))) (by kernel_rfl) (by kernel_rfl) ?_)
    | (refine KJ_draws (id := 4) (.op 0 (.op 1 (.op 2 (.op 3 (.op 4 (.op 5 (.op 6 (.op 7 (.op 8 (.op 9 (.op 10 (.op 11 (.op 12 (.op 13 (.ef 14 [] (.op 15 .nil)))))))))))))))) (by kernel_rfl) (by kernel_rfl) ?_)
    | refine FW_alt ?_ ?_
    | refine FW_efn rfl rfl rfl rfl rfl ?_ ?_
    | refine KJ_flow ?_ ?_
    | exact Rech.nil
    | fail)
  have e1 : l[k]? = some l[k] := List.getElem?_eq_getElem (by omega)
  have e2 : l[i]? = some l[i] := List.getElem?_eq_getElem (by omega)
  have hq := aheadAt_eq (l := l) (i := k) (j := i) (by omega) (by omega)
  have ca := ahead_ct (W := W) l[k] l[i]
  have o1 : 0 + Int.toNat (k : Int) * 2 = k * 2 := by rw [Int.toNat_natCast, Nat.zero_add]
  have o2 : 0 + Int.toNat (i : Int) * 2 = i * 2 := by rw [Int.toNat_natCast, Nat.zero_add]
  rw [← hq] at ca
  obtain ⟨x, hx⟩ : ∃ x, x = l[k] := ⟨_, rfl⟩
  obtain ⟨y, hy⟩ : ∃ y, y = l[i] := ⟨_, rfl⟩
  rw [← hx] at e1 ca
  rw [← hy] at e2 ca
  clear hx hy hq
  cases hb : aheadAt l k i with
  | true =>
    obtain ⟨f, rfl⟩ : ∃ f', f = f' + 1 := ⟨f - 1, by omega⟩
    rw [hb] at ca
    rw [hkb] at hb
    rw [sinkD_go hk hb, ← hkb] at g3
    have cs := hswap_ct (W := W) (h := h) (g := g) (c := c) hN i k (by omega) (by omega)
    repeat' (first 
    | (refine is_call ?_; first | (refine KJ_call xE cs xP rfl (fun _ => ?_)) | (refine KJ_call xE ca xP rfl (fun _ => ?_)))
    | (refine ek_load ?_; first | refine EK_ev (Ev_loadLs enc_due rfl xS hN o2 e2) ?_ | refine EK_ev (Ev_loadLs enc_due rfl xS hN o1 e1) ?_)
    | (refine ek_indexAddr ?_; refine EK_ev (Ev_indexSlice rfl rfl (by omega)) ?_)
    | refine xst ?_
    | (refine xsa ?_; intro _)
    | (refine xsb ?_ ?_ <;> intro _ <;> first | (exfalso; omega) | skip)
    | refine xsc ?_
    | (refine KJ_draws (id := 2) (.op 0 (.op 1 (.op 2 (.op 3 (.op 4 (.op 5 (.op 6 (.op 7 (.op 8 (.op 9 (.op 10 (.op 11 (.op 12 (.op 13 (.op 14 (.op 15 (.op 16 (.op 17 (.op 18 (.op 19 (.op 20 (.op 21 (.op 22 (.op 23 (.ef 24 [] (.op 25 .nil)))))))))))))))))))))))))) (by kernel_rfl) (by kernel_rfl) ?_)
    | (refine KJ_draws (id := 4) (.op 0 (.op 1 (.op 2 (.op 3 (.op 4 (.op 5 (.op 6 (.op 7 (.op 8 (.op 9 (.op 10 (.op 11 (.op 12 (.op 13 (.ef 14 [] (.op 15 .nil)))))))))))))))) (by kernel_rfl) (by kernel_rfl) ?_)
    | refine FW_alt ?_ ?_
    | refine FW_efn rfl rfl rfl rfl rfl ?_ ?_
    | refine KJ_flow ?_ ?_
    | exact Rech.nil
    | fail)
    all_goals refine KJ_again ⟨(f, k, swapD l i k), by dsimp only; rw [swapD_len]; omega, by dsimp only; omega, by dsimp only; rw [swapD_len]; exact hN, g3⟩ (by dsimp only; omega) xB (xN)
  | false =>
    rw [hb] at ca
    rw [hkb] at hb
    rw [sinkD_stop hk hb] at g3
    repeat' (first 
    | (refine is_call ?_; refine KJ_call xE ca xP rfl (fun _ => ?_))
    | (refine ek_load ?_; first | refine EK_ev (Ev_loadLs enc_due rfl xS hN o2 e2) ?_ | refine EK_ev (Ev_loadLs enc_due rfl xS hN o1 e1) ?_)
    | (refine ek_indexAddr ?_; refine EK_ev (Ev_indexSlice rfl rfl (by omega)) ?_)
    | refine xst ?_
    | (refine xsa ?_; intro _)
    | (refine xsb ?_ ?_ <;> intro _ <;> first | (exfalso; omega) | skip)
    | refine xsc ?_
    | (refine KJ_draws (id := 2) (.op 0 (.op 1 (.op 2 (.op 3 (.op 4 (.op 5 (.op 6 (.op 7 (.op 8 (.op 9 (.op 10 (.op 11 (.op 12 (.op 13 (.op 14 (.op 15 (.op 16 (.op 17 (.op 18 (.op 19 (.op 20 (.op 21 (.op 22 (.op 23 (.ef 24 [] (.op 25 .nil)))))))))))))))))))))))))) (by kernel_rfl) (by kernel_rfl) ?_)
    | (refine KJ_draws (id := 4) (.op 0 (.op 1 (.op 2 (.op 3 (.op 4 (.op 5 (.op 6 (.op 7 (.op 8 (.op 9 (.op 10 (.op 11 (.op 12 (.op 13 (.ef 14 [] (.op 15 .nil)))))))))))))))) (by kernel_rfl) (by kernel_rfl) ?_)
    | refine FW_alt ?_ ?_
    | refine FW_efn rfl rfl rfl rfl rfl ?_ ?_
    | refine KJ_flow ?_ ?_
    | exact Rech.nil
    | fail)
    all_goals exact xdn () (hE := by rw [← g3]; exact (xN))
instance fn_hout : FnIs Try.prog 70 := ⟨by kernel_rfl⟩
set_option maxHeartbeats 8000000 in
theorem hout_ct (hN : N = l.length) (hm : N < 2305843009213693952) (hc : N ≤ c) (i : Nat) (hi : i < l.length) : Ct Try.prog W 70 [.pointer (some ⟨h, 0, none⟩), .int .i64 (i : Nat)] (HeL h g N c l) (fun _ : Unit => .tuple #[]) (fun _ => HeL h g (N - 1) c (outD l i)) := by
  have c1 := hswap_ct (W := W) (h := h) (g := g) (c := c) hN i (N - 1) hi (by omega)
  obtain ⟨l1, hl1⟩ : ∃ x, x = swapD l i (N - 1) := ⟨_, rfl⟩
  have n1 : N = l1.length := by rw [hl1, swapD_len]; exact hN
  rw [← hl1] at c1
  obtain ⟨l2, hl2⟩ : ∃ x, x = l1.take (N - 1) := ⟨_, rfl⟩
  have n2 : N - 1 = l2.length := by rw [hl2, List.length_take]; omega
  have ho : outD l i = if i < N - 1 then sinkD l2.length (riseD i l2 i) i else l2 := by unfold outD; dsimp only; rw [← hN, ← hl1, ← hl2]
  by_cases hlt : i < N - 1
  · have q1 : decide (((i : Nat) : Int) < ((N - 1 : Nat) : Int)) = true := decide_eq_true (by omega)
    rw [if_pos hlt] at ho
    rw [ho]
    have c2 := hrise_ct (W := W) (h := h) (g := g) (c := c) n2 (by omega) i i (by omega) (Nat.le_refl _)
    have c3 := hsink_ct (W := W) (h := h) (g := g) (c := c) (l := riseD i l2 i) (N := N - 1) (by rw [riseD_len]; exact n2) (by omega) l2.length i (by rw [riseD_len]; omega) (by rw [riseD_len]; omega)
    refine Ct.enter Try.func70 rfl Try.ntmps70 (by simp) (fun R => ?_)
    repeat' (first 
    | (refine is_store ?_; refine hold ?_)
    | (refine is_call ?_; refine KJ_call xE c1 xP rfl (fun _ => ?_))
    | (refine ek_slice ?_; refine EK_ev (Ev_sliceToG rfl rfl (by omega)) ?_)
    | (refine ek_sub ?_; refine EK_ev (Ev_subI_v (r := ((N - 1 : Nat) : Int)) rfl rfl (by omega) (by omega)) ?_)
    | refine xst ?_
    | (refine xsa ?_; intro _)
    | (refine xsb ?_ ?_ <;> intro _ <;> first | (exfalso; omega) | skip)
    | refine xsc ?_
    | fail)
    refine Hold.mk ?_
    refine KJ.lsCut (m := N - 1) enc_due xS n1 (by omega) ?_
    rw [← hl2]
    repeat' (first 
    | (refine is_call ?_; first | (refine KJ_call xE c3 xP rfl (fun _ => ?_)) | (refine KJ_call xE c2 xP rfl (fun _ => ?_)))
    | (refine ek_lss ?_; refine EK_ev (Ev_lssI_q rfl rfl q1) ?_)
    | refine xst ?_
    | (refine xsa ?_; intro _)
    | (refine xsb ?_ ?_ <;> intro _ <;> first | (exfalso; omega) | skip)
    | refine xsc ?_
    | fail)
    all_goals (exact xdn ())
  · have q1 : decide (((i : Nat) : Int) < ((N - 1 : Nat) : Int)) = false := decide_eq_false (by omega)
    rw [if_neg hlt] at ho
    rw [ho]
    refine Ct.enter Try.func70 rfl Try.ntmps70 (by simp) (fun R => ?_)
    repeat' (first 
    | (refine is_store ?_; refine hold ?_)
    | (refine is_call ?_; refine KJ_call xE c1 xP rfl (fun _ => ?_))
    | (refine ek_slice ?_; refine EK_ev (Ev_sliceToG rfl rfl (by omega)) ?_)
    | (refine ek_sub ?_; refine EK_ev (Ev_subI_v (r := ((N - 1 : Nat) : Int)) rfl rfl (by omega) (by omega)) ?_)
    | refine xst ?_
    | (refine xsa ?_; intro _)
    | (refine xsb ?_ ?_ <;> intro _ <;> first | (exfalso; omega) | skip)
    | refine xsc ?_
    | fail)
    refine Hold.mk ?_
    refine KJ.lsCut (m := N - 1) enc_due xS n1 (by omega) ?_
    rw [← hl2]
    repeat' (first 
    | (refine ek_lss ?_; refine EK_ev (Ev_lssI_q rfl rfl q1) ?_)
    | refine xst ?_
    | (refine xsa ?_; intro _)
    | (refine xsb ?_ ?_ <;> intro _ <;> first | (exfalso; omega) | skip)
    | refine xsc ?_
    | fail)
    all_goals (exact xdn ())
end
end Go.Proofs.Ytmlnegmabfnaaaa
