/-
  BgX, BgZ, BgY.
-/
import Derived.Test.YtdbfemdpdpaffaaGreatDoorPCC
/-
  math/big: nat.add, nat.sub, nat.cmp, each case by itself (printed by genbgx.py).
-/
namespace Go.Proofs.YtdbfemdpdpaffaaGreatDoor
open Go Go.RowKit
section
variable {W : World}
set_option maxHeartbeats 1000000 in
theorem nadd_sw_no {h y : Nat}  : Ct Tryz.prog W 79 [.slice none 0 0, .slice (some ⟨h, 0, none⟩) 1 1, .slice none 0 0] [cellsP h [wv y] 127] (fun g : Nat => .slice (some ⟨g, 0, none⟩) 1 1) (fun g : Nat => [cellsP g ([wv y]) 127, cellsP h [wv y] 127]) := by
  have cs := nset_no (W := W) (h := h) (y := y)
  refine Ct.enter Tryz.func79 rfl Tryz.ntmps79 (by simp) (fun R => ?_)
  repeat' (first 
    | (refine is_call ?_; refine KJ_call xE cs xP rfl (fun g => ?_))
    | refine xst ?_
    | (refine xsa ?_; intro _)
    | (refine xsb ?_ ?_ <;> intro _ <;> first | (exfalso; omega) | skip)
    | refine xsc ?_
    | (refine KJ_draws (id := 10) (.op 0 (.op 1 (.op 2 (.op 3 (.op 4 (.op 5 (.op 6 (.op 7 (.op 8 (.ef 9 [] (.op 10 .nil))))))))))) (by kernel_rfl) (by kernel_rfl) ?_)
    | (refine KJ_draws (id := 12) (.op 0 (.op 1 (.op 2 (.op 3 (.op 4 (.op 5 (.op 6 (.op 7 (.ef 8 [] (.ef 9 [] .nil)))))))))) (by kernel_rfl) (by kernel_rfl) ?_)
    | refine FW_alt ?_ ?_
    | refine FW_efn rfl rfl rfl rfl rfl ?_ ?_
    | refine KJ_flow ?_ ?_
    | exact Rech.nil
    | fail)
  all_goals (exact xdn g)

set_option maxHeartbeats 1000000 in
theorem nadd_sw_in {g c h a y : Nat} {t : List Value} (hc : 1 ≤ c) : Ct Tryz.prog W 79 [.slice (some ⟨g, 0, none⟩) 0 c, .slice (some ⟨h, 0, none⟩) 1 1, .slice (some ⟨g, 0, none⟩) 0 c] [cellsP g (wv a :: t) 127, cellsP h [wv y] 127] (fun _ : Unit => .slice (some ⟨g, 0, none⟩) 1 c) (fun _ : Unit => [cellsP g (wv y :: t) 127, cellsP h [wv y] 127]) := by
  have cs := nset_in (W := W) (g := g) (m := 0) (h := h) (a := a) (y := y) (t := t) hc
  refine Ct.enter Tryz.func79 rfl Tryz.ntmps79 (by simp) (fun R => ?_)
  repeat' (first 
    | (refine is_call ?_; refine KJ_call xE cs xP rfl (fun _ => ?_))
    | refine xst ?_
    | (refine xsa ?_; intro _)
    | (refine xsb ?_ ?_ <;> intro _ <;> first | (exfalso; omega) | skip)
    | refine xsc ?_
    | (refine KJ_draws (id := 10) (.op 0 (.op 1 (.op 2 (.op 3 (.op 4 (.op 5 (.op 6 (.op 7 (.op 8 (.ef 9 [] (.op 10 .nil))))))))))) (by kernel_rfl) (by kernel_rfl) ?_)
    | (refine KJ_draws (id := 12) (.op 0 (.op 1 (.op 2 (.op 3 (.op 4 (.op 5 (.op 6 (.op 7 (.ef 8 [] (.ef 9 [] .nil)))))))))) (by kernel_rfl) (by kernel_rfl) ?_)
    | refine FW_alt ?_ ?_
    | refine FW_efn rfl rfl rfl rfl rfl ?_ ?_
    | refine KJ_flow ?_ ?_
    | exact Rech.nil
    | fail)
  all_goals (exact xdn ())

set_option maxHeartbeats 1000000 in
theorem nsub_sw_no {h y : Nat}  : Ct Tryz.prog W 81 [.slice none 0 0, .slice (some ⟨h, 0, none⟩) 1 1, .slice none 0 0] [cellsP h [wv y] 127] (fun g : Nat => .slice (some ⟨g, 0, none⟩) 1 1) (fun g : Nat => [cellsP g ([wv y]) 127, cellsP h [wv y] 127]) := by
  have cs := nset_no (W := W) (h := h) (y := y)
  refine Ct.enter Tryz.func81 rfl Tryz.ntmps81 (by simp) (fun R => ?_)
  repeat' (first 
    | (refine is_call ?_; refine KJ_call xE cs xP rfl (fun g => ?_))
    | refine xst ?_
    | (refine xsa ?_; intro _)
    | (refine xsb ?_ ?_ <;> intro _ <;> first | (exfalso; omega) | skip)
    | refine xsc ?_
    | (refine KJ_draws (id := 10) (.op 0 (.op 1 (.op 2 (.op 3 (.op 4 (.op 5 (.op 6 (.op 7 (.op 8 (.ef 9 [] (.op 10 .nil))))))))))) (by kernel_rfl) (by kernel_rfl) ?_)
    | (refine KJ_draws (id := 12) (.op 0 (.op 1 (.op 2 (.op 3 (.op 4 (.op 5 (.op 6 (.ef 7 [] (.ef 8 [] .nil))))))))) (by kernel_rfl) (by kernel_rfl) ?_)
    | refine FW_alt ?_ ?_
    | refine FW_efn rfl rfl rfl rfl rfl ?_ ?_
    | refine KJ_flow ?_ ?_
    | exact Rech.nil
    | fail)
  all_goals (exact xdn g)

set_option maxHeartbeats 1000000 in
theorem nsub_sw_in {g c h a y : Nat} {t : List Value} (hc : 1 ≤ c) : Ct Tryz.prog W 81 [.slice (some ⟨g, 0, none⟩) 0 c, .slice (some ⟨h, 0, none⟩) 1 1, .slice (some ⟨g, 0, none⟩) 0 c] [cellsP g (wv a :: t) 127, cellsP h [wv y] 127] (fun _ : Unit => .slice (some ⟨g, 0, none⟩) 1 c) (fun _ : Unit => [cellsP g (wv y :: t) 127, cellsP h [wv y] 127]) := by
  have cs := nset_in (W := W) (g := g) (m := 0) (h := h) (a := a) (y := y) (t := t) hc
  refine Ct.enter Tryz.func81 rfl Tryz.ntmps81 (by simp) (fun R => ?_)
  repeat' (first 
    | (refine is_call ?_; refine KJ_call xE cs xP rfl (fun _ => ?_))
    | refine xst ?_
    | (refine xsa ?_; intro _)
    | (refine xsb ?_ ?_ <;> intro _ <;> first | (exfalso; omega) | skip)
    | refine xsc ?_
    | (refine KJ_draws (id := 10) (.op 0 (.op 1 (.op 2 (.op 3 (.op 4 (.op 5 (.op 6 (.op 7 (.op 8 (.ef 9 [] (.op 10 .nil))))))))))) (by kernel_rfl) (by kernel_rfl) ?_)
    | (refine KJ_draws (id := 12) (.op 0 (.op 1 (.op 2 (.op 3 (.op 4 (.op 5 (.op 6 (.ef 7 [] (.ef 8 [] .nil))))))))) (by kernel_rfl) (by kernel_rfl) ?_)
    | refine FW_alt ?_ ?_
    | refine FW_efn rfl rfl rfl rfl rfl ?_ ?_
    | refine KJ_flow ?_ ?_
    | exact Rech.nil
    | fail)
  all_goals (exact xdn ())

set_option maxHeartbeats 1000000 in
theorem nadd_no {h y : Nat}  : Ct Tryz.prog W 79 [.slice none 0 0, .slice none 0 0, .slice (some ⟨h, 0, none⟩) 1 1] [cellsP h [wv y] 127] (fun g : Nat => .slice (some ⟨g, 0, none⟩) 1 1) (fun g : Nat => [cellsP g ([wv y]) 127, cellsP h [wv y] 127]) := by
  have cs := nadd_sw_no (W := W) (h := h) (y := y)
  refine Ct.enter Tryz.func79 rfl Tryz.ntmps79 (by simp) (fun R => ?_)
  repeat' (first 
    | (refine is_call ?_; refine KJ_call xE cs xP rfl (fun g => ?_))
    | refine xst ?_
    | (refine xsa ?_; intro _)
    | (refine xsb ?_ ?_ <;> intro _ <;> first | (exfalso; omega) | skip)
    | refine xsc ?_
    | (refine KJ_draws (id := 10) (.op 0 (.op 1 (.op 2 (.op 3 (.op 4 (.op 5 (.op 6 (.op 7 (.op 8 (.ef 9 [] (.op 10 .nil))))))))))) (by kernel_rfl) (by kernel_rfl) ?_)
    | (refine KJ_draws (id := 12) (.op 0 (.op 1 (.op 2 (.op 3 (.op 4 (.op 5 (.op 6 (.op 7 (.ef 8 [] (.ef 9 [] .nil)))))))))) (by kernel_rfl) (by kernel_rfl) ?_)
    | refine FW_alt ?_ ?_
    | refine FW_efn rfl rfl rfl rfl rfl ?_ ?_
    | refine KJ_flow ?_ ?_
    | exact Rech.nil
    | fail)
  all_goals (exact xdn g)

set_option maxHeartbeats 1000000 in
theorem nadd_z {g c h a y : Nat} {t : List Value} (hc : 1 ≤ c) : Ct Tryz.prog W 79 [.slice (some ⟨g, 0, none⟩) 0 c, .slice (some ⟨g, 0, none⟩) 0 c, .slice (some ⟨h, 0, none⟩) 1 1] [cellsP g (wv a :: t) 127, cellsP h [wv y] 127] (fun _ : Unit => .slice (some ⟨g, 0, none⟩) 1 c) (fun _ : Unit => [cellsP g (wv y :: t) 127, cellsP h [wv y] 127]) := by
  have cs := nadd_sw_in (W := W) (g := g) (h := h) (y := y) (a := a) (t := t) hc
  refine Ct.enter Tryz.func79 rfl Tryz.ntmps79 (by simp) (fun R => ?_)
  repeat' (first 
    | (refine is_call ?_; refine KJ_call xE cs xP rfl (fun _ => ?_))
    | refine xst ?_
    | (refine xsa ?_; intro _)
    | (refine xsb ?_ ?_ <;> intro _ <;> first | (exfalso; omega) | skip)
    | refine xsc ?_
    | (refine KJ_draws (id := 10) (.op 0 (.op 1 (.op 2 (.op 3 (.op 4 (.op 5 (.op 6 (.op 7 (.op 8 (.ef 9 [] (.op 10 .nil))))))))))) (by kernel_rfl) (by kernel_rfl) ?_)
    | (refine KJ_draws (id := 12) (.op 0 (.op 1 (.op 2 (.op 3 (.op 4 (.op 5 (.op 6 (.op 7 (.ef 8 [] (.ef 9 [] .nil)))))))))) (by kernel_rfl) (by kernel_rfl) ?_)
    | refine FW_alt ?_ ?_
    | refine FW_efn rfl rfl rfl rfl rfl ?_ ?_
    | refine KJ_flow ?_ ?_
    | exact Rech.nil
    | fail)
  all_goals (exact xdn ())

set_option maxHeartbeats 2000000 in
theorem nadd_1in {g c h y w0 w1 : Nat} {t : List Nat} (hl : (w0 :: w1 :: t).length ≤ c) (hc : c ≤ 1000) : Ct Tryz.prog W 79 [.slice (some ⟨g, 0, none⟩) 1 c, .slice (some ⟨g, 0, none⟩) 1 c, .slice (some ⟨h, 0, none⟩) 1 1] [cellsP g ((w0 :: w1 :: t).map wv) 127, cellsP h [wv y] 127] (fun _ : Unit => .slice (some ⟨g, 0, none⟩) (nrm (((w0 + y + 0) % 18446744073709551616) :: ((w0 + y + 0) / 18446744073709551616) :: t) 2) c) (fun _ : Unit => [cellsP g ((((w0 + y + 0) % 18446744073709551616) :: ((w0 + y + 0) / 18446744073709551616) :: t).map wv) 127, cellsP h [wv y] 127]) := by
  have hc2 : 2 ≤ c := by simp only [List.length_cons] at hl; omega
  have cm := nmake_in (W := W) (g := g) (m := 1) 2 hc2
  have cv := addVV_in (W := W) (g := g) (h := h) (c1 := c) (c2 := c) (c3 := 1) (a := w0) (y := y) (t := wv w1 :: t.map wv)
  obtain ⟨lo, hlo⟩ : ∃ lo, lo = ((w0 + y + 0) % 18446744073709551616) := ⟨_, rfl⟩
  obtain ⟨hi, hhi⟩ : ∃ hi, hi = ((w0 + y + 0) / 18446744073709551616) := ⟨_, rfl⟩
  rw [← hlo, ← hhi] at cv
  rw [← hlo, ← hhi]
  have cn := nnorm_ct (W := W) (g := g) (c := c) (k := 2) (lo :: hi :: t) (by simp) (by simpa using hl) (by omega) hc
  clear hlo hhi
  refine Ct.enter Tryz.func79 rfl Tryz.ntmps79 (by simp) (fun R => ?_)
  repeat' (first 
    | (refine is_call ?_; first | (refine KJ_call xE cn xP rfl (fun _ => ?_)) | (refine KJ_callT xE cv xP rfl (fun _ => ?_)) | (refine KJ_call xE cm xP rfl (fun _ => ?_)))
    | (refine ek_slice ?_; refine EK_ev (Ev_sliceToG rfl rfl (by omega)) ?_)
    | refine xst ?_
    | (refine xsa ?_; intro _)
    | (refine xsb ?_ ?_ <;> intro _ <;> first | (exfalso; omega) | skip)
    | refine xsc ?_
    | (refine KJ_draws (id := 10) (.op 0 (.op 1 (.op 2 (.op 3 (.op 4 (.op 5 (.op 6 (.op 7 (.op 8 (.ef 9 [] (.op 10 .nil))))))))))) (by kernel_rfl) (by kernel_rfl) ?_)
    | (refine KJ_draws (id := 12) (.op 0 (.op 1 (.op 2 (.op 3 (.op 4 (.op 5 (.op 6 (.op 7 (.ef 8 [] (.ef 9 [] .nil)))))))))) (by kernel_rfl) (by kernel_rfl) ?_)
    | refine FW_alt ?_ ?_
    | refine FW_efn rfl rfl rfl rfl rfl ?_ ?_
    | refine KJ_flow ?_ ?_
    | exact Rech.nil
    | fail)
  all_goals (exact xdn ())

set_option maxHeartbeats 2000000 in
theorem nadd_1new {g h y w0 : Nat}  : Ct Tryz.prog W 79 [.slice (some ⟨g, 0, none⟩) 1 1, .slice (some ⟨g, 0, none⟩) 1 1, .slice (some ⟨h, 0, none⟩) 1 1] [cellsP g (([w0]).map wv) 127, cellsP h [wv y] 127] (fun k : Nat => .slice (some ⟨k, 0, none⟩) (nrm [((w0 + y + 0) % 18446744073709551616), ((w0 + y + 0) / 18446744073709551616), 0, 0, 0, 0] 2) 6) (fun k : Nat => [cellsP k (([((w0 + y + 0) % 18446744073709551616), ((w0 + y + 0) / 18446744073709551616), 0, 0, 0, 0]).map wv) 127, cellsP h [wv y] 127]) := by
  have cm := nmake_new (W := W) (g := g) (m := 1)
  have cv := fun k => addVV_new (W := W) (g := g) (h := h) (k := k) (c1 := 6) (c2 := 1) (c3 := 1) (a := w0) (y := y) (z := wv 0) (s := [wv 0, wv 0, wv 0, wv 0, wv 0]) (t := [])
  obtain ⟨lo, hlo⟩ : ∃ lo, lo = ((w0 + y + 0) % 18446744073709551616) := ⟨_, rfl⟩
  obtain ⟨hi, hhi⟩ : ∃ hi, hi = ((w0 + y + 0) / 18446744073709551616) := ⟨_, rfl⟩
  rw [← hlo, ← hhi] at cv
  rw [← hlo, ← hhi]
  have cn := fun k => nnorm_ct (W := W) (g := k) (c := 6) (k := 2) [lo, hi, 0, 0, 0, 0] (by simp) (by simp) (by omega) (by omega)
  clear hlo hhi
  refine Ct.enter Tryz.func79 rfl Tryz.ntmps79 (by simp) (fun R => ?_)
  repeat' (first 
    | (refine is_call ?_; first | (refine KJ_call xE (cn _) xP rfl (fun _ => ?_)) | (refine KJ_callT xE (cv _) xP rfl (fun _ => ?_)) | (refine KJ_call xE cm xP rfl (fun k => ?_)))
    | (refine ek_slice ?_; refine EK_ev (Ev_sliceToG rfl rfl (by omega)) ?_)
    | refine xst ?_
    | (refine xsa ?_; intro _)
    | (refine xsb ?_ ?_ <;> intro _ <;> first | (exfalso; omega) | skip)
    | refine xsc ?_
    | (refine KJ_draws (id := 10) (.op 0 (.op 1 (.op 2 (.op 3 (.op 4 (.op 5 (.op 6 (.op 7 (.op 8 (.ef 9 [] (.op 10 .nil))))))))))) (by kernel_rfl) (by kernel_rfl) ?_)
    | (refine KJ_draws (id := 12) (.op 0 (.op 1 (.op 2 (.op 3 (.op 4 (.op 5 (.op 6 (.op 7 (.ef 8 [] (.ef 9 [] .nil)))))))))) (by kernel_rfl) (by kernel_rfl) ?_)
    | refine FW_alt ?_ ?_
    | refine FW_efn rfl rfl rfl rfl rfl ?_ ?_
    | refine KJ_flow ?_ ?_
    | exact Rech.nil
    | fail)
  all_goals (exact xdn k)

set_option maxHeartbeats 2000000 in
theorem nadd_2in {g c h y w0 w1 w2 : Nat} {t : List Nat} (hl : (w0 :: w1 :: w2 :: t).length ≤ c) (hc : c ≤ 1000) (hq : (w1 + ((w0 + y + 0) / 18446744073709551616) + 0) / 18446744073709551616 = 0) : Ct Tryz.prog W 79 [.slice (some ⟨g, 0, none⟩) 2 c, .slice (some ⟨g, 0, none⟩) 2 c, .slice (some ⟨h, 0, none⟩) 1 1] [cellsP g ((w0 :: w1 :: w2 :: t).map wv) 127, cellsP h [wv y] 127] (fun _ : Unit => .slice (some ⟨g, 0, none⟩) (nrm (((w0 + y + 0) % 18446744073709551616) :: ((w1 + ((w0 + y + 0) / 18446744073709551616) + 0) % 18446744073709551616) :: 0 :: t) 3) c) (fun _ : Unit => [cellsP g ((((w0 + y + 0) % 18446744073709551616) :: ((w1 + ((w0 + y + 0) / 18446744073709551616) + 0) % 18446744073709551616) :: 0 :: t).map wv) 127, cellsP h [wv y] 127]) := by
  have hc2 : 3 ≤ c := by simp only [List.length_cons] at hl; omega
  have cm := nmake_in (W := W) (g := g) (m := 2) 3 hc2
  have cv := addVV_in (W := W) (g := g) (h := h) (c1 := c) (c2 := c) (c3 := 1) (a := w0) (y := y) (t := wv w1 :: wv w2 :: t.map wv)
  obtain ⟨lo, hlo⟩ : ∃ lo, lo = ((w0 + y + 0) % 18446744073709551616) := ⟨_, rfl⟩
  obtain ⟨hi, hhi⟩ : ∃ hi, hi = ((w0 + y + 0) / 18446744073709551616) := ⟨_, rfl⟩
  rw [← hlo, ← hhi] at cv
  rw [← hlo, ← hhi]
  rw [← hhi] at hq
  have cw := addVW_in (W := W) (g := g) (c1 := c - 1) (c2 := c - 1) (a := w1) (b := hi) (w0 := wv lo) (t := wv w2 :: t.map wv) hq (by omega) (by omega)
  obtain ⟨x1, hx1⟩ : ∃ x1, x1 = (w1 + hi + 0) % 18446744073709551616 := ⟨_, rfl⟩
  rw [← hx1] at cw
  rw [← hx1]
  have cn := nnorm_ct (W := W) (g := g) (c := c) (k := 3) (lo :: x1 :: 0 :: t) (by simp) (by simpa using hl) (by omega) hc
  clear hlo hhi hx1 hq
  refine Ct.enter Tryz.func79 rfl Tryz.ntmps79 (by simp) (fun R => ?_)
  repeat' (first 
    | (refine is_call ?_; first | (refine KJ_call xE cn xP rfl (fun _ => ?_)) | (refine KJ_call xE cw xP rfl (fun _ => ?_)) | (refine KJ_callT xE cv xP rfl (fun _ => ?_)) | (refine KJ_call xE cm xP rfl (fun _ => ?_)))
    | (refine ek_slice ?_; first | refine EK_ev (Ev_slice1f rfl rfl (by omega)) ?_ | refine EK_ev (Ev_slice12 rfl rfl rfl (by omega)) ?_ | refine EK_ev (Ev_sliceToG rfl rfl (by omega)) ?_)
    | refine xst ?_
    | (refine xsa ?_; intro _)
    | (refine xsb ?_ ?_ <;> intro _ <;> first | (exfalso; omega) | skip)
    | refine xsc ?_
    | (refine KJ_draws (id := 10) (.op 0 (.op 1 (.op 2 (.op 3 (.op 4 (.op 5 (.op 6 (.op 7 (.op 8 (.ef 9 [] (.op 10 .nil))))))))))) (by kernel_rfl) (by kernel_rfl) ?_)
    | (refine KJ_draws (id := 12) (.op 0 (.op 1 (.op 2 (.op 3 (.op 4 (.op 5 (.op 6 (.op 7 (.ef 8 [] (.ef 9 [] .nil)))))))))) (by kernel_rfl) (by kernel_rfl) ?_)
    | refine FW_alt ?_ ?_
    | refine FW_efn rfl rfl rfl rfl rfl ?_ ?_
    | refine KJ_flow ?_ ?_
    | exact Rech.nil
    | fail)
  all_goals (exact xdn ())

set_option maxHeartbeats 2000000 in
theorem nsub_ge {g c h y w0 : Nat} {t : List Nat} (hl : (w0 :: t).length ≤ c) (hc : c ≤ 1000) (hy : y ≤ w0) : Ct Tryz.prog W 81 [.slice (some ⟨g, 0, none⟩) 1 c, .slice (some ⟨g, 0, none⟩) 1 c, .slice (some ⟨h, 0, none⟩) 1 1] [cellsP g ((w0 :: t).map wv) 127, cellsP h [wv y] 127] (fun _ : Unit => .slice (some ⟨g, 0, none⟩) (nrm (((w0 + 18446744073709551616 - y - 0) % 18446744073709551616) :: t) 1) c) (fun _ : Unit => [cellsP g ((((w0 + 18446744073709551616 - y - 0) % 18446744073709551616) :: t).map wv) 127, cellsP h [wv y] 127]) := by
  have hc2 : 1 ≤ c := by simp only [List.length_cons] at hl; omega
  have cm := nmake_in (W := W) (g := g) (m := 1) 1 hc2
  have cv := subVV_in (W := W) (g := g) (h := h) (c1 := c) (c2 := c) (c3 := 1) (a := w0) (y := y) (t := t.map wv)
  rw [if_neg (show ¬ w0 < y + 0 by omega)] at cv
  obtain ⟨lo, hlo⟩ : ∃ lo, lo = ((w0 + 18446744073709551616 - y - 0) % 18446744073709551616) := ⟨_, rfl⟩
  rw [← hlo] at cv
  rw [← hlo]
  have cn := nnorm_ct (W := W) (g := g) (c := c) (k := 1) (lo :: t) (by simp) (by simpa using hl) (by omega) hc
  clear hlo
  refine Ct.enter Tryz.func81 rfl Tryz.ntmps81 (by simp) (fun R => ?_)
  repeat' (first 
    | (refine is_call ?_; first | (refine KJ_call xE cn xP rfl (fun _ => ?_)) | (refine KJ_callT xE cv xP rfl (fun _ => ?_)) | (refine KJ_call xE cm xP rfl (fun _ => ?_)))
    | (refine ek_slice ?_; refine EK_ev (Ev_sliceToG rfl rfl (by omega)) ?_)
    | refine xst ?_
    | (refine xsa ?_; intro _)
    | (refine xsb ?_ ?_ <;> intro _ <;> first | (exfalso; omega) | skip)
    | refine xsc ?_
    | (refine KJ_draws (id := 10) (.op 0 (.op 1 (.op 2 (.op 3 (.op 4 (.op 5 (.op 6 (.op 7 (.op 8 (.ef 9 [] (.op 10 .nil))))))))))) (by kernel_rfl) (by kernel_rfl) ?_)
    | (refine KJ_draws (id := 12) (.op 0 (.op 1 (.op 2 (.op 3 (.op 4 (.op 5 (.op 6 (.ef 7 [] (.ef 8 [] .nil))))))))) (by kernel_rfl) (by kernel_rfl) ?_)
    | refine FW_alt ?_ ?_
    | refine FW_efn rfl rfl rfl rfl rfl ?_ ?_
    | refine KJ_flow ?_ ?_
    | exact Rech.nil
    | fail)
  all_goals (exact xdn ())

set_option maxHeartbeats 2000000 in
theorem nsub_lt {g c h y w0 : Nat} {t : List Nat} (hl : (w0 :: t).length ≤ c) (hc : c ≤ 1000) (hy : w0 ≤ y) : Ct Tryz.prog W 81 [.slice (some ⟨g, 0, none⟩) 1 c, .slice (some ⟨h, 0, none⟩) 1 1, .slice (some ⟨g, 0, none⟩) 1 c] [cellsP g ((w0 :: t).map wv) 127, cellsP h [wv y] 127] (fun _ : Unit => .slice (some ⟨g, 0, none⟩) (nrm (((y + 18446744073709551616 - w0 - 0) % 18446744073709551616) :: t) 1) c) (fun _ : Unit => [cellsP g ((((y + 18446744073709551616 - w0 - 0) % 18446744073709551616) :: t).map wv) 127, cellsP h [wv y] 127]) := by
  have hc2 : 1 ≤ c := by simp only [List.length_cons] at hl; omega
  have cm := nmake_in (W := W) (g := g) (m := 1) 1 hc2
  have cv := subVV_rev (W := W) (g := g) (h := h) (c1 := c) (c2 := c) (c3 := 1) (a := w0) (y := y) (t := t.map wv)
  rw [if_neg (show ¬ y < w0 + 0 by omega)] at cv
  obtain ⟨lo, hlo⟩ : ∃ lo, lo = ((y + 18446744073709551616 - w0 - 0) % 18446744073709551616) := ⟨_, rfl⟩
  rw [← hlo] at cv
  rw [← hlo]
  have cn := nnorm_ct (W := W) (g := g) (c := c) (k := 1) (lo :: t) (by simp) (by simpa using hl) (by omega) hc
  clear hlo
  refine Ct.enter Tryz.func81 rfl Tryz.ntmps81 (by simp) (fun R => ?_)
  repeat' (first 
    | (refine is_call ?_; first | (refine KJ_call xE cn xP rfl (fun _ => ?_)) | (refine KJ_callT xE cv xP rfl (fun _ => ?_)) | (refine KJ_call xE cm xP rfl (fun _ => ?_)))
    | (refine ek_slice ?_; refine EK_ev (Ev_sliceToG rfl rfl (by omega)) ?_)
    | refine xst ?_
    | (refine xsa ?_; intro _)
    | (refine xsb ?_ ?_ <;> intro _ <;> first | (exfalso; omega) | skip)
    | refine xsc ?_
    | (refine KJ_draws (id := 10) (.op 0 (.op 1 (.op 2 (.op 3 (.op 4 (.op 5 (.op 6 (.op 7 (.op 8 (.ef 9 [] (.op 10 .nil))))))))))) (by kernel_rfl) (by kernel_rfl) ?_)
    | (refine KJ_draws (id := 12) (.op 0 (.op 1 (.op 2 (.op 3 (.op 4 (.op 5 (.op 6 (.ef 7 [] (.ef 8 [] .nil))))))))) (by kernel_rfl) (by kernel_rfl) ?_)
    | refine FW_alt ?_ ?_
    | refine FW_efn rfl rfl rfl rfl rfl ?_ ?_
    | refine KJ_flow ?_ ?_
    | exact Rech.nil
    | fail)
  all_goals (exact xdn ())

set_option maxHeartbeats 2000000 in
theorem nsub_2 {g c h y w0 w1 : Nat} {t : List Nat} (hl : (w0 :: w1 :: t).length ≤ c) (hc : c ≤ 1000) (hw : w1 ≠ 0) : Ct Tryz.prog W 81 [.slice (some ⟨g, 0, none⟩) 2 c, .slice (some ⟨g, 0, none⟩) 2 c, .slice (some ⟨h, 0, none⟩) 1 1] [cellsP g ((w0 :: w1 :: t).map wv) 127, cellsP h [wv y] 127] (fun _ : Unit => .slice (some ⟨g, 0, none⟩) (nrm (((w0 + 18446744073709551616 - y - 0) % 18446744073709551616) :: ((w1 + 18446744073709551616 - (if w0 < y + 0 then 1 else 0) - 0) % 18446744073709551616) :: t) 2) c) (fun _ : Unit => [cellsP g ((((w0 + 18446744073709551616 - y - 0) % 18446744073709551616) :: ((w1 + 18446744073709551616 - (if w0 < y + 0 then 1 else 0) - 0) % 18446744073709551616) :: t).map wv) 127, cellsP h [wv y] 127]) := by
  have hc2 : 2 ≤ c := by simp only [List.length_cons] at hl; omega
  have cm := nmake_in (W := W) (g := g) (m := 2) 2 hc2
  have cv := subVV_in (W := W) (g := g) (h := h) (c1 := c) (c2 := c) (c3 := 1) (a := w0) (y := y) (t := wv w1 :: t.map wv)
  obtain ⟨b, hb⟩ : ∃ b, b = (if w0 < y + 0 then 1 else 0) := ⟨_, rfl⟩
  have hb1 : b ≤ 1 := by rw [hb]; split <;> omega
  rw [← hb] at cv
  rw [← hb]
  have cw := subVW_in (W := W) (g := g) (c1 := c - 1) (c2 := c - 1) (a := w1) (b := b) (w0 := wv ((w0 + 18446744073709551616 - y - 0) % 18446744073709551616)) (t := t.map wv) (if_neg (by omega)) (by omega) (by omega)
  obtain ⟨lo, hlo⟩ : ∃ lo, lo = ((w0 + 18446744073709551616 - y - 0) % 18446744073709551616) := ⟨_, rfl⟩
  rw [← hlo] at cv cw
  rw [← hlo]
  obtain ⟨x1, hx1⟩ : ∃ x1, x1 = (w1 + 18446744073709551616 - b - 0) % 18446744073709551616 := ⟨_, rfl⟩
  rw [← hx1] at cw
  rw [← hx1]
  have cn := nnorm_ct (W := W) (g := g) (c := c) (k := 2) (lo :: x1 :: t) (by simp) (by simpa using hl) (by omega) hc
  clear hlo hb hx1
  refine Ct.enter Tryz.func81 rfl Tryz.ntmps81 (by simp) (fun R => ?_)
  repeat' (first 
    | (refine is_call ?_; first | (refine KJ_call xE cn xP rfl (fun _ => ?_)) | (refine KJ_call xE cw xP rfl (fun _ => ?_)) | (refine KJ_callT xE cv xP rfl (fun _ => ?_)) | (refine KJ_call xE cm xP rfl (fun _ => ?_)))
    | (refine ek_slice ?_; first | refine EK_ev (Ev_slice1f rfl rfl (by omega)) ?_ | refine EK_ev (Ev_sliceToG rfl rfl (by omega)) ?_)
    | refine xst ?_
    | (refine xsa ?_; intro _)
    | (refine xsb ?_ ?_ <;> intro _ <;> first | (exfalso; omega) | skip)
    | refine xsc ?_
    | (refine KJ_draws (id := 10) (.op 0 (.op 1 (.op 2 (.op 3 (.op 4 (.op 5 (.op 6 (.op 7 (.op 8 (.ef 9 [] (.op 10 .nil))))))))))) (by kernel_rfl) (by kernel_rfl) ?_)
    | (refine KJ_draws (id := 12) (.op 0 (.op 1 (.op 2 (.op 3 (.op 4 (.op 5 (.op 6 (.ef 7 [] (.ef 8 [] .nil))))))))) (by kernel_rfl) (by kernel_rfl) ?_)
    | refine FW_alt ?_ ?_
    | refine FW_efn rfl rfl rfl rfl rfl ?_ ?_
    | refine KJ_flow ?_ ?_
    | exact Rech.nil
    | fail)
  all_goals (exact xdn ())

set_option maxHeartbeats 1000000 in
theorem ncmp_0 {h c y : Nat} {o : Option Addr} : Ct Tryz.prog W 80 [.slice o 0 c, .slice (some ⟨h, 0, none⟩) 1 1] [cellsP h [wv y] 127] (fun _ : Unit => .int .i64 (-1)) (fun _ : Unit => [cellsP h [wv y] 127]) := by
  refine Ct.enter Tryz.func80 rfl Tryz.ntmps80 (by simp) (fun R => ?_)
  repeat' (first 
    | refine xst ?_
    | (refine xsa ?_; intro _)
    | (refine xsb ?_ ?_ <;> intro _ <;> first | (exfalso; omega) | skip)
    | refine xsc ?_
    | (refine KJ_draws (id := 9) (.op 0 (.op 1 (.op 2 (.op 3 (.op 4 (.op 5 (.op 6 (.op 7 (.op 8 (.op 9 (.op 10 (.op 11 (.op 12 .nil))))))))))))) (by kernel_rfl) (by kernel_rfl) ?_)
    | (refine KJ_draws (id := 11) (.op 0 (.op 1 (.op 2 (.op 3 (.op 4 (.op 5 (.op 6 (.op 7 (.op 8 (.op 9 .nil)))))))))) (by kernel_rfl) (by kernel_rfl) ?_)
    | (refine KJ_draws (id := 13) (.op 0 (.op 1 (.op 2 (.op 3 (.op 4 (.op 5 (.op 6 (.op 7 (.op 8 (.op 9 .nil)))))))))) (by kernel_rfl) (by kernel_rfl) ?_)
    | refine FW_alt ?_ ?_
    | refine FW_efn rfl rfl rfl rfl rfl ?_ ?_
    | refine KJ_flow ?_ ?_
    | exact Rech.nil
    | fail)
  all_goals (exact xdn ())

set_option maxHeartbeats 1000000 in
theorem ncmp_2 {h c y : Nat} {o : Option Addr} : Ct Tryz.prog W 80 [.slice o 2 c, .slice (some ⟨h, 0, none⟩) 1 1] [cellsP h [wv y] 127] (fun _ : Unit => .int .i64 1) (fun _ : Unit => [cellsP h [wv y] 127]) := by
  refine Ct.enter Tryz.func80 rfl Tryz.ntmps80 (by simp) (fun R => ?_)
  repeat' (first 
    | refine xst ?_
    | (refine xsa ?_; intro _)
    | (refine xsb ?_ ?_ <;> intro _ <;> first | (exfalso; omega) | skip)
    | refine xsc ?_
    | (refine KJ_draws (id := 9) (.op 0 (.op 1 (.op 2 (.op 3 (.op 4 (.op 5 (.op 6 (.op 7 (.op 8 (.op 9 (.op 10 (.op 11 (.op 12 .nil))))))))))))) (by kernel_rfl) (by kernel_rfl) ?_)
    | (refine KJ_draws (id := 11) (.op 0 (.op 1 (.op 2 (.op 3 (.op 4 (.op 5 (.op 6 (.op 7 (.op 8 (.op 9 .nil)))))))))) (by kernel_rfl) (by kernel_rfl) ?_)
    | (refine KJ_draws (id := 13) (.op 0 (.op 1 (.op 2 (.op 3 (.op 4 (.op 5 (.op 6 (.op 7 (.op 8 (.op 9 .nil)))))))))) (by kernel_rfl) (by kernel_rfl) ?_)
    | refine FW_alt ?_ ?_
    | refine FW_efn rfl rfl rfl rfl rfl ?_ ?_
    | refine KJ_flow ?_ ?_
    | exact Rech.nil
    | fail)
  all_goals (exact xdn ())

set_option maxHeartbeats 2000000 in
theorem ncmp_1 {g c h a y : Nat} {t : List Value} (r : Int) (hr : r = if a < y then -1 else if y < a then 1 else 0) : Ct Tryz.prog W 80 [.slice (some ⟨g, 0, none⟩) 1 c, .slice (some ⟨h, 0, none⟩) 1 1] [cellsP g (wv a :: t) 127, cellsP h [wv y] 127] (fun _ : Unit => .int .i64 r) (fun _ => [cellsP g (wv a :: t) 127, cellsP h [wv y] 127]) := by
  cases q1 : decide (((a : Nat) : Int) < ((y : Nat) : Int)) with
  | true =>
    have e : a < y := by have := of_decide_eq_true q1; omega
    rw [if_pos e] at hr
    subst hr
    refine Ct.enter Tryz.func80 rfl Tryz.ntmps80 (by simp) (fun R => ?_)
    repeat' (first 
    | refine xst ?_
    | (refine xsa ?_; intro _)
    | (refine xsb ?_ ?_ <;> intro _ <;> first | (exfalso; omega) | skip)
    | refine xsc ?_
    | (refine KJ_draws (id := 9) (.op 0 (.op 1 (.op 2 (.op 3 (.op 4 (.op 5 (.op 6 (.op 7 (.op 8 (.op 9 (.op 10 (.op 11 (.op 12 .nil))))))))))))) (by kernel_rfl) (by kernel_rfl) ?_)
    | (refine KJ_draws (id := 11) (.op 0 (.op 1 (.op 2 (.op 3 (.op 4 (.op 5 (.op 6 (.op 7 (.op 8 (.op 9 .nil)))))))))) (by kernel_rfl) (by kernel_rfl) ?_)
    | (refine KJ_draws (id := 13) (.op 0 (.op 1 (.op 2 (.op 3 (.op 4 (.op 5 (.op 6 (.op 7 (.op 8 (.op 9 .nil)))))))))) (by kernel_rfl) (by kernel_rfl) ?_)
    | refine FW_alt ?_ ?_
    | refine FW_efn rfl rfl rfl rfl rfl ?_ ?_
    | refine KJ_flow ?_ ?_
    | exact Rech.nil
    | fail)
    refine KJ_loop (fun _ : Unit => [(0, .slice (some ⟨g, 0, none⟩) 1 c), (1, .slice (some ⟨h, 0, none⟩) 1 1), (7, .int .i64 0)]) (fun _ => [cellsP g (wv a :: t) 127, cellsP h [wv y] 127] ++ R) (fun _ => 0) () xB (xN) (fun _ => ?_)
    repeat' (first 
    | (refine ek_lss ?_; refine EK_ev (Ev_lssI_q rfl rfl q1) ?_)
    | refine xst ?_
    | (refine xsa ?_; intro _)
    | (refine xsb ?_ ?_ <;> intro _ <;> first | (exfalso; omega) | skip)
    | refine xsc ?_
    | (refine KJ_draws (id := 9) (.op 0 (.op 1 (.op 2 (.op 3 (.op 4 (.op 5 (.op 6 (.op 7 (.op 8 (.op 9 (.op 10 (.op 11 (.op 12 .nil))))))))))))) (by kernel_rfl) (by kernel_rfl) ?_)
    | (refine KJ_draws (id := 11) (.op 0 (.op 1 (.op 2 (.op 3 (.op 4 (.op 5 (.op 6 (.op 7 (.op 8 (.op 9 .nil)))))))))) (by kernel_rfl) (by kernel_rfl) ?_)
    | (refine KJ_draws (id := 13) (.op 0 (.op 1 (.op 2 (.op 3 (.op 4 (.op 5 (.op 6 (.op 7 (.op 8 (.op 9 .nil)))))))))) (by kernel_rfl) (by kernel_rfl) ?_)
    | refine FW_alt ?_ ?_
    | refine FW_efn rfl rfl rfl rfl rfl ?_ ?_
    | refine KJ_flow ?_ ?_
    | exact Rech.nil
    | fail)
    all_goals (exact xdn ())
  | false =>
    have e : ¬ a < y := by have := of_decide_eq_false q1; omega
    rw [if_neg e] at hr
    cases q2 : decide (((y : Nat) : Int) < ((a : Nat) : Int)) with
    | true =>
      have e2 : y < a := by have := of_decide_eq_true q2; omega
      rw [if_pos e2] at hr
      subst hr
      refine Ct.enter Tryz.func80 rfl Tryz.ntmps80 (by simp) (fun R => ?_)
      repeat' (first 
    | refine xst ?_
    | (refine xsa ?_; intro _)
    | (refine xsb ?_ ?_ <;> intro _ <;> first | (exfalso; omega) | skip)
    | refine xsc ?_
    | (refine KJ_draws (id := 9) (.op 0 (.op 1 (.op 2 (.op 3 (.op 4 (.op 5 (.op 6 (.op 7 (.op 8 (.op 9 (.op 10 (.op 11 (.op 12 .nil))))))))))))) (by kernel_rfl) (by kernel_rfl) ?_)
    | (refine KJ_draws (id := 11) (.op 0 (.op 1 (.op 2 (.op 3 (.op 4 (.op 5 (.op 6 (.op 7 (.op 8 (.op 9 .nil)))))))))) (by kernel_rfl) (by kernel_rfl) ?_)
    | (refine KJ_draws (id := 13) (.op 0 (.op 1 (.op 2 (.op 3 (.op 4 (.op 5 (.op 6 (.op 7 (.op 8 (.op 9 .nil)))))))))) (by kernel_rfl) (by kernel_rfl) ?_)
    | refine FW_alt ?_ ?_
    | refine FW_efn rfl rfl rfl rfl rfl ?_ ?_
    | refine KJ_flow ?_ ?_
    | exact Rech.nil
    | fail)
      refine KJ_loop (fun _ : Unit => [(0, .slice (some ⟨g, 0, none⟩) 1 c), (1, .slice (some ⟨h, 0, none⟩) 1 1), (4, .int .i64 0), (7, .int .i64 0)]) (fun _ => [cellsP g (wv a :: t) 127, cellsP h [wv y] 127] ++ R) (fun _ => 0) () xB (xN) (fun _ => ?_)
      repeat' (first 
    | (refine ek_lss ?_; refine EK_ev (Ev_lssI_q rfl rfl q1) ?_)
    | (refine ek_gtr ?_; refine EK_ev (Ev_gtrI_q rfl rfl q2) ?_)
    | refine xst ?_
    | (refine xsa ?_; intro _)
    | (refine xsb ?_ ?_ <;> intro _ <;> first | (exfalso; omega) | skip)
    | refine xsc ?_
    | (refine KJ_draws (id := 9) (.op 0 (.op 1 (.op 2 (.op 3 (.op 4 (.op 5 (.op 6 (.op 7 (.op 8 (.op 9 (.op 10 (.op 11 (.op 12 .nil))))))))))))) (by kernel_rfl) (by kernel_rfl) ?_)
    | (refine KJ_draws (id := 11) (.op 0 (.op 1 (.op 2 (.op 3 (.op 4 (.op 5 (.op 6 (.op 7 (.op 8 (.op 9 .nil)))))))))) (by kernel_rfl) (by kernel_rfl) ?_)
    | (refine KJ_draws (id := 13) (.op 0 (.op 1 (.op 2 (.op 3 (.op 4 (.op 5 (.op 6 (.op 7 (.op 8 (.op 9 .nil)))))))))) (by kernel_rfl) (by kernel_rfl) ?_)
    | refine FW_alt ?_ ?_
    | refine FW_efn rfl rfl rfl rfl rfl ?_ ?_
    | refine KJ_flow ?_ ?_
    | exact Rech.nil
    | fail)
      all_goals (exact xdn ())
    | false =>
      have e2 : ¬ y < a := by have := of_decide_eq_false q2; omega
      rw [if_neg e2] at hr
      subst hr
      refine Ct.enter Tryz.func80 rfl Tryz.ntmps80 (by simp) (fun R => ?_)
      repeat' (first 
    | refine xst ?_
    | (refine xsa ?_; intro _)
    | (refine xsb ?_ ?_ <;> intro _ <;> first | (exfalso; omega) | skip)
    | refine xsc ?_
    | (refine KJ_draws (id := 9) (.op 0 (.op 1 (.op 2 (.op 3 (.op 4 (.op 5 (.op 6 (.op 7 (.op 8 (.op 9 (.op 10 (.op 11 (.op 12 .nil))))))))))))) (by kernel_rfl) (by kernel_rfl) ?_)
    | (refine KJ_draws (id := 11) (.op 0 (.op 1 (.op 2 (.op 3 (.op 4 (.op 5 (.op 6 (.op 7 (.op 8 (.op 9 .nil)))))))))) (by kernel_rfl) (by kernel_rfl) ?_)
    | (refine KJ_draws (id := 13) (.op 0 (.op 1 (.op 2 (.op 3 (.op 4 (.op 5 (.op 6 (.op 7 (.op 8 (.op 9 .nil)))))))))) (by kernel_rfl) (by kernel_rfl) ?_)
    | refine FW_alt ?_ ?_
    | refine FW_efn rfl rfl rfl rfl rfl ?_ ?_
    | refine KJ_flow ?_ ?_
    | exact Rech.nil
    | fail)
      refine KJ_loop (fun _ : Unit => [(0, .slice (some ⟨g, 0, none⟩) 1 c), (1, .slice (some ⟨h, 0, none⟩) 1 1), (4, .int .i64 0), (7, .int .i64 0)]) (fun _ => [cellsP g (wv a :: t) 127, cellsP h [wv y] 127] ++ R) (fun _ => 0) () xB (xN) (fun _ => ?_)
      repeat' (first 
    | (refine ek_lss ?_; refine EK_ev (Ev_lssI_q rfl rfl q1) ?_)
    | (refine ek_gtr ?_; refine EK_ev (Ev_gtrI_q rfl rfl q2) ?_)
    | refine xst ?_
    | (refine xsa ?_; intro _)
    | (refine xsb ?_ ?_ <;> intro _ <;> first | (exfalso; omega) | skip)
    | refine xsc ?_
    | (refine KJ_draws (id := 9) (.op 0 (.op 1 (.op 2 (.op 3 (.op 4 (.op 5 (.op 6 (.op 7 (.op 8 (.op 9 (.op 10 (.op 11 (.op 12 .nil))))))))))))) (by kernel_rfl) (by kernel_rfl) ?_)
    | (refine KJ_draws (id := 11) (.op 0 (.op 1 (.op 2 (.op 3 (.op 4 (.op 5 (.op 6 (.op 7 (.op 8 (.op 9 .nil)))))))))) (by kernel_rfl) (by kernel_rfl) ?_)
    | (refine KJ_draws (id := 13) (.op 0 (.op 1 (.op 2 (.op 3 (.op 4 (.op 5 (.op 6 (.op 7 (.op 8 (.op 9 .nil)))))))))) (by kernel_rfl) (by kernel_rfl) ?_)
    | refine FW_alt ?_ ?_
    | refine FW_efn rfl rfl rfl rfl rfl ?_ ?_
    | refine KJ_flow ?_ ?_
    | exact Rech.nil
    | fail)
      all_goals (exact xdn ())

end
end Go.Proofs.YtdbfemdpdpaffaaGreatDoor
/-
  math/big: Int.Add over any answers of the words' functions; NewInt; Sign.
-/
namespace Go.Proofs.YtdbfemdpdpaffaaGreatDoor
open Go Go.RowKit
theorem Ev_neg_v {P : Program} {W : World} {n : Nat} {E : Env} {H : List SP} {t : TypeId} {x : Operand} {k : IntKind} {i r : Int} (hx : Env.ev E x = some (.int k i)) (h : k.wrap (0 - i) = r) : Ev P W n E H (.unOp .neg t x) (.int k r) := by subst h; exact Ev_neg hx
section
variable {W : World} {X : Type} {p q h : Nat} {s : Bool} {oz oy : Option Addr} {nz cz ny cy : Nat} {NA NY : SP} {NA' : X → SP} {ro : X → Option Addr} {rn rc : X → Nat}
set_option maxHeartbeats 2000000 in
theorem iadd_same (ng : X → Bool) (h0 : ∀ x, rn x = 0 → ng x = false) (h1 : ∀ x, rn x ≠ 0 → ng x = s)
    (ca : Ct Tryz.prog W 79 [.slice oz nz cz, .slice oz nz cz, .slice oy ny cy] [NA, NY] (fun x : X => .slice (ro x) (rn x) (rc x)) (fun x => [NA' x, NY])) :
    Ct Tryz.prog W 45 [.pointer (some ⟨p, 0, none⟩), .pointer (some ⟨p, 0, none⟩), .pointer (some ⟨q, 0, none⟩)] [cellsP p [.bool s, .slice oz nz cz] 83, NA, cellsP q [.bool s, .slice oy ny cy] 83, NY] (fun _ : X => .pointer (some ⟨p, 0, none⟩))
      (fun x => [cellsP p [.bool (ng x), .slice (ro x) (rn x) (rc x)] 83, NA' x, cellsP q [.bool s, .slice oy ny cy] 83, NY]) := by
  cases s
  all_goals refine Ct.enter Tryz.func45 rfl Tryz.ntmps45 (by simp) (fun R => ?_)
  all_goals repeat' (first 
    | (refine is_call ?_; refine KJ_call xE ca xP rfl (fun x => ?_); refine hold ?_)
    | (refine ek_eql ?_; refine EK_ev (Ev_eqlBw (r := true) rfl rfl rfl) ?_)
    | refine xst ?_
    | (refine xsa ?_; intro _)
    | (refine xsb ?_ ?_ <;> intro _ <;> first | (exfalso; omega) | skip)
    | refine xsc ?_
    | (refine KJ_draws (id := 2) (.op 0 (.op 1 (.op 2 (.op 3 (.op 4 (.op 5 (.op 6 (.op 7 (.op 8 .nil))))))))) (by kernel_rfl) (by kernel_rfl) ?_)
    | (refine KJ_draws (id := 3) (.op 0 (.op 1 (.op 2 (.op 3 (.op 4 (.op 5 (.op 6 (.op 7 (.op 8 (.op 9 (.op 10 (.op 11 (.op 12 (.ef 13 [0] (.op 14 (.op 15 (.ef 16 [] .nil))))))))))))))))) (by kernel_rfl) (by kernel_rfl) ?_)
    | (refine KJ_draws (id := 4) (.op 0 (.op 1 (.op 2 (.op 3 (.op 4 (.op 5 (.op 6 (.op 7 (.ef 8 [] (.op 9 .nil)))))))))) (by kernel_rfl) (by kernel_rfl) ?_)
    | (refine KJ_draws (id := 5) (.op 0 (.op 1 (.op 2 (.op 3 (.op 4 (.op 5 (.op 6 (.op 7 (.op 8 (.op 9 (.op 10 (.op 11 (.op 12 (.ef 13 [0] (.op 14 (.op 15 (.ef 16 [] .nil))))))))))))))))) (by kernel_rfl) (by kernel_rfl) ?_)
    | (refine KJ_draws (id := 7) (.op 0 (.op 1 (.op 2 (.op 3 (.op 4 (.op 5 (.op 6 (.op 7 (.op 8 (.op 9 (.op 10 (.op 11 (.op 12 (.ef 13 [0] (.op 14 (.op 15 (.ef 16 [] .nil))))))))))))))))) (by kernel_rfl) (by kernel_rfl) ?_)
    | refine FW_alt ?_ ?_
    | refine FW_efn rfl rfl rfl rfl rfl ?_ ?_
    | refine KJ_flow ?_ ?_
    | exact Rech.nil
    | fail)
  all_goals refine Hold.mk ?_
  all_goals rcases Nat.eq_zero_or_pos (rn x) with e | e
  all_goals first | (have qx : decide ((0 : Int) < ((rn x : Nat) : Int)) = false := decide_eq_false (by omega)) | (have qx : decide ((0 : Int) < ((rn x : Nat) : Int)) = true := decide_eq_true (by omega))
  all_goals first | (have hg := h0 x e) | (have hg := h1 x (by omega))
  all_goals have hg' := congrArg Value.bool hg.symm
  all_goals repeat' (first 
    | (refine ek_pick ?_; first | refine EK_ev (Ev_pick_fv rfl rfl hg') ?_ | refine EK_ev (Ev_pick_tv rfl rfl hg') ?_)
    | (refine ek_gtr ?_; refine EK_ev (Ev_gtrI_q rfl rfl qx) ?_)
    | refine xst ?_
    | (refine xsa ?_; intro _)
    | (refine xsb ?_ ?_ <;> intro _ <;> first | (exfalso; omega) | skip)
    | refine xsc ?_
    | (refine KJ_draws (id := 2) (.op 0 (.op 1 (.op 2 (.op 3 (.op 4 (.op 5 (.op 6 (.op 7 (.op 8 .nil))))))))) (by kernel_rfl) (by kernel_rfl) ?_)
    | (refine KJ_draws (id := 3) (.op 0 (.op 1 (.op 2 (.op 3 (.op 4 (.op 5 (.op 6 (.op 7 (.op 8 (.op 9 (.op 10 (.op 11 (.op 12 (.ef 13 [0] (.op 14 (.op 15 (.ef 16 [] .nil))))))))))))))))) (by kernel_rfl) (by kernel_rfl) ?_)
    | (refine KJ_draws (id := 4) (.op 0 (.op 1 (.op 2 (.op 3 (.op 4 (.op 5 (.op 6 (.op 7 (.ef 8 [] (.op 9 .nil)))))))))) (by kernel_rfl) (by kernel_rfl) ?_)
    | (refine KJ_draws (id := 5) (.op 0 (.op 1 (.op 2 (.op 3 (.op 4 (.op 5 (.op 6 (.op 7 (.op 8 (.op 9 (.op 10 (.op 11 (.op 12 (.ef 13 [0] (.op 14 (.op 15 (.ef 16 [] .nil))))))))))))))))) (by kernel_rfl) (by kernel_rfl) ?_)
    | (refine KJ_draws (id := 7) (.op 0 (.op 1 (.op 2 (.op 3 (.op 4 (.op 5 (.op 6 (.op 7 (.op 8 (.op 9 (.op 10 (.op 11 (.op 12 (.ef 13 [0] (.op 14 (.op 15 (.ef 16 [] .nil))))))))))))))))) (by kernel_rfl) (by kernel_rfl) ?_)
    | refine FW_alt ?_ ?_
    | refine FW_efn rfl rfl rfl rfl rfl ?_ ?_
    | refine KJ_flow ?_ ?_
    | exact Rech.nil
    | fail)
  all_goals (exact xdn x)
set_option maxHeartbeats 2000000 in
theorem iadd_ge (ng : X → Bool) (h0 : ∀ x, rn x = 0 → ng x = false) (h1 : ∀ x, rn x ≠ 0 → ng x = s) (r : Int) (hr : 0 ≤ r)
    (cc : Ct Tryz.prog W 80 [.slice oz nz cz, .slice oy ny cy] [NA, NY] (fun _ : Unit => .int .i64 r) (fun _ => [NA, NY]))
    (ca : Ct Tryz.prog W 81 [.slice oz nz cz, .slice oz nz cz, .slice oy ny cy] [NA, NY] (fun x : X => .slice (ro x) (rn x) (rc x)) (fun x => [NA' x, NY])) :
    Ct Tryz.prog W 45 [.pointer (some ⟨p, 0, none⟩), .pointer (some ⟨p, 0, none⟩), .pointer (some ⟨q, 0, none⟩)] [cellsP p [.bool s, .slice oz nz cz] 83, NA, cellsP q [.bool (!s), .slice oy ny cy] 83, NY] (fun _ : X => .pointer (some ⟨p, 0, none⟩))
      (fun x => [cellsP p [.bool (ng x), .slice (ro x) (rn x) (rc x)] 83, NA' x, cellsP q [.bool (!s), .slice oy ny cy] 83, NY]) := by
  have qr : decide ((0 : Int) ≤ r) = true := decide_eq_true hr
  cases s
  all_goals refine Ct.enter Tryz.func45 rfl Tryz.ntmps45 (by simp) (fun R => ?_)
  all_goals repeat' (first 
    | (refine is_call ?_; first | (refine KJ_call xE ca xP rfl (fun x => ?_); refine hold ?_) | (refine KJ_call xE cc xP rfl (fun _ => ?_)))
    | (refine ek_eql ?_; refine EK_ev (Ev_eqlBw (r := false) rfl rfl rfl) ?_)
    | (refine ek_geq ?_; refine EK_ev (Ev_geqI_q rfl rfl qr) ?_)
    | refine xst ?_
    | (refine xsa ?_; intro _)
    | (refine xsb ?_ ?_ <;> intro _ <;> first | (exfalso; omega) | skip)
    | refine xsc ?_
    | (refine KJ_draws (id := 2) (.op 0 (.op 1 (.op 2 (.op 3 (.op 4 (.op 5 (.op 6 (.op 7 (.op 8 .nil))))))))) (by kernel_rfl) (by kernel_rfl) ?_)
    | (refine KJ_draws (id := 3) (.op 0 (.op 1 (.op 2 (.op 3 (.op 4 (.op 5 (.op 6 (.op 7 (.op 8 (.op 9 (.op 10 (.op 11 (.op 12 (.ef 13 [0] (.op 14 (.op 15 (.ef 16 [] .nil))))))))))))))))) (by kernel_rfl) (by kernel_rfl) ?_)
    | (refine KJ_draws (id := 4) (.op 0 (.op 1 (.op 2 (.op 3 (.op 4 (.op 5 (.op 6 (.op 7 (.ef 8 [] (.op 9 .nil)))))))))) (by kernel_rfl) (by kernel_rfl) ?_)
    | (refine KJ_draws (id := 5) (.op 0 (.op 1 (.op 2 (.op 3 (.op 4 (.op 5 (.op 6 (.op 7 (.op 8 (.op 9 (.op 10 (.op 11 (.op 12 (.ef 13 [0] (.op 14 (.op 15 (.ef 16 [] .nil))))))))))))))))) (by kernel_rfl) (by kernel_rfl) ?_)
    | (refine KJ_draws (id := 7) (.op 0 (.op 1 (.op 2 (.op 3 (.op 4 (.op 5 (.op 6 (.op 7 (.op 8 (.op 9 (.op 10 (.op 11 (.op 12 (.ef 13 [0] (.op 14 (.op 15 (.ef 16 [] .nil))))))))))))))))) (by kernel_rfl) (by kernel_rfl) ?_)
    | refine FW_alt ?_ ?_
    | refine FW_efn rfl rfl rfl rfl rfl ?_ ?_
    | refine KJ_flow ?_ ?_
    | exact Rech.nil
    | fail)
  all_goals refine Hold.mk ?_
  all_goals rcases Nat.eq_zero_or_pos (rn x) with e | e
  all_goals first | (have qx : decide ((0 : Int) < ((rn x : Nat) : Int)) = false := decide_eq_false (by omega)) | (have qx : decide ((0 : Int) < ((rn x : Nat) : Int)) = true := decide_eq_true (by omega))
  all_goals first | (have hg := h0 x e) | (have hg := h1 x (by omega))
  all_goals have hg' := congrArg Value.bool hg.symm
  all_goals repeat' (first 
    | (refine ek_pick ?_; first | refine EK_ev (Ev_pick_fv rfl rfl hg') ?_ | refine EK_ev (Ev_pick_tv rfl rfl hg') ?_)
    | (refine ek_gtr ?_; refine EK_ev (Ev_gtrI_q rfl rfl qx) ?_)
    | refine xst ?_
    | (refine xsa ?_; intro _)
    | (refine xsb ?_ ?_ <;> intro _ <;> first | (exfalso; omega) | skip)
    | refine xsc ?_
    | (refine KJ_draws (id := 2) (.op 0 (.op 1 (.op 2 (.op 3 (.op 4 (.op 5 (.op 6 (.op 7 (.op 8 .nil))))))))) (by kernel_rfl) (by kernel_rfl) ?_)
    | (refine KJ_draws (id := 3) (.op 0 (.op 1 (.op 2 (.op 3 (.op 4 (.op 5 (.op 6 (.op 7 (.op 8 (.op 9 (.op 10 (.op 11 (.op 12 (.ef 13 [0] (.op 14 (.op 15 (.ef 16 [] .nil))))))))))))))))) (by kernel_rfl) (by kernel_rfl) ?_)
    | (refine KJ_draws (id := 4) (.op 0 (.op 1 (.op 2 (.op 3 (.op 4 (.op 5 (.op 6 (.op 7 (.ef 8 [] (.op 9 .nil)))))))))) (by kernel_rfl) (by kernel_rfl) ?_)
    | (refine KJ_draws (id := 5) (.op 0 (.op 1 (.op 2 (.op 3 (.op 4 (.op 5 (.op 6 (.op 7 (.op 8 (.op 9 (.op 10 (.op 11 (.op 12 (.ef 13 [0] (.op 14 (.op 15 (.ef 16 [] .nil))))))))))))))))) (by kernel_rfl) (by kernel_rfl) ?_)
    | (refine KJ_draws (id := 7) (.op 0 (.op 1 (.op 2 (.op 3 (.op 4 (.op 5 (.op 6 (.op 7 (.op 8 (.op 9 (.op 10 (.op 11 (.op 12 (.ef 13 [0] (.op 14 (.op 15 (.ef 16 [] .nil))))))))))))))))) (by kernel_rfl) (by kernel_rfl) ?_)
    | refine FW_alt ?_ ?_
    | refine FW_efn rfl rfl rfl rfl rfl ?_ ?_
    | refine KJ_flow ?_ ?_
    | exact Rech.nil
    | fail)
  all_goals (exact xdn x)
set_option maxHeartbeats 2000000 in
theorem iadd_lt (ng : X → Bool) (h0 : ∀ x, rn x = 0 → ng x = false) (h1 : ∀ x, rn x ≠ 0 → ng x = !s) (r : Int) (hr : r < 0)
    (cc : Ct Tryz.prog W 80 [.slice oz nz cz, .slice oy ny cy] [NA, NY] (fun _ : Unit => .int .i64 r) (fun _ => [NA, NY]))
    (ca : Ct Tryz.prog W 81 [.slice oz nz cz, .slice oy ny cy, .slice oz nz cz] [NA, NY] (fun x : X => .slice (ro x) (rn x) (rc x)) (fun x => [NA' x, NY])) :
    Ct Tryz.prog W 45 [.pointer (some ⟨p, 0, none⟩), .pointer (some ⟨p, 0, none⟩), .pointer (some ⟨q, 0, none⟩)] [cellsP p [.bool s, .slice oz nz cz] 83, NA, cellsP q [.bool (!s), .slice oy ny cy] 83, NY] (fun _ : X => .pointer (some ⟨p, 0, none⟩))
      (fun x => [cellsP p [.bool (ng x), .slice (ro x) (rn x) (rc x)] 83, NA' x, cellsP q [.bool (!s), .slice oy ny cy] 83, NY]) := by
  have qr : decide ((0 : Int) ≤ r) = false := decide_eq_false (by omega)
  cases s
  all_goals refine Ct.enter Tryz.func45 rfl Tryz.ntmps45 (by simp) (fun R => ?_)
  all_goals repeat' (first 
    | (refine is_call ?_; first | (refine KJ_call xE ca xP rfl (fun x => ?_); refine hold ?_) | (refine KJ_call xE cc xP rfl (fun _ => ?_)))
    | (refine ek_eql ?_; refine EK_ev (Ev_eqlBw (r := false) rfl rfl rfl) ?_)
    | (refine ek_geq ?_; refine EK_ev (Ev_geqI_q rfl rfl qr) ?_)
    | refine xst ?_
    | (refine xsa ?_; intro _)
    | (refine xsb ?_ ?_ <;> intro _ <;> first | (exfalso; omega) | skip)
    | refine xsc ?_
    | (refine KJ_draws (id := 2) (.op 0 (.op 1 (.op 2 (.op 3 (.op 4 (.op 5 (.op 6 (.op 7 (.op 8 .nil))))))))) (by kernel_rfl) (by kernel_rfl) ?_)
    | (refine KJ_draws (id := 3) (.op 0 (.op 1 (.op 2 (.op 3 (.op 4 (.op 5 (.op 6 (.op 7 (.op 8 (.op 9 (.op 10 (.op 11 (.op 12 (.ef 13 [0] (.op 14 (.op 15 (.ef 16 [] .nil))))))))))))))))) (by kernel_rfl) (by kernel_rfl) ?_)
    | (refine KJ_draws (id := 4) (.op 0 (.op 1 (.op 2 (.op 3 (.op 4 (.op 5 (.op 6 (.op 7 (.ef 8 [] (.op 9 .nil)))))))))) (by kernel_rfl) (by kernel_rfl) ?_)
    | (refine KJ_draws (id := 5) (.op 0 (.op 1 (.op 2 (.op 3 (.op 4 (.op 5 (.op 6 (.op 7 (.op 8 (.op 9 (.op 10 (.op 11 (.op 12 (.ef 13 [0] (.op 14 (.op 15 (.ef 16 [] .nil))))))))))))))))) (by kernel_rfl) (by kernel_rfl) ?_)
    | (refine KJ_draws (id := 7) (.op 0 (.op 1 (.op 2 (.op 3 (.op 4 (.op 5 (.op 6 (.op 7 (.op 8 (.op 9 (.op 10 (.op 11 (.op 12 (.ef 13 [0] (.op 14 (.op 15 (.ef 16 [] .nil))))))))))))))))) (by kernel_rfl) (by kernel_rfl) ?_)
    | refine FW_alt ?_ ?_
    | refine FW_efn rfl rfl rfl rfl rfl ?_ ?_
    | refine KJ_flow ?_ ?_
    | exact Rech.nil
    | fail)
  all_goals refine Hold.mk ?_
  all_goals rcases Nat.eq_zero_or_pos (rn x) with e | e
  all_goals first | (have qx : decide ((0 : Int) < ((rn x : Nat) : Int)) = false := decide_eq_false (by omega)) | (have qx : decide ((0 : Int) < ((rn x : Nat) : Int)) = true := decide_eq_true (by omega))
  all_goals first | (have hg := h0 x e) | (have hg := h1 x (by omega))
  all_goals have hg' := congrArg Value.bool hg.symm
  all_goals repeat' (first 
    | (refine ek_pick ?_; first | refine EK_ev (Ev_pick_fv rfl rfl hg') ?_ | refine EK_ev (Ev_pick_tv rfl rfl hg') ?_)
    | (refine ek_gtr ?_; refine EK_ev (Ev_gtrI_q rfl rfl qx) ?_)
    | refine xst ?_
    | (refine xsa ?_; intro _)
    | (refine xsb ?_ ?_ <;> intro _ <;> first | (exfalso; omega) | skip)
    | refine xsc ?_
    | (refine KJ_draws (id := 2) (.op 0 (.op 1 (.op 2 (.op 3 (.op 4 (.op 5 (.op 6 (.op 7 (.op 8 .nil))))))))) (by kernel_rfl) (by kernel_rfl) ?_)
    | (refine KJ_draws (id := 3) (.op 0 (.op 1 (.op 2 (.op 3 (.op 4 (.op 5 (.op 6 (.op 7 (.op 8 (.op 9 (.op 10 (.op 11 (.op 12 (.ef 13 [0] (.op 14 (.op 15 (.ef 16 [] .nil))))))))))))))))) (by kernel_rfl) (by kernel_rfl) ?_)
    | (refine KJ_draws (id := 4) (.op 0 (.op 1 (.op 2 (.op 3 (.op 4 (.op 5 (.op 6 (.op 7 (.ef 8 [] (.op 9 .nil)))))))))) (by kernel_rfl) (by kernel_rfl) ?_)
    | (refine KJ_draws (id := 5) (.op 0 (.op 1 (.op 2 (.op 3 (.op 4 (.op 5 (.op 6 (.op 7 (.op 8 (.op 9 (.op 10 (.op 11 (.op 12 (.ef 13 [0] (.op 14 (.op 15 (.ef 16 [] .nil))))))))))))))))) (by kernel_rfl) (by kernel_rfl) ?_)
    | (refine KJ_draws (id := 7) (.op 0 (.op 1 (.op 2 (.op 3 (.op 4 (.op 5 (.op 6 (.op 7 (.op 8 (.op 9 (.op 10 (.op 11 (.op 12 (.ef 13 [0] (.op 14 (.op 15 (.ef 16 [] .nil))))))))))))))))) (by kernel_rfl) (by kernel_rfl) ?_)
    | refine FW_alt ?_ ?_
    | refine FW_efn rfl rfl rfl rfl rfl ?_ ?_
    | refine KJ_flow ?_ ?_
    | exact Rech.nil
    | fail)
  all_goals (exact xdn x)
/-- Sign -/
theorem isign_ct (hs : s = true → nz ≠ 0) (hn : nz ≤ 100) : Ct Tryz.prog W 50 [.pointer (some ⟨p, 0, none⟩)] [cellsP p [.bool s, .slice oz nz cz] 83] (fun _ : Unit => .int .i64 (if nz = 0 then 0 else if s = true then -1 else 1)) (fun _ => [cellsP p [.bool s, .slice oz nz cz] 83]) := by
  by_cases h : nz = 0
  · subst h
    rw [if_pos rfl]
    refine Ct.enter Tryz.func50 rfl Tryz.ntmps50 (by simp) (fun R => ?_)
    repeat' (first 
    | refine xst ?_
    | (refine xsa ?_; intro _)
    | (refine xsb ?_ ?_ <;> intro _ <;> first | (exfalso; omega) | skip)
    | refine xsc ?_
    | fail)
    all_goals (exact xdn ())
  · rw [if_neg h]
    have q : decide (((nz : Nat) : Int) = 0) = false := decide_eq_false (by omega)
    cases s
    all_goals refine Ct.enter Tryz.func50 rfl Tryz.ntmps50 (by simp) (fun R => ?_)
    all_goals repeat' (first 
    | (refine ek_eql ?_; refine EK_ev (Ev_eqlI_q rfl rfl q) ?_)
    | refine xst ?_
    | (refine xsa ?_; intro _)
    | (refine xsb ?_ ?_ <;> intro _ <;> first | (exfalso; omega) | skip)
    | refine xsc ?_
    | fail)
    all_goals (exact xdn ())
/-- NewInt of a number that isn't 0 -/
theorem newint_ct (x : Int) (h0 : x ≠ 0) (hb : -9223372036854775808 ≤ x ∧ x ≤ 9223372036854775807) : Ct Tryz.prog W 46 [.int .i64 x] [] (fun q : Nat × Nat => .pointer (some ⟨q.1, 0, none⟩)) (fun q => [cellsP q.1 [.bool (decide (x < 0)), .slice (some ⟨q.2, 0, none⟩) 1 1] 83, cellsP q.2 [wv x.natAbs] 127]) := by
  have q0 : decide (x = 0) = false := decide_eq_false h0
  cases ql : decide (x < 0) with
  | true =>
    have hl := of_decide_eq_true ql
    have c1 : IntKind.u64.wrap x = 18446744073709551616 + x := by
      simp only [IntKind.wrap, IntKind.signed, IntKind.bits]; simp; omega
    have c2 : IntKind.u64.wrap (0 - (18446744073709551616 + x)) = ((x.natAbs : Nat) : Int) := by
      simp only [IntKind.wrap, IntKind.signed, IntKind.bits]; simp; omega
    refine Ct.enter Tryz.func46 rfl Tryz.ntmps46 (by simp) (fun R => ?_)
    repeat' (first 
    | (refine is_box ?_; refine KJ_box rfl xF rfl (fun b => ?_))
    | (refine is_bslice ?_; refine KJ_bslice1 rfl xF (by rfl) (by omega) rfl (fun g => ?_))
    | (refine ek_un ?_; refine EK_ev (Ev_neg_v rfl c2) ?_)
    | (refine ek_conv ?_; refine EK_ev (Ev_convI_v rfl c1) ?_)
    | (refine ek_build ?_; refine EK_ev (Ev_build xV xW) ?_)
    | (refine ek_eql ?_; refine EK_ev (Ev_eqlI_q rfl rfl q0) ?_)
    | (refine ek_lss ?_; refine EK_ev (Ev_lssI_q rfl rfl ql) ?_)
    | refine xst ?_
    | (refine xsa ?_; intro _)
    | (refine xsb ?_ ?_ <;> intro _ <;> first | (exfalso; omega) | skip)
    | refine xsc ?_
    | fail)
    all_goals (exact xdn (b, g))
  | false =>
    have hl := of_decide_eq_false ql
    have c1 : IntKind.u64.wrap x = ((x.natAbs : Nat) : Int) := by
      simp only [IntKind.wrap, IntKind.signed, IntKind.bits]; simp; omega
    refine Ct.enter Tryz.func46 rfl Tryz.ntmps46 (by simp) (fun R => ?_)
    repeat' (first 
    | (refine is_box ?_; refine KJ_box rfl xF rfl (fun b => ?_))
    | (refine is_bslice ?_; refine KJ_bslice1 rfl xF (by rfl) (by omega) rfl (fun g => ?_))
    | (refine ek_conv ?_; refine EK_ev (Ev_convI_v rfl c1) ?_)
    | (refine ek_build ?_; refine EK_ev (Ev_build xV xW) ?_)
    | (refine ek_eql ?_; refine EK_ev (Ev_eqlI_q rfl rfl q0) ?_)
    | (refine ek_lss ?_; refine EK_ev (Ev_lssI_q rfl rfl ql) ?_)
    | refine xst ?_
    | (refine xsa ?_; intro _)
    | (refine xsb ?_ ?_ <;> intro _ <;> first | (exfalso; omega) | skip)
    | refine xsc ?_
    | fail)
    all_goals (exact xdn (b, g))
end
end Go.Proofs.YtdbfemdpdpaffaaGreatDoor
/-
  math/big: nat.add, nat.sub, nat.cmp over normal numbers; Int.Add over them.
-/
namespace Go.Proofs.YtdbfemdpdpaffaaGreatDoor
open Go Go.RowKit
def natP (z : NSt) : SP := bagP 61 (z.cl 127)
/-- one word -/
def oneP (h y : Nat) : SP := cellsP h [wv y] 127
theorem bag1' {A B : SP} {M : List SP} {e : Hl} (q : starL (bagP 61 [A] :: B :: M) e) : starL (A :: B :: M) e := bag_open (L := [A]) (H := B :: M) q
theorem bag0' {B : SP} {M : List SP} {e : Hl} (q : starL (bagP 61 [] :: B :: M) e) : starL (B :: M) e := bag_open (L := []) (H := B :: M) q
theorem bag1 {A B : SP} {M : List SP} {e : Hl} (q : starL (A :: B :: M) e) : starL (bagP 61 [A] :: B :: M) e := bag_shut (L := [A]) (H := B :: M) q
section
variable {W : World} {f : FuncId} {vs : List Value}
theorem Ct.natO {X : Type} {g n h y : Nat} {ws : List Nat} {r : X → Value} {A' : X → List SP} (Z : X → NSt) (c : Ct Tryz.prog W f vs [cellsP g (ws.map wv) 127, oneP h y] r A') (hr : ∀ x, r x = (Z x).v) (hA : ∀ x M e, starL (A' x ++ M) e → starL (natP (Z x) :: oneP h y :: M) e) {Q : NSt → Prop} (hQ : ∀ x, Q (Z x)) :
    Ct Tryz.prog W f vs [natP ⟨some (g, ws), n⟩, oneP h y] (fun z : {z : NSt // Q z} => z.1.v) (fun z => [natP z.1, oneP h y]) :=
  c.mapX (fun _ _ q => bag1' q) (fun x => ⟨Z x, hQ x⟩) hr hA
theorem Ct.natN {X : Type} {n h y : Nat} {r : X → Value} {A' : X → List SP} (Z : X → NSt) (c : Ct Tryz.prog W f vs [oneP h y] r A') (hr : ∀ x, r x = (Z x).v) (hA : ∀ x M e, starL (A' x ++ M) e → starL (natP (Z x) :: oneP h y :: M) e) {Q : NSt → Prop} (hQ : ∀ x, Q (Z x)) :
    Ct Tryz.prog W f vs [natP ⟨none, n⟩, oneP h y] (fun z : {z : NSt // Q z} => z.1.v) (fun z => [natP z.1, oneP h y]) :=
  c.mapX (fun _ _ q => bag0' q) (fun x => ⟨Z x, hQ x⟩) hr hA
theorem Ct.fr {X : Type} {A B : SP} {r : X → Value} (c : Ct Tryz.prog W f vs [B] r (fun _ => [B])) : Ct Tryz.prog W f vs [A, B] r (fun _ => [A, B]) :=
  ⟨fun M w s => (c.go (A :: M) w (s.mono fun g q => starL_swap g q)).mono fun _ _ ⟨x, he, s⟩ => ⟨x, he, s.mono fun g q => starL_swap g q⟩⟩
end
theorem nrm_top {ws : List Nat} {k x : Nat} (h : ws[k]? = some x) (h0 : x ≠ 0) : nrm ws (k + 1) = k + 1 := nrm_s (by rw [h]; intro q; cases q; exact h0 rfl)
theorem nok_one {g w : Nat} (hw : w < 18446744073709551616) : NOk ⟨some (g, [w]), nrm [w] 1⟩ ∧ mag [w] (nrm [w] 1) = w := by
  by_cases h : w = 0
  · subst h
    rw [nrm_z (ws := [0]) (k := 0) rfl]
    exact ⟨.z1 hw, rfl⟩
  · rw [nrm_top (ws := [w]) (k := 0) rfl h]
    exact ⟨.o1 hw h, mag_one w []⟩
theorem nok_six {g w w1 w2 : Nat} {t : List Nat} (ht : t.length = 3) (hw : w < 18446744073709551616) : NOk ⟨some (g, w :: w1 :: w2 :: t), nrm (w :: w1 :: w2 :: t) 1⟩ ∧ mag (w :: w1 :: w2 :: t) (nrm (w :: w1 :: w2 :: t) 1) = w := by
  by_cases h : w = 0
  · subst h
    rw [nrm_z (ws := 0 :: w1 :: w2 :: t) (k := 0) rfl]
    exact ⟨.z6 ht hw, mag_zero _⟩
  · rw [nrm_top (ws := w :: w1 :: w2 :: t) (k := 0) rfl h]
    exact ⟨.o6 ht hw h, mag_one w _⟩
theorem nok_two {g w w1 w2 : Nat} {t : List Nat} (ht : t.length = 3) (hw : w < 18446744073709551616) (hw1 : w1 < 18446744073709551616) : NOk ⟨some (g, w :: w1 :: w2 :: t), nrm (w :: w1 :: w2 :: t) 2⟩ ∧ mag (w :: w1 :: w2 :: t) (nrm (w :: w1 :: w2 :: t) 2) = w + 18446744073709551616 * w1 := by
  by_cases h : w1 = 0
  · subst h
    rw [nrm_z (ws := w :: 0 :: w2 :: t) (k := 1) rfl]
    obtain ⟨a, b⟩ := nok_six (g := g) (w1 := 0) (w2 := w2) ht hw
    exact ⟨a, by rw [b]; omega⟩
  · rw [nrm_top (ws := w :: w1 :: w2 :: t) (k := 1) rfl h]
    exact ⟨.t6 ht hw hw1 h, mag_two w w1 _⟩
theorem nok_three {g w w1 : Nat} {t : List Nat} (ht : t.length = 3) (hw : w < 18446744073709551616) (hw1 : w1 < 18446744073709551616) : NOk ⟨some (g, w :: w1 :: 0 :: t), nrm (w :: w1 :: 0 :: t) 3⟩ ∧ mag (w :: w1 :: 0 :: t) (nrm (w :: w1 :: 0 :: t) 3) = w + 18446744073709551616 * w1 := by
  rw [nrm_z (ws := w :: w1 :: 0 :: t) (k := 2) rfl]
  exact nok_two ht hw hw1
section
variable {W : World} {h y : Nat}
/-- nat.add of a number and one word -/
theorem nat_add (z : NSt) (hz : NOk z) (h0 : y ≠ 0) (hy : y < 18446744073709551616) (hb : z.m + y < 170141183460469231731687303715884105728) :
    Ct Tryz.prog W 79 [z.v, z.v, .slice (some ⟨h, 0, none⟩) 1 1] [natP z, oneP h y] (fun z' : {z' : NSt // NOk z' ∧ z'.m = z.m + y} => z'.1.v) (fun z' => [natP z'.1, oneP h y]) := by
  cases hz with
  | no => exact Ct.natN (W := W) (n := 0) (h := h) (y := y) (fun g => ⟨some (g, [y]), 1⟩) (nadd_no (W := W) (h := h) (y := y)) (fun _ => rfl) (fun _ _ _ q => bag1 q) (fun g => ⟨.o1 hy h0, by show mag [y] 1 = 0 + y; rw [mag_one, Nat.zero_add]⟩)
  | @z1 g w hw => exact Ct.natO (W := W) (g := g) (n := 0) (ws := [w]) (h := h) (y := y) (fun _ => ⟨some (g, [y]), 1⟩) (nadd_z (W := W) (g := g) (h := h) (a := w) (y := y) (c := ([w] : List Nat).length) (t := []) (by simp)) (fun _ => rfl) (fun _ _ _ q => bag1 q) (fun _ => ⟨.o1 hy h0, by rw [NSt.m_on, NSt.m_on, mag_one, mag_zero, Nat.zero_add]⟩)
  | @z6 g w0 w1 w2 t ht hw => exact Ct.natO (W := W) (g := g) (n := 0) (ws := (w0 :: w1 :: w2 :: t)) (h := h) (y := y) (fun _ => ⟨some (g, y :: w1 :: w2 :: t), 1⟩) (nadd_z (W := W) (g := g) (h := h) (a := w0) (y := y) (c := ((w0 :: w1 :: w2 :: t) : List Nat).length) (t := (w1 :: w2 :: t).map wv) (by simp)) (fun _ => rfl) (fun _ _ _ q => bag1 q) (fun _ => ⟨.o6 ht hy h0, by rw [NSt.m_on, NSt.m_on, mag_one, mag_zero, Nat.zero_add]⟩)
  | @o1 g w hw hw0 =>
    have n2 := fun k => nok_two (g := k) (w := (w + y + 0) % 18446744073709551616) (w1 := (w + y + 0) / 18446744073709551616) (w2 := 0) (t := [0, 0, 0]) rfl (by omega) (by omega)
    exact Ct.natO (W := W) (g := g) (n := 1) (ws := [w]) (h := h) (y := y) (fun k => ⟨some (k, [(w + y + 0) % 18446744073709551616, (w + y + 0) / 18446744073709551616, 0, 0, 0, 0]), nrm [(w + y + 0) % 18446744073709551616, (w + y + 0) / 18446744073709551616, 0, 0, 0, 0] 2⟩) (nadd_1new (W := W) (g := g) (h := h) (y := y) (w0 := w)) (fun _ => rfl) (fun _ _ _ q => bag1 q) (fun k => ⟨(n2 k).1, by rw [NSt.m_on, (n2 k).2, NSt.m_on, mag_one]; omega⟩)
  | @o6 g w0 w1 w2 t ht hw hw0 =>
    have n2 := nok_two (g := g) (w := (w0 + y + 0) % 18446744073709551616) (w1 := (w0 + y + 0) / 18446744073709551616) (w2 := w2) (t := t) ht (by omega) (by omega)
    exact Ct.natO (W := W) (g := g) (n := 1) (ws := (w0 :: w1 :: w2 :: t)) (h := h) (y := y) (fun _ => ⟨some (g, (w0 + y + 0) % 18446744073709551616 :: (w0 + y + 0) / 18446744073709551616 :: w2 :: t), nrm ((w0 + y + 0) % 18446744073709551616 :: (w0 + y + 0) / 18446744073709551616 :: w2 :: t) 2⟩) (nadd_1in (W := W) (g := g) (h := h) (y := y) (w0 := w0) (w1 := w1) (c := ((w0 :: w1 :: w2 :: t) : List Nat).length) (t := w2 :: t) (Nat.le_refl _) (by simp only [List.length_cons]; omega)) (fun _ => rfl) (fun _ _ _ q => bag1 q) (fun _ => ⟨n2.1, by rw [NSt.m_on, n2.2, NSt.m_on, mag_one]; omega⟩)
  | @t6 g w0 w1 w2 t ht hw hw1 hw10 =>
    rw [NSt.m_on, mag_two] at hb
    have n3 := nok_three (g := g) (w := (w0 + y + 0) % 18446744073709551616) (w1 := (w1 + (w0 + y + 0) / 18446744073709551616 + 0) % 18446744073709551616) (t := t) ht (by omega) (by omega)
    exact Ct.natO (W := W) (g := g) (n := 2) (ws := (w0 :: w1 :: w2 :: t)) (h := h) (y := y) (fun _ => ⟨some (g, (w0 + y + 0) % 18446744073709551616 :: (w1 + (w0 + y + 0) / 18446744073709551616 + 0) % 18446744073709551616 :: 0 :: t), nrm ((w0 + y + 0) % 18446744073709551616 :: (w1 + (w0 + y + 0) / 18446744073709551616 + 0) % 18446744073709551616 :: 0 :: t) 3⟩) (nadd_2in (W := W) (g := g) (h := h) (y := y) (w0 := w0) (w1 := w1) (w2 := w2) (c := ((w0 :: w1 :: w2 :: t) : List Nat).length) (t := t) (Nat.le_refl _) (by simp only [List.length_cons]; omega) (by omega)) (fun _ => rfl) (fun _ _ _ q => bag1 q) (fun _ => ⟨n3.1, by rw [NSt.m_on, n3.2, NSt.m_on, mag_two]; omega⟩)
/-- nat.sub: a number less one word, that is no greater -/
theorem nat_sub (z : NSt) (hz : NOk z) (h0 : y ≠ 0) (hy : y < 18446744073709551616) (hle : y ≤ z.m) :
    Ct Tryz.prog W 81 [z.v, z.v, .slice (some ⟨h, 0, none⟩) 1 1] [natP z, oneP h y] (fun z' : {z' : NSt // NOk z' ∧ z'.m = z.m - y} => z'.1.v) (fun z' => [natP z'.1, oneP h y]) := by
  cases hz with
  | no => exact absurd hle (by show ¬ y ≤ 0; omega)
  | @z1 g w hw => rw [NSt.m_on, mag_zero] at hle; omega
  | @z6 g w0 w1 w2 t ht hw => rw [NSt.m_on, mag_zero] at hle; omega
  | @o1 g w hw hw0 =>
    rw [NSt.m_on, mag_one] at hle
    have n2 := nok_one (g := g) (w := (w + 18446744073709551616 - y - 0) % 18446744073709551616) (by omega)
    exact Ct.natO (W := W) (g := g) (n := 1) (ws := [w]) (h := h) (y := y) (fun _ => ⟨some (g, [(w + 18446744073709551616 - y - 0) % 18446744073709551616]), nrm [(w + 18446744073709551616 - y - 0) % 18446744073709551616] 1⟩) (nsub_ge (W := W) (g := g) (h := h) (y := y) (w0 := w) (c := ([w] : List Nat).length) (t := []) (Nat.le_refl _) (by simp) hle) (fun _ => rfl) (fun _ _ _ q => bag1 q) (fun _ => ⟨n2.1, by rw [NSt.m_on, n2.2, NSt.m_on, mag_one]; omega⟩)
  | @o6 g w0 w1 w2 t ht hw hw0 =>
    rw [NSt.m_on, mag_one] at hle
    have n2 := nok_six (g := g) (w := (w0 + 18446744073709551616 - y - 0) % 18446744073709551616) (w1 := w1) (w2 := w2) ht (by omega)
    exact Ct.natO (W := W) (g := g) (n := 1) (ws := (w0 :: w1 :: w2 :: t)) (h := h) (y := y) (fun _ => ⟨some (g, (w0 + 18446744073709551616 - y - 0) % 18446744073709551616 :: w1 :: w2 :: t), nrm ((w0 + 18446744073709551616 - y - 0) % 18446744073709551616 :: w1 :: w2 :: t) 1⟩) (nsub_ge (W := W) (g := g) (h := h) (y := y) (w0 := w0) (c := ((w0 :: w1 :: w2 :: t) : List Nat).length) (t := w1 :: w2 :: t) (Nat.le_refl _) (by simp only [List.length_cons]; omega) hle) (fun _ => rfl) (fun _ _ _ q => bag1 q) (fun _ => ⟨n2.1, by rw [NSt.m_on, n2.2, NSt.m_on, mag_one]; omega⟩)
  | @t6 g w0 w1 w2 t ht hw hw1 hw10 =>
    have n2 := nok_two (g := g) (w := (w0 + 18446744073709551616 - y - 0) % 18446744073709551616) (w1 := (w1 + 18446744073709551616 - (if w0 < y + 0 then 1 else 0) - 0) % 18446744073709551616) (w2 := w2) (t := t) ht (by omega) (by omega)
    exact Ct.natO (W := W) (g := g) (n := 2) (ws := (w0 :: w1 :: w2 :: t)) (h := h) (y := y) (fun _ => ⟨some (g, (w0 + 18446744073709551616 - y - 0) % 18446744073709551616 :: (w1 + 18446744073709551616 - (if w0 < y + 0 then 1 else 0) - 0) % 18446744073709551616 :: w2 :: t), nrm ((w0 + 18446744073709551616 - y - 0) % 18446744073709551616 :: (w1 + 18446744073709551616 - (if w0 < y + 0 then 1 else 0) - 0) % 18446744073709551616 :: w2 :: t) 2⟩) (nsub_2 (W := W) (g := g) (h := h) (y := y) (w0 := w0) (w1 := w1) (c := ((w0 :: w1 :: w2 :: t) : List Nat).length) (t := w2 :: t) (Nat.le_refl _) (by simp only [List.length_cons]; omega) hw10) (fun _ => rfl) (fun _ _ _ q => bag1 q) (fun _ => ⟨n2.1, by rw [NSt.m_on, n2.2, NSt.m_on, mag_two]; split <;> omega⟩)
/-- nat.sub: one word less a number that is less -/
theorem nat_bus (z : NSt) (hz : NOk z) (h0 : y ≠ 0) (hy : y < 18446744073709551616) (hle : z.m ≤ y) :
    Ct Tryz.prog W 81 [z.v, .slice (some ⟨h, 0, none⟩) 1 1, z.v] [natP z, oneP h y] (fun z' : {z' : NSt // NOk z' ∧ z'.m = y - z.m} => z'.1.v) (fun z' => [natP z'.1, oneP h y]) := by
  cases hz with
  | no => exact Ct.natN (W := W) (n := 0) (h := h) (y := y) (fun g => ⟨some (g, [y]), 1⟩) (nsub_sw_no (W := W) (h := h) (y := y)) (fun _ => rfl) (fun _ _ _ q => bag1 q) (fun g => ⟨.o1 hy h0, by show mag [y] 1 = y - 0; rw [mag_one, Nat.sub_zero]⟩)
  | @z1 g w hw => exact Ct.natO (W := W) (g := g) (n := 0) (ws := [w]) (h := h) (y := y) (fun _ => ⟨some (g, [y]), 1⟩) (nsub_sw_in (W := W) (g := g) (h := h) (a := w) (y := y) (c := ([w] : List Nat).length) (t := []) (by simp)) (fun _ => rfl) (fun _ _ _ q => bag1 q) (fun _ => ⟨.o1 hy h0, by rw [NSt.m_on, NSt.m_on, mag_one, mag_zero, Nat.sub_zero]⟩)
  | @z6 g w0 w1 w2 t ht hw => exact Ct.natO (W := W) (g := g) (n := 0) (ws := (w0 :: w1 :: w2 :: t)) (h := h) (y := y) (fun _ => ⟨some (g, y :: w1 :: w2 :: t), 1⟩) (nsub_sw_in (W := W) (g := g) (h := h) (a := w0) (y := y) (c := ((w0 :: w1 :: w2 :: t) : List Nat).length) (t := (w1 :: w2 :: t).map wv) (by simp)) (fun _ => rfl) (fun _ _ _ q => bag1 q) (fun _ => ⟨.o6 ht hy h0, by rw [NSt.m_on, NSt.m_on, mag_one, mag_zero, Nat.sub_zero]⟩)
  | @o1 g w hw hw0 =>
    rw [NSt.m_on, mag_one] at hle
    have n2 := nok_one (g := g) (w := (y + 18446744073709551616 - w - 0) % 18446744073709551616) (by omega)
    exact Ct.natO (W := W) (g := g) (n := 1) (ws := [w]) (h := h) (y := y) (fun _ => ⟨some (g, [(y + 18446744073709551616 - w - 0) % 18446744073709551616]), nrm [(y + 18446744073709551616 - w - 0) % 18446744073709551616] 1⟩) (nsub_lt (W := W) (g := g) (h := h) (y := y) (w0 := w) (c := ([w] : List Nat).length) (t := []) (Nat.le_refl _) (by simp) hle) (fun _ => rfl) (fun _ _ _ q => bag1 q) (fun _ => ⟨n2.1, by rw [NSt.m_on, n2.2, NSt.m_on, mag_one]; omega⟩)
  | @o6 g w0 w1 w2 t ht hw hw0 =>
    rw [NSt.m_on, mag_one] at hle
    have n2 := nok_six (g := g) (w := (y + 18446744073709551616 - w0 - 0) % 18446744073709551616) (w1 := w1) (w2 := w2) ht (by omega)
    exact Ct.natO (W := W) (g := g) (n := 1) (ws := (w0 :: w1 :: w2 :: t)) (h := h) (y := y) (fun _ => ⟨some (g, (y + 18446744073709551616 - w0 - 0) % 18446744073709551616 :: w1 :: w2 :: t), nrm ((y + 18446744073709551616 - w0 - 0) % 18446744073709551616 :: w1 :: w2 :: t) 1⟩) (nsub_lt (W := W) (g := g) (h := h) (y := y) (w0 := w0) (c := ((w0 :: w1 :: w2 :: t) : List Nat).length) (t := w1 :: w2 :: t) (Nat.le_refl _) (by simp only [List.length_cons]; omega) hle) (fun _ => rfl) (fun _ _ _ q => bag1 q) (fun _ => ⟨n2.1, by rw [NSt.m_on, n2.2, NSt.m_on, mag_one]; omega⟩)
  | @t6 g w0 w1 w2 t ht hw hw1 hw10 => rw [NSt.m_on, mag_two] at hle; omega
/-- nat.cmp of a number and one word -/
theorem nat_cmp (z : NSt) (hz : NOk z) (h0 : y ≠ 0) (hy : y < 18446744073709551616) : ∃ r : Int, (0 ≤ r → y ≤ z.m) ∧ (r < 0 → z.m < y) ∧
    Ct Tryz.prog W 80 [z.v, .slice (some ⟨h, 0, none⟩) 1 1] [natP z, oneP h y] (fun _ : Unit => .int .i64 r) (fun _ => [natP z, oneP h y]) := by
  have hcmp : ∀ w : Nat, (0 ≤ (if w < y then -1 else if y < w then 1 else 0 : Int) → y ≤ w) ∧ ((if w < y then -1 else if y < w then 1 else 0 : Int) < 0 → w < y) := fun w => by
    constructor <;> intro q <;> (repeat' split at q) <;> omega
  cases hz with
  | no => exact ⟨-1, by omega, fun _ => by show 0 < y; omega, Ct.fr ncmp_0⟩
  | @z1 g w hw => exact ⟨-1, by omega, fun _ => by rw [NSt.m_on, mag_zero]; omega, Ct.fr ncmp_0⟩
  | @z6 g w0 w1 w2 t ht hw => exact ⟨-1, by omega, fun _ => by rw [NSt.m_on, mag_zero]; omega, Ct.fr ncmp_0⟩
  | @o1 g w hw hw0 =>
    refine ⟨if w < y then -1 else if y < w then 1 else 0, fun q => by rw [NSt.m_on, mag_one]; exact (hcmp w).1 q, fun q => by rw [NSt.m_on, mag_one]; exact (hcmp w).2 q, ?_⟩
    exact (ncmp_1 (W := W) (g := g) (h := h) (c := 1) (a := w) (y := y) (t := []) _ rfl).mapX (fun _ _ q => bag1' q) id (fun _ => rfl) (fun _ _ _ q => bag1 q)
  | @o6 g w0 w1 w2 t ht hw hw0 =>
    refine ⟨if w0 < y then -1 else if y < w0 then 1 else 0, fun q => by rw [NSt.m_on, mag_one]; exact (hcmp w0).1 q, fun q => by rw [NSt.m_on, mag_one]; exact (hcmp w0).2 q, ?_⟩
    exact (ncmp_1 (W := W) (g := g) (h := h) (c := (w0 :: w1 :: w2 :: t).length) (a := w0) (y := y) (t := (w1 :: w2 :: t).map wv) _ rfl).mapX (fun _ _ q => bag1' q) id (fun _ => rfl) (fun _ _ _ q => bag1 q)
  | @t6 g w0 w1 w2 t ht hw hw1 hw10 => exact ⟨1, fun _ => by rw [NSt.m_on, mag_two]; omega, by omega, Ct.fr ncmp_2⟩
end
def ival (s : Bool) (z : NSt) : Int := if s = true then -(z.m : Int) else (z.m : Int)
/-- a big number of one's own -/
def bigP (p : Nat) (s : Bool) (z : NSt) : SP := cellsP p [.bool s, z.v] 83
section
variable {W : World} {p q h y : Nat}
theorem big_add (s : Bool) (z : NSt) (hz : NOk z) (hs : s = true → z.n ≠ 0) (sy : Bool) (h0 : y ≠ 0) (hy : y < 18446744073709551616) (hb : z.m + y < 170141183460469231731687303715884105728) :
    Ct Tryz.prog W 45 [.pointer (some ⟨p, 0, none⟩), .pointer (some ⟨p, 0, none⟩), .pointer (some ⟨q, 0, none⟩)] [bigP p s z, natP z, cellsP q [.bool sy, .slice (some ⟨h, 0, none⟩) 1 1] 83, oneP h y]
      (fun _ : {r : Bool × NSt // NOk r.2 ∧ (r.1 = true → r.2.n ≠ 0) ∧ ival r.1 r.2 = ival s z + (if sy = true then -(y : Int) else (y : Int))} => .pointer (some ⟨p, 0, none⟩)) (fun r => [bigP p r.1.1 r.1.2, natP r.1.2, cellsP q [.bool sy, .slice (some ⟨h, 0, none⟩) 1 1] 83, oneP h y]) := by
  have key : ∀ (t : Bool) (z' : NSt), NOk z' → (((decide (z'.n ≠ 0) && t) = true → z'.n ≠ 0) ∧ ival (decide (z'.n ≠ 0) && t) z' = if t = true then -(z'.m : Int) else (z'.m : Int)) := fun t z' hz' => by
    have := hz'.pos
    by_cases e : z'.n = 0
    · rw [decide_eq_false (by simpa using e)]
      refine ⟨by simp, ?_⟩
      have hm := this.1 e
      unfold ival
      rw [hm]; simp
    · rw [decide_eq_true e]
      exact ⟨fun _ => e, by unfold ival; rw [Bool.true_and]⟩
  have n0 : ∀ (t : Bool) (z' : NSt), z'.n = 0 → (decide (z'.n ≠ 0) && t) = false := fun t z' e => by rw [decide_eq_false (by simpa using e)]; rfl
  have n1 : ∀ (t : Bool) (z' : NSt), z'.n ≠ 0 → (decide (z'.n ≠ 0) && t) = t := fun t z' e => by rw [decide_eq_true e]; rfl
  by_cases e : s = sy
  · subst e
    have c := iadd_same (W := W) (p := p) (q := q) (s := s) (X := {z' : NSt // NOk z' ∧ z'.m = z.m + y}) (fun x => decide (x.1.n ≠ 0) && s) (fun x => n0 s x.1) (fun x => n1 s x.1) (nat_add (W := W) (h := h) z hz h0 hy hb)
    refine c.mapX (fun _ _ q => q) (fun x => ⟨(decide (x.1.n ≠ 0) && s, x.1), x.2.1, (key s x.1 x.2.1).1, ?_⟩) (fun _ => rfl) (fun _ _ _ q => q)
    show ival (decide (x.1.n ≠ 0) && s) x.1 = _
    rw [(key s x.1 x.2.1).2, x.2.2]
    unfold ival
    split <;> omega
  · have e : sy = !s := by cases s <;> cases sy <;> simp_all
    subst e
    obtain ⟨r, hr1, hr2, cc⟩ := nat_cmp (W := W) (h := h) z hz h0 hy
    by_cases hr : 0 ≤ r
    · have c := iadd_ge (W := W) (p := p) (q := q) (s := s) (X := {z' : NSt // NOk z' ∧ z'.m = z.m - y}) (fun x => decide (x.1.n ≠ 0) && s) (fun x => n0 s x.1) (fun x => n1 s x.1) r hr cc (nat_sub (W := W) (h := h) z hz h0 hy (hr1 hr))
      refine c.mapX (fun _ _ q => q) (fun x => ⟨(decide (x.1.n ≠ 0) && s, x.1), x.2.1, (key s x.1 x.2.1).1, ?_⟩) (fun _ => rfl) (fun _ _ _ q => q)
      show ival (decide (x.1.n ≠ 0) && s) x.1 = _
      have := hr1 hr
      rw [(key s x.1 x.2.1).2, x.2.2]
      unfold ival
      cases s <;> simp <;> omega
    · have c := iadd_lt (W := W) (p := p) (q := q) (s := s) (X := {z' : NSt // NOk z' ∧ z'.m = y - z.m}) (fun x => decide (x.1.n ≠ 0) && !s) (fun x => n0 (!s) x.1) (fun x => n1 (!s) x.1) r (by omega) cc (nat_bus (W := W) (h := h) z hz h0 hy (Nat.le_of_lt (hr2 (by omega))))
      refine c.mapX (fun _ _ q => q) (fun x => ⟨(decide (x.1.n ≠ 0) && !s, x.1), x.2.1, (key (!s) x.1 x.2.1).1, ?_⟩) (fun _ => rfl) (fun _ _ _ q => q)
      show ival (decide (x.1.n ≠ 0) && !s) x.1 = _
      have := hr2 (by omega)
      rw [(key (!s) x.1 x.2.1).2, x.2.2]
      unfold ival
      cases s <;> simp <;> omega
end
end Go.Proofs.YtdbfemdpdpaffaaGreatDoor
