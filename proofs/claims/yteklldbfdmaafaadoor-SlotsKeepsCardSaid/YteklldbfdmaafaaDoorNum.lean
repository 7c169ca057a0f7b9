/-
  The errors' numbers: remitnum.Num.
-/
import Derived.Test.YteklldbfdmaafaaDoorDiskA
namespace Go.Proofs.YteklldbfdmaafaaDoor
open Go Go.RowKit

/-- all 37 errors lie in their variables, each its own -/
structure ErrsAt (w : World) (E : Nat → Addr) : Prop where
  at_ : ∀ k, 1 ≤ k → k ≤ 37 → ErrAt w E k
  obj : ∀ k, 1 ≤ k → k ≤ 37 → ∃ ca ta, w.heap[(E k).block]? = some (.cells ca ta (0, 0))
  inj : ∀ j k, 1 ≤ j → j ≤ 37 → 1 ≤ k → k ≤ 37 → E j = E k → j = k
def errList (E : Nat → Addr) : List Value := [errV E 1, errV E 2, errV E 3, errV E 4, errV E 5, errV E 6, errV E 7, errV E 8, errV E 9, errV E 10, errV E 11, errV E 12, errV E 13, errV E 14, errV E 15, errV E 16, errV E 17, errV E 18, errV E 19, errV E 20, errV E 21, errV E 22, errV E 23, errV E 24, errV E 25, errV E 26, errV E 27, errV E 28, errV E 29, errV E 30, errV E 31, errV E 32, errV E 33, errV E 34, errV E 35, errV E 36, errV E 37]
theorem built_list (E : Nat → Addr) : Tryd.prog.built 141 [(0, errV E 1), (1, errV E 2), (2, errV E 3), (3, errV E 4), (4, errV E 5), (5, errV E 6), (6, errV E 7), (7, errV E 8), (8, errV E 9), (9, errV E 10), (10, errV E 11), (11, errV E 12), (12, errV E 13), (13, errV E 14), (14, errV E 15), (15, errV E 16), (16, errV E 17), (17, errV E 18), (18, errV E 19), (19, errV E 20), (20, errV E 21), (21, errV E 22), (22, errV E 23), (23, errV E 24), (24, errV E 25), (25, errV E 26), (26, errV E 27), (27, errV E 28), (28, errV E 29), (29, errV E 30), (30, errV E 31), (31, errV E 32), (32, errV E 33), (33, errV E 34), (34, errV E 35), (35, errV E 36), (36, errV E 37)] = some (errList E).toArray := by kernel_rfl

theorem errList_one (E : Nat → Addr) : (errList E).toArray.all (·.oneCell') = true := by kernel_rfl
set_option maxRecDepth 100000 in
set_option maxHeartbeats 1000000 in
theorem list_any (w : World) (E : Nat → Addr) (h : ∀ k, 1 ≤ k → k ≤ 37 → ErrAt w E k) (hg : gB ≤ w.heap.size) :
    Calls Tryd.prog 80 #[] w fun e w' => e = .returned (.agg (errList E).toArray) ∧ Fr noB w w' := by
  unfold gB at hg
  have e1 : w.cell? ⟨7, 0, none⟩ = some (errV E 1) := h 1 (by omega) (by omega)
  have l1 : 7 < w.heap.size := by omega
  have e2 : w.cell? ⟨8, 0, none⟩ = some (errV E 2) := h 2 (by omega) (by omega)
  have l2 : 8 < w.heap.size := by omega
  have e3 : w.cell? ⟨0, 0, none⟩ = some (errV E 3) := h 3 (by omega) (by omega)
  have l3 : 0 < w.heap.size := by omega
  have e4 : w.cell? ⟨9, 0, none⟩ = some (errV E 4) := h 4 (by omega) (by omega)
  have l4 : 9 < w.heap.size := by omega
  have e5 : w.cell? ⟨10, 0, none⟩ = some (errV E 5) := h 5 (by omega) (by omega)
  have l5 : 10 < w.heap.size := by omega
  have e6 : w.cell? ⟨3, 0, none⟩ = some (errV E 6) := h 6 (by omega) (by omega)
  have l6 : 3 < w.heap.size := by omega
  have e7 : w.cell? ⟨4, 0, none⟩ = some (errV E 7) := h 7 (by omega) (by omega)
  have l7 : 4 < w.heap.size := by omega
  have e8 : w.cell? ⟨11, 0, none⟩ = some (errV E 8) := h 8 (by omega) (by omega)
  have l8 : 11 < w.heap.size := by omega
  have e9 : w.cell? ⟨12, 0, none⟩ = some (errV E 9) := h 9 (by omega) (by omega)
  have l9 : 12 < w.heap.size := by omega
  have e10 : w.cell? ⟨13, 0, none⟩ = some (errV E 10) := h 10 (by omega) (by omega)
  have l10 : 13 < w.heap.size := by omega
  have e11 : w.cell? ⟨14, 0, none⟩ = some (errV E 11) := h 11 (by omega) (by omega)
  have l11 : 14 < w.heap.size := by omega
  have e12 : w.cell? ⟨2, 0, none⟩ = some (errV E 12) := h 12 (by omega) (by omega)
  have l12 : 2 < w.heap.size := by omega
  have e13 : w.cell? ⟨15, 0, none⟩ = some (errV E 13) := h 13 (by omega) (by omega)
  have l13 : 15 < w.heap.size := by omega
  have e14 : w.cell? ⟨1, 0, none⟩ = some (errV E 14) := h 14 (by omega) (by omega)
  have l14 : 1 < w.heap.size := by omega
  have e15 : w.cell? ⟨5, 0, none⟩ = some (errV E 15) := h 15 (by omega) (by omega)
  have l15 : 5 < w.heap.size := by omega
  have e16 : w.cell? ⟨16, 0, none⟩ = some (errV E 16) := h 16 (by omega) (by omega)
  have l16 : 16 < w.heap.size := by omega
  have e17 : w.cell? ⟨6, 0, none⟩ = some (errV E 17) := h 17 (by omega) (by omega)
  have l17 : 6 < w.heap.size := by omega
  have e18 : w.cell? ⟨17, 0, none⟩ = some (errV E 18) := h 18 (by omega) (by omega)
  have l18 : 17 < w.heap.size := by omega
  have e19 : w.cell? ⟨18, 0, none⟩ = some (errV E 19) := h 19 (by omega) (by omega)
  have l19 : 18 < w.heap.size := by omega
  have e20 : w.cell? ⟨19, 0, none⟩ = some (errV E 20) := h 20 (by omega) (by omega)
  have l20 : 19 < w.heap.size := by omega
  have e21 : w.cell? ⟨20, 0, none⟩ = some (errV E 21) := h 21 (by omega) (by omega)
  have l21 : 20 < w.heap.size := by omega
  have e22 : w.cell? ⟨21, 0, none⟩ = some (errV E 22) := h 22 (by omega) (by omega)
  have l22 : 21 < w.heap.size := by omega
  have e23 : w.cell? ⟨22, 0, none⟩ = some (errV E 23) := h 23 (by omega) (by omega)
  have l23 : 22 < w.heap.size := by omega
  have e24 : w.cell? ⟨23, 0, none⟩ = some (errV E 24) := h 24 (by omega) (by omega)
  have l24 : 23 < w.heap.size := by omega
  have e25 : w.cell? ⟨24, 0, none⟩ = some (errV E 25) := h 25 (by omega) (by omega)
  have l25 : 24 < w.heap.size := by omega
  have e26 : w.cell? ⟨25, 0, none⟩ = some (errV E 26) := h 26 (by omega) (by omega)
  have l26 : 25 < w.heap.size := by omega
  have e27 : w.cell? ⟨26, 0, none⟩ = some (errV E 27) := h 27 (by omega) (by omega)
  have l27 : 26 < w.heap.size := by omega
  have e28 : w.cell? ⟨27, 0, none⟩ = some (errV E 28) := h 28 (by omega) (by omega)
  have l28 : 27 < w.heap.size := by omega
  have e29 : w.cell? ⟨28, 0, none⟩ = some (errV E 29) := h 29 (by omega) (by omega)
  have l29 : 28 < w.heap.size := by omega
  have e30 : w.cell? ⟨29, 0, none⟩ = some (errV E 30) := h 30 (by omega) (by omega)
  have l30 : 29 < w.heap.size := by omega
  have e31 : w.cell? ⟨30, 0, none⟩ = some (errV E 31) := h 31 (by omega) (by omega)
  have l31 : 30 < w.heap.size := by omega
  have e32 : w.cell? ⟨31, 0, none⟩ = some (errV E 32) := h 32 (by omega) (by omega)
  have l32 : 31 < w.heap.size := by omega
  have e33 : w.cell? ⟨32, 0, none⟩ = some (errV E 33) := h 33 (by omega) (by omega)
  have l33 : 32 < w.heap.size := by omega
  have e34 : w.cell? ⟨33, 0, none⟩ = some (errV E 34) := h 34 (by omega) (by omega)
  have l34 : 33 < w.heap.size := by omega
  have e35 : w.cell? ⟨34, 0, none⟩ = some (errV E 35) := h 35 (by omega) (by omega)
  have l35 : 34 < w.heap.size := by omega
  have e36 : w.cell? ⟨35, 0, none⟩ = some (errV E 36) := h 36 (by omega) (by omega)
  have l36 : 35 < w.heap.size := by omega
  have e37 : w.cell? ⟨36, 0, none⟩ = some (errV E 37) := h 37 (by omega) (by omega)
  have l37 : 36 < w.heap.size := by omega
  clear h hg
  go_enter Tryd.func80, Tryd.ntmps80
  go_wp2_with (first | ((with_reducible refine wpList_store_top ?_ 141 (.tmp 0) (.tmp 38) ?_ _ (errList E).toArray _ ?_ ?_ rfl (by kernel_rfl) (errList_one E) ?_); (rfl); (rfl); (rfl); (rfl)) | ((with_reducible refine wpList_build_as ?_ 141 [(0, .tmp 1), (1, .tmp 2), (2, .tmp 3), (3, .tmp 4), (4, .tmp 5), (5, .tmp 6), (6, .tmp 7), (7, .tmp 8), (8, .tmp 9), (9, .tmp 10), (10, .tmp 11), (11, .tmp 12), (12, .tmp 13), (13, .tmp 14), (14, .tmp 15), (15, .tmp 16), (16, .tmp 17), (17, .tmp 18), (18, .tmp 19), (19, .tmp 20), (20, .tmp 21), (21, .tmp 22), (22, .tmp 23), (23, .tmp 24), (24, .tmp 25), (25, .tmp 26), (26, .tmp 27), (27, .tmp 28), (28, .tmp 29), (29, .tmp 30), (30, .tmp 31), (31, .tmp 32), (32, .tmp 33), (33, .tmp 34), (34, .tmp 35), (35, .tmp 36), (36, .tmp 37)] ?_ (errList E).toArray ?_ ?_); (rfl); (rfl); (exact built_list E)))
  try go_frame
  exact bodyPost_ret (v := .agg (errList E).toArray) (results_cell_row (p := 0) (ty := 141) (by kernel_rfl) _ _ w.heap.size _ _ _ _ rfl (heap_alloc_new w _) Tryd.underlying141 rfl (by kernel_rfl)) rfl ⟨rfl, (Fr.refl _ _).alloc _⟩

theorem errV_pos (E : Nat → Addr) (k : Nat) (hk : 1 ≤ k) : errV E k = .iface 204 (.pointer (some (E k))) := by
  unfold errV; rw [if_neg (by omega)]
theorem errList_get (E : Nat → Addr) (j : Nat) (hj : j < 37) : (errList E)[j]? = some (.iface 204 (.pointer (some (E (j + 1))))) := by
  have e : errList E = (List.range 37).map (fun i => errV E (i + 1)) := rfl
  rw [e, List.getElem?_map, List.getElem?_range hj, Option.map_some, errV_pos _ _ (by omega)]
theorem isAgg_error (w : World) : (isAgg 31).run Tryd.prog w = .ok false w := by kernel_rfl
theorem info_some {P : Program} {α : Type} {t : TypeId} {f : TypeInfo → α} {x : α} (h : (P.info? t).map f = some x) : ∃ i, P.info? t = some i ∧ f i = x := by
  cases hq : P.info? t with
  | none => simp [hq] at h
  | some i => exact ⟨i, rfl, by simpa [hq] using h⟩
theorem infoErr : (Tryd.prog.info? 204).map (·.comparable) = some true := by kernel_rfl
theorem infoErrS : (Tryd.prog.info? 218).map (·.size) = some 1 := by kernel_rfl
theorem eql_same (w : World) (b : Addr) : (binOp .eql 31 (.iface 204 (.pointer (some b))) (.iface 204 (.pointer (some b)))).run Tryd.prog w = .ok (.bool true) w := by
  obtain ⟨i, hi, hc⟩ := info_some infoErr
  obtain ⟨j, hj, _⟩ := info_some infoErrS
  exact run_eql_iface_ptr_same w _ Tryd.underlying31 Tryd.underlying204 hi hc hj
theorem eql_other (w : World) (b c : Addr) (hne : b ≠ c) {ca cb : Array Value} {ta tb : TypeId} (hb : w.heap[b.block]? = some (.cells ca ta (0, 0))) (hcc : w.heap[c.block]? = some (.cells cb tb (0, 0))) :
    (binOp .eql 31 (.iface 204 (.pointer (some b))) (.iface 204 (.pointer (some c)))).run Tryd.prog w = .ok (.bool false) w := by
  obtain ⟨i, hi, hc⟩ := info_some infoErr
  obtain ⟨j, hj, hz⟩ := info_some infoErrS
  exact run_eql_iface_ptr_other w Tryd.underlying31 Tryd.underlying204 hi hc hj (by rw [hz]; decide) hne hb hcc

set_option maxRecDepth 100000 in
theorem num_nil (w : World) : Calls Tryd.prog 35 #[.nilIface] w fun e w' => e = .returned (.int .i64 0) ∧ w = w' := by
  go_enter Tryd.func35, Tryd.ntmps35
  go_wp2
  go_ret
  exact ⟨rfl, rfl⟩
set_option maxRecDepth 100000 in
set_option maxHeartbeats 1000000 in
theorem num_err (w : World) (E : Nat → Addr) (hE : ErrsAt w E) (hg : gB ≤ w.heap.size) (k : Nat) (h1 : 1 ≤ k) (h2 : k ≤ 37) :
    Calls Tryd.prog 35 #[.iface 204 (.pointer (some (E k)))] w fun e w' => e = .returned (.int .i64 k) ∧ Fr noB w w' := by
  have HL := Lib.hid (list_any w E hE.at_ hg)
  have HE := Lib.hid hE
  clear hE hg
  go_enter Tryd.func35, Tryd.ntmps35
  go_wp2_with (go_at_call 80; refine HL.out.mono ?_; rintro e w1 ⟨rfl, hf⟩; have Hf := Lib.hid hf; clear hf)
  go_loopw [8] (fun x wr => ∃ j : Nat, j < k ∧ x = .int .i64 j ∧ wr = w1) (fun x _ => k - (intOf x).toNat)
  case atStart => exact ⟨0, by omega, rfl, rfl⟩
  case round =>
    obtain ⟨j, hj, rfl, rfl⟩ := hrel
    by_cases hjk : j + 1 = k
    · subst hjk
      have he := eql_same wr (E (j + 1))
      go_wp2_with (first | ((with_reducible refine wpList_index_cell ?_ 141 31 (.tmp 7) (.tmp 8) ?_ 37 Tryd.underlying141 (isAgg_error _) (by kernel_rfl) (errList E) j ?_ ?_ (by omega) _ (errList_get E j (by omega)) ?_); (rfl); (rfl); (rfl); (rfl)))
      go_ret
      exact ⟨rfl, Hf.out⟩
    · have hne : E k ≠ E (j + 1) := fun e => hjk (HE.out.inj _ _ (by omega) (by omega) h1 h2 e.symm)
      obtain ⟨ca, ta, ha⟩ := HE.out.obj k h1 h2
      obtain ⟨cb, tb, hb⟩ := HE.out.obj (j + 1) (by omega) (by omega)
      have ha1 := (Hf.out.block _ (Array.getElem?_eq_some_iff.1 ha).1 id).trans ha
      have hb1 := (Hf.out.block _ (Array.getElem?_eq_some_iff.1 hb).1 id).trans hb
      have he := eql_other wr (E k) (E (j + 1)) hne ha1 hb1
      clear ha hb ha1 hb1 hne
      go_wp2_with (first | ((with_reducible refine wpList_index_cell ?_ 141 31 (.tmp 7) (.tmp 8) ?_ 37 Tryd.underlying141 (isAgg_error _) (by kernel_rfl) (errList E) j ?_ ?_ (by omega) _ (errList_get E j (by omega)) ?_); (rfl); (rfl); (rfl); (rfl)))
      go_roundw
      case rel => exact ⟨j + 1, by omega, by go_num, by first | rfl | trivial⟩
      case measure => simp [intOf]; omega
theorem num_any (w : World) (E : Nat → Addr) (hE : ErrsAt w E) (hg : gB ≤ w.heap.size) (k : Nat) (h2 : k ≤ 37) :
    Calls Tryd.prog 35 #[errV E k] w fun e w' => e = .returned (.int .i64 k) ∧ Fr noB w w' := by
  by_cases h : k = 0
  · subst h
    refine (num_nil w).mono ?_
    rintro e w' ⟨rfl, rfl⟩
    exact ⟨rfl, Fr.refl _ _⟩
  · rw [errV_pos _ _ (by omega)]
    exact num_err w E hE hg k (by omega) h2
end Go.Proofs.YteklldbfdmaafaaDoor
