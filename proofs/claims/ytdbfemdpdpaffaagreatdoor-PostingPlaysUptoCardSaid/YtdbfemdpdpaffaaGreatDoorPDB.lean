/-
  PoD7, PoD8, PoD9.
-/
import Derived.Test.YtdbfemdpdpaffaaGreatDoorPCW
import Derived.Test.YtdbfemdpdpaffaaGreatDoorPCY
import Derived.Test.YtdbfemdpdpaffaaGreatDoorPCK
/-
  The document's whole numbers (chapter 4): whole, plus, fits, Sum.
-/
namespace Go.Proofs.YtdbfemdpdpaffaaGreatDoor
open Go Go.RowKit Go.MapKept
def i64C (x : Int) : List Value := [.int .i64 x]
theorem i64C_ok : EncOk i64C 1 := ⟨fun _ => rfl, fun x => by unfold i64C; exact xO, by omega⟩
section
variable {W : World}
set_option maxHeartbeats 1000000 in
theorem dwhole_ct (x : Int) : Ct Tryz.prog W 64 [.int .i64 x] [] (fun _ : Unit => .agg #[.int .i64 (wholeW x).hi, .int .u64 (wholeW x).lo]) (fun _ => []) := by
  have w1 : IntKind.u64.wrap x = x % 18446744073709551616 := by
    simp only [IntKind.wrap, IntKind.signed, IntKind.bits]
    simp
  unfold wholeW
  by_cases hx : x < 0
  · have q : decide (x < 0) = true := decide_eq_true hx
    rw [if_pos hx]
    refine Ct.enter Tryz.func64 rfl Tryz.ntmps64 (by simp) (fun R => ?_)
    repeat' (first 
    | (refine is_alloc ?_; refine KJ_alloc rfl (fun g => ?_))
    | (refine ek_conv ?_; refine EK_ev (Ev_convI_v rfl w1) ?_)
    | (refine ek_build ?_; refine EK_ev (Ev_build xV xW) ?_)
    | (refine ek_lss ?_; refine EK_ev (Ev_lssI_q rfl rfl q) ?_)
    | refine xst ?_
    | (refine xsa ?_; intro _)
    | (refine xsb ?_ ?_ <;> intro _ <;> first | (exfalso; omega) | skip)
    | refine xsc ?_
    | fail)
    all_goals (refine is_ex ?_; exact KJ_done (by first | exact Or.inl rfl | exact Or.inr rfl) rfl (Rvs.agg (T := 110) rfl inferInstance inferInstance xS xC Rvs.nil) () (by rfl) (xN))
  · have q : decide (x < 0) = false := decide_eq_false hx
    rw [if_neg hx]
    refine Ct.enter Tryz.func64 rfl Tryz.ntmps64 (by simp) (fun R => ?_)
    repeat' (first 
    | (refine is_alloc ?_; refine KJ_alloc rfl (fun g => ?_))
    | (refine ek_conv ?_; refine EK_ev (Ev_convI_v rfl w1) ?_)
    | (refine ek_build ?_; refine EK_ev (Ev_build xV xW) ?_)
    | (refine ek_lss ?_; refine EK_ev (Ev_lssI_q rfl rfl q) ?_)
    | refine xst ?_
    | (refine xsa ?_; intro _)
    | (refine xsb ?_ ?_ <;> intro _ <;> first | (exfalso; omega) | skip)
    | refine xsc ?_
    | fail)
    all_goals (refine is_ex ?_; exact KJ_done (by first | exact Or.inl rfl | exact Or.inr rfl) rfl (Rvs.agg (T := 110) rfl inferInstance inferInstance xS xC Rvs.nil) () (by rfl) (xN))
set_option maxHeartbeats 2000000 in
theorem dplus_ct (a b : Wh) {u v c d : Int} (ha : WhOk a u c) (hb : WhOk b v d) (hc : c + d + 1 ≤ 9223372036854775807) (hc0 : 0 ≤ c) (hd0 : 0 ≤ d) :
    Ct Tryz.prog W 63 [.agg #[.int .i64 a.hi, .int .u64 a.lo], .agg #[.int .i64 b.hi, .int .u64 b.lo]] [] (fun _ : Unit => .agg #[.int .i64 (plusW a b).hi, .int .u64 (plusW a b).lo]) (fun _ => []) := by
  have hcr := carry_iff ha.l0 ha.l1 hb.l0 hb.l1
  have a4 := ha.h0; have a5 := ha.h1; have b4 := hb.h0; have b5 := hb.h1
  obtain ⟨ah, al⟩ := a
  obtain ⟨bh, bl⟩ := b
  dsimp only at hcr a4 a5 b4 b5
  unfold plusW
  dsimp only
  have w1 : IntKind.u64.wrap (al + bl) = (al + bl) % 18446744073709551616 := by
    simp only [IntKind.wrap, IntKind.signed, IntKind.bits]
    simp
  by_cases h : 18446744073709551616 ≤ al + bl
  · rw [decide_eq_true h] at hcr
    rw [if_pos h]
    obtain ⟨l, hl⟩ : ∃ l, l = (al + bl) % 18446744073709551616 := ⟨_, rfl⟩
    rw [← hl] at w1 hcr ⊢
    refine Ct.enter Tryz.func63 rfl Tryz.ntmps63 (by simp) (fun R => ?_)
    repeat' (first 
    | (refine is_alloc ?_; refine KJ_alloc rfl (fun g => ?_))
    | (refine is_box ?_; refine KJ_box rfl xF rfl (fun g => ?_))
    | (refine ek_build ?_; refine EK_ev (Ev_build xV xW) ?_)
    | (refine ek_add ?_; first | refine EK_ev (Ev_addI_v (r := ah + bh) rfl rfl rfl (by omega)) ?_ | refine EK_ev (Ev_addI_v (r := ah + bh + 1) rfl rfl rfl (by omega)) ?_ | refine EK_ev (Ev_add_w rfl rfl w1) ?_)
    | (refine ek_lss ?_; refine EK_ev (Ev_lssI_q rfl rfl hcr) ?_)
    | refine xst ?_
    | (refine xsa ?_; intro _)
    | (refine xsb ?_ ?_ <;> intro _ <;> first | (exfalso; omega) | skip)
    | refine xsc ?_
    | fail)
    all_goals (refine is_ex ?_; exact KJ_done (by first | exact Or.inl rfl | exact Or.inr rfl) rfl (Rvs.agg (T := 110) rfl inferInstance inferInstance xS xC Rvs.nil) () (by rfl) (xN))
  · rw [decide_eq_false h] at hcr
    rw [if_neg h]
    obtain ⟨l, hl⟩ : ∃ l, l = (al + bl) % 18446744073709551616 := ⟨_, rfl⟩
    rw [← hl] at w1 hcr ⊢
    refine Ct.enter Tryz.func63 rfl Tryz.ntmps63 (by simp) (fun R => ?_)
    repeat' (first 
    | (refine is_alloc ?_; refine KJ_alloc rfl (fun g => ?_))
    | (refine is_box ?_; refine KJ_box rfl xF rfl (fun g => ?_))
    | (refine ek_build ?_; refine EK_ev (Ev_build xV xW) ?_)
    | (refine ek_add ?_; first | refine EK_ev (Ev_addI_v (r := ah + bh) rfl rfl rfl (by omega)) ?_ | refine EK_ev (Ev_add_w rfl rfl w1) ?_)
    | (refine ek_lss ?_; refine EK_ev (Ev_lssI_q rfl rfl hcr) ?_)
    | refine xst ?_
    | (refine xsa ?_; intro _)
    | (refine xsb ?_ ?_ <;> intro _ <;> first | (exfalso; omega) | skip)
    | refine xsc ?_
    | fail)
    all_goals (refine is_ex ?_; exact KJ_done (by first | exact Or.inl rfl | exact Or.inr rfl) rfl (Rvs.agg (T := 110) rfl inferInstance inferInstance xS xC Rvs.nil) () (by rfl) (xN))
def fitV (v : Int) : Int := if fitsI v = true then v else 0
def fitE (v : Int) : Nat := if fitsI v = true then 0 else 10
set_option maxHeartbeats 2000000 in
theorem dfits_ct (a : Wh) {v c : Int} (ha : WhOk a v c) :
    Ct Tryz.prog W 65 [.agg #[.int .i64 a.hi, .int .u64 a.lo]] [] (fun _ : Unit => .tuple #[.int .i64 (fitV v), .int .i64 (fitE v : Nat)]) (fun _ => []) := by
  have hf := whFits ha
  have v0 := whVal0 ha
  have v1 := whVal1 ha
  have l0 := ha.l0
  have l1 := ha.l1
  obtain ⟨ah, al⟩ := a
  dsimp only at hf v0 v1 l0 l1
  unfold fitV fitE
  rw [← hf]
  cases g1 : decide (ah = 0) <;> cases g2 : decide (al < 9223372036854775808) <;> cases g3 : decide (ah = -1) <;> cases g4 : decide (9223372036854775808 ≤ al)
  all_goals try (exfalso; simp only [decide_eq_true_eq, decide_eq_false_iff_not] at g1 g2 g3 g4; omega)
  case true.true.false.false =>
    have hv := v0 (of_decide_eq_true g1)
    have w : IntKind.i64.wrap al = v := by rw [i64_wrap _ (by have := of_decide_eq_true g2; omega), hv]
    refine Ct.enter Tryz.func65 rfl Tryz.ntmps65 (by simp) (fun R => ?_)
    repeat' (first 
    | (refine is_box ?_; refine KJ_box rfl xF rfl (fun g => ?_))
    | (refine ek_conv ?_; refine EK_ev (Ev_convI_v rfl w) ?_)
    | (refine ek_eql ?_; first | refine EK_ev (Ev_eqlI_q rfl rfl g3) ?_ | refine EK_ev (Ev_eqlI_q rfl rfl g1) ?_)
    | (refine ek_lss ?_; refine EK_ev (Ev_lssI_q rfl rfl g2) ?_)
    | (refine ek_geq ?_; refine EK_ev (Ev_geqI_q rfl rfl g4) ?_)
    | refine xst ?_
    | (refine xsa ?_; intro _)
    | (refine xsb ?_ ?_ <;> intro _ <;> first | (exfalso; omega) | skip)
    | refine xsc ?_
    | fail)
    all_goals (exact xdn ())
  case false.false.true.true =>
    have hv := v1 (of_decide_eq_true g3)
    have w : IntKind.i64.wrap al = v := by
      have := of_decide_eq_true g4
      rw [hv]
      simp only [IntKind.wrap, IntKind.signed, IntKind.bits]
      simp
      split <;> omega
    refine Ct.enter Tryz.func65 rfl Tryz.ntmps65 (by simp) (fun R => ?_)
    repeat' (first 
    | (refine is_box ?_; refine KJ_box rfl xF rfl (fun g => ?_))
    | (refine ek_conv ?_; refine EK_ev (Ev_convI_v rfl w) ?_)
    | (refine ek_eql ?_; first | refine EK_ev (Ev_eqlI_q rfl rfl g3) ?_ | refine EK_ev (Ev_eqlI_q rfl rfl g1) ?_)
    | (refine ek_lss ?_; refine EK_ev (Ev_lssI_q rfl rfl g2) ?_)
    | (refine ek_geq ?_; refine EK_ev (Ev_geqI_q rfl rfl g4) ?_)
    | refine xst ?_
    | (refine xsa ?_; intro _)
    | (refine xsb ?_ ?_ <;> intro _ <;> first | (exfalso; omega) | skip)
    | refine xsc ?_
    | fail)
    all_goals (exact xdn ())
  all_goals refine Ct.enter Tryz.func65 rfl Tryz.ntmps65 (by simp) (fun R => ?_)
  all_goals repeat' (first 
    | (refine is_box ?_; refine KJ_box rfl xF rfl (fun g => ?_))
    | (refine ek_eql ?_; first | refine EK_ev (Ev_eqlI_q rfl rfl g3) ?_ | refine EK_ev (Ev_eqlI_q rfl rfl g1) ?_)
    | (refine ek_lss ?_; refine EK_ev (Ev_lssI_q rfl rfl g2) ?_)
    | (refine ek_geq ?_; refine EK_ev (Ev_geqI_q rfl rfl g4) ?_)
    | refine xst ?_
    | (refine xsa ?_; intro _)
    | (refine xsb ?_ ?_ <;> intro _ <;> first | (exfalso; omega) | skip)
    | refine xsc ?_
    | fail)
  all_goals (exact xdn ())
theorem sum_take {l : List Int} {i : Nat} {x : Int} (hx : l[i]? = some x) : (l.take (i + 1)).sum = (l.take i).sum + x := by
  rw [List.take_add_one, hx, List.sum_append]
  simp
set_option maxHeartbeats 2000000 in
theorem dsum_ct (A : SP) (a : Option Addr) (c : Nat) (l : List Int) (hL : Lv W i64C 1 A a l) (hl : l.length ≤ 140737488355328) (hx : ∀ x ∈ l, -9223372036854775808 ≤ x ∧ x ≤ 9223372036854775807) :
    Ct Tryz.prog W 35 [.slice a l.length c] [A] (fun _ : Unit => .tuple #[.int .i64 (fitV l.sum), .int .i64 (fitE l.sum : Nat)]) (fun _ => [A]) := by
  refine Ct.enter Tryz.func35 rfl Tryz.ntmps35 (by simp) (fun R => ?_)
  repeat' (first 
    | (refine is_alloc ?_; refine KJ_alloc rfl (fun g => ?_))
    | (refine ek_build ?_; refine EK_ev (Ev_build xV xW) ?_)
    | refine xst ?_
    | (refine xsa ?_; intro _)
    | (refine xsb ?_ ?_ <;> intro _ <;> first | (exfalso; omega) | skip)
    | refine xsc ?_
    | (refine KJ_draws (id := 5) (.op 0 (.op 1 (.op 2 (.op 3 (.op 4 (.ef 5 [0] (.ef 6 [] (.ef 7 [] .nil)))))))) (by kernel_rfl) (by kernel_rfl) ?_)
    | refine FW_alt ?_ ?_
    | refine FW_efn rfl rfl rfl rfl rfl ?_ ?_
    | refine KJ_flow ?_ ?_
    | exact Rech.nil
    | fail)
  refine KJ_loop (fun x : {x : Nat × Wh // x.1 ≤ l.length ∧ WhOk x.2 (l.take x.1).sum (2 * x.1)} => [(0, .slice a l.length c), (4, .pointer (some ⟨g, 0, none⟩)), (5, .int .i64 (x.1.1 : Nat))])
    (fun x => [A, cellsP g [.int .i64 x.1.2.hi, .int .u64 x.1.2.lo] 110] ++ R) (fun x => l.length - x.1.1) ⟨(0, ⟨0, 0⟩), by omega, ⟨by decide, by decide, by simp, by decide, by decide⟩⟩ xB (xN) (fun ⟨(i, w), hi, hw⟩ => ?_)
  dsimp only at hi hw ⊢
  by_cases hlt : i < l.length
  · have ql : decide ((i : Int) < (l.length : Nat)) = true := decide_eq_true (by omega)
    obtain ⟨x, hxi⟩ : ∃ s, l[i]? = some s := ⟨_, List.getElem?_eq_getElem hlt⟩
    refine KJ.lvSome hL xS (by omega) (fun b0 of hab => ?_)
    subst hab
    have hoff : of + Int.toNat (i : Int) * 1 = of + i * 1 + 0 := by simp
    have kx : (i64C x)[0]? = some (.int .i64 x) := rfl
    have cw := dwhole_ct (W := W) x
    have hwx := wholeW_ok (hx x (List.mem_of_getElem? hxi))
    have hnx := plusW_ok hw hwx
    have cp := dplus_ct (W := W) w (wholeW x) hw hwx (by omega) (by omega) (by omega)
    rw [← sum_take hxi] at hnx
    have hb2 : 2 * (i : Int) + 1 + 1 = 2 * ((i + 1 : Nat) : Int) := by omega
    rw [hb2] at hnx
    obtain ⟨y, hy⟩ : ∃ y, y = wholeW x := ⟨_, rfl⟩
    rw [← hy] at cw cp hnx
    obtain ⟨z, hz⟩ : ∃ z, z = plusW w y := ⟨_, rfl⟩
    rw [← hz] at cp hnx
    obtain ⟨wh, wl⟩ := w
    obtain ⟨yh, yl⟩ := y
    dsimp only at cw cp ⊢
    repeat' (first 
    | (refine is_call ?_; first | (refine KJ_call xE cp xP rfl (fun _ => ?_)) | (refine KJ_call xE cw xP rfl (fun _ => ?_)))
    | (refine ek_load ?_; refine EK_ev (Ev_loadLvF i64C_ok hL rfl rfl xS hoff hxi kx) ?_)
    | (refine ek_add ?_; refine EK_ev (Ev_addI_v (r := ((i + 1 : Nat) : Int)) rfl rfl (by omega) (by omega)) ?_)
    | (refine ek_lss ?_; refine EK_ev (Ev_lssI_q rfl rfl ql) ?_)
    | refine xst ?_
    | (refine xsa ?_; intro _)
    | (refine xsb ?_ ?_ <;> intro _ <;> first | (exfalso; omega) | skip)
    | refine xsc ?_
    | (refine KJ_draws (id := 5) (.op 0 (.op 1 (.op 2 (.op 3 (.op 4 (.ef 5 [0] (.ef 6 [] (.ef 7 [] .nil)))))))) (by kernel_rfl) (by kernel_rfl) ?_)
    | refine FW_alt ?_ ?_
    | refine FW_efn rfl rfl rfl rfl rfl ?_ ?_
    | refine KJ_flow ?_ ?_
    | exact Rech.nil
    | fail)
    all_goals refine KJ_again ⟨(i + 1, z), hlt, hnx⟩ (by show l.length - (i + 1) < l.length - i; omega) xB (xN)
  have ql : decide ((i : Int) < (l.length : Nat)) = false := decide_eq_false (by omega)
  have ei : i = l.length := by omega
  subst ei
  rw [List.take_length] at hw
  have cf := dfits_ct (W := W) w hw
  obtain ⟨wh, wl⟩ := w
  dsimp only at cf ⊢
  repeat' (first 
    | (refine is_call ?_; refine KJ_call xE cf xP rfl (fun _ => ?_))
    | (refine ek_lss ?_; refine EK_ev (Ev_lssI_q rfl rfl ql) ?_)
    | refine xst ?_
    | (refine xsa ?_; intro _)
    | (refine xsb ?_ ?_ <;> intro _ <;> first | (exfalso; omega) | skip)
    | refine xsc ?_
    | (refine KJ_draws (id := 5) (.op 0 (.op 1 (.op 2 (.op 3 (.op 4 (.ef 5 [0] (.ef 6 [] (.ef 7 [] .nil)))))))) (by kernel_rfl) (by kernel_rfl) ?_)
    | refine FW_alt ?_ ?_
    | refine FW_efn rfl rfl rfl rfl rfl ?_ ?_
    | refine KJ_flow ?_ ?_
    | exact Rech.nil
    | fail)
  all_goals (exact xdn ())
end
end Go.Proofs.YtdbfemdpdpaffaaGreatDoor
/-
  The document's Check of a posting (chapter 16).
-/
namespace Go.Proofs.YtdbfemdpdpaffaaGreatDoor
open Go Go.RowKit Go.MapKept
theorem dup_not {l : List Leg} {i j : Nat} {x y : Leg} (hj : l[j]? = some y) (hi : l[i]? = some x) (hlt : j < i) (he : x.acc = y.acc) : ¬ (l.map (·.acc)).Nodup := fun q => by
  rw [List.nodup_iff_pairwise_ne, List.pairwise_iff_getElem] at q
  obtain ⟨h1, h2⟩ := List.getElem?_eq_some_iff.1 hj
  obtain ⟨h3, h4⟩ := List.getElem?_eq_some_iff.1 hi
  have := q j i (by rw [List.length_map]; exact h1) (by rw [List.length_map]; exact h3) hlt
  rw [List.getElem_map, List.getElem_map, h2, h4] at this
  exact this he.symm
theorem nodup_next {l : List Leg} {i : Nat} {x : Leg} (hi : l[i]? = some x) (h : ((l.take i).map (·.acc)).Nodup) (hn : ∀ j y, j < i → l[j]? = some y → x.acc ≠ y.acc) : ((l.take (i + 1)).map (·.acc)).Nodup := by
  rw [List.take_add_one, hi, List.map_append, List.nodup_append]
  refine ⟨h, by simp, fun a ha b hb => ?_⟩
  simp only [Option.toList_some, List.map_cons, List.map_nil, List.mem_singleton] at hb
  subst hb
  obtain ⟨y, hy, rfl⟩ := List.mem_map.1 ha
  obtain ⟨j, hj, e⟩ := List.mem_iff_getElem.1 hy
  rw [List.length_take] at hj
  rw [List.getElem_take] at e
  exact fun q => hn j y (by omega) (by rw [List.getElem?_eq_getElem (by omega), e]) q.symm
theorem amtB_cases {x : Leg} (h : amtB x = false) : x.amt = 0 ∨ (x.amt ≠ 0 ∧ x.amt < -4611686018427387904) ∨ (x.amt ≠ 0 ∧ ¬ x.amt < -4611686018427387904 ∧ 4611686018427387904 < x.amt) := by
  unfold amtB at h
  simp only [Bool.and_eq_false_iff, decide_eq_false_iff_not] at h
  omega
theorem amtB_good {x : Leg} (h : amtB x = true) : x.amt ≠ 0 ∧ ¬ x.amt < -4611686018427387904 ∧ ¬ 4611686018427387904 < x.amt := by
  unfold amtB at h
  simp only [Bool.and_eq_true, decide_eq_true_eq] at h
  omega
section
variable {W : World} {F : Nat → Addr}
set_option maxHeartbeats 16000000 in
set_option maxRecDepth 20000 in
theorem dpcheck_ct (T : SP) (a : Option Addr) (c : Nat) (p : Pst) (hp : PstFit p) (hL : Lv W legC 2 T a p.legs) :
    Ct Tryz.prog W 15 [.agg (pstC p a c).toArray] [T] (fun _ : Unit => .int .i64 (checkE p : Nat)) (fun _ => [T]) := by
  have cid := dpid_ct (W := W) p.id hp.id
  have hacc := hp.acc
  have hamt := hp.amt
  have hnl := hp.legs
  have hno := hp.note
  obtain ⟨id, tick, note, legs⟩ := p
  dsimp only at cid hacc hamt hnl hno hL
  obtain ⟨r, hr⟩ : ∃ r, r = checkE ⟨id, tick, note, legs⟩ := ⟨_, rfl⟩
  rw [← hr]
  unfold checkE at hr
  dsimp only at hr
  unfold pstC
  dsimp only
  by_cases h1 : pidOk id = false
  · rw [if_pos h1] at hr
    subst hr
    rw [h1] at cid
    refine Ct.enter Tryz.func15 rfl Tryz.ntmps15 (by simp) (fun R => ?_)
    repeat' (first 
    | (refine is_box ?_; refine KJ_box rfl xF rfl (fun g => ?_))
    | (refine is_call ?_; refine KJ_call xE cid xP rfl (fun _ => ?_))
    | refine xst ?_
    | (refine xsa ?_; intro _)
    | (refine xsb ?_ ?_ <;> intro _ <;> first | (exfalso; omega) | skip)
    | refine xsc ?_
    | (refine KJ_draws (id := 28) (.op 0 (.op 1 (.op 2 (.op 3 (.op 4 (.op 5 (.op 6 (.op 7 (.op 8 (.op 9 (.op 10 (.op 11 (.op 12 .nil))))))))))))) (by kernel_rfl) (by kernel_rfl) ?_)
    | refine FW_alt ?_ ?_
    | refine FW_efn rfl rfl rfl rfl rfl ?_ ?_
    | refine KJ_flow ?_ ?_
    | exact Rech.nil
    | fail)
    all_goals (exact xdn ())
  rw [if_neg h1] at hr
  rw [(by simpa using h1 : pidOk id = true)] at cid
  by_cases h2 : tick < 0
  · rw [if_pos (.inl h2)] at hr
    subst hr
    have q2 : decide (tick < 0) = true := decide_eq_true h2
    refine Ct.enter Tryz.func15 rfl Tryz.ntmps15 (by simp) (fun R => ?_)
    repeat' (first 
    | (refine is_box ?_; refine KJ_box rfl xF rfl (fun g => ?_))
    | (refine is_call ?_; refine KJ_call xE cid xP rfl (fun _ => ?_))
    | (refine ek_lss ?_; refine EK_ev (Ev_lssI_q rfl rfl q2) ?_)
    | refine xst ?_
    | (refine xsa ?_; intro _)
    | (refine xsb ?_ ?_ <;> intro _ <;> first | (exfalso; omega) | skip)
    | refine xsc ?_
    | (refine KJ_draws (id := 28) (.op 0 (.op 1 (.op 2 (.op 3 (.op 4 (.op 5 (.op 6 (.op 7 (.op 8 (.op 9 (.op 10 (.op 11 (.op 12 .nil))))))))))))) (by kernel_rfl) (by kernel_rfl) ?_)
    | refine FW_alt ?_ ?_
    | refine FW_efn rfl rfl rfl rfl rfl ?_ ?_
    | refine KJ_flow ?_ ?_
    | exact Rech.nil
    | fail)
    all_goals (exact xdn ())
  have q2 : decide (tick < 0) = false := decide_eq_false h2
  by_cases h3 : 1099511627776 < tick
  · rw [if_pos (.inr h3)] at hr
    subst hr
    have q3 : decide ((1099511627776 : Int) < tick) = true := decide_eq_true h3
    refine Ct.enter Tryz.func15 rfl Tryz.ntmps15 (by simp) (fun R => ?_)
    repeat' (first 
    | (refine is_box ?_; refine KJ_box rfl xF rfl (fun g => ?_))
    | (refine is_call ?_; refine KJ_call xE cid xP rfl (fun _ => ?_))
    | (refine ek_lss ?_; refine EK_ev (Ev_lssI_q rfl rfl q2) ?_)
    | (refine ek_gtr ?_; refine EK_ev (Ev_gtrI_q rfl rfl q3) ?_)
    | refine xst ?_
    | (refine xsa ?_; intro _)
    | (refine xsb ?_ ?_ <;> intro _ <;> first | (exfalso; omega) | skip)
    | refine xsc ?_
    | (refine KJ_draws (id := 28) (.op 0 (.op 1 (.op 2 (.op 3 (.op 4 (.op 5 (.op 6 (.op 7 (.op 8 (.op 9 (.op 10 (.op 11 (.op 12 .nil))))))))))))) (by kernel_rfl) (by kernel_rfl) ?_)
    | refine FW_alt ?_ ?_
    | refine FW_efn rfl rfl rfl rfl rfl ?_ ?_
    | refine KJ_flow ?_ ?_
    | exact Rech.nil
    | fail)
    all_goals (exact xdn ())
  have q3 : decide ((1099511627776 : Int) < tick) = false := decide_eq_false h3
  rw [if_neg (fun q => q.elim h2 h3)] at hr
  by_cases h4 : 255 < note.length
  · rw [if_pos h4] at hr
    subst hr
    have q4 : decide ((255 : Int) < ((note.length : Nat) : Int)) = true := decide_eq_true (by omega)
    refine Ct.enter Tryz.func15 rfl Tryz.ntmps15 (by simp) (fun R => ?_)
    repeat' (first 
    | (refine is_box ?_; refine KJ_box rfl xF rfl (fun g => ?_))
    | (refine is_call ?_; refine KJ_call xE cid xP rfl (fun _ => ?_))
    | (refine ek_lss ?_; refine EK_ev (Ev_lssI_q rfl rfl q2) ?_)
    | (refine ek_gtr ?_; first | refine EK_ev (Ev_gtrI_q rfl rfl q4) ?_ | refine EK_ev (Ev_gtrI_q rfl rfl q3) ?_)
    | refine xst ?_
    | (refine xsa ?_; intro _)
    | (refine xsb ?_ ?_ <;> intro _ <;> first | (exfalso; omega) | skip)
    | refine xsc ?_
    | (refine KJ_draws (id := 28) (.op 0 (.op 1 (.op 2 (.op 3 (.op 4 (.op 5 (.op 6 (.op 7 (.op 8 (.op 9 (.op 10 (.op 11 (.op 12 .nil))))))))))))) (by kernel_rfl) (by kernel_rfl) ?_)
    | refine FW_alt ?_ ?_
    | refine FW_efn rfl rfl rfl rfl rfl ?_ ?_
    | refine KJ_flow ?_ ?_
    | exact Rech.nil
    | fail)
    all_goals (exact xdn ())
  have q4 : decide ((255 : Int) < ((note.length : Nat) : Int)) = false := decide_eq_false (by omega)
  rw [if_neg h4] at hr
  by_cases h5 : legs.length < 2
  · rw [if_pos (.inl h5)] at hr
    subst hr
    have q5 : decide (((legs.length : Nat) : Int) < 2) = true := decide_eq_true (by omega)
    refine Ct.enter Tryz.func15 rfl Tryz.ntmps15 (by simp) (fun R => ?_)
    repeat' (first 
    | (refine is_box ?_; refine KJ_box rfl xF rfl (fun g => ?_))
    | (refine is_call ?_; refine KJ_call xE cid xP rfl (fun _ => ?_))
    | (refine ek_lss ?_; first | refine EK_ev (Ev_lssI_q rfl rfl q5) ?_ | refine EK_ev (Ev_lssI_q rfl rfl q2) ?_)
    | (refine ek_gtr ?_; first | refine EK_ev (Ev_gtrI_q rfl rfl q4) ?_ | refine EK_ev (Ev_gtrI_q rfl rfl q3) ?_)
    | refine xst ?_
    | (refine xsa ?_; intro _)
    | (refine xsb ?_ ?_ <;> intro _ <;> first | (exfalso; omega) | skip)
    | refine xsc ?_
    | (refine KJ_draws (id := 28) (.op 0 (.op 1 (.op 2 (.op 3 (.op 4 (.op 5 (.op 6 (.op 7 (.op 8 (.op 9 (.op 10 (.op 11 (.op 12 .nil))))))))))))) (by kernel_rfl) (by kernel_rfl) ?_)
    | refine FW_alt ?_ ?_
    | refine FW_efn rfl rfl rfl rfl rfl ?_ ?_
    | refine KJ_flow ?_ ?_
    | exact Rech.nil
    | fail)
    all_goals (exact xdn ())
  have q5 : decide (((legs.length : Nat) : Int) < 2) = false := decide_eq_false (by omega)
  by_cases h6 : 8 < legs.length
  · rw [if_pos (.inr h6)] at hr
    subst hr
    have q6 : decide ((8 : Int) < ((legs.length : Nat) : Int)) = true := decide_eq_true (by omega)
    refine Ct.enter Tryz.func15 rfl Tryz.ntmps15 (by simp) (fun R => ?_)
    repeat' (first 
    | (refine is_box ?_; refine KJ_box rfl xF rfl (fun g => ?_))
    | (refine is_call ?_; refine KJ_call xE cid xP rfl (fun _ => ?_))
    | (refine ek_lss ?_; first | refine EK_ev (Ev_lssI_q rfl rfl q5) ?_ | refine EK_ev (Ev_lssI_q rfl rfl q2) ?_)
    | (refine ek_gtr ?_; first | refine EK_ev (Ev_gtrI_q rfl rfl q6) ?_ | refine EK_ev (Ev_gtrI_q rfl rfl q4) ?_ | refine EK_ev (Ev_gtrI_q rfl rfl q3) ?_)
    | refine xst ?_
    | (refine xsa ?_; intro _)
    | (refine xsb ?_ ?_ <;> intro _ <;> first | (exfalso; omega) | skip)
    | refine xsc ?_
    | (refine KJ_draws (id := 28) (.op 0 (.op 1 (.op 2 (.op 3 (.op 4 (.op 5 (.op 6 (.op 7 (.op 8 (.op 9 (.op 10 (.op 11 (.op 12 .nil))))))))))))) (by kernel_rfl) (by kernel_rfl) ?_)
    | refine FW_alt ?_ ?_
    | refine FW_efn rfl rfl rfl rfl rfl ?_ ?_
    | refine KJ_flow ?_ ?_
    | exact Rech.nil
    | fail)
    all_goals (exact xdn ())
  have q6 : decide ((8 : Int) < ((legs.length : Nat) : Int)) = false := decide_eq_false (by omega)
  rw [if_neg (fun q => q.elim h5 h6)] at hr
  refine Ct.enter Tryz.func15 rfl Tryz.ntmps15 (by simp) (fun R => ?_)
  repeat' (first 
    | (refine is_box ?_; refine KJ_box rfl xF rfl (fun g => ?_))
    | (refine is_call ?_; refine KJ_call xE cid xP rfl (fun _ => ?_))
    | (refine ek_lss ?_; first | refine EK_ev (Ev_lssI_q rfl rfl q5) ?_ | refine EK_ev (Ev_lssI_q rfl rfl q2) ?_)
    | (refine ek_gtr ?_; first | refine EK_ev (Ev_gtrI_q rfl rfl q6) ?_ | refine EK_ev (Ev_gtrI_q rfl rfl q4) ?_ | refine EK_ev (Ev_gtrI_q rfl rfl q3) ?_)
    | refine xst ?_
    | (refine xsa ?_; intro _)
    | (refine xsb ?_ ?_ <;> intro _ <;> first | (exfalso; omega) | skip)
    | refine xsc ?_
    | (refine KJ_draws (id := 28) (.op 0 (.op 1 (.op 2 (.op 3 (.op 4 (.op 5 (.op 6 (.op 7 (.op 8 (.op 9 (.op 10 (.op 11 (.op 12 .nil))))))))))))) (by kernel_rfl) (by kernel_rfl) ?_)
    | refine FW_alt ?_ ?_
    | refine FW_efn rfl rfl rfl rfl rfl ?_ ?_
    | refine KJ_flow ?_ ?_
    | exact Rech.nil
    | fail)
  refine KJ_loop (fun x : {i : Nat // i ≤ legs.length ∧ (legs.take i).all (fun x => accB x.acc) = true} => [(1, .pointer (some ⟨g, 0, none⟩)), (3, .int .i64 (x.1 : Nat))])
    (fun _ => [T, cellsP g [strV id, .int .i64 tick, strV note, .slice a legs.length c] 25] ++ R) (fun x => legs.length - x.1) ⟨0, by omega, rfl⟩ xB (xN) (fun ⟨i, hi, ha⟩ => ?_)
  dsimp only at hi ha ⊢
  by_cases hlt : i < legs.length
  · have ql : decide ((i : Int) < (legs.length : Nat)) = true := decide_eq_true (by omega)
    obtain ⟨x, hx⟩ : ∃ s, legs[i]? = some s := ⟨_, List.getElem?_eq_getElem hlt⟩
    refine KJ.lvSome hL xS (by omega) (fun b0 of hab => ?_)
    subst hab
    have hoff : of + Int.toNat (i : Int) * 2 + 0 = of + i * 2 + 0 := by simp
    have kx : (legC x)[0]? = some (strV x.acc) := rfl
    have ca := daccount_ct (W := W) x.acc (hacc x (List.mem_of_getElem? hx))
    have hbb : accB x.acc = false ∨ accB x.acc = true := by cases accB x.acc <;> simp
    rcases hbb with hb | hb
    · rw [hb] at ca
      rw [legsE_acc hx hb] at hr
      subst hr
      repeat' (first 
    | (refine is_call ?_; refine KJ_call xE ca xP rfl (fun _ => ?_))
    | (refine ek_load ?_; refine EK_ev (Ev_loadLvF enc_leg hL rfl rfl xS hoff hx kx) ?_)
    | (refine ek_lss ?_; refine EK_ev (Ev_lssI_q rfl rfl ql) ?_)
    | refine xst ?_
    | (refine xsa ?_; intro _)
    | (refine xsb ?_ ?_ <;> intro _ <;> first | (exfalso; omega) | skip)
    | refine xsc ?_
    | (refine KJ_draws (id := 28) (.op 0 (.op 1 (.op 2 (.op 3 (.op 4 (.op 5 (.op 6 (.op 7 (.op 8 (.op 9 (.op 10 (.op 11 (.op 12 .nil))))))))))))) (by kernel_rfl) (by kernel_rfl) ?_)
    | refine FW_alt ?_ ?_
    | refine FW_efn rfl rfl rfl rfl rfl ?_ ?_
    | refine KJ_flow ?_ ?_
    | exact Rech.nil
    | fail)
      all_goals (exact xdn ())
    · rw [hb] at ca
      have hnx : (legs.take (i + 1)).all (fun x => accB x.acc) = true := by
        rw [List.take_add_one, hx, List.all_append, ha]
        simp [hb]
      repeat' (first 
    | (refine is_call ?_; refine KJ_call xE ca xP rfl (fun _ => ?_))
    | (refine ek_load ?_; refine EK_ev (Ev_loadLvF enc_leg hL rfl rfl xS hoff hx kx) ?_)
    | (refine ek_add ?_; refine EK_ev (Ev_addI_v (r := ((i + 1 : Nat) : Int)) rfl rfl (by omega) (by omega)) ?_)
    | (refine ek_lss ?_; refine EK_ev (Ev_lssI_q rfl rfl ql) ?_)
    | refine xst ?_
    | (refine xsa ?_; intro _)
    | (refine xsb ?_ ?_ <;> intro _ <;> first | (exfalso; omega) | skip)
    | refine xsc ?_
    | (refine KJ_draws (id := 28) (.op 0 (.op 1 (.op 2 (.op 3 (.op 4 (.op 5 (.op 6 (.op 7 (.op 8 (.op 9 (.op 10 (.op 11 (.op 12 .nil))))))))))))) (by kernel_rfl) (by kernel_rfl) ?_)
    | refine FW_alt ?_ ?_
    | refine FW_efn rfl rfl rfl rfl rfl ?_ ?_
    | refine KJ_flow ?_ ?_
    | exact Rech.nil
    | fail)
      all_goals refine KJ_again ⟨i + 1, hlt, hnx⟩ (by show legs.length - (i + 1) < legs.length - i; omega) xB (xN)
  have ql : decide ((i : Int) < (legs.length : Nat)) = false := decide_eq_false (by omega)
  have ei : i = legs.length := by omega
  subst ei
  rw [List.take_length] at ha
  repeat' (first 
    | (refine ek_lss ?_; refine EK_ev (Ev_lssI_q rfl rfl ql) ?_)
    | refine xst ?_
    | (refine xsa ?_; intro _)
    | (refine xsb ?_ ?_ <;> intro _ <;> first | (exfalso; omega) | skip)
    | refine xsc ?_
    | (refine KJ_draws (id := 28) (.op 0 (.op 1 (.op 2 (.op 3 (.op 4 (.op 5 (.op 6 (.op 7 (.op 8 (.op 9 (.op 10 (.op 11 (.op 12 .nil))))))))))))) (by kernel_rfl) (by kernel_rfl) ?_)
    | refine FW_alt ?_ ?_
    | refine FW_efn rfl rfl rfl rfl rfl ?_ ?_
    | refine KJ_flow ?_ ?_
    | exact Rech.nil
    | fail)
  refine KJ.nilrow 2 1 ?_
  refine KJ_loop (fun x : {x : Nat × List Int × Option Addr × Nat // x.1 ≤ legs.length ∧ (legs.take x.1).all amtB = true ∧ x.2.1 = (legs.take x.1).map (·.amt)} => [(1, .pointer (some ⟨g, 0, none⟩)), (4, .slice x.1.2.2.1 x.1.2.1.length x.1.2.2.2), (5, .int .i64 (x.1.1 : Nat))])
    (fun x => [lsP i64C 2 1 (.slice x.1.2.2.1 x.1.2.1.length x.1.2.2.2) x.1.2.1, T, cellsP g [strV id, .int .i64 tick, strV note, .slice a legs.length c] 25] ++ R) (fun x => legs.length - x.1.1) ⟨(0, [], none, 0), by omega, rfl, rfl⟩ xB (xN) (fun ⟨(i, L, xa, xc), hi, hb, hLs⟩ => ?_)
  dsimp only at hi hb hLs ⊢
  have hLl : L.length = i := by rw [hLs, List.length_map, List.length_take]; omega
  by_cases hlt : i < legs.length
  · have ql : decide ((i : Int) < (legs.length : Nat)) = true := decide_eq_true (by omega)
    obtain ⟨x, hx⟩ : ∃ s, legs[i]? = some s := ⟨_, List.getElem?_eq_getElem hlt⟩
    refine KJ.lvSome hL xS (by omega) (fun b0 of hab => ?_)
    subst hab
    have hoff : of + Int.toNat (i : Int) * 2 + 1 = of + i * 2 + 1 := by simp
    have kx : (legC x)[1]? = some (.int .i64 x.amt) := rfl
    have hbb : amtB x = false ∨ amtB x = true := by cases amtB x <;> simp
    rcases hbb with hg | hg
    · rw [legsE_amt ha hx hg] at hr
      subst hr
      rcases amtB_cases hg with g1 | ⟨g1, g2⟩ | ⟨g1, g2, g3⟩
      · have k1 : decide (x.amt = 0) = true := decide_eq_true g1
        repeat' (first 
    | (refine ek_load ?_; refine EK_ev (Ev_loadLvF enc_leg hL rfl rfl xS hoff hx kx) ?_)
    | (refine ek_eql ?_; refine EK_ev (Ev_eqlI_q rfl rfl k1) ?_)
    | (refine ek_lss ?_; refine EK_ev (Ev_lssI_q rfl rfl ql) ?_)
    | refine xst ?_
    | (refine xsa ?_; intro _)
    | (refine xsb ?_ ?_ <;> intro _ <;> first | (exfalso; omega) | skip)
    | refine xsc ?_
    | (refine KJ_draws (id := 28) (.op 0 (.op 1 (.op 2 (.op 3 (.op 4 (.op 5 (.op 6 (.op 7 (.op 8 (.op 9 (.op 10 (.op 11 (.op 12 .nil))))))))))))) (by kernel_rfl) (by kernel_rfl) ?_)
    | refine FW_alt ?_ ?_
    | refine FW_efn rfl rfl rfl rfl rfl ?_ ?_
    | refine KJ_flow ?_ ?_
    | exact Rech.nil
    | fail)
        all_goals (exact xdn ())
      · have k1 : decide (x.amt = 0) = false := decide_eq_false g1
        have k2 : decide (x.amt < -4611686018427387904) = true := decide_eq_true g2
        repeat' (first 
    | (refine ek_load ?_; refine EK_ev (Ev_loadLvF enc_leg hL rfl rfl xS hoff hx kx) ?_)
    | (refine ek_eql ?_; refine EK_ev (Ev_eqlI_q rfl rfl k1) ?_)
    | (refine ek_lss ?_; first | refine EK_ev (Ev_lssI_q rfl rfl k2) ?_ | refine EK_ev (Ev_lssI_q rfl rfl ql) ?_)
    | refine xst ?_
    | (refine xsa ?_; intro _)
    | (refine xsb ?_ ?_ <;> intro _ <;> first | (exfalso; omega) | skip)
    | refine xsc ?_
    | (refine KJ_draws (id := 28) (.op 0 (.op 1 (.op 2 (.op 3 (.op 4 (.op 5 (.op 6 (.op 7 (.op 8 (.op 9 (.op 10 (.op 11 (.op 12 .nil))))))))))))) (by kernel_rfl) (by kernel_rfl) ?_)
    | refine FW_alt ?_ ?_
    | refine FW_efn rfl rfl rfl rfl rfl ?_ ?_
    | refine KJ_flow ?_ ?_
    | exact Rech.nil
    | fail)
        all_goals (exact xdn ())
      · have k1 : decide (x.amt = 0) = false := decide_eq_false g1
        have k2 : decide (x.amt < -4611686018427387904) = false := decide_eq_false g2
        have k3 : decide ((4611686018427387904 : Int) < x.amt) = true := decide_eq_true g3
        repeat' (first 
    | (refine ek_load ?_; refine EK_ev (Ev_loadLvF enc_leg hL rfl rfl xS hoff hx kx) ?_)
    | (refine ek_eql ?_; refine EK_ev (Ev_eqlI_q rfl rfl k1) ?_)
    | (refine ek_lss ?_; first | refine EK_ev (Ev_lssI_q rfl rfl k2) ?_ | refine EK_ev (Ev_lssI_q rfl rfl ql) ?_)
    | (refine ek_gtr ?_; refine EK_ev (Ev_gtrI_q rfl rfl k3) ?_)
    | refine xst ?_
    | (refine xsa ?_; intro _)
    | (refine xsb ?_ ?_ <;> intro _ <;> first | (exfalso; omega) | skip)
    | refine xsc ?_
    | (refine KJ_draws (id := 28) (.op 0 (.op 1 (.op 2 (.op 3 (.op 4 (.op 5 (.op 6 (.op 7 (.op 8 (.op 9 (.op 10 (.op 11 (.op 12 .nil))))))))))))) (by kernel_rfl) (by kernel_rfl) ?_)
    | refine FW_alt ?_ ?_
    | refine FW_efn rfl rfl rfl rfl rfl ?_ ?_
    | refine KJ_flow ?_ ?_
    | exact Rech.nil
    | fail)
        all_goals (exact xdn ())
    · obtain ⟨g1, g2, g3⟩ := amtB_good hg
      have k1 : decide (x.amt = 0) = false := decide_eq_false g1
      have k2 : decide (x.amt < -4611686018427387904) = false := decide_eq_false g2
      have k3 : decide ((4611686018427387904 : Int) < x.amt) = false := decide_eq_false g3
      have hnx : (legs.take (i + 1)).all amtB = true := by
        rw [List.take_add_one, hx, List.all_append, hb]
        simp [hg]
      have hnL : L ++ [x.amt] = (legs.take (i + 1)).map (·.amt) := by
        rw [List.take_add_one, hx, List.map_append, hLs]
        rfl
      have b1 : (L.length + 1) * 8 ≤ 140737488355328 := by omega
      have b2 : L.length + 1 ≤ 9223372036854775807 := by omega
      repeat' (first 
    | (refine is_append ?_; refine KJ_appOne (a := x.amt) i64C_ok rfl rfl rfl xS xS b1 b2 rfl (fun g1 c1 => ?_))
    | (refine is_bslice ?_; refine KJ_bslice1 rfl xF (by rfl) (by omega) rfl (fun gb => ?_))
    | (refine ek_load ?_; refine EK_ev (Ev_loadLvF enc_leg hL rfl rfl xS hoff hx kx) ?_)
    | (refine ek_add ?_; refine EK_ev (Ev_addI_v (r := ((i + 1 : Nat) : Int)) rfl rfl (by omega) (by omega)) ?_)
    | (refine ek_eql ?_; refine EK_ev (Ev_eqlI_q rfl rfl k1) ?_)
    | (refine ek_lss ?_; first | refine EK_ev (Ev_lssI_q rfl rfl k2) ?_ | refine EK_ev (Ev_lssI_q rfl rfl ql) ?_)
    | (refine ek_gtr ?_; refine EK_ev (Ev_gtrI_q rfl rfl k3) ?_)
    | refine xst ?_
    | (refine xsa ?_; intro _)
    | (refine xsb ?_ ?_ <;> intro _ <;> first | (exfalso; omega) | skip)
    | refine xsc ?_
    | (refine KJ_draws (id := 28) (.op 0 (.op 1 (.op 2 (.op 3 (.op 4 (.op 5 (.op 6 (.op 7 (.op 8 (.op 9 (.op 10 (.op 11 (.op 12 .nil))))))))))))) (by kernel_rfl) (by kernel_rfl) ?_)
    | refine FW_alt ?_ ?_
    | refine FW_efn rfl rfl rfl rfl rfl ?_ ?_
    | refine KJ_flow ?_ ?_
    | exact Rech.nil
    | fail)
      all_goals refine KJ_again ⟨(i + 1, L ++ [x.amt], some ⟨g1, 0, none⟩, c1), hlt, hnx, hnL⟩ (by show legs.length - (i + 1) < legs.length - i; omega) xB (xN)
  have ql : decide ((i : Int) < (legs.length : Nat)) = false := decide_eq_false (by omega)
  have ei : i = legs.length := by omega
  subst ei
  rw [List.take_length] at hb hLs
  rw [legsE_end ha hb, ← hLs] at hr
  repeat' (first 
    | (refine ek_lss ?_; refine EK_ev (Ev_lssI_q rfl rfl ql) ?_)
    | refine xst ?_
    | (refine xsa ?_; intro _)
    | (refine xsb ?_ ?_ <;> intro _ <;> first | (exfalso; omega) | skip)
    | refine xsc ?_
    | (refine KJ_draws (id := 28) (.op 0 (.op 1 (.op 2 (.op 3 (.op 4 (.op 5 (.op 6 (.op 7 (.op 8 (.op 9 (.op 10 (.op 11 (.op 12 .nil))))))))))))) (by kernel_rfl) (by kernel_rfl) ?_)
    | refine FW_alt ?_ ?_
    | refine FW_efn rfl rfl rfl rfl rfl ?_ ?_
    | refine KJ_flow ?_ ?_
    | exact Rech.nil
    | fail)
  refine KJ_loop (fun x : {i : Nat // i ≤ legs.length ∧ ((legs.take i).map (·.acc)).Nodup} => [(1, .pointer (some ⟨g, 0, none⟩)), (4, .slice xa L.length xc), (7, .int .i64 (x.1 : Nat))])
    (fun _ => [lsP i64C 2 1 (.slice xa L.length xc) L, T, cellsP g [strV id, .int .i64 tick, strV note, .slice a legs.length c] 25] ++ R) (fun x => legs.length - x.1) ⟨0, by omega, by simp⟩ xB (xN) (fun ⟨i, hi, hnd⟩ => ?_)
  dsimp only at hi hnd ⊢
  by_cases hlt : i < legs.length
  · have ql : decide ((i : Int) < (legs.length : Nat)) = true := decide_eq_true (by omega)
    obtain ⟨x, hx⟩ : ∃ s, legs[i]? = some s := ⟨_, List.getElem?_eq_getElem hlt⟩
    have kx : (legC x)[0]? = some (strV x.acc) := rfl
    repeat' (first 
    | (refine ek_lss ?_; refine EK_ev (Ev_lssI_q rfl rfl ql) ?_)
    | refine xst ?_
    | (refine xsa ?_; intro _)
    | (refine xsb ?_ ?_ <;> intro _ <;> first | (exfalso; omega) | skip)
    | refine xsc ?_
    | (refine KJ_draws (id := 28) (.op 0 (.op 1 (.op 2 (.op 3 (.op 4 (.op 5 (.op 6 (.op 7 (.op 8 (.op 9 (.op 10 (.op 11 (.op 12 .nil))))))))))))) (by kernel_rfl) (by kernel_rfl) ?_)
    | refine FW_alt ?_ ?_
    | refine FW_efn rfl rfl rfl rfl rfl ?_ ?_
    | refine KJ_flow ?_ ?_
    | exact Rech.nil
    | fail)
    refine KJ_loop (fun x1 : {j : Nat // j ≤ i ∧ ∀ j' y, j' < j → legs[j']? = some y → x.acc ≠ y.acc} => [(1, .pointer (some ⟨g, 0, none⟩)), (4, .slice xa L.length xc), (7, .int .i64 (i : Nat)), (8, .int .i64 (x1.1 : Nat))])
      (fun _ => [lsP i64C 2 1 (.slice xa L.length xc) L, T, cellsP g [strV id, .int .i64 tick, strV note, .slice a legs.length c] 25] ++ R) (fun x1 => i - x1.1) ⟨0, by omega, fun j' y h => by omega⟩ xB (xN) (fun ⟨j, hj, hne⟩ => ?_)
    dsimp only at hj hne ⊢
    by_cases hjl : j < i
    · have qj : decide ((j : Int) < (i : Nat)) = true := decide_eq_true (by omega)
      obtain ⟨y, hy⟩ : ∃ s, legs[j]? = some s := ⟨_, List.getElem?_eq_getElem (by omega)⟩
      have ky : (legC y)[0]? = some (strV y.acc) := rfl
      refine KJ.lvSome hL xS (by omega) (fun b0 of hab => ?_)
      subst hab
      have hoff : of + Int.toNat (i : Int) * 2 + 0 = of + i * 2 + 0 := by simp
      have hoff2 : of + Int.toNat (j : Int) * 2 + 0 = of + j * 2 + 0 := by simp
      by_cases hxy : x.acc = y.acc
      · rw [if_neg (fun q => dup_not hy hx hjl hxy q.1)] at hr
        subst hr
        repeat' (first 
    | (refine ek_load ?_; first | refine EK_ev (Ev_loadLvF enc_leg hL rfl rfl xS hoff hx kx) ?_ | refine EK_ev (Ev_loadLvF enc_leg hL rfl rfl xS hoff2 hy ky) ?_)
    | (refine ek_eql ?_; refine EK_ev (Ev_eqlS_t rfl rfl hxy) ?_)
    | (refine ek_lss ?_; refine EK_ev (Ev_lssI_q rfl rfl qj) ?_)
    | refine xst ?_
    | (refine xsa ?_; intro _)
    | (refine xsb ?_ ?_ <;> intro _ <;> first | (exfalso; omega) | skip)
    | refine xsc ?_
    | (refine KJ_draws (id := 28) (.op 0 (.op 1 (.op 2 (.op 3 (.op 4 (.op 5 (.op 6 (.op 7 (.op 8 (.op 9 (.op 10 (.op 11 (.op 12 .nil))))))))))))) (by kernel_rfl) (by kernel_rfl) ?_)
    | refine FW_alt ?_ ?_
    | refine FW_efn rfl rfl rfl rfl rfl ?_ ?_
    | refine KJ_flow ?_ ?_
    | exact Rech.nil
    | fail)
        all_goals (exact xdn ())
      · have hnx : ∀ j' y, j' < j + 1 → legs[j']? = some y → x.acc ≠ y.acc := fun j' y' h h' => by
          by_cases e : j' = j
          · subst e
            rw [hy] at h'
            cases h'
            exact hxy
          · exact hne j' y' (by omega) h'
        repeat' (first 
    | (refine ek_load ?_; first | refine EK_ev (Ev_loadLvF enc_leg hL rfl rfl xS hoff hx kx) ?_ | refine EK_ev (Ev_loadLvF enc_leg hL rfl rfl xS hoff2 hy ky) ?_)
    | (refine ek_add ?_; refine EK_ev (Ev_addI_v (r := ((j + 1 : Nat) : Int)) rfl rfl (by omega) (by omega)) ?_)
    | (refine ek_eql ?_; refine EK_ev (Ev_eqlS_f rfl rfl hxy) ?_)
    | (refine ek_lss ?_; refine EK_ev (Ev_lssI_q rfl rfl qj) ?_)
    | refine xst ?_
    | (refine xsa ?_; intro _)
    | (refine xsb ?_ ?_ <;> intro _ <;> first | (exfalso; omega) | skip)
    | refine xsc ?_
    | (refine KJ_draws (id := 28) (.op 0 (.op 1 (.op 2 (.op 3 (.op 4 (.op 5 (.op 6 (.op 7 (.op 8 (.op 9 (.op 10 (.op 11 (.op 12 .nil))))))))))))) (by kernel_rfl) (by kernel_rfl) ?_)
    | refine FW_alt ?_ ?_
    | refine FW_efn rfl rfl rfl rfl rfl ?_ ?_
    | refine KJ_flow ?_ ?_
    | exact Rech.nil
    | fail)
        all_goals refine KJ_again ⟨j + 1, hjl, hnx⟩ (by show i - (j + 1) < i - j; omega) xB (xN)
    have qj : decide ((j : Int) < (i : Nat)) = false := decide_eq_false (by omega)
    have hnx : ((legs.take (i + 1)).map (·.acc)).Nodup := nodup_next hx hnd fun j' y h h' => hne j' y (by omega) h'
    repeat' (first 
    | (refine ek_add ?_; refine EK_ev (Ev_addI_v (r := ((i + 1 : Nat) : Int)) rfl rfl (by omega) (by omega)) ?_)
    | (refine ek_lss ?_; refine EK_ev (Ev_lssI_q rfl rfl qj) ?_)
    | refine xst ?_
    | (refine xsa ?_; intro _)
    | (refine xsb ?_ ?_ <;> intro _ <;> first | (exfalso; omega) | skip)
    | refine xsc ?_
    | (refine KJ_draws (id := 28) (.op 0 (.op 1 (.op 2 (.op 3 (.op 4 (.op 5 (.op 6 (.op 7 (.op 8 (.op 9 (.op 10 (.op 11 (.op 12 .nil))))))))))))) (by kernel_rfl) (by kernel_rfl) ?_)
    | refine FW_alt ?_ ?_
    | refine FW_efn rfl rfl rfl rfl rfl ?_ ?_
    | refine KJ_flow ?_ ?_
    | exact Rech.nil
    | fail)
    all_goals refine KJ_again ⟨i + 1, hlt, hnx⟩ (by show legs.length - (i + 1) < legs.length - i; omega) xB (xN)
  have ql : decide ((i : Int) < (legs.length : Nat)) = false := decide_eq_false (by omega)
  have ei : i = legs.length := by omega
  subst ei
  rw [List.take_length] at hnd
  have cs := dsum_ct (W := W) (lsP i64C 2 1 (.slice xa L.length xc) L) xa xc L (Lv.own i64C_ok rfl) (by omega) (fun v hv => by
    rw [hLs] at hv
    obtain ⟨y, hy, rfl⟩ := List.mem_map.1 hv
    exact hamt y hy)
  by_cases hS : L.sum = 0
  · rw [if_pos ⟨hnd, hS⟩] at hr
    subst hr
    rw [hS, show fitV 0 = 0 from rfl, show fitE 0 = 0 from rfl] at cs
    have k1 : decide (((0 : Nat) : Int) ≠ 0) = false := rfl
    have k2 : decide ((0 : Int) ≠ 0) = false := rfl
    repeat' (first 
    | (refine is_call ?_; refine KJ_call xE cs xP rfl (fun _ => ?_))
    | (refine ek_neq ?_; first | refine EK_ev (Ev_neqI_q rfl rfl k1) ?_ | refine EK_ev (Ev_neqI_q rfl rfl k2) ?_)
    | (refine ek_lss ?_; refine EK_ev (Ev_lssI_q rfl rfl ql) ?_)
    | refine xst ?_
    | (refine xsa ?_; intro _)
    | (refine xsb ?_ ?_ <;> intro _ <;> first | (exfalso; omega) | skip)
    | refine xsc ?_
    | (refine KJ_draws (id := 28) (.op 0 (.op 1 (.op 2 (.op 3 (.op 4 (.op 5 (.op 6 (.op 7 (.op 8 (.op 9 (.op 10 (.op 11 (.op 12 .nil))))))))))))) (by kernel_rfl) (by kernel_rfl) ?_)
    | refine FW_alt ?_ ?_
    | refine FW_efn rfl rfl rfl rfl rfl ?_ ?_
    | refine KJ_flow ?_ ?_
    | exact Rech.nil
    | fail)
    all_goals (exact xdn ())
  · rw [if_neg (fun q => hS q.2)] at hr
    subst hr
    by_cases hf : fitsI L.sum = true
    · have e1 : fitV L.sum = L.sum := if_pos hf
      have e2 : fitE L.sum = 0 := if_pos hf
      rw [e1, e2] at cs
      have k1 : decide (((0 : Nat) : Int) ≠ 0) = false := rfl
      have k2 : decide (L.sum ≠ 0) = true := decide_eq_true hS
      repeat' (first 
    | (refine is_call ?_; refine KJ_call xE cs xP rfl (fun _ => ?_))
    | (refine ek_neq ?_; first | refine EK_ev (Ev_neqI_q rfl rfl k1) ?_ | refine EK_ev (Ev_neqI_q rfl rfl k2) ?_)
    | (refine ek_lss ?_; refine EK_ev (Ev_lssI_q rfl rfl ql) ?_)
    | refine xst ?_
    | (refine xsa ?_; intro _)
    | (refine xsb ?_ ?_ <;> intro _ <;> first | (exfalso; omega) | skip)
    | refine xsc ?_
    | (refine KJ_draws (id := 28) (.op 0 (.op 1 (.op 2 (.op 3 (.op 4 (.op 5 (.op 6 (.op 7 (.op 8 (.op 9 (.op 10 (.op 11 (.op 12 .nil))))))))))))) (by kernel_rfl) (by kernel_rfl) ?_)
    | refine FW_alt ?_ ?_
    | refine FW_efn rfl rfl rfl rfl rfl ?_ ?_
    | refine KJ_flow ?_ ?_
    | exact Rech.nil
    | fail)
      all_goals (exact xdn ())
    · have e1 : fitV L.sum = 0 := if_neg hf
      have e2 : fitE L.sum = 10 := if_neg hf
      rw [e1, e2] at cs
      have k1 : decide (((10 : Nat) : Int) ≠ 0) = true := rfl
      repeat' (first 
    | (refine is_call ?_; refine KJ_call xE cs xP rfl (fun _ => ?_))
    | (refine ek_neq ?_; refine EK_ev (Ev_neqI_q rfl rfl k1) ?_)
    | (refine ek_lss ?_; refine EK_ev (Ev_lssI_q rfl rfl ql) ?_)
    | refine xst ?_
    | (refine xsa ?_; intro _)
    | (refine xsb ?_ ?_ <;> intro _ <;> first | (exfalso; omega) | skip)
    | refine xsc ?_
    | (refine KJ_draws (id := 28) (.op 0 (.op 1 (.op 2 (.op 3 (.op 4 (.op 5 (.op 6 (.op 7 (.op 8 (.op 9 (.op 10 (.op 11 (.op 12 .nil))))))))))))) (by kernel_rfl) (by kernel_rfl) ?_)
    | refine FW_alt ?_ ?_
    | refine FW_efn rfl rfl rfl rfl rfl ?_ ?_
    | refine KJ_flow ?_ ?_
    | exact Rech.nil
    | fail)
      all_goals (exact xdn ())
end
end Go.Proofs.YtdbfemdpdpaffaaGreatDoor
/-
  The document's bytes of a posting (chapter 16).
-/
namespace Go.Proofs.YtdbfemdpdpaffaaGreatDoor
open Go Go.RowKit Go.MapKept
theorem Ev_addS_d {P : Program} {W : World} {n : Nat} {E : Env} {H : List SP} {x y : Operand} {t u : TypeId} {a b c : List UInt8} (hx : Env.ev E x = some (strV a)) (hy : Env.ev E y = some (strV b)) (h : a ++ b = c) (hb : c.length ≤ 9223372036854775807) : Ev P W n E H (.binOp .add t x y u) (strV c) := by
  subst h
  rw [List.length_append] at hb
  exact Ev_addS hx hy hb
section
variable {W : World} {F : Nat → Addr}
set_option maxHeartbeats 4000000 in
theorem dbytes_ct (T : SP) (a : Option Addr) (c : Nat) (p : Pst) (hp : PstFit p) (h0 : checkE p = 0) (hL : Lv W legC 2 T a p.legs) :
    Ct Tryz.prog W 43 [.agg (pstC p a c).toArray] [T] (fun _ : Unit => strV (encPst p)) (fun _ => [T]) := by
  have hx0 := encX_zero p
  have hxa := encX_all p
  have hxn := fun i x => encX_next (p := p) (i := i) (x := x)
  have hxl := encX_len h0
  obtain ⟨k1, k2, k3, k4, k5, k6, k7⟩ := checkE_zero h0
  have hacc := hp.acc
  have hamt := hp.amt
  have hnl := hp.legs
  have ct1 := dtext_ct (W := W) p.id hp.id
  have ct2 := duint_ct (W := W) p.tick.toNat (by omega)
  have ct3 := dtext_ct (W := W) p.note hp.note
  have ct4 := duint_ct (W := W) p.legs.length (by omega)
  have l1 := tx_le p.id
  have l2 := vu_len p.tick.toNat
  have l3 := tx_le p.note
  have l4 := vu_len p.legs.length
  have hid := hp.id
  have hno := hp.note
  have w2 : IntKind.u64.wrap p.tick = ((p.tick.toNat : Nat) : Int) := by
    have : ((p.tick.toNat : Nat) : Int) = p.tick := by omega
    rw [← this]
    exact u64_wrap _ (by omega)
  have w4 : IntKind.u64.wrap ((p.legs.length : Nat) : Int) = ((p.legs.length : Nat) : Int) := u64_wrap _ (by omega)
  obtain ⟨B, hB⟩ : ∃ B : Nat → List UInt8, B = encX p := ⟨_, rfl⟩
  obtain ⟨out, hout⟩ : ∃ out, out = encPst p := ⟨_, rfl⟩
  rw [← hB] at hx0 hxa hxn hxl
  rw [← hout] at hxa ⊢
  clear hB hout h0 k7
  obtain ⟨id, tick, note, legs⟩ := p
  dsimp only at hx0 hxa hxn hxl hacc hamt hnl ct1 ct2 ct3 ct4 l1 l2 l3 l4 hid hno w2 w4 hL k1 k2 k3 k4 k5 k6
  unfold pstC
  dsimp only
  obtain ⟨x1, e1⟩ : ∃ x1, x1 = tx id := ⟨_, rfl⟩
  obtain ⟨x2, e2⟩ : ∃ x2, x2 = vu tick.toNat := ⟨_, rfl⟩
  obtain ⟨x3, e3⟩ : ∃ x3, x3 = tx note := ⟨_, rfl⟩
  obtain ⟨x4, e4⟩ : ∃ x4, x4 = vu legs.length := ⟨_, rfl⟩
  obtain ⟨y2, f2⟩ : ∃ y2, x1 ++ x2 = y2 := ⟨_, rfl⟩
  obtain ⟨y3, f3⟩ : ∃ y3, y2 ++ x3 = y3 := ⟨_, rfl⟩
  rw [← e1] at ct1 l1 hx0
  rw [← e2] at ct2 l2 hx0
  rw [← e3] at ct3 l3 hx0
  rw [← e4] at ct4 l4 hx0
  rw [f2, f3] at hx0
  have m2 := congrArg List.length f2
  have m3 := congrArg List.length f3
  have m4 := congrArg List.length hx0
  rw [List.length_append] at m2 m3 m4
  refine Ct.enter Tryz.func43 rfl Tryz.ntmps43 (by simp) (fun R => ?_)
  repeat' (first 
    | (refine is_box ?_; refine KJ_box rfl xF rfl (fun g => ?_))
    | (refine is_call ?_; first | (refine KJ_call xE ct4 xP rfl (fun _ => ?_)) | (refine KJ_call xE ct3 xP rfl (fun _ => ?_)) | (refine KJ_call xE ct2 xP rfl (fun _ => ?_)) | (refine KJ_call xE ct1 xP rfl (fun _ => ?_)))
    | (refine ek_conv ?_; first | refine EK_ev (Ev_convI_v rfl w4) ?_ | refine EK_ev (Ev_convI_v rfl w2) ?_)
    | (refine ek_add ?_; first | refine EK_ev (Ev_addS_d rfl rfl hx0.symm (by omega)) ?_ | refine EK_ev (Ev_addS_d rfl rfl f3 (by omega)) ?_ | refine EK_ev (Ev_addS_d rfl rfl f2 (by omega)) ?_)
    | refine xst ?_
    | (refine xsa ?_; intro _)
    | (refine xsb ?_ ?_ <;> intro _ <;> first | (exfalso; omega) | skip)
    | refine xsc ?_
    | (refine KJ_draws (id := 1) (.op 0 (.op 1 (.op 3 (.op 4 (.op 5 (.op 8 (.op 9 (.op 12 (.op 13 (.op 14 (.op 15 (.ef 2 [15, 14, 13, 12, 9, 8, 5, 4, 3] (.ef 6 [15, 14, 13, 12, 9, 8] (.op 7 (.ef 10 [7, 15, 14, 13, 12] (.op 11 (.ef 16 [11, 7] (.op 17 (.op 18 .nil))))))))))))))))))) (by kernel_rfl) (by kernel_rfl) ?_)
    | (refine KJ_draws (id := 5) (.op 0 (.op 1 (.op 2 (.op 3 (.op 4 (.op 5 (.op 6 (.op 9 (.op 10 (.op 11 (.op 12 (.op 13 (.op 14 (.ef 7 [14, 13, 12, 11, 10, 9, 0] (.op 8 (.ef 15 [8, 0] (.op 16 (.ef 17 [] .nil)))))))))))))))))) (by kernel_rfl) (by kernel_rfl) ?_)
    | refine FW_alt ?_ ?_
    | refine FW_efn rfl rfl rfl rfl rfl ?_ ?_
    | refine KJ_flow ?_ ?_
    | exact Rech.nil
    | fail)
  refine KJ_loop (fun x : {i : Nat // i ≤ legs.length} => [(1, .pointer (some ⟨g, 0, none⟩)), (3, strV (B x.1)), (4, .int .i64 (x.1 : Nat))])
    (fun _ => [T, cellsP g [strV id, .int .i64 tick, strV note, .slice a legs.length c] 25] ++ R) (fun x => legs.length - x.1) ⟨0, by omega⟩ xB (xN) (fun ⟨i, hi⟩ => ?_)
  dsimp only at hi ⊢
  by_cases hlt : i < legs.length
  · have ql : decide ((i : Int) < (legs.length : Nat)) = true := decide_eq_true (by omega)
    obtain ⟨x, hx⟩ : ∃ s, legs[i]? = some s := ⟨_, List.getElem?_eq_getElem hlt⟩
    refine KJ.lvSome hL xS (by omega) (fun b0 of hab => ?_)
    subst hab
    have hoff : of + Int.toNat (i : Int) * 2 + 0 = of + i * 2 + 0 := by simp
    have hoff2 : of + Int.toNat (i : Int) * 2 + 1 = of + i * 2 + 1 := by simp
    have kx : (legC x)[0]? = some (strV x.acc) := rfl
    have kx2 : (legC x)[1]? = some (.int .i64 x.amt) := rfl
    have hm := List.mem_of_getElem? hx
    have cx := dtext_ct (W := W) x.acc (hacc x hm)
    have cy := dint_ct (W := W) x.amt (hamt x hm)
    have hn := hxn i x hx
    have n1 := hxl i
    have n2 := hxl (i + 1)
    have n3 := tx_le x.acc
    have n4 := hacc x hm
    obtain ⟨z, hz⟩ : ∃ z, B i ++ tx x.acc = z := ⟨_, rfl⟩
    rw [hz] at hn
    have hzl := congrArg List.length hz
    rw [List.length_append] at hzl
    repeat' (first 
    | (refine is_call ?_; first | (refine KJ_call xE cy xP rfl (fun _ => ?_)) | (refine KJ_call xE cx xP rfl (fun _ => ?_)))
    | (refine ek_load ?_; first | refine EK_ev (Ev_loadLvF enc_leg hL rfl rfl xS hoff hx kx) ?_ | refine EK_ev (Ev_loadLvF enc_leg hL rfl rfl xS hoff2 hx kx2) ?_)
    | (refine ek_add ?_; first | refine EK_ev (Ev_addI_v (r := ((i + 1 : Nat) : Int)) rfl rfl (by omega) (by omega)) ?_ | refine EK_ev (Ev_addS_d rfl rfl hn.symm (by omega)) ?_ | refine EK_ev (Ev_addS_d rfl rfl hz (by omega)) ?_)
    | (refine ek_lss ?_; refine EK_ev (Ev_lssI_q rfl rfl ql) ?_)
    | refine xst ?_
    | (refine xsa ?_; intro _)
    | (refine xsb ?_ ?_ <;> intro _ <;> first | (exfalso; omega) | skip)
    | refine xsc ?_
    | (refine KJ_draws (id := 1) (.op 0 (.op 1 (.op 3 (.op 4 (.op 5 (.op 8 (.op 9 (.op 12 (.op 13 (.op 14 (.op 15 (.ef 2 [15, 14, 13, 12, 9, 8, 5, 4, 3] (.ef 6 [15, 14, 13, 12, 9, 8] (.op 7 (.ef 10 [7, 15, 14, 13, 12] (.op 11 (.ef 16 [11, 7] (.op 17 (.op 18 .nil))))))))))))))))))) (by kernel_rfl) (by kernel_rfl) ?_)
    | (refine KJ_draws (id := 5) (.op 0 (.op 1 (.op 2 (.op 3 (.op 4 (.op 5 (.op 6 (.op 9 (.op 10 (.op 11 (.op 12 (.op 13 (.op 14 (.ef 7 [14, 13, 12, 11, 10, 9, 0] (.op 8 (.ef 15 [8, 0] (.op 16 (.ef 17 [] .nil)))))))))))))))))) (by kernel_rfl) (by kernel_rfl) ?_)
    | refine FW_alt ?_ ?_
    | refine FW_efn rfl rfl rfl rfl rfl ?_ ?_
    | refine KJ_flow ?_ ?_
    | exact Rech.nil
    | fail)
    all_goals refine KJ_again ⟨i + 1, hlt⟩ (by show legs.length - (i + 1) < legs.length - i; omega) xB (xN)
  have ql : decide ((i : Int) < (legs.length : Nat)) = false := decide_eq_false (by omega)
  have ei : i = legs.length := by omega
  subst ei
  rw [← hxa]
  repeat' (first 
    | (refine ek_lss ?_; refine EK_ev (Ev_lssI_q rfl rfl ql) ?_)
    | refine xst ?_
    | (refine xsa ?_; intro _)
    | (refine xsb ?_ ?_ <;> intro _ <;> first | (exfalso; omega) | skip)
    | refine xsc ?_
    | (refine KJ_draws (id := 1) (.op 0 (.op 1 (.op 3 (.op 4 (.op 5 (.op 8 (.op 9 (.op 12 (.op 13 (.op 14 (.op 15 (.ef 2 [15, 14, 13, 12, 9, 8, 5, 4, 3] (.ef 6 [15, 14, 13, 12, 9, 8] (.op 7 (.ef 10 [7, 15, 14, 13, 12] (.op 11 (.ef 16 [11, 7] (.op 17 (.op 18 .nil))))))))))))))))))) (by kernel_rfl) (by kernel_rfl) ?_)
    | (refine KJ_draws (id := 5) (.op 0 (.op 1 (.op 2 (.op 3 (.op 4 (.op 5 (.op 6 (.op 9 (.op 10 (.op 11 (.op 12 (.op 13 (.op 14 (.ef 7 [14, 13, 12, 11, 10, 9, 0] (.op 8 (.ef 15 [8, 0] (.op 16 (.ef 17 [] .nil)))))))))))))))))) (by kernel_rfl) (by kernel_rfl) ?_)
    | refine FW_alt ?_ ?_
    | refine FW_efn rfl rfl rfl rfl rfl ?_ ?_
    | refine KJ_flow ?_ ?_
    | exact Rech.nil
    | fail)
  all_goals (exact xdn ())
set_option maxHeartbeats 2000000 in
theorem dpencode_ct (T : SP) (a : Option Addr) (c : Nat) (p : Pst) (hp : PstFit p) (hL : Lv W legC 2 T a p.legs) :
    Ct Tryz.prog W 18 [.agg (pstC p a c).toArray] [T] (fun _ : Unit => .tuple #[strV (if checkE p = 0 then encPst p else []), .int .i64 (checkE p : Nat)]) (fun _ => [T]) := by
  have cc := dpcheck_ct (W := W) T a c p hp hL
  by_cases h0 : checkE p = 0
  · have cb := dbytes_ct (W := W) T a c p hp h0 hL
    rw [h0] at cc
    rw [if_pos h0, h0]
    unfold pstC at cc cb ⊢
    have k1 : decide (((0 : Nat) : Int) ≠ 0) = false := rfl
    refine Ct.enter Tryz.func18 rfl Tryz.ntmps18 (by simp) (fun R => ?_)
    repeat' (first 
    | (refine is_box ?_; refine KJ_box rfl xF rfl (fun g => ?_))
    | (refine is_call ?_; first | (refine KJ_call xE cb xP rfl (fun _ => ?_)) | (refine KJ_call xE cc xP rfl (fun _ => ?_)))
    | (refine ek_neq ?_; refine EK_ev (Ev_neqI_q rfl rfl k1) ?_)
    | refine xst ?_
    | (refine xsa ?_; intro _)
    | (refine xsb ?_ ?_ <;> intro _ <;> first | (exfalso; omega) | skip)
    | refine xsc ?_
    | fail)
    all_goals (exact xdn ())
  · rw [if_neg h0]
    unfold pstC at cc ⊢
    obtain ⟨e, he⟩ : ∃ e, e = checkE p := ⟨_, rfl⟩
    rw [← he] at cc h0 ⊢
    have k1 : decide (((e : Nat) : Int) ≠ 0) = true := decide_eq_true (by omega)
    refine Ct.enter Tryz.func18 rfl Tryz.ntmps18 (by simp) (fun R => ?_)
    repeat' (first 
    | (refine is_box ?_; refine KJ_box rfl xF rfl (fun g => ?_))
    | (refine is_call ?_; refine KJ_call xE cc xP rfl (fun _ => ?_))
    | (refine ek_neq ?_; refine EK_ev (Ev_neqI_q rfl rfl k1) ?_)
    | refine xst ?_
    | (refine xsa ?_; intro _)
    | (refine xsb ?_ ?_ <;> intro _ <;> first | (exfalso; omega) | skip)
    | refine xsc ?_
    | fail)
    all_goals (exact xdn ())
end
end Go.Proofs.YtdbfemdpdpaffaaGreatDoor
