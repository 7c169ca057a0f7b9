/-
  PoM0, PoM1, PoM2, PoM3.
-/
import Derived.Test.YtdbfemdpdpaffaaDoorPBX
import Derived.Test.YtdbfemdpdpaffaaDoorPCQ
import Derived.Test.YtdbfemdpdpaffaaDoorPAW
/-
  PostingSame as plain data: a posting turned says the same; another note, id, leg or amount does not.
-/
namespace Go.Proofs.YtdbfemdpdpaffaaDoor
open Go
/-- the place of a turned posting's leg -/
def turnI (n y i : Nat) : Nat := (n - 1 - i + y % n) % n
theorem turnI_lt {n y i : Nat} (h : i < n) : turnI n y i < n := Nat.mod_lt _ (by omega)
theorem turnI_inj {n y i j : Nat} (hi : i < n) (hj : j < n) (h : turnI n y i = turnI n y j) : i = j := by
  unfold turnI at h
  have hu : y % n < n := Nat.mod_lt _ (by omega)
  generalize y % n = u at h hu
  have e1 : (n - 1 - i + u) % n = if n - 1 - i + u < n then n - 1 - i + u else n - 1 - i + u - n := by
    split
    · rename_i h; exact Nat.mod_eq_of_lt h
    · rw [Nat.mod_eq_sub_mod (by omega), Nat.mod_eq_of_lt (by omega)]
  have e2 : (n - 1 - j + u) % n = if n - 1 - j + u < n then n - 1 - j + u else n - 1 - j + u - n := by
    split
    · rename_i h; exact Nat.mod_eq_of_lt h
    · rw [Nat.mod_eq_sub_mod (by omega), Nat.mod_eq_of_lt (by omega)]
  rw [e1, e2] at h
  split at h <;> split at h <;> omega
theorem nodup_map_on {f : Nat → Nat} : ∀ {l : List Nat}, l.Nodup → (∀ i ∈ l, ∀ j ∈ l, f i = f j → i = j) → (l.map f).Nodup
  | [], _, _ => by simp
  | a :: l, hn, h => by
    rw [List.map_cons, List.nodup_cons]
    rw [List.nodup_cons] at hn
    refine ⟨fun hm => ?_, nodup_map_on hn.2 fun i hi j hj => h i (List.mem_cons_of_mem _ hi) j (List.mem_cons_of_mem _ hj)⟩
    obtain ⟨b, hb, e⟩ := List.mem_map.1 hm
    have := h b (List.mem_cons_of_mem _ hb) a (List.mem_cons_self ..) e
    subst this
    exact hn.1 hb
theorem turn_perm (n y : Nat) : (List.range n).Perm ((List.range n).map (turnI n y)) := by
  refine perm_of_count _ _ (by simp) fun k => ?_
  have hn : ((List.range n).map (turnI n y)).Nodup := nodup_map_on List.nodup_range fun i hi j hj e => turnI_inj (List.mem_range.1 hi) (List.mem_range.1 hj) e
  by_cases hk : k ∈ (List.range n).map (turnI n y)
  · obtain ⟨i, hi, rfl⟩ := List.mem_map.1 hk
    have h1 := List.nodup_iff_count.1 hn (turnI n y i)
    have h2 : 0 < List.count (turnI n y i) (List.range n) := List.count_pos_iff.2 (List.mem_range.2 (turnI_lt (List.mem_range.1 hi)))
    omega
  · rw [List.count_eq_zero_of_not_mem hk]
    exact Nat.zero_le _
theorem range_getD (l : List Leg) (d : Leg) : (List.range l.length).map (fun i => l.getD i d) = l := by
  apply List.ext_getElem?
  intro i
  by_cases h : i < l.length
  · rw [List.getElem?_map, List.getElem?_range h, List.getElem?_eq_getElem h]
    simp [List.getD, List.getElem?_eq_getElem h]
  · rw [List.getElem?_eq_none (by simp; omega), List.getElem?_eq_none (by omega)]
theorem turnL_perm (l : List Leg) (y : Nat) : l.Perm (turnL l y) := by
  have h := (turn_perm l.length y).map (fun i => l.getD i ⟨[], 0⟩)
  rw [range_getD, List.map_map] at h
  exact h
theorem turnL_length (l : List Leg) (y : Nat) : (turnL l y).length = l.length := by unfold turnL; simp
theorem turnL_get (l : List Leg) (y i : Nat) (h : i < l.length) : ∃ x, l[turnI l.length y i]? = some x ∧ (turnL l y)[i]? = some x := by
  refine ⟨l[turnI l.length y i]'(turnI_lt h), List.getElem?_eq_getElem _, ?_⟩
  unfold turnL
  rw [List.getElem?_map, List.getElem?_range h]
  show some (l.getD (turnI l.length y i) ⟨[], 0⟩) = _
  simp [List.getD, List.getElem?_eq_getElem (turnI_lt (y := y) h)]
/-- turned so far -/
theorem turn_step {l : List Leg} {y i : Nat} {x : Leg} (h : i < l.length) (hx : (turnL l y)[i]? = some x) : ((turnL l y).take i ++ l.drop i).set i x = (turnL l y).take (i + 1) ++ l.drop (i + 1) := by
  have hl : ((turnL l y).take i).length = i := by rw [List.length_take, turnL_length]; omega
  rw [List.set_append_right _ _ (by omega), hl, Nat.sub_self, List.take_add_one, hx, List.append_assoc]
  congr 1
  rw [List.drop_eq_getElem_cons h, List.set_cons_zero]
  rfl
theorem same_turn (a : Pst) (t : Int) (y : Nat) : sameP a ⟨a.id, t, a.note, turnL a.legs y⟩ = true := sameP_iff.2 ⟨rfl, rfl, turnL_perm _ _⟩
theorem same_note (a : Pst) (x : List UInt8) (hx : x ≠ []) (t : Int) (l : List Leg) : sameP a ⟨a.id, t, a.note ++ x, l⟩ = false := by
  rw [Bool.eq_false_iff]
  intro h
  have h2 := congrArg List.length (sameP_iff.1 h).2.1
  cases x with
  | nil => exact hx rfl
  | cons b r => simp at h2
theorem same_id (a : Pst) (x : List UInt8) (hx : x ≠ []) (t : Int) (l : List Leg) (n : List UInt8) : sameP a ⟨a.id ++ x, t, n, l⟩ = false := by
  rw [Bool.eq_false_iff]
  intro h
  have h2 := congrArg List.length (sameP_iff.1 h).1
  cases x with
  | nil => exact hx rfl
  | cons b r => simp at h2
theorem same_more (a : Pst) (x : Leg) (t : Int) : sameP a ⟨a.id, t, a.note, a.legs ++ [x]⟩ = false := by
  rw [Bool.eq_false_iff]
  intro h
  have h2 := (sameP_iff.1 h).2.2.length_eq
  simp at h2
theorem same_less (a : Pst) (t : Int) {k : Nat} {x y : Leg} (hk : a.legs[k]? = some x) (h : x ≠ y) : sameP a ⟨a.id, t, a.note, a.legs.set k y⟩ = false := by
  rw [Bool.eq_false_iff]
  intro q
  exact perm_set_ne hk h (sameP_iff.1 q).2.2
end Go.Proofs.YtdbfemdpdpaffaaDoor
/-
  remitlaw16.turned.
-/
namespace Go.Proofs.YtdbfemdpdpaffaaDoor
open Go Go.RowKit Go.MapKept
/-- a signed number as an unsigned word -/
def wordN (y : Int) : Nat := (y % 18446744073709551616).toNat
theorem wordN_wrap (y : Int) : IntKind.u64.wrap y = ((wordN y : Nat) : Int) := by
  unfold wordN
  simp only [IntKind.wrap, IntKind.signed, IntKind.bits]
  simp
  omega
theorem wordN_lt (y : Int) : wordN y < 18446744073709551616 := by unfold wordN; omega
section
variable {W : World} {F : Nat → Addr}
set_option maxHeartbeats 2000000 in
theorem turned_ct (A : SP) (a : Option Addr) (c : Nat) (p : Pst) (y : Int) (hL : Lv W legC 2 A a p.legs) (hl : p.legs.length ≤ 2000000) :
    Ct Tryd.prog W 11 [.agg (pstC p a c).toArray, .int .i64 y] [A] (fun x : Option Addr × Nat => .agg #[strV p.id, .int .i64 p.tick, strV p.note, .slice x.1 p.legs.length x.2]) (fun x => [A, lsP legC 39 2 (.slice x.1 p.legs.length x.2) (turnL p.legs (wordN y))]) := by
  have cc := copied_ct (W := W) A a c p hL hl
  obtain ⟨id, tick, note, legs⟩ := p
  unfold pstC at cc ⊢
  dsimp only at hL hl cc ⊢
  obtain ⟨u, hu⟩ : ∃ u, u = wordN y := ⟨_, rfl⟩
  have w1 : IntKind.u64.wrap y = ((u : Nat) : Int) := by rw [hu]; exact wordN_wrap y
  have hult : u < 18446744073709551616 := by rw [hu]; exact wordN_lt y
  rw [← hu]
  obtain ⟨T, hT⟩ : ∃ T, T = turnL legs u := ⟨_, rfl⟩
  rw [← hT]
  have hTl : T.length = legs.length := by rw [hT]; exact turnL_length legs u
  have w2 : IntKind.u64.wrap ((legs.length : Nat) : Int) = ((legs.length : Nat) : Int) := u64_wrap _ (by omega)
  refine Ct.enter Tryd.func11 rfl Tryd.ntmps11 (by simp) (fun R => ?_)
  repeat' (first 
    | (refine is_alloc ?_; refine KJ_alloc rfl (fun g5 => ?_))
    | (refine is_box ?_; refine KJ_box rfl xF rfl (fun g2 => ?_))
    | (refine is_call ?_; refine KJ_call xE cc xP rfl (fun x => ?_); refine hold ?_)
    | refine xst ?_
    | (refine xsa ?_; intro _)
    | (refine xsb ?_ ?_ <;> intro _ <;> first | (exfalso; omega) | skip)
    | refine xsc ?_
    | (refine KJ_draws (id := 6) (.op 0 (.op 1 (.op 2 (.op 3 (.op 4 (.op 5 (.op 6 (.op 7 (.op 8 (.op 9 (.op 10 (.op 11 (.op 12 (.op 13 (.op 14 (.op 15 (.op 16 (.op 17 (.op 18 (.op 19 (.op 20 (.ef 21 [] .nil)))))))))))))))))))))) (by kernel_rfl) (by kernel_rfl) ?_)
    | refine FW_alt ?_ ?_
    | refine FW_efn rfl rfl rfl rfl rfl ?_ ?_
    | refine KJ_flow ?_ ?_
    | exact Rech.nil
    | fail)
  refine Hold.mk ?_
  obtain ⟨xa, xc⟩ := x
  dsimp only
  repeat' (first 
    | (refine is_alloc ?_; refine KJ_alloc rfl (fun g6 => ?_))
    | refine xst ?_
    | (refine xsa ?_; intro _)
    | (refine xsb ?_ ?_ <;> intro _ <;> first | (exfalso; omega) | skip)
    | refine xsc ?_
    | (refine KJ_draws (id := 6) (.op 0 (.op 1 (.op 2 (.op 3 (.op 4 (.op 5 (.op 6 (.op 7 (.op 8 (.op 9 (.op 10 (.op 11 (.op 12 (.op 13 (.op 14 (.op 15 (.op 16 (.op 17 (.op 18 (.op 19 (.op 20 (.ef 21 [] .nil)))))))))))))))))))))) (by kernel_rfl) (by kernel_rfl) ?_)
    | refine FW_alt ?_ ?_
    | refine FW_efn rfl rfl rfl rfl rfl ?_ ?_
    | refine KJ_flow ?_ ?_
    | exact Rech.nil
    | fail)
  refine KJ_loop (fun x : {x : Nat × List Leg // x.1 ≤ legs.length ∧ x.2 = T.take x.1 ++ legs.drop x.1} => [(1, .int .i64 y), (2, .pointer (some ⟨g2, 0, none⟩)), (4, .pointer (some ⟨g5, 0, none⟩)), (5, .pointer (some ⟨g6, 0, none⟩)), (6, .int .i64 (legs.length : Nat)), (15, .int .i64 (legs.length : Nat)), (16, .int .i64 (x.1.1 : Nat))])
    (fun x => [lsP legC 39 2 (.slice xa legs.length xc) x.1.2, A, cellsP g2 [strV id, .int .i64 tick, strV note, .slice a legs.length c] 24, cellsP g6 [strV id, .int .i64 tick, strV note, .slice xa legs.length xc] 24, cellsP g5 [strV [], .int .i64 0, strV [], .slice none 0 0] 24] ++ R) (fun x => legs.length - x.1.1) ⟨(0, legs), by omega, by simp⟩ xB (xN) (fun ⟨(i, M), hi, hM⟩ => ?_)
  dsimp only at hi hM ⊢
  have hMl : legs.length = M.length := by rw [hM, List.length_append, List.length_take, List.length_drop]; omega
  by_cases hlt : i < legs.length
  · have ql : decide ((i : Int) < (legs.length : Nat)) = true := decide_eq_true (by omega)
    obtain ⟨x, hx, hx2⟩ := turnL_get legs u i hlt
    rw [← hT] at hx2
    have hjl : turnI legs.length u i < legs.length := turnI_lt hlt
    obtain ⟨m, hm⟩ : ∃ m, m = u % legs.length := ⟨_, rfl⟩
    have hr1 : ((u : Nat) : Int) % ((legs.length : Nat) : Int) = ((m : Nat) : Int) := by rw [hm]; rfl
    have hml : m < legs.length := by rw [hm]; exact Nat.mod_lt _ (by omega)
    obtain ⟨j, hj⟩ : ∃ j, j = turnI legs.length u i := ⟨_, rfl⟩
    have hr2 : ((legs.length - 1 - i + m : Nat) : Int) % ((legs.length : Nat) : Int) = ((j : Nat) : Int) := by rw [hj, hm]; rfl
    rw [← hj] at hx hjl
    have w3 : IntKind.i64.wrap ((m : Nat) : Int) = ((m : Nat) : Int) := i64_wrap _ (by omega)
    obtain ⟨M', hM'⟩ : ∃ M', M' = M.set i x := ⟨_, rfl⟩
    have hnx : M' = T.take (i + 1) ++ legs.drop (i + 1) := by
      rw [hM', hM, hT, turn_step hlt (by rw [← hT]; exact hx2)]
    refine KJ.lvSome hL xS (by omega) (fun b0 of hab => ?_)
    subst hab
    refine KJ.lsSome (a := xa) xS (by omega) (fun gx hgx => ?_)
    subst hgx
    have hoff : of + Int.toNat (j : Int) * 2 = of + j * 2 := by simp
    have hoff2 : 0 + Int.toNat (i : Int) * 2 = i * 2 := by simp
    have hil : i < M.length := by omega
    repeat' (first 
    | (refine is_store ?_; refine KJ_storeLs (a := x) enc_leg rfl rfl xS hMl hoff2 hil ?_; rw [← hM'])
    | (refine ek_load ?_; refine EK_ev (Ev_loadLv enc_leg hL rfl rfl xS hoff hx) ?_)
    | (refine ek_conv ?_; first | refine EK_ev (Ev_convI_v rfl w3) ?_ | refine EK_ev (Ev_convI_v rfl w2) ?_ | refine EK_ev (Ev_convI_v rfl w1) ?_)
    | (refine ek_add ?_; first | refine EK_ev (Ev_addI_v (r := ((i + 1 : Nat) : Int)) rfl rfl (by omega) (by omega)) ?_ | refine EK_ev (Ev_addI_v (r := ((legs.length - 1 - i + m : Nat) : Int)) rfl rfl (by omega) (by omega)) ?_)
    | (refine ek_sub ?_; first | refine EK_ev (Ev_subI_v (r := ((legs.length - 1 - i : Nat) : Int)) rfl rfl (by omega) (by omega)) ?_ | refine EK_ev (Ev_subI_v (r := ((legs.length - 1 : Nat) : Int)) rfl rfl (by omega) (by omega)) ?_)
    | (refine ek_rem ?_; first | refine EK_ev (Ev_rem_w rfl rfl (by omega) hr2) ?_ | refine EK_ev (Ev_rem_w rfl rfl (by omega) hr1) ?_)
    | (refine ek_lss ?_; refine EK_ev (Ev_lssI_q rfl rfl ql) ?_)
    | refine xst ?_
    | (refine xsa ?_; intro _)
    | (refine xsb ?_ ?_ <;> intro _ <;> first | (exfalso; omega) | skip)
    | refine xsc ?_
    | (refine KJ_draws (id := 6) (.op 0 (.op 1 (.op 2 (.op 3 (.op 4 (.op 5 (.op 6 (.op 7 (.op 8 (.op 9 (.op 10 (.op 11 (.op 12 (.op 13 (.op 14 (.op 15 (.op 16 (.op 17 (.op 18 (.op 19 (.op 20 (.ef 21 [] .nil)))))))))))))))))))))) (by kernel_rfl) (by kernel_rfl) ?_)
    | refine FW_alt ?_ ?_
    | refine FW_efn rfl rfl rfl rfl rfl ?_ ?_
    | refine KJ_flow ?_ ?_
    | exact Rech.nil
    | fail)
    all_goals refine KJ_again ⟨(i + 1, M'), hlt, hnx⟩ (by show legs.length - (i + 1) < legs.length - i; omega) xB (xN)
  have ql : decide ((i : Int) < (legs.length : Nat)) = false := decide_eq_false (by omega)
  have hMT : M = T := by rw [hM, List.take_of_length_le (by omega), List.drop_of_length_le (by omega), List.append_nil]
  subst hMT
  repeat' (first 
    | (refine ek_lss ?_; refine EK_ev (Ev_lssI_q rfl rfl ql) ?_)
    | refine xst ?_
    | (refine xsa ?_; intro _)
    | (refine xsb ?_ ?_ <;> intro _ <;> first | (exfalso; omega) | skip)
    | refine xsc ?_
    | (refine KJ_draws (id := 6) (.op 0 (.op 1 (.op 2 (.op 3 (.op 4 (.op 5 (.op 6 (.op 7 (.op 8 (.op 9 (.op 10 (.op 11 (.op 12 (.op 13 (.op 14 (.op 15 (.op 16 (.op 17 (.op 18 (.op 19 (.op 20 (.ef 21 [] .nil)))))))))))))))))))))) (by kernel_rfl) (by kernel_rfl) ?_)
    | refine FW_alt ?_ ?_
    | refine FW_efn rfl rfl rfl rfl rfl ?_ ?_
    | refine KJ_flow ?_ ?_
    | exact Rech.nil
    | fail)
  all_goals (refine is_ex ?_; exact KJ_done (by first | exact Or.inl rfl | exact Or.inr rfl) rfl (Rvs.agg (T := 24) rfl inferInstance inferInstance xS xC Rvs.nil) (xa, xc) (by rfl) (xN))
end
end Go.Proofs.YtdbfemdpdpaffaaDoor
/-
  PostingSame: the walk. (Printed by genpom2.py.)
-/
namespace Go.Proofs.YtdbfemdpdpaffaaDoor
open Go Go.RowKit Go.MapKept
section
variable {W : World} {F : Nat → Addr}
/-- posting.Same of structs given by their fields -/
theorem psameV (T : SP) (a b : Option Addr) (c d : Nat) (p q : Pst) (hA : Lv W legC 2 T a p.legs) (hB : Lv W legC 2 T b q.legs) (hp : p.legs.length ≤ 4611686018427387904) {vs ws : List Value} {r : Bool} (hv : pstC p a c = vs) (hw : pstC q b d = ws) (hr : sameP p q = r) :
    Ct Tryd.prog W 12 [.agg vs.toArray, .agg ws.toArray] [T] (fun _ : Unit => .bool r) (fun _ => [T]) := by
  subst hv hw hr
  exact psame_ct T a b c d p q hA hB hp
theorem wrap_ne (x : Int) : IntKind.i64.wrap (x + 1) ≠ x := by
  simp only [IntKind.wrap, IntKind.signed, IntKind.bits]
  simp
  split <;> omega

set_option maxHeartbeats 8000000 in
set_option maxRecDepth 20000 in
theorem psameL_f (hE : ErrsOn L37 W F) (a b e : Option Addr) (ca cb ce : Nat) (id1 id2 id3 note1 note2 note3 : List UInt8) (tick1 tick2 tick3 : Int) (legs1 legs2 legs3 : List Leg) (y : Int) (p1 : PstFit ⟨id1, tick1, note1, legs1⟩) (p2 : PstFit ⟨id2, tick2, note2, legs2⟩) (p3 : PstFit ⟨id3, tick3, note3, legs3⟩) (L1 : Lv W legC 2 noP a legs1) (L2 : Lv W legC 2 noP b legs2) (L3 : Lv W legC 2 noP e legs3)
    (h1 : sameP ⟨id1, tick1, note1, legs1⟩ ⟨id2, tick2, note2, legs2⟩ = false) (s2 s3 : Bool) (h2 : sameP ⟨id2, tick2, note2, legs2⟩ ⟨id3, tick3, note3, legs3⟩ = s2) (h3 : sameP ⟨id1, tick1, note1, legs1⟩ ⟨id3, tick3, note3, legs3⟩ = s3) :
    Ct Tryd.prog W 4 [.agg #[strV id1, .int .i64 tick1, strV note1, .slice a legs1.length ca], .agg #[strV id2, .int .i64 tick2, strV note2, .slice b legs2.length cb], .agg #[strV id3, .int .i64 tick3, strV note3, .slice e legs3.length ce], .int .i64 y] [] (fun _ : Unit => .bool true) (fun _ => []) := by
  have l1 : legs1.length ≤ 2000000 := p1.legs
  have l2 : legs2.length ≤ 2000000 := p2.legs
  have l3 : legs3.length ≤ 2000000 := p3.legs
  have hid : id1.length ≤ 2000000 := p1.id
  have hno : note1.length ≤ 2000000 := p1.note
  have cf := fixed_ct (W := W) (F := F) hE
  have cc := copied_ct (W := W) noP a ca ⟨id1, tick1, note1, legs1⟩ L1 l1
  unfold pstC at cc
  dsimp only at cc
  have ct := turned_ct (W := W) noP a ca ⟨id1, tick1, note1, legs1⟩ y L1 l1
  unfold pstC at ct
  dsimp only at ct
  obtain ⟨u, hu⟩ : ∃ u, u = wordN y := ⟨_, rfl⟩
  have w1 : IntKind.u64.wrap y = ((u : Nat) : Int) := by rw [hu]; exact wordN_wrap y
  have hult : u < 18446744073709551616 := by rw [hu]; exact wordN_lt y
  rw [← hu] at ct
  have hsT : sameP ⟨id1, tick1, note1, legs1⟩ ⟨id1, y, note1, turnL legs1 u⟩ = true := same_turn ⟨id1, tick1, note1, legs1⟩ y u
  have hTl : (turnL legs1 u).length = legs1.length := turnL_length legs1 u
  obtain ⟨T, hT⟩ : ∃ T, T = turnL legs1 u := ⟨_, rfl⟩
  rw [← hT] at ct hsT hTl
  have hTs : sameP ⟨id1, y, note1, T⟩ ⟨id1, tick1, note1, legs1⟩ = true := by rw [sameP_symm]; exact hsT
  have hTb : sameP ⟨id1, y, note1, T⟩ ⟨id2, tick2, note2, legs2⟩ = false := by rw [sameP_congr hTs, h1]
  have hba : sameP ⟨id2, tick2, note2, legs2⟩ ⟨id1, tick1, note1, legs1⟩ = false := by rw [sameP_symm, h1]
  have vT : ∀ x1 x2, pstC ⟨id1, y, note1, T⟩ x1 x2 = [strV id1, .int .i64 y, strV note1, .slice x1 legs1.length x2] := fun x1 x2 => by unfold pstC; dsimp only; rw [hTl]
  have k1 : legs1.length ≤ 4611686018427387904 := by omega
  have k2 : legs2.length ≤ 4611686018427387904 := by omega
  have kT : T.length ≤ 4611686018427387904 := by omega
  have cAA := psameV (W := W) noP a a ca ca ⟨id1, tick1, note1, legs1⟩ ⟨id1, tick1, note1, legs1⟩ L1 L1 k1 rfl rfl (sameP_refl _)
  have cAB := psameV (W := W) noP a b ca cb ⟨id1, tick1, note1, legs1⟩ ⟨id2, tick2, note2, legs2⟩ L1 L2 k1 rfl rfl h1
  have cBC := psameV (W := W) noP b e cb ce ⟨id2, tick2, note2, legs2⟩ ⟨id3, tick3, note3, legs3⟩ L2 L3 k2 rfl rfl h2
  have cAC := psameV (W := W) noP a e ca ce ⟨id1, tick1, note1, legs1⟩ ⟨id3, tick3, note3, legs3⟩ L1 L3 k1 rfl rfl h3
  have cBA := psameV (W := W) noP b a cb ca ⟨id2, tick2, note2, legs2⟩ ⟨id1, tick1, note1, legs1⟩ L2 L1 k2 rfl rfl hba
  have cAT := fun x1 x2 => psameV (W := W) (lsP legC 39 2 (.slice x1 legs1.length x2) T) a x1 ca x2 ⟨id1, tick1, note1, legs1⟩ ⟨id1, y, note1, T⟩ L1.any (Lv.own enc_leg hTl.symm) k1 rfl (vT x1 x2) hsT
  have cTA := fun x1 x2 => psameV (W := W) (lsP legC 39 2 (.slice x1 legs1.length x2) T) x1 a x2 ca ⟨id1, y, note1, T⟩ ⟨id1, tick1, note1, legs1⟩ (Lv.own enc_leg hTl.symm) L1.any kT (vT x1 x2) rfl hTs
  have cTB := fun x1 x2 => psameV (W := W) (lsP legC 39 2 (.slice x1 legs1.length x2) T) x1 b x2 cb ⟨id1, y, note1, T⟩ ⟨id2, tick2, note2, legs2⟩ (Lv.own enc_leg hTl.symm) L2.any kT (vT x1 x2) rfl hTb
  have cAO := fun x1 x2 => psameV (W := W) (lsP legC 39 2 (.slice x1 legs1.length x2) legs1) a x1 ca x2 ⟨id1, tick1, note1, legs1⟩ ⟨id1, tick1, note1 ++ [120], legs1⟩ L1.any (Lv.own enc_leg rfl) k1 rfl rfl (same_note ⟨id1, tick1, note1, legs1⟩ [120] (by simp) tick1 legs1)
  have cAN := fun x1 x2 => psameV (W := W) (lsP legC 39 2 (.slice x1 legs1.length x2) legs1) a x1 ca x2 ⟨id1, tick1, note1, legs1⟩ ⟨id1 ++ [120], tick1, note1, legs1⟩ L1.any (Lv.own enc_leg rfl) k1 rfl rfl (same_id ⟨id1, tick1, note1, legs1⟩ [120] (by simp) tick1 legs1 note1)
  have cAM := fun x1 x2 => psameV (W := W) (lsP legC 39 2 (.slice x1 (legs1 ++ [(⟨[113], 1⟩ : Leg)]).length x2) (legs1 ++ [(⟨[113], 1⟩ : Leg)])) a x1 ca x2 ⟨id1, tick1, note1, legs1⟩ ⟨id1, tick1, note1, legs1 ++ [⟨[113], 1⟩]⟩ L1.any (Lv.own enc_leg rfl) k1 rfl rfl (same_more ⟨id1, tick1, note1, legs1⟩ ⟨[113], 1⟩ tick1)
  have b1 : (legs1.length + 1) * 24 ≤ 140737488355328 := by omega
  have b2 : legs1.length + 1 ≤ 9223372036854775807 := by omega
  have bn : note1.length + ([120] : List UInt8).length ≤ 9223372036854775807 := by simp; omega
  have bi : id1.length + ([120] : List UInt8).length ≤ 9223372036854775807 := by simp; omega
  clear hT hu
  refine Ct.enter Tryd.func4 rfl Tryd.ntmps4 (by simp) (fun R => ?_)
  refine KJ.noP ?_
  repeat' (first 
    | (refine is_alloc ?_; refine KJ_alloc rfl (fun g5 => ?_))
    | (refine is_box ?_; refine KJ_box rfl xF rfl (fun g2 => ?_))
    | (refine is_call ?_; first | (refine KJ_call xE cAA xP rfl (fun _ => ?_)) | (refine KJ_call xE cAB xP rfl (fun _ => ?_)) | (refine KJ_call xE cBC xP rfl (fun _ => ?_)) | (refine KJ_call xE cAC xP rfl (fun _ => ?_)) | (refine KJ_call xE cBA xP rfl (fun _ => ?_)) | (refine KJ_call xE (cAT _ _) xP rfl (fun _ => ?_)) | (refine KJ_call xE (cTA _ _) xP rfl (fun _ => ?_)) | (refine KJ_call xE (cTB _ _) xP rfl (fun _ => ?_)) | (refine KJ_call xE (cAM _ _) xP rfl (fun _ => ?_); refine hold ?_) | (refine KJ_call xE (cAN _ _) xP rfl (fun _ => ?_)) | (refine KJ_call xE (cAO _ _) xP rfl (fun _ => ?_)) | (refine KJ_call xE ct xP rfl (fun x => ?_)) | (refine KJ_call xE cc xP rfl (fun x => ?_)) | (refine KJ_call xE cf xP rfl (fun _ => ?_)))
    | (refine is_append ?_; refine KJ_appOne (a := (⟨[113], 1⟩ : Leg)) enc_leg rfl rfl rfl xS xS b1 b2 rfl (fun ga cg => ?_))
    | (refine is_bslice ?_; refine KJ_bslice1 rfl xF (by rfl) (by omega) rfl (fun gb => ?_))
    | (refine ek_build ?_; refine EK_ev (Ev_build xV xW) ?_)
    | (refine ek_add ?_; first | refine EK_ev (Ev_addS (a := id1) (b := [120]) rfl rfl bi) ?_ | refine EK_ev (Ev_addS (a := note1) (b := [120]) rfl rfl bn) ?_)
    | (refine ek_neq ?_; refine EK_ev (Ev_neqBw rfl rfl rfl) ?_)
    | refine xst ?_
    | (refine xsa ?_; intro _)
    | (refine xsb ?_ ?_ <;> intro _ <;> first | (exfalso; omega) | skip)
    | refine xsc ?_
    | (refine KJ_draws (id := 7) (.op 0 (.op 1 (.op 3 (.op 4 (.op 6 (.op 7 (.ef 2 [7, 6, 4, 3] (.ef 5 [7, 6] (.ef 8 [] (.op 9 (.op 10 (.op 11 .nil)))))))))))) (by kernel_rfl) (by kernel_rfl) ?_)
    | refine FW_alt ?_ ?_
    | refine FW_efn rfl rfl rfl rfl rfl ?_ ?_
    | refine KJ_flow ?_ ?_
    | exact Rech.nil
    | fail)
  refine Hold.mk ?_
  by_cases hn : legs1.length = 0
  · have q0 : decide (((legs1.length : Nat) : Int) = 0) = true := decide_eq_true (by omega)
    repeat' (first 
    | (refine ek_eql ?_; refine EK_ev (Ev_eqlI_q rfl rfl q0) ?_)
    | refine xst ?_
    | (refine xsa ?_; intro _)
    | (refine xsb ?_ ?_ <;> intro _ <;> first | (exfalso; omega) | skip)
    | refine xsc ?_
    | (refine KJ_draws (id := 7) (.op 0 (.op 1 (.op 3 (.op 4 (.op 6 (.op 7 (.ef 2 [7, 6, 4, 3] (.ef 5 [7, 6] (.ef 8 [] (.op 9 (.op 10 (.op 11 .nil)))))))))))) (by kernel_rfl) (by kernel_rfl) ?_)
    | refine FW_alt ?_ ?_
    | refine FW_efn rfl rfl rfl rfl rfl ?_ ?_
    | refine KJ_flow ?_ ?_
    | exact Rech.nil
    | fail)
    all_goals (exact xdn ())
  have q0 : decide (((legs1.length : Nat) : Int) = 0) = false := decide_eq_false (by omega)
  have w2 : IntKind.u64.wrap ((legs1.length : Nat) : Int) = ((legs1.length : Nat) : Int) := u64_wrap _ (by omega)
  obtain ⟨k, hk⟩ : ∃ k, k = u % legs1.length := ⟨_, rfl⟩
  have hkl : k < legs1.length := by rw [hk]; exact Nat.mod_lt _ (by omega)
  have hr1 : ((u : Nat) : Int) % ((legs1.length : Nat) : Int) = ((k : Nat) : Int) := by rw [hk]; rfl
  have w3 : IntKind.i64.wrap ((k : Nat) : Int) = ((k : Nat) : Int) := i64_wrap _ (by omega)
  obtain ⟨x, hx⟩ : ∃ x, legs1[k]? = some x := ⟨_, List.getElem?_eq_getElem hkl⟩
  obtain ⟨am, ham⟩ : ∃ am, am = IntKind.i64.wrap (x.amt + 1) := ⟨_, rfl⟩
  have hne : x ≠ (⟨x.acc, am⟩ : Leg) := fun q => wrap_ne x.amt (by rw [← ham]; exact (congrArg Leg.amt q).symm)
  have hsum : IntKind.i64.wrap (x.amt + 1) = am := ham.symm
  have hset : legC (⟨x.acc, am⟩ : Leg) = (legC x).set 1 (.int .i64 am) := rfl
  have hamt : (legC x)[1]? = some (.int .i64 x.amt) := rfl
  have hoff : 0 + Int.toNat ((k : Nat) : Int) * 2 + 1 = k * 2 + 1 := by simp
  have hLk : legs1.length = (legs1.set k (⟨x.acc, am⟩ : Leg)).length := by rw [List.length_set]
  obtain ⟨L, hL⟩ : ∃ L, L = legs1.set k (⟨x.acc, am⟩ : Leg) := ⟨_, rfl⟩
  have hs4 : sameP ⟨id1, tick1, note1, legs1⟩ ⟨id1, tick1, note1, L⟩ = false := by rw [hL]; exact same_less ⟨id1, tick1, note1, legs1⟩ tick1 hx hne
  rw [← hL] at hLk
  have cAL := fun x1 x2 => psameV (W := W) (lsP legC 39 2 (.slice x1 legs1.length x2) L) a x1 ca x2 ⟨id1, tick1, note1, legs1⟩ ⟨id1, tick1, note1, L⟩ L1.any (Lv.own enc_leg hLk) k1 rfl (ws := [strV id1, .int .i64 tick1, strV note1, .slice x1 legs1.length x2]) (by unfold pstC; dsimp only; rw [← hLk]) hs4
  repeat' (first 
    | (refine is_alloc ?_; refine KJ_alloc rfl (fun g5 => ?_))
    | (refine is_call ?_; refine KJ_call xE cc xP rfl (fun z => ?_); refine hold ?_)
    | (refine ek_conv ?_; first | refine EK_ev (Ev_convI_v rfl w3) ?_ | refine EK_ev (Ev_convI_v rfl w2) ?_ | refine EK_ev (Ev_convI_v rfl w1) ?_)
    | (refine ek_rem ?_; refine EK_ev (Ev_rem_w (r := ((k : Nat) : Int)) rfl rfl (by omega) hr1) ?_)
    | (refine ek_eql ?_; refine EK_ev (Ev_eqlI_q rfl rfl q0) ?_)
    | refine xst ?_
    | (refine xsa ?_; intro _)
    | (refine xsb ?_ ?_ <;> intro _ <;> first | (exfalso; omega) | skip)
    | refine xsc ?_
    | (refine KJ_draws (id := 7) (.op 0 (.op 1 (.op 3 (.op 4 (.op 6 (.op 7 (.ef 2 [7, 6, 4, 3] (.ef 5 [7, 6] (.ef 8 [] (.op 9 (.op 10 (.op 11 .nil)))))))))))) (by kernel_rfl) (by kernel_rfl) ?_)
    | refine FW_alt ?_ ?_
    | refine FW_efn rfl rfl rfl rfl rfl ?_ ?_
    | refine KJ_flow ?_ ?_
    | exact Rech.nil
    | fail)
  refine Hold.mk ?_
  obtain ⟨za, zc⟩ := z
  dsimp only
  refine KJ.lsSome (a := za) xS (by omega) (fun gz hgz => ?_)
  subst hgz
  repeat' (first 
    | (refine is_store ?_; first | (refine KJ_storeLsF (a' := (⟨x.acc, am⟩ : Leg)) enc_leg rfl rfl xS rfl hoff hx (by omega) hset xF xO ?_; rw [← hL]) | refine KJ_store rfl rfl xS xF (by rfl) xO xL xR ?_)
    | (refine is_alloc ?_; refine KJ_alloc rfl (fun g5 => ?_))
    | (refine is_call ?_; refine KJ_call xE (cAL _ _) xP rfl (fun _ => ?_))
    | (refine ek_load ?_; refine EK_ev (Ev_loadLsF enc_leg rfl xS rfl hoff hx hamt) ?_)
    | (refine ek_conv ?_; first | refine EK_ev (Ev_convI_v rfl w3) ?_ | refine EK_ev (Ev_convI_v rfl w2) ?_ | refine EK_ev (Ev_convI_v rfl w1) ?_)
    | (refine ek_add ?_; refine EK_ev (Ev_add_w rfl rfl hsum) ?_)
    | (refine ek_rem ?_; refine EK_ev (Ev_rem_w (r := ((k : Nat) : Int)) rfl rfl (by omega) hr1) ?_)
    | refine xst ?_
    | (refine xsa ?_; intro _)
    | (refine xsb ?_ ?_ <;> intro _ <;> first | (exfalso; omega) | skip)
    | refine xsc ?_
    | (refine KJ_draws (id := 7) (.op 0 (.op 1 (.op 3 (.op 4 (.op 6 (.op 7 (.ef 2 [7, 6, 4, 3] (.ef 5 [7, 6] (.ef 8 [] (.op 9 (.op 10 (.op 11 .nil)))))))))))) (by kernel_rfl) (by kernel_rfl) ?_)
    | refine FW_alt ?_ ?_
    | refine FW_efn rfl rfl rfl rfl rfl ?_ ?_
    | refine KJ_flow ?_ ?_
    | exact Rech.nil
    | fail)
  all_goals (exact xdn ())
set_option maxHeartbeats 8000000 in
set_option maxRecDepth 20000 in
theorem psameL_tt (hE : ErrsOn L37 W F) (a b e : Option Addr) (ca cb ce : Nat) (id1 id2 id3 note1 note2 note3 : List UInt8) (tick1 tick2 tick3 : Int) (legs1 legs2 legs3 : List Leg) (y : Int) (p1 : PstFit ⟨id1, tick1, note1, legs1⟩) (p2 : PstFit ⟨id2, tick2, note2, legs2⟩) (p3 : PstFit ⟨id3, tick3, note3, legs3⟩) (L1 : Lv W legC 2 noP a legs1) (L2 : Lv W legC 2 noP b legs2) (L3 : Lv W legC 2 noP e legs3)
    (h1 : sameP ⟨id1, tick1, note1, legs1⟩ ⟨id2, tick2, note2, legs2⟩ = true) (h2 : sameP ⟨id2, tick2, note2, legs2⟩ ⟨id3, tick3, note3, legs3⟩ = true) (h3 : sameP ⟨id1, tick1, note1, legs1⟩ ⟨id3, tick3, note3, legs3⟩ = true) :
    Ct Tryd.prog W 4 [.agg #[strV id1, .int .i64 tick1, strV note1, .slice a legs1.length ca], .agg #[strV id2, .int .i64 tick2, strV note2, .slice b legs2.length cb], .agg #[strV id3, .int .i64 tick3, strV note3, .slice e legs3.length ce], .int .i64 y] [] (fun _ : Unit => .bool true) (fun _ => []) := by
  have l1 : legs1.length ≤ 2000000 := p1.legs
  have l2 : legs2.length ≤ 2000000 := p2.legs
  have l3 : legs3.length ≤ 2000000 := p3.legs
  have hid : id1.length ≤ 2000000 := p1.id
  have hno : note1.length ≤ 2000000 := p1.note
  have cf := fixed_ct (W := W) (F := F) hE
  have cc := copied_ct (W := W) noP a ca ⟨id1, tick1, note1, legs1⟩ L1 l1
  unfold pstC at cc
  dsimp only at cc
  have ct := turned_ct (W := W) noP a ca ⟨id1, tick1, note1, legs1⟩ y L1 l1
  unfold pstC at ct
  dsimp only at ct
  obtain ⟨u, hu⟩ : ∃ u, u = wordN y := ⟨_, rfl⟩
  have w1 : IntKind.u64.wrap y = ((u : Nat) : Int) := by rw [hu]; exact wordN_wrap y
  have hult : u < 18446744073709551616 := by rw [hu]; exact wordN_lt y
  rw [← hu] at ct
  have hsT : sameP ⟨id1, tick1, note1, legs1⟩ ⟨id1, y, note1, turnL legs1 u⟩ = true := same_turn ⟨id1, tick1, note1, legs1⟩ y u
  have hTl : (turnL legs1 u).length = legs1.length := turnL_length legs1 u
  obtain ⟨T, hT⟩ : ∃ T, T = turnL legs1 u := ⟨_, rfl⟩
  rw [← hT] at ct hsT hTl
  have hTs : sameP ⟨id1, y, note1, T⟩ ⟨id1, tick1, note1, legs1⟩ = true := by rw [sameP_symm]; exact hsT
  have hTb : sameP ⟨id1, y, note1, T⟩ ⟨id2, tick2, note2, legs2⟩ = true := by rw [sameP_congr hTs, h1]
  have hba : sameP ⟨id2, tick2, note2, legs2⟩ ⟨id1, tick1, note1, legs1⟩ = true := by rw [sameP_symm, h1]
  have vT : ∀ x1 x2, pstC ⟨id1, y, note1, T⟩ x1 x2 = [strV id1, .int .i64 y, strV note1, .slice x1 legs1.length x2] := fun x1 x2 => by unfold pstC; dsimp only; rw [hTl]
  have k1 : legs1.length ≤ 4611686018427387904 := by omega
  have k2 : legs2.length ≤ 4611686018427387904 := by omega
  have kT : T.length ≤ 4611686018427387904 := by omega
  have cAA := psameV (W := W) noP a a ca ca ⟨id1, tick1, note1, legs1⟩ ⟨id1, tick1, note1, legs1⟩ L1 L1 k1 rfl rfl (sameP_refl _)
  have cAB := psameV (W := W) noP a b ca cb ⟨id1, tick1, note1, legs1⟩ ⟨id2, tick2, note2, legs2⟩ L1 L2 k1 rfl rfl h1
  have cBC := psameV (W := W) noP b e cb ce ⟨id2, tick2, note2, legs2⟩ ⟨id3, tick3, note3, legs3⟩ L2 L3 k2 rfl rfl h2
  have cAC := psameV (W := W) noP a e ca ce ⟨id1, tick1, note1, legs1⟩ ⟨id3, tick3, note3, legs3⟩ L1 L3 k1 rfl rfl h3
  have cBA := psameV (W := W) noP b a cb ca ⟨id2, tick2, note2, legs2⟩ ⟨id1, tick1, note1, legs1⟩ L2 L1 k2 rfl rfl hba
  have cAT := fun x1 x2 => psameV (W := W) (lsP legC 39 2 (.slice x1 legs1.length x2) T) a x1 ca x2 ⟨id1, tick1, note1, legs1⟩ ⟨id1, y, note1, T⟩ L1.any (Lv.own enc_leg hTl.symm) k1 rfl (vT x1 x2) hsT
  have cTA := fun x1 x2 => psameV (W := W) (lsP legC 39 2 (.slice x1 legs1.length x2) T) x1 a x2 ca ⟨id1, y, note1, T⟩ ⟨id1, tick1, note1, legs1⟩ (Lv.own enc_leg hTl.symm) L1.any kT (vT x1 x2) rfl hTs
  have cTB := fun x1 x2 => psameV (W := W) (lsP legC 39 2 (.slice x1 legs1.length x2) T) x1 b x2 cb ⟨id1, y, note1, T⟩ ⟨id2, tick2, note2, legs2⟩ (Lv.own enc_leg hTl.symm) L2.any kT (vT x1 x2) rfl hTb
  have cAO := fun x1 x2 => psameV (W := W) (lsP legC 39 2 (.slice x1 legs1.length x2) legs1) a x1 ca x2 ⟨id1, tick1, note1, legs1⟩ ⟨id1, tick1, note1 ++ [120], legs1⟩ L1.any (Lv.own enc_leg rfl) k1 rfl rfl (same_note ⟨id1, tick1, note1, legs1⟩ [120] (by simp) tick1 legs1)
  have cAN := fun x1 x2 => psameV (W := W) (lsP legC 39 2 (.slice x1 legs1.length x2) legs1) a x1 ca x2 ⟨id1, tick1, note1, legs1⟩ ⟨id1 ++ [120], tick1, note1, legs1⟩ L1.any (Lv.own enc_leg rfl) k1 rfl rfl (same_id ⟨id1, tick1, note1, legs1⟩ [120] (by simp) tick1 legs1 note1)
  have cAM := fun x1 x2 => psameV (W := W) (lsP legC 39 2 (.slice x1 (legs1 ++ [(⟨[113], 1⟩ : Leg)]).length x2) (legs1 ++ [(⟨[113], 1⟩ : Leg)])) a x1 ca x2 ⟨id1, tick1, note1, legs1⟩ ⟨id1, tick1, note1, legs1 ++ [⟨[113], 1⟩]⟩ L1.any (Lv.own enc_leg rfl) k1 rfl rfl (same_more ⟨id1, tick1, note1, legs1⟩ ⟨[113], 1⟩ tick1)
  have b1 : (legs1.length + 1) * 24 ≤ 140737488355328 := by omega
  have b2 : legs1.length + 1 ≤ 9223372036854775807 := by omega
  have bn : note1.length + ([120] : List UInt8).length ≤ 9223372036854775807 := by simp; omega
  have bi : id1.length + ([120] : List UInt8).length ≤ 9223372036854775807 := by simp; omega
  clear hT hu
  refine Ct.enter Tryd.func4 rfl Tryd.ntmps4 (by simp) (fun R => ?_)
  refine KJ.noP ?_
  repeat' (first 
    | (refine is_alloc ?_; refine KJ_alloc rfl (fun g5 => ?_))
    | (refine is_box ?_; refine KJ_box rfl xF rfl (fun g2 => ?_))
    | (refine is_call ?_; first | (refine KJ_call xE cAA xP rfl (fun _ => ?_)) | (refine KJ_call xE cAB xP rfl (fun _ => ?_)) | (refine KJ_call xE cBC xP rfl (fun _ => ?_)) | (refine KJ_call xE cAC xP rfl (fun _ => ?_)) | (refine KJ_call xE cBA xP rfl (fun _ => ?_)) | (refine KJ_call xE (cAT _ _) xP rfl (fun _ => ?_)) | (refine KJ_call xE (cTA _ _) xP rfl (fun _ => ?_)) | (refine KJ_call xE (cTB _ _) xP rfl (fun _ => ?_)) | (refine KJ_call xE (cAM _ _) xP rfl (fun _ => ?_); refine hold ?_) | (refine KJ_call xE (cAN _ _) xP rfl (fun _ => ?_)) | (refine KJ_call xE (cAO _ _) xP rfl (fun _ => ?_)) | (refine KJ_call xE ct xP rfl (fun x => ?_)) | (refine KJ_call xE cc xP rfl (fun x => ?_)) | (refine KJ_call xE cf xP rfl (fun _ => ?_)))
    | (refine is_append ?_; refine KJ_appOne (a := (⟨[113], 1⟩ : Leg)) enc_leg rfl rfl rfl xS xS b1 b2 rfl (fun ga cg => ?_))
    | (refine is_bslice ?_; refine KJ_bslice1 rfl xF (by rfl) (by omega) rfl (fun gb => ?_))
    | (refine ek_build ?_; refine EK_ev (Ev_build xV xW) ?_)
    | (refine ek_add ?_; first | refine EK_ev (Ev_addS (a := id1) (b := [120]) rfl rfl bi) ?_ | refine EK_ev (Ev_addS (a := note1) (b := [120]) rfl rfl bn) ?_)
    | (refine ek_neq ?_; refine EK_ev (Ev_neqBw rfl rfl rfl) ?_)
    | refine xst ?_
    | (refine xsa ?_; intro _)
    | (refine xsb ?_ ?_ <;> intro _ <;> first | (exfalso; omega) | skip)
    | refine xsc ?_
    | (refine KJ_draws (id := 7) (.op 0 (.op 1 (.op 3 (.op 4 (.op 6 (.op 7 (.ef 2 [7, 6, 4, 3] (.ef 5 [7, 6] (.ef 8 [] (.op 9 (.op 10 (.op 11 .nil)))))))))))) (by kernel_rfl) (by kernel_rfl) ?_)
    | refine FW_alt ?_ ?_
    | refine FW_efn rfl rfl rfl rfl rfl ?_ ?_
    | refine KJ_flow ?_ ?_
    | exact Rech.nil
    | fail)
  refine Hold.mk ?_
  by_cases hn : legs1.length = 0
  · have q0 : decide (((legs1.length : Nat) : Int) = 0) = true := decide_eq_true (by omega)
    repeat' (first 
    | (refine ek_eql ?_; refine EK_ev (Ev_eqlI_q rfl rfl q0) ?_)
    | refine xst ?_
    | (refine xsa ?_; intro _)
    | (refine xsb ?_ ?_ <;> intro _ <;> first | (exfalso; omega) | skip)
    | refine xsc ?_
    | (refine KJ_draws (id := 7) (.op 0 (.op 1 (.op 3 (.op 4 (.op 6 (.op 7 (.ef 2 [7, 6, 4, 3] (.ef 5 [7, 6] (.ef 8 [] (.op 9 (.op 10 (.op 11 .nil)))))))))))) (by kernel_rfl) (by kernel_rfl) ?_)
    | refine FW_alt ?_ ?_
    | refine FW_efn rfl rfl rfl rfl rfl ?_ ?_
    | refine KJ_flow ?_ ?_
    | exact Rech.nil
    | fail)
    all_goals (exact xdn ())
  have q0 : decide (((legs1.length : Nat) : Int) = 0) = false := decide_eq_false (by omega)
  have w2 : IntKind.u64.wrap ((legs1.length : Nat) : Int) = ((legs1.length : Nat) : Int) := u64_wrap _ (by omega)
  obtain ⟨k, hk⟩ : ∃ k, k = u % legs1.length := ⟨_, rfl⟩
  have hkl : k < legs1.length := by rw [hk]; exact Nat.mod_lt _ (by omega)
  have hr1 : ((u : Nat) : Int) % ((legs1.length : Nat) : Int) = ((k : Nat) : Int) := by rw [hk]; rfl
  have w3 : IntKind.i64.wrap ((k : Nat) : Int) = ((k : Nat) : Int) := i64_wrap _ (by omega)
  obtain ⟨x, hx⟩ : ∃ x, legs1[k]? = some x := ⟨_, List.getElem?_eq_getElem hkl⟩
  obtain ⟨am, ham⟩ : ∃ am, am = IntKind.i64.wrap (x.amt + 1) := ⟨_, rfl⟩
  have hne : x ≠ (⟨x.acc, am⟩ : Leg) := fun q => wrap_ne x.amt (by rw [← ham]; exact (congrArg Leg.amt q).symm)
  have hsum : IntKind.i64.wrap (x.amt + 1) = am := ham.symm
  have hset : legC (⟨x.acc, am⟩ : Leg) = (legC x).set 1 (.int .i64 am) := rfl
  have hamt : (legC x)[1]? = some (.int .i64 x.amt) := rfl
  have hoff : 0 + Int.toNat ((k : Nat) : Int) * 2 + 1 = k * 2 + 1 := by simp
  have hLk : legs1.length = (legs1.set k (⟨x.acc, am⟩ : Leg)).length := by rw [List.length_set]
  obtain ⟨L, hL⟩ : ∃ L, L = legs1.set k (⟨x.acc, am⟩ : Leg) := ⟨_, rfl⟩
  have hs4 : sameP ⟨id1, tick1, note1, legs1⟩ ⟨id1, tick1, note1, L⟩ = false := by rw [hL]; exact same_less ⟨id1, tick1, note1, legs1⟩ tick1 hx hne
  rw [← hL] at hLk
  have cAL := fun x1 x2 => psameV (W := W) (lsP legC 39 2 (.slice x1 legs1.length x2) L) a x1 ca x2 ⟨id1, tick1, note1, legs1⟩ ⟨id1, tick1, note1, L⟩ L1.any (Lv.own enc_leg hLk) k1 rfl (ws := [strV id1, .int .i64 tick1, strV note1, .slice x1 legs1.length x2]) (by unfold pstC; dsimp only; rw [← hLk]) hs4
  repeat' (first 
    | (refine is_alloc ?_; refine KJ_alloc rfl (fun g5 => ?_))
    | (refine is_call ?_; refine KJ_call xE cc xP rfl (fun z => ?_); refine hold ?_)
    | (refine ek_conv ?_; first | refine EK_ev (Ev_convI_v rfl w3) ?_ | refine EK_ev (Ev_convI_v rfl w2) ?_ | refine EK_ev (Ev_convI_v rfl w1) ?_)
    | (refine ek_rem ?_; refine EK_ev (Ev_rem_w (r := ((k : Nat) : Int)) rfl rfl (by omega) hr1) ?_)
    | (refine ek_eql ?_; refine EK_ev (Ev_eqlI_q rfl rfl q0) ?_)
    | refine xst ?_
    | (refine xsa ?_; intro _)
    | (refine xsb ?_ ?_ <;> intro _ <;> first | (exfalso; omega) | skip)
    | refine xsc ?_
    | (refine KJ_draws (id := 7) (.op 0 (.op 1 (.op 3 (.op 4 (.op 6 (.op 7 (.ef 2 [7, 6, 4, 3] (.ef 5 [7, 6] (.ef 8 [] (.op 9 (.op 10 (.op 11 .nil)))))))))))) (by kernel_rfl) (by kernel_rfl) ?_)
    | refine FW_alt ?_ ?_
    | refine FW_efn rfl rfl rfl rfl rfl ?_ ?_
    | refine KJ_flow ?_ ?_
    | exact Rech.nil
    | fail)
  refine Hold.mk ?_
  obtain ⟨za, zc⟩ := z
  dsimp only
  refine KJ.lsSome (a := za) xS (by omega) (fun gz hgz => ?_)
  subst hgz
  repeat' (first 
    | (refine is_store ?_; first | (refine KJ_storeLsF (a' := (⟨x.acc, am⟩ : Leg)) enc_leg rfl rfl xS rfl hoff hx (by omega) hset xF xO ?_; rw [← hL]) | refine KJ_store rfl rfl xS xF (by rfl) xO xL xR ?_)
    | (refine is_alloc ?_; refine KJ_alloc rfl (fun g5 => ?_))
    | (refine is_call ?_; refine KJ_call xE (cAL _ _) xP rfl (fun _ => ?_))
    | (refine ek_load ?_; refine EK_ev (Ev_loadLsF enc_leg rfl xS rfl hoff hx hamt) ?_)
    | (refine ek_conv ?_; first | refine EK_ev (Ev_convI_v rfl w3) ?_ | refine EK_ev (Ev_convI_v rfl w2) ?_ | refine EK_ev (Ev_convI_v rfl w1) ?_)
    | (refine ek_add ?_; refine EK_ev (Ev_add_w rfl rfl hsum) ?_)
    | (refine ek_rem ?_; refine EK_ev (Ev_rem_w (r := ((k : Nat) : Int)) rfl rfl (by omega) hr1) ?_)
    | refine xst ?_
    | (refine xsa ?_; intro _)
    | (refine xsb ?_ ?_ <;> intro _ <;> first | (exfalso; omega) | skip)
    | refine xsc ?_
    | (refine KJ_draws (id := 7) (.op 0 (.op 1 (.op 3 (.op 4 (.op 6 (.op 7 (.ef 2 [7, 6, 4, 3] (.ef 5 [7, 6] (.ef 8 [] (.op 9 (.op 10 (.op 11 .nil)))))))))))) (by kernel_rfl) (by kernel_rfl) ?_)
    | refine FW_alt ?_ ?_
    | refine FW_efn rfl rfl rfl rfl rfl ?_ ?_
    | refine KJ_flow ?_ ?_
    | exact Rech.nil
    | fail)
  all_goals (exact xdn ())
set_option maxHeartbeats 8000000 in
set_option maxRecDepth 20000 in
theorem psameL_tf (hE : ErrsOn L37 W F) (a b e : Option Addr) (ca cb ce : Nat) (id1 id2 id3 note1 note2 note3 : List UInt8) (tick1 tick2 tick3 : Int) (legs1 legs2 legs3 : List Leg) (y : Int) (p1 : PstFit ⟨id1, tick1, note1, legs1⟩) (p2 : PstFit ⟨id2, tick2, note2, legs2⟩) (p3 : PstFit ⟨id3, tick3, note3, legs3⟩) (L1 : Lv W legC 2 noP a legs1) (L2 : Lv W legC 2 noP b legs2) (L3 : Lv W legC 2 noP e legs3)
    (h1 : sameP ⟨id1, tick1, note1, legs1⟩ ⟨id2, tick2, note2, legs2⟩ = true) (h2 : sameP ⟨id2, tick2, note2, legs2⟩ ⟨id3, tick3, note3, legs3⟩ = false) (h3 : sameP ⟨id1, tick1, note1, legs1⟩ ⟨id3, tick3, note3, legs3⟩ = false) :
    Ct Tryd.prog W 4 [.agg #[strV id1, .int .i64 tick1, strV note1, .slice a legs1.length ca], .agg #[strV id2, .int .i64 tick2, strV note2, .slice b legs2.length cb], .agg #[strV id3, .int .i64 tick3, strV note3, .slice e legs3.length ce], .int .i64 y] [] (fun _ : Unit => .bool true) (fun _ => []) := by
  have l1 : legs1.length ≤ 2000000 := p1.legs
  have l2 : legs2.length ≤ 2000000 := p2.legs
  have l3 : legs3.length ≤ 2000000 := p3.legs
  have hid : id1.length ≤ 2000000 := p1.id
  have hno : note1.length ≤ 2000000 := p1.note
  have cf := fixed_ct (W := W) (F := F) hE
  have cc := copied_ct (W := W) noP a ca ⟨id1, tick1, note1, legs1⟩ L1 l1
  unfold pstC at cc
  dsimp only at cc
  have ct := turned_ct (W := W) noP a ca ⟨id1, tick1, note1, legs1⟩ y L1 l1
  unfold pstC at ct
  dsimp only at ct
  obtain ⟨u, hu⟩ : ∃ u, u = wordN y := ⟨_, rfl⟩
  have w1 : IntKind.u64.wrap y = ((u : Nat) : Int) := by rw [hu]; exact wordN_wrap y
  have hult : u < 18446744073709551616 := by rw [hu]; exact wordN_lt y
  rw [← hu] at ct
  have hsT : sameP ⟨id1, tick1, note1, legs1⟩ ⟨id1, y, note1, turnL legs1 u⟩ = true := same_turn ⟨id1, tick1, note1, legs1⟩ y u
  have hTl : (turnL legs1 u).length = legs1.length := turnL_length legs1 u
  obtain ⟨T, hT⟩ : ∃ T, T = turnL legs1 u := ⟨_, rfl⟩
  rw [← hT] at ct hsT hTl
  have hTs : sameP ⟨id1, y, note1, T⟩ ⟨id1, tick1, note1, legs1⟩ = true := by rw [sameP_symm]; exact hsT
  have hTb : sameP ⟨id1, y, note1, T⟩ ⟨id2, tick2, note2, legs2⟩ = true := by rw [sameP_congr hTs, h1]
  have hba : sameP ⟨id2, tick2, note2, legs2⟩ ⟨id1, tick1, note1, legs1⟩ = true := by rw [sameP_symm, h1]
  have vT : ∀ x1 x2, pstC ⟨id1, y, note1, T⟩ x1 x2 = [strV id1, .int .i64 y, strV note1, .slice x1 legs1.length x2] := fun x1 x2 => by unfold pstC; dsimp only; rw [hTl]
  have k1 : legs1.length ≤ 4611686018427387904 := by omega
  have k2 : legs2.length ≤ 4611686018427387904 := by omega
  have kT : T.length ≤ 4611686018427387904 := by omega
  have cAA := psameV (W := W) noP a a ca ca ⟨id1, tick1, note1, legs1⟩ ⟨id1, tick1, note1, legs1⟩ L1 L1 k1 rfl rfl (sameP_refl _)
  have cAB := psameV (W := W) noP a b ca cb ⟨id1, tick1, note1, legs1⟩ ⟨id2, tick2, note2, legs2⟩ L1 L2 k1 rfl rfl h1
  have cBC := psameV (W := W) noP b e cb ce ⟨id2, tick2, note2, legs2⟩ ⟨id3, tick3, note3, legs3⟩ L2 L3 k2 rfl rfl h2
  have cAC := psameV (W := W) noP a e ca ce ⟨id1, tick1, note1, legs1⟩ ⟨id3, tick3, note3, legs3⟩ L1 L3 k1 rfl rfl h3
  have cBA := psameV (W := W) noP b a cb ca ⟨id2, tick2, note2, legs2⟩ ⟨id1, tick1, note1, legs1⟩ L2 L1 k2 rfl rfl hba
  have cAT := fun x1 x2 => psameV (W := W) (lsP legC 39 2 (.slice x1 legs1.length x2) T) a x1 ca x2 ⟨id1, tick1, note1, legs1⟩ ⟨id1, y, note1, T⟩ L1.any (Lv.own enc_leg hTl.symm) k1 rfl (vT x1 x2) hsT
  have cTA := fun x1 x2 => psameV (W := W) (lsP legC 39 2 (.slice x1 legs1.length x2) T) x1 a x2 ca ⟨id1, y, note1, T⟩ ⟨id1, tick1, note1, legs1⟩ (Lv.own enc_leg hTl.symm) L1.any kT (vT x1 x2) rfl hTs
  have cTB := fun x1 x2 => psameV (W := W) (lsP legC 39 2 (.slice x1 legs1.length x2) T) x1 b x2 cb ⟨id1, y, note1, T⟩ ⟨id2, tick2, note2, legs2⟩ (Lv.own enc_leg hTl.symm) L2.any kT (vT x1 x2) rfl hTb
  have cAO := fun x1 x2 => psameV (W := W) (lsP legC 39 2 (.slice x1 legs1.length x2) legs1) a x1 ca x2 ⟨id1, tick1, note1, legs1⟩ ⟨id1, tick1, note1 ++ [120], legs1⟩ L1.any (Lv.own enc_leg rfl) k1 rfl rfl (same_note ⟨id1, tick1, note1, legs1⟩ [120] (by simp) tick1 legs1)
  have cAN := fun x1 x2 => psameV (W := W) (lsP legC 39 2 (.slice x1 legs1.length x2) legs1) a x1 ca x2 ⟨id1, tick1, note1, legs1⟩ ⟨id1 ++ [120], tick1, note1, legs1⟩ L1.any (Lv.own enc_leg rfl) k1 rfl rfl (same_id ⟨id1, tick1, note1, legs1⟩ [120] (by simp) tick1 legs1 note1)
  have cAM := fun x1 x2 => psameV (W := W) (lsP legC 39 2 (.slice x1 (legs1 ++ [(⟨[113], 1⟩ : Leg)]).length x2) (legs1 ++ [(⟨[113], 1⟩ : Leg)])) a x1 ca x2 ⟨id1, tick1, note1, legs1⟩ ⟨id1, tick1, note1, legs1 ++ [⟨[113], 1⟩]⟩ L1.any (Lv.own enc_leg rfl) k1 rfl rfl (same_more ⟨id1, tick1, note1, legs1⟩ ⟨[113], 1⟩ tick1)
  have b1 : (legs1.length + 1) * 24 ≤ 140737488355328 := by omega
  have b2 : legs1.length + 1 ≤ 9223372036854775807 := by omega
  have bn : note1.length + ([120] : List UInt8).length ≤ 9223372036854775807 := by simp; omega
  have bi : id1.length + ([120] : List UInt8).length ≤ 9223372036854775807 := by simp; omega
  clear hT hu
  refine Ct.enter Tryd.func4 rfl Tryd.ntmps4 (by simp) (fun R => ?_)
  refine KJ.noP ?_
  repeat' (first 
    | (refine is_alloc ?_; refine KJ_alloc rfl (fun g5 => ?_))
    | (refine is_box ?_; refine KJ_box rfl xF rfl (fun g2 => ?_))
    | (refine is_call ?_; first | (refine KJ_call xE cAA xP rfl (fun _ => ?_)) | (refine KJ_call xE cAB xP rfl (fun _ => ?_)) | (refine KJ_call xE cBC xP rfl (fun _ => ?_)) | (refine KJ_call xE cAC xP rfl (fun _ => ?_)) | (refine KJ_call xE cBA xP rfl (fun _ => ?_)) | (refine KJ_call xE (cAT _ _) xP rfl (fun _ => ?_)) | (refine KJ_call xE (cTA _ _) xP rfl (fun _ => ?_)) | (refine KJ_call xE (cTB _ _) xP rfl (fun _ => ?_)) | (refine KJ_call xE (cAM _ _) xP rfl (fun _ => ?_); refine hold ?_) | (refine KJ_call xE (cAN _ _) xP rfl (fun _ => ?_)) | (refine KJ_call xE (cAO _ _) xP rfl (fun _ => ?_)) | (refine KJ_call xE ct xP rfl (fun x => ?_)) | (refine KJ_call xE cc xP rfl (fun x => ?_)) | (refine KJ_call xE cf xP rfl (fun _ => ?_)))
    | (refine is_append ?_; refine KJ_appOne (a := (⟨[113], 1⟩ : Leg)) enc_leg rfl rfl rfl xS xS b1 b2 rfl (fun ga cg => ?_))
    | (refine is_bslice ?_; refine KJ_bslice1 rfl xF (by rfl) (by omega) rfl (fun gb => ?_))
    | (refine ek_build ?_; refine EK_ev (Ev_build xV xW) ?_)
    | (refine ek_add ?_; first | refine EK_ev (Ev_addS (a := id1) (b := [120]) rfl rfl bi) ?_ | refine EK_ev (Ev_addS (a := note1) (b := [120]) rfl rfl bn) ?_)
    | (refine ek_neq ?_; refine EK_ev (Ev_neqBw rfl rfl rfl) ?_)
    | refine xst ?_
    | (refine xsa ?_; intro _)
    | (refine xsb ?_ ?_ <;> intro _ <;> first | (exfalso; omega) | skip)
    | refine xsc ?_
    | (refine KJ_draws (id := 7) (.op 0 (.op 1 (.op 3 (.op 4 (.op 6 (.op 7 (.ef 2 [7, 6, 4, 3] (.ef 5 [7, 6] (.ef 8 [] (.op 9 (.op 10 (.op 11 .nil)))))))))))) (by kernel_rfl) (by kernel_rfl) ?_)
    | refine FW_alt ?_ ?_
    | refine FW_efn rfl rfl rfl rfl rfl ?_ ?_
    | refine KJ_flow ?_ ?_
    | exact Rech.nil
    | fail)
  refine Hold.mk ?_
  by_cases hn : legs1.length = 0
  · have q0 : decide (((legs1.length : Nat) : Int) = 0) = true := decide_eq_true (by omega)
    repeat' (first 
    | (refine ek_eql ?_; refine EK_ev (Ev_eqlI_q rfl rfl q0) ?_)
    | refine xst ?_
    | (refine xsa ?_; intro _)
    | (refine xsb ?_ ?_ <;> intro _ <;> first | (exfalso; omega) | skip)
    | refine xsc ?_
    | (refine KJ_draws (id := 7) (.op 0 (.op 1 (.op 3 (.op 4 (.op 6 (.op 7 (.ef 2 [7, 6, 4, 3] (.ef 5 [7, 6] (.ef 8 [] (.op 9 (.op 10 (.op 11 .nil)))))))))))) (by kernel_rfl) (by kernel_rfl) ?_)
    | refine FW_alt ?_ ?_
    | refine FW_efn rfl rfl rfl rfl rfl ?_ ?_
    | refine KJ_flow ?_ ?_
    | exact Rech.nil
    | fail)
    all_goals (exact xdn ())
  have q0 : decide (((legs1.length : Nat) : Int) = 0) = false := decide_eq_false (by omega)
  have w2 : IntKind.u64.wrap ((legs1.length : Nat) : Int) = ((legs1.length : Nat) : Int) := u64_wrap _ (by omega)
  obtain ⟨k, hk⟩ : ∃ k, k = u % legs1.length := ⟨_, rfl⟩
  have hkl : k < legs1.length := by rw [hk]; exact Nat.mod_lt _ (by omega)
  have hr1 : ((u : Nat) : Int) % ((legs1.length : Nat) : Int) = ((k : Nat) : Int) := by rw [hk]; rfl
  have w3 : IntKind.i64.wrap ((k : Nat) : Int) = ((k : Nat) : Int) := i64_wrap _ (by omega)
  obtain ⟨x, hx⟩ : ∃ x, legs1[k]? = some x := ⟨_, List.getElem?_eq_getElem hkl⟩
  obtain ⟨am, ham⟩ : ∃ am, am = IntKind.i64.wrap (x.amt + 1) := ⟨_, rfl⟩
  have hne : x ≠ (⟨x.acc, am⟩ : Leg) := fun q => wrap_ne x.amt (by rw [← ham]; exact (congrArg Leg.amt q).symm)
  have hsum : IntKind.i64.wrap (x.amt + 1) = am := ham.symm
  have hset : legC (⟨x.acc, am⟩ : Leg) = (legC x).set 1 (.int .i64 am) := rfl
  have hamt : (legC x)[1]? = some (.int .i64 x.amt) := rfl
  have hoff : 0 + Int.toNat ((k : Nat) : Int) * 2 + 1 = k * 2 + 1 := by simp
  have hLk : legs1.length = (legs1.set k (⟨x.acc, am⟩ : Leg)).length := by rw [List.length_set]
  obtain ⟨L, hL⟩ : ∃ L, L = legs1.set k (⟨x.acc, am⟩ : Leg) := ⟨_, rfl⟩
  have hs4 : sameP ⟨id1, tick1, note1, legs1⟩ ⟨id1, tick1, note1, L⟩ = false := by rw [hL]; exact same_less ⟨id1, tick1, note1, legs1⟩ tick1 hx hne
  rw [← hL] at hLk
  have cAL := fun x1 x2 => psameV (W := W) (lsP legC 39 2 (.slice x1 legs1.length x2) L) a x1 ca x2 ⟨id1, tick1, note1, legs1⟩ ⟨id1, tick1, note1, L⟩ L1.any (Lv.own enc_leg hLk) k1 rfl (ws := [strV id1, .int .i64 tick1, strV note1, .slice x1 legs1.length x2]) (by unfold pstC; dsimp only; rw [← hLk]) hs4
  repeat' (first 
    | (refine is_alloc ?_; refine KJ_alloc rfl (fun g5 => ?_))
    | (refine is_call ?_; refine KJ_call xE cc xP rfl (fun z => ?_); refine hold ?_)
    | (refine ek_conv ?_; first | refine EK_ev (Ev_convI_v rfl w3) ?_ | refine EK_ev (Ev_convI_v rfl w2) ?_ | refine EK_ev (Ev_convI_v rfl w1) ?_)
    | (refine ek_rem ?_; refine EK_ev (Ev_rem_w (r := ((k : Nat) : Int)) rfl rfl (by omega) hr1) ?_)
    | (refine ek_eql ?_; refine EK_ev (Ev_eqlI_q rfl rfl q0) ?_)
    | refine xst ?_
    | (refine xsa ?_; intro _)
    | (refine xsb ?_ ?_ <;> intro _ <;> first | (exfalso; omega) | skip)
    | refine xsc ?_
    | (refine KJ_draws (id := 7) (.op 0 (.op 1 (.op 3 (.op 4 (.op 6 (.op 7 (.ef 2 [7, 6, 4, 3] (.ef 5 [7, 6] (.ef 8 [] (.op 9 (.op 10 (.op 11 .nil)))))))))))) (by kernel_rfl) (by kernel_rfl) ?_)
    | refine FW_alt ?_ ?_
    | refine FW_efn rfl rfl rfl rfl rfl ?_ ?_
    | refine KJ_flow ?_ ?_
    | exact Rech.nil
    | fail)
  refine Hold.mk ?_
  obtain ⟨za, zc⟩ := z
  dsimp only
  refine KJ.lsSome (a := za) xS (by omega) (fun gz hgz => ?_)
  subst hgz
  repeat' (first 
    | (refine is_store ?_; first | (refine KJ_storeLsF (a' := (⟨x.acc, am⟩ : Leg)) enc_leg rfl rfl xS rfl hoff hx (by omega) hset xF xO ?_; rw [← hL]) | refine KJ_store rfl rfl xS xF (by rfl) xO xL xR ?_)
    | (refine is_alloc ?_; refine KJ_alloc rfl (fun g5 => ?_))
    | (refine is_call ?_; refine KJ_call xE (cAL _ _) xP rfl (fun _ => ?_))
    | (refine ek_load ?_; refine EK_ev (Ev_loadLsF enc_leg rfl xS rfl hoff hx hamt) ?_)
    | (refine ek_conv ?_; first | refine EK_ev (Ev_convI_v rfl w3) ?_ | refine EK_ev (Ev_convI_v rfl w2) ?_ | refine EK_ev (Ev_convI_v rfl w1) ?_)
    | (refine ek_add ?_; refine EK_ev (Ev_add_w rfl rfl hsum) ?_)
    | (refine ek_rem ?_; refine EK_ev (Ev_rem_w (r := ((k : Nat) : Int)) rfl rfl (by omega) hr1) ?_)
    | refine xst ?_
    | (refine xsa ?_; intro _)
    | (refine xsb ?_ ?_ <;> intro _ <;> first | (exfalso; omega) | skip)
    | refine xsc ?_
    | (refine KJ_draws (id := 7) (.op 0 (.op 1 (.op 3 (.op 4 (.op 6 (.op 7 (.ef 2 [7, 6, 4, 3] (.ef 5 [7, 6] (.ef 8 [] (.op 9 (.op 10 (.op 11 .nil)))))))))))) (by kernel_rfl) (by kernel_rfl) ?_)
    | refine FW_alt ?_ ?_
    | refine FW_efn rfl rfl rfl rfl rfl ?_ ?_
    | refine KJ_flow ?_ ?_
    | exact Rech.nil
    | fail)
  all_goals (exact xdn ())
end
end Go.Proofs.YtdbfemdpdpaffaaDoor
/-
  PostingSame: its cases joined.
-/
namespace Go.Proofs.YtdbfemdpdpaffaaDoor
open Go Go.RowKit Go.MapKept
section
variable {W : World} {F : Nat → Addr}
theorem psamelaw_ct (hE : ErrsOn L37 W F) (a b e : Option Addr) (ca cb ce : Nat) (p1 p2 p3 : Pst) (y : Int) (f1 : PstFit p1) (f2 : PstFit p2) (f3 : PstFit p3) (L1 : Lv W legC 2 noP a p1.legs) (L2 : Lv W legC 2 noP b p2.legs) (L3 : Lv W legC 2 noP e p3.legs) :
    Ct Tryd.prog W 4 [.agg (pstC p1 a ca).toArray, .agg (pstC p2 b cb).toArray, .agg (pstC p3 e ce).toArray, .int .i64 y] [] (fun _ : Unit => .bool true) (fun _ => []) := by
  obtain ⟨id1, tick1, note1, legs1⟩ := p1
  obtain ⟨id2, tick2, note2, legs2⟩ := p2
  obtain ⟨id3, tick3, note3, legs3⟩ := p3
  cases h1 : sameP ⟨id1, tick1, note1, legs1⟩ ⟨id2, tick2, note2, legs2⟩ with
  | false => exact psameL_f hE a b e ca cb ce id1 id2 id3 note1 note2 note3 tick1 tick2 tick3 legs1 legs2 legs3 y f1 f2 f3 L1 L2 L3 h1 _ _ rfl rfl
  | true =>
    cases h2 : sameP ⟨id2, tick2, note2, legs2⟩ ⟨id3, tick3, note3, legs3⟩ with
    | true => exact psameL_tt hE a b e ca cb ce id1 id2 id3 note1 note2 note3 tick1 tick2 tick3 legs1 legs2 legs3 y f1 f2 f3 L1 L2 L3 h1 h2 (sameP_trans h1 h2)
    | false =>
      have h3 : sameP ⟨id1, tick1, note1, legs1⟩ ⟨id3, tick3, note3, legs3⟩ = false := by rw [sameP_congr h1, h2]
      exact psameL_tf hE a b e ca cb ce id1 id2 id3 note1 note2 note3 tick1 tick2 tick3 legs1 legs2 legs3 y f1 f2 f3 L1 L2 L3 h1 h2 h3
end
end Go.Proofs.YtdbfemdpdpaffaaDoor
