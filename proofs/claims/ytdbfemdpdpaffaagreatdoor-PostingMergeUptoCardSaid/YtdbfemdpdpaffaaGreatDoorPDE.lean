/-
  PoM0, PoM1.
-/
import Derived.Test.YtdbfemdpdpaffaaGreatDoorPBY
import Derived.Test.YtdbfemdpdpaffaaGreatDoorPCQ
/-
  PostingSame as plain data: a posting turned says the same; another note, id, leg or amount does not.
-/
namespace Go.Proofs.YtdbfemdpdpaffaaGreatDoor
open Go
/-- the place of a turned posting's leg -/
def turnI (n y i : Nat) : Nat := (n - 1 - i + y % n) % n
theorem turnI_lt {n y i : Nat} (h : i < n) : turnI n y i < n := Nat.mod_lt _ (by omega)
theorem turnI_inj {n y i j : Nat} (hi : i < n) (hj : j < n) (h : turnI n y i = turnI n y j) : i = j := by
  unfold turnI at h
  have hu : y % n < n := Nat.mod_lt _ (by omega)
  generalize y % n = u at h hu
  have e1 : (n - 1 - i + u) % n = if n - 1 - i + u < n then n - 1 - i + u else n - 1 - i + u - n := by
    split
    · rename_i h; exact Nat.mod_eq_of_lt h
    · rw [Nat.mod_eq_sub_mod (by omega), Nat.mod_eq_of_lt (by omega)]
  have e2 : (n - 1 - j + u) % n = if n - 1 - j + u < n then n - 1 - j + u else n - 1 - j + u - n := by
    split
    · rename_i h; exact Nat.mod_eq_of_lt h
    · rw [Nat.mod_eq_sub_mod (by omega), Nat.mod_eq_of_lt (by omega)]
  rw [e1, e2] at h
  split at h <;> split at h <;> omega
theorem nodup_map_on {f : Nat → Nat} : ∀ {l : List Nat}, l.Nodup → (∀ i ∈ l, ∀ j ∈ l, f i = f j → i = j) → (l.map f).Nodup
  | [], _, _ => by simp
  | a :: l, hn, h => by
    rw [List.map_cons, List.nodup_cons]
    rw [List.nodup_cons] at hn
    refine ⟨fun hm => ?_, nodup_map_on hn.2 fun i hi j hj => h i (List.mem_cons_of_mem _ hi) j (List.mem_cons_of_mem _ hj)⟩
    obtain ⟨b, hb, e⟩ := List.mem_map.1 hm
    have := h b (List.mem_cons_of_mem _ hb) a (List.mem_cons_self ..) e
    subst this
    exact hn.1 hb
theorem turn_perm (n y : Nat) : (List.range n).Perm ((List.range n).map (turnI n y)) := by
  refine perm_of_count _ _ (by simp) fun k => ?_
  have hn : ((List.range n).map (turnI n y)).Nodup := nodup_map_on List.nodup_range fun i hi j hj e => turnI_inj (List.mem_range.1 hi) (List.mem_range.1 hj) e
  by_cases hk : k ∈ (List.range n).map (turnI n y)
  · obtain ⟨i, hi, rfl⟩ := List.mem_map.1 hk
    have h1 := List.nodup_iff_count.1 hn (turnI n y i)
    have h2 : 0 < List.count (turnI n y i) (List.range n) := List.count_pos_iff.2 (List.mem_range.2 (turnI_lt (List.mem_range.1 hi)))
    omega
  · rw [List.count_eq_zero_of_not_mem hk]
    exact Nat.zero_le _
theorem range_getD (l : List Leg) (d : Leg) : (List.range l.length).map (fun i => l.getD i d) = l := by
  apply List.ext_getElem?
  intro i
  by_cases h : i < l.length
  · rw [List.getElem?_map, List.getElem?_range h, List.getElem?_eq_getElem h]
    simp [List.getD, List.getElem?_eq_getElem h]
  · rw [List.getElem?_eq_none (by simp; omega), List.getElem?_eq_none (by omega)]
theorem turnL_perm (l : List Leg) (y : Nat) : l.Perm (turnL l y) := by
  have h := (turn_perm l.length y).map (fun i => l.getD i ⟨[], 0⟩)
  rw [range_getD, List.map_map] at h
  exact h
theorem turnL_length (l : List Leg) (y : Nat) : (turnL l y).length = l.length := by unfold turnL; simp
theorem turnL_get (l : List Leg) (y i : Nat) (h : i < l.length) : ∃ x, l[turnI l.length y i]? = some x ∧ (turnL l y)[i]? = some x := by
  refine ⟨l[turnI l.length y i]'(turnI_lt h), List.getElem?_eq_getElem _, ?_⟩
  unfold turnL
  rw [List.getElem?_map, List.getElem?_range h]
  show some (l.getD (turnI l.length y i) ⟨[], 0⟩) = _
  simp [List.getD, List.getElem?_eq_getElem (turnI_lt (y := y) h)]
/-- turned so far -/
theorem turn_step {l : List Leg} {y i : Nat} {x : Leg} (h : i < l.length) (hx : (turnL l y)[i]? = some x) : ((turnL l y).take i ++ l.drop i).set i x = (turnL l y).take (i + 1) ++ l.drop (i + 1) := by
  have hl : ((turnL l y).take i).length = i := by rw [List.length_take, turnL_length]; omega
  rw [List.set_append_right _ _ (by omega), hl, Nat.sub_self, List.take_add_one, hx, List.append_assoc]
  congr 1
  rw [List.drop_eq_getElem_cons h, List.set_cons_zero]
  rfl
end Go.Proofs.YtdbfemdpdpaffaaGreatDoor
/-
  remitlaw16.turned.
-/
namespace Go.Proofs.YtdbfemdpdpaffaaGreatDoor
open Go Go.RowKit Go.MapKept
/-- a signed number as an unsigned word -/
def wordN (y : Int) : Nat := (y % 18446744073709551616).toNat
theorem wordN_wrap (y : Int) : IntKind.u64.wrap y = ((wordN y : Nat) : Int) := by
  unfold wordN
  simp only [IntKind.wrap, IntKind.signed, IntKind.bits]
  simp
  omega
theorem wordN_lt (y : Int) : wordN y < 18446744073709551616 := by unfold wordN; omega
section
variable {W : World} {F : Nat → Addr}
set_option maxHeartbeats 2000000 in
theorem turned_ct (A : SP) (a : Option Addr) (c : Nat) (p : Pst) (y : Int) (hL : Lv W legC 2 A a p.legs) (hl : p.legs.length ≤ 2000000) :
    Ct Tryz.prog W 26 [.agg (pstC p a c).toArray, .int .i64 y] [A] (fun x : Option Addr × Nat => .agg #[strV p.id, .int .i64 p.tick, strV p.note, .slice x.1 p.legs.length x.2]) (fun x => [A, lsP legC 55 2 (.slice x.1 p.legs.length x.2) (turnL p.legs (wordN y))]) := by
  have cc := copied_ct (W := W) A a c p hL hl
  obtain ⟨id, tick, note, legs⟩ := p
  unfold pstC at cc ⊢
  dsimp only at hL hl cc ⊢
  obtain ⟨u, hu⟩ : ∃ u, u = wordN y := ⟨_, rfl⟩
  have w1 : IntKind.u64.wrap y = ((u : Nat) : Int) := by rw [hu]; exact wordN_wrap y
  have hult : u < 18446744073709551616 := by rw [hu]; exact wordN_lt y
  rw [← hu]
  obtain ⟨T, hT⟩ : ∃ T, T = turnL legs u := ⟨_, rfl⟩
  rw [← hT]
  have hTl : T.length = legs.length := by rw [hT]; exact turnL_length legs u
  have w2 : IntKind.u64.wrap ((legs.length : Nat) : Int) = ((legs.length : Nat) : Int) := u64_wrap _ (by omega)
  refine Ct.enter Tryz.func26 rfl Tryz.ntmps26 (by simp) (fun R => ?_)
  repeat' (first 
    | (refine is_alloc ?_; refine KJ_alloc rfl (fun g5 => ?_))
    | (refine is_box ?_; refine KJ_box rfl xF rfl (fun g2 => ?_))
    | (refine is_call ?_; refine KJ_call xE cc xP rfl (fun x => ?_); refine hold ?_)
    | refine xst ?_
    | (refine xsa ?_; intro _)
    | (refine xsb ?_ ?_ <;> intro _ <;> first | (exfalso; omega) | skip)
    | refine xsc ?_
    | (refine KJ_draws (id := 6) (.op 0 (.op 1 (.op 2 (.op 3 (.op 4 (.op 5 (.op 6 (.op 7 (.op 8 (.op 9 (.op 10 (.op 11 (.op 12 (.op 13 (.op 14 (.op 15 (.op 16 (.op 17 (.op 18 (.op 19 (.op 20 (.ef 21 [] .nil)))))))))))))))))))))) (by kernel_rfl) (by kernel_rfl) ?_)
    | refine FW_alt ?_ ?_
    | refine FW_efn rfl rfl rfl rfl rfl ?_ ?_
    | refine KJ_flow ?_ ?_
    | exact Rech.nil
    | fail)
  refine Hold.mk ?_
  obtain ⟨xa, xc⟩ := x
  dsimp only
  repeat' (first 
    | (refine is_alloc ?_; refine KJ_alloc rfl (fun g6 => ?_))
    | refine xst ?_
    | (refine xsa ?_; intro _)
    | (refine xsb ?_ ?_ <;> intro _ <;> first | (exfalso; omega) | skip)
    | refine xsc ?_
    | (refine KJ_draws (id := 6) (.op 0 (.op 1 (.op 2 (.op 3 (.op 4 (.op 5 (.op 6 (.op 7 (.op 8 (.op 9 (.op 10 (.op 11 (.op 12 (.op 13 (.op 14 (.op 15 (.op 16 (.op 17 (.op 18 (.op 19 (.op 20 (.ef 21 [] .nil)))))))))))))))))))))) (by kernel_rfl) (by kernel_rfl) ?_)
    | refine FW_alt ?_ ?_
    | refine FW_efn rfl rfl rfl rfl rfl ?_ ?_
    | refine KJ_flow ?_ ?_
    | exact Rech.nil
    | fail)
  refine KJ_loop (fun x : {x : Nat × List Leg // x.1 ≤ legs.length ∧ x.2 = T.take x.1 ++ legs.drop x.1} => [(1, .int .i64 y), (2, .pointer (some ⟨g2, 0, none⟩)), (4, .pointer (some ⟨g5, 0, none⟩)), (5, .pointer (some ⟨g6, 0, none⟩)), (6, .int .i64 (legs.length : Nat)), (15, .int .i64 (legs.length : Nat)), (16, .int .i64 (x.1.1 : Nat))])
    (fun x => [lsP legC 55 2 (.slice xa legs.length xc) x.1.2, A, cellsP g2 [strV id, .int .i64 tick, strV note, .slice a legs.length c] 25, cellsP g6 [strV id, .int .i64 tick, strV note, .slice xa legs.length xc] 25, cellsP g5 [strV [], .int .i64 0, strV [], .slice none 0 0] 25] ++ R) (fun x => legs.length - x.1.1) ⟨(0, legs), by omega, by simp⟩ xB (xN) (fun ⟨(i, M), hi, hM⟩ => ?_)
  dsimp only at hi hM ⊢
  have hMl : legs.length = M.length := by rw [hM, List.length_append, List.length_take, List.length_drop]; omega
  by_cases hlt : i < legs.length
  · have ql : decide ((i : Int) < (legs.length : Nat)) = true := decide_eq_true (by omega)
    obtain ⟨x, hx, hx2⟩ := turnL_get legs u i hlt
    rw [← hT] at hx2
    have hjl : turnI legs.length u i < legs.length := turnI_lt hlt
    obtain ⟨m, hm⟩ : ∃ m, m = u % legs.length := ⟨_, rfl⟩
    have hr1 : ((u : Nat) : Int) % ((legs.length : Nat) : Int) = ((m : Nat) : Int) := by rw [hm]; rfl
    have hml : m < legs.length := by rw [hm]; exact Nat.mod_lt _ (by omega)
    obtain ⟨j, hj⟩ : ∃ j, j = turnI legs.length u i := ⟨_, rfl⟩
    have hr2 : ((legs.length - 1 - i + m : Nat) : Int) % ((legs.length : Nat) : Int) = ((j : Nat) : Int) := by rw [hj, hm]; rfl
    rw [← hj] at hx hjl
    have w3 : IntKind.i64.wrap ((m : Nat) : Int) = ((m : Nat) : Int) := i64_wrap _ (by omega)
    obtain ⟨M', hM'⟩ : ∃ M', M' = M.set i x := ⟨_, rfl⟩
    have hnx : M' = T.take (i + 1) ++ legs.drop (i + 1) := by
      rw [hM', hM, hT, turn_step hlt (by rw [← hT]; exact hx2)]
    refine KJ.lvSome hL xS (by omega) (fun b0 of hab => ?_)
    subst hab
    refine KJ.lsSome (a := xa) xS (by omega) (fun gx hgx => ?_)
    subst hgx
    have hoff : of + Int.toNat (j : Int) * 2 = of + j * 2 := by simp
    have hoff2 : 0 + Int.toNat (i : Int) * 2 = i * 2 := by simp
    have hil : i < M.length := by omega
    repeat' (first 
    | (refine is_store ?_; refine KJ_storeLs (a := x) enc_leg rfl rfl xS hMl hoff2 hil ?_; rw [← hM'])
    | (refine ek_load ?_; refine EK_ev (Ev_loadLv enc_leg hL rfl rfl xS hoff hx) ?_)
    | (refine ek_conv ?_; first | refine EK_ev (Ev_convI_v rfl w3) ?_ | refine EK_ev (Ev_convI_v rfl w2) ?_ | refine EK_ev (Ev_convI_v rfl w1) ?_)
    | (refine ek_add ?_; first | refine EK_ev (Ev_addI_v (r := ((i + 1 : Nat) : Int)) rfl rfl (by omega) (by omega)) ?_ | refine EK_ev (Ev_addI_v (r := ((legs.length - 1 - i + m : Nat) : Int)) rfl rfl (by omega) (by omega)) ?_)
    | (refine ek_sub ?_; first | refine EK_ev (Ev_subI_v (r := ((legs.length - 1 - i : Nat) : Int)) rfl rfl (by omega) (by omega)) ?_ | refine EK_ev (Ev_subI_v (r := ((legs.length - 1 : Nat) : Int)) rfl rfl (by omega) (by omega)) ?_)
    | (refine ek_rem ?_; first | refine EK_ev (Ev_rem_w rfl rfl (by omega) hr2) ?_ | refine EK_ev (Ev_rem_w rfl rfl (by omega) hr1) ?_)
    | (refine ek_lss ?_; refine EK_ev (Ev_lssI_q rfl rfl ql) ?_)
    | refine xst ?_
    | (refine xsa ?_; intro _)
    | (refine xsb ?_ ?_ <;> intro _ <;> first | (exfalso; omega) | skip)
    | refine xsc ?_
    | (refine KJ_draws (id := 6) (.op 0 (.op 1 (.op 2 (.op 3 (.op 4 (.op 5 (.op 6 (.op 7 (.op 8 (.op 9 (.op 10 (.op 11 (.op 12 (.op 13 (.op 14 (.op 15 (.op 16 (.op 17 (.op 18 (.op 19 (.op 20 (.ef 21 [] .nil)))))))))))))))))))))) (by kernel_rfl) (by kernel_rfl) ?_)
    | refine FW_alt ?_ ?_
    | refine FW_efn rfl rfl rfl rfl rfl ?_ ?_
    | refine KJ_flow ?_ ?_
    | exact Rech.nil
    | fail)
    all_goals refine KJ_again ⟨(i + 1, M'), hlt, hnx⟩ (by show legs.length - (i + 1) < legs.length - i; omega) xB (xN)
  have ql : decide ((i : Int) < (legs.length : Nat)) = false := decide_eq_false (by omega)
  have hMT : M = T := by rw [hM, List.take_of_length_le (by omega), List.drop_of_length_le (by omega), List.append_nil]
  subst hMT
  repeat' (first 
    | (refine ek_lss ?_; refine EK_ev (Ev_lssI_q rfl rfl ql) ?_)
    | refine xst ?_
    | (refine xsa ?_; intro _)
    | (refine xsb ?_ ?_ <;> intro _ <;> first | (exfalso; omega) | skip)
    | refine xsc ?_
    | (refine KJ_draws (id := 6) (.op 0 (.op 1 (.op 2 (.op 3 (.op 4 (.op 5 (.op 6 (.op 7 (.op 8 (.op 9 (.op 10 (.op 11 (.op 12 (.op 13 (.op 14 (.op 15 (.op 16 (.op 17 (.op 18 (.op 19 (.op 20 (.ef 21 [] .nil)))))))))))))))))))))) (by kernel_rfl) (by kernel_rfl) ?_)
    | refine FW_alt ?_ ?_
    | refine FW_efn rfl rfl rfl rfl rfl ?_ ?_
    | refine KJ_flow ?_ ?_
    | exact Rech.nil
    | fail)
  all_goals (refine is_ex ?_; exact KJ_done (by first | exact Or.inl rfl | exact Or.inr rfl) rfl (Rvs.agg (T := 25) rfl inferInstance inferInstance xS xC Rvs.nil) (xa, xc) (by rfl) (xN))
end
end Go.Proofs.YtdbfemdpdpaffaaGreatDoor
