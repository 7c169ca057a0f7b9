/-
  TmL1.
-/
import Derived.Test.YtmlnegmabfnaaaaBBT
/-
  Chapter 21's law: same, all.
-/
namespace Go.Proofs.Ytmlnegmabfnaaaa
open Go Go.RowKit Go.Sort
/-- what the law's all tells -/
def allD (l : List Due) : List Due := (sortD aheadD l).take 1048577
section
variable {W : World} {t h mb : Nat} {v : Value} {s : Tms}
theorem same21_eq (l : List Due) (a1 a2 : Option Addr) (c1 c2 : Nat) (hl : l.length ≤ 9223372036854775806) : Ct Try.prog W 7 [.slice a1 l.length c1, .slice a2 l.length c2] [lsP dueC 37 2 (.slice a1 l.length c1) l, lsP dueC 37 2 (.slice a2 l.length c2) l] (fun _ : Unit => .bool true) (fun _ => [lsP dueC 37 2 (.slice a1 l.length c1) l, lsP dueC 37 2 (.slice a2 l.length c2) l]) := by
  refine Ct.enter Try.func7 rfl Try.ntmps7 (by simp) (fun R => ?_)
  repeat' (first 
    | (refine ek_neq ?_; refine EK_ev (Ev_neqI_f rfl rfl rfl) ?_)
    | refine xst ?_
    | (refine xsa ?_; intro _)
    | (refine xsb ?_ ?_ <;> intro _ <;> first | (exfalso; omega) | skip)
    | refine xsc ?_
    | (refine KJ_draws (id := 6) (.op 0 (.op 1 (.op 2 (.op 3 (.op 4 (.op 5 (.op 6 (.op 7 (.op 8 .nil))))))))) (by kernel_rfl) (by kernel_rfl) ?_)
    | refine FW_alt ?_ ?_
    | refine FW_efn rfl rfl rfl rfl rfl ?_ ?_
    | refine KJ_flow ?_ ?_
    | exact Rech.nil
    | fail)
  refine KJ_loop (fun i : {i : Nat // i ≤ l.length} => [(0, .slice a1 l.length c1), (1, .slice a2 l.length c2), (12, .int .i64 (l.length : Nat)), (13, .int .i64 (i.1 : Nat))])
    (fun _ => [lsP dueC 37 2 (.slice a1 l.length c1) l, lsP dueC 37 2 (.slice a2 l.length c2) l] ++ R) (fun i => l.length - i.1) ⟨0, Nat.zero_le _⟩ xB (xN) (fun ⟨i, hi⟩ => ?_)
  dsimp only
  by_cases hlt : i < l.length
  rotate_left
  · have ql : decide ((i : Int) < (l.length : Nat)) = false := decide_eq_false (by omega)
    repeat' (first 
    | (refine ek_lss ?_; refine EK_ev (Ev_lssI_q rfl rfl ql) ?_)
    | refine xst ?_
    | (refine xsa ?_; intro _)
    | (refine xsb ?_ ?_ <;> intro _ <;> first | (exfalso; omega) | skip)
    | refine xsc ?_
    | (refine KJ_draws (id := 6) (.op 0 (.op 1 (.op 2 (.op 3 (.op 4 (.op 5 (.op 6 (.op 7 (.op 8 .nil))))))))) (by kernel_rfl) (by kernel_rfl) ?_)
    | refine FW_alt ?_ ?_
    | refine FW_efn rfl rfl rfl rfl rfl ?_ ?_
    | refine KJ_flow ?_ ?_
    | exact Rech.nil
    | fail)
    all_goals (exact xdn ())
  have ql : decide ((i : Int) < (l.length : Nat)) = true := decide_eq_true (by omega)
  obtain ⟨x, hx⟩ : ∃ s, l[i]? = some s := ⟨_, List.getElem?_eq_getElem hlt⟩
  refine KJ.lsSome (l := l) (a := a1) xS (by omega) (fun g1 e1 => ?_)
  refine KJ.lsSome (l := l) (a := a2) xS (by omega) (fun g2 e2 => ?_)
  subst e1
  subst e2
  have ho : 0 + Int.toNat (i : Int) * 2 = i * 2 := by simp
  have hq : (!decide (x = x)) = false := by simp
  repeat' (first 
    | (refine ek_load ?_; first | refine EK_ev (Ev_loadLs (g := g2) enc_due rfl xS rfl ho hx) ?_ | refine EK_ev (Ev_loadLs (g := g1) enc_due rfl xS rfl ho hx) ?_)
    | (refine ek_indexAddr ?_; refine EK_ev (Ev_indexSlice rfl rfl (by omega)) ?_)
    | (refine ek_add ?_; refine EK_ev (Ev_addI_v (r := ((i + 1 : Nat) : Int)) rfl rfl (by omega) (by omega)) ?_)
    | (refine ek_neq ?_; refine EK_ev (Ev_neqSt (xs := dueC x) (ys := dueC x) rfl rfl (due_eqF x x Try.underlying37) hq) ?_)
    | (refine ek_lss ?_; refine EK_ev (Ev_lssI_q rfl rfl ql) ?_)
    | refine xst ?_
    | (refine xsa ?_; intro _)
    | (refine xsb ?_ ?_ <;> intro _ <;> first | (exfalso; omega) | skip)
    | refine xsc ?_
    | (refine KJ_draws (id := 6) (.op 0 (.op 1 (.op 2 (.op 3 (.op 4 (.op 5 (.op 6 (.op 7 (.op 8 .nil))))))))) (by kernel_rfl) (by kernel_rfl) ?_)
    | refine FW_alt ?_ ?_
    | refine FW_efn rfl rfl rfl rfl rfl ?_ ?_
    | refine KJ_flow ?_ ?_
    | exact Rech.nil
    | fail)
  all_goals refine KJ_again ⟨i + 1, hlt⟩ (by show l.length - (i + 1) < l.length - i; omega) xB (xN)
set_option maxHeartbeats 4000000 in
theorem all21_ct (hl : s.1.length * 16 ≤ 140737488355328) : Ct Try.prog W 8 [.pointer (some ⟨t, 0, none⟩)] (TmL t h mb v s) (fun x : Option Addr × Nat => .slice x.1 (allD s.1).length x.2) (fun x => lsP dueC 37 2 (.slice x.1 (allD s.1).length x.2) (allD s.1) :: TmL t h mb v s) := by
  have c1 := tall_ct (W := W) (t := t) (h := h) (mb := mb) (v := v) (s := s) hl
  have hs := sortD_len aheadD s.1
  unfold allD
  obtain ⟨L, hL⟩ : ∃ L, L = sortD aheadD s.1 := ⟨_, rfl⟩
  rw [← hL] at c1 hs ⊢
  refine Ct.enter Try.func8 rfl Try.ntmps8 (by simp) (fun R => ?_)
  repeat' (first 
    | (refine is_alloc ?_; refine KJ_alloc rfl (fun g3 => ?_))
    | (refine is_call ?_; refine KJ_call xE c1 xP rfl (fun x => ?_))
    | (refine is_bslice ?_; refine KJ_bslice0 rfl (fun g0 => ?_))
    | (refine ek_eql ?_; refine EK_ev (Ev_eqlFnT rfl rfl) ?_)
    | refine xst ?_
    | (refine xsa ?_; intro _)
    | (refine xsb ?_ ?_ <;> intro _ <;> first | (exfalso; omega) | skip)
    | refine xsc ?_
    | fail)
  obtain ⟨g, a, c⟩ := x
  dsimp only
  obtain ⟨F, hF⟩ : ∃ F : Nat → Value → List SP, F = fun i o => [cellsP g3 [o] 26, lsP dueC 37 2 o (L.take i)] := ⟨_, rfl⟩
  have hFi : ∀ i o, F i o = [cellsP g3 [o] 26, lsP dueC 37 2 o (L.take i)] := fun i o => by rw [hF]
  clear hF
  refine KJ.packs (tag := 61) (key := g3) (F := F 0) (.slice (some ⟨g0, 0, none⟩) 0 0) (by rw [hFi]; exact xP) ?_
  refine KJ.factIn (p := (0 : Nat) ≤ 1048576) (by omega) ?_
  refine KJ_rangeDue (g := g) (L := L) (a := a) (c := c) rfl rfl (by omega) rfl (by decide) (fun i => factP (i ≤ 1048576) :: packP 61 g3 (F i) :: TmL t h mb v s) (fun i => factP (i = 1048576) :: packP 61 g3 (F (i + 1)) :: TmL t h mb v s) (.exit 0) xP (fun l i y hy R' => ?_) ?_ (fun i hi => ?_)
  · have hlt := (List.getElem?_eq_some_iff.1 hy).1
    dsimp only [Env.ofPs]
    refine KJ.factT xS (fun hi => ?_)
    refine KJ.unpack_at (F := F i) xS (fun o => ?_)
    rw [hFi]
    have em : L.take i ++ [y] = L.take (i + 1) := by rw [List.take_add_one, hy]; rfl
    have hlen : (L.take i).length = i := by rw [List.length_take]; omega
    have b1 : ((L.take i).length + 1) * 16 ≤ 140737488355328 := by omega
    have b2 : (L.take i).length + 1 ≤ 9223372036854775807 := by omega
    by_cases hb : i = 1048576
    · have qg : decide ((1048576 : Int) < (((L.take i ++ [y]).length : Nat) : Int)) = true := decide_eq_true (by rw [List.length_append, hlen]; simp only [List.length_cons, List.length_nil]; omega)
      repeat' (first 
    | (refine is_begin ?_; refine KJ_begin xS ?_)
    | (refine is_alloc ?_; refine KJ_alloc rfl (fun g5 => ?_))
    | (refine is_append ?_; refine KJ_appOne (a := y) enc_due rfl rfl rfl xS xS b1 b2 rfl (fun g' c' => ?_))
    | (refine is_bslice ?_; refine KJ_bslice1 rfl xF (by rfl) (by omega) rfl (fun gb => ?_); show KJ W _ _ _ (cellsP gb (dueC y) 37 :: _))
    | (refine ek_gtr ?_; refine EK_ev (Ev_gtrI_q rfl rfl qg) ?_)
    | refine xst ?_
    | (refine xsa ?_; intro _)
    | (refine xsb ?_ ?_ <;> intro _ <;> first | (exfalso; omega) | skip)
    | refine xsc ?_
    | fail)
      rw [em]
      refine KJ.packs (tag := 61) (key := g3) (F := F (i + 1)) (.slice (some ⟨g', 0, none⟩) (L.take (i + 1)).length c') (by rw [hFi]; exact xP) ?_
      refine KJ.factIn (p := i = 1048576) hb ?_
      exact KJ_round_f xS (xN)
    · have qg : decide ((1048576 : Int) < (((L.take i ++ [y]).length : Nat) : Int)) = false := decide_eq_false (by rw [List.length_append, hlen]; simp only [List.length_cons, List.length_nil]; omega)
      repeat' (first 
    | (refine is_begin ?_; refine KJ_begin xS ?_)
    | (refine is_alloc ?_; refine KJ_alloc rfl (fun g5 => ?_))
    | (refine is_append ?_; refine KJ_appOne (a := y) enc_due rfl rfl rfl xS xS b1 b2 rfl (fun g' c' => ?_))
    | (refine is_bslice ?_; refine KJ_bslice1 rfl xF (by rfl) (by omega) rfl (fun gb => ?_); show KJ W _ _ _ (cellsP gb (dueC y) 37 :: _))
    | (refine ek_gtr ?_; refine EK_ev (Ev_gtrI_q rfl rfl qg) ?_)
    | refine xst ?_
    | (refine xsa ?_; intro _)
    | (refine xsb ?_ ?_ <;> intro _ <;> first | (exfalso; omega) | skip)
    | refine xsc ?_
    | fail)
      rw [em]
      refine KJ.packs (tag := 61) (key := g3) (F := F (i + 1)) (.slice (some ⟨g', 0, none⟩) (L.take (i + 1)).length c') (by rw [hFi]; exact xP) ?_
      refine KJ.factIn (p := i + 1 ≤ 1048576) (by omega) ?_
      exact KJ_round_t xS (xN)
  · refine KJ.factT xS (fun hi => ?_)
    have e0 : L.take 1048577 = L := List.take_of_length_le (by omega)
    refine KJ.unpack_at (F := F L.length) xS (fun o => ?_)
    rw [hFi, List.take_length, e0]
    refine KJ.lsOpen (l := L) (v := o) xS (fun a1 c1 hv _ => ?_)
    subst hv
    repeat' (first 
    | refine xst ?_
    | (refine xsa ?_; intro _)
    | (refine xsb ?_ ?_ <;> intro _ <;> first | (exfalso; omega) | skip)
    | refine xsc ?_
    | fail)
    all_goals (exact xdn (a1, c1))
  · refine KJ.factT xS (fun hi => ?_)
    refine KJ.unpack_at (F := F (i + 1)) xS (fun o => ?_)
    rw [hFi, hi]
    obtain ⟨L', hL'⟩ : ∃ L', L' = L.take (1048576 + 1) := ⟨_, rfl⟩
    rw [show L.take 1048577 = L' from hL'.symm]
    refine KJ.lsOpen (l := L') (v := o) xS (fun a1 c1 hv _ => ?_)
    subst hv
    repeat' (first 
    | refine xst ?_
    | (refine xsa ?_; intro _)
    | (refine xsb ?_ ?_ <;> intro _ <;> first | (exfalso; omega) | skip)
    | refine xsc ?_
    | fail)
    all_goals (exact xdn (a1, c1))
end
end Go.Proofs.Ytmlnegmabfnaaaa
