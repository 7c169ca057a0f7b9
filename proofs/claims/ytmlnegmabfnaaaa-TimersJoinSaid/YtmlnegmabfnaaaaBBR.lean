/-
  TmW3, TmW4.
-/
import Derived.Test.YtmlnegmabfnaaaaBBP
/-
  The package timers: the heap's other methods. (Printed by gentm3.py.)
-/
namespace Go.Proofs.Ytmlnegmabfnaaaa
open Go Go.RowKit
instance fn_hfirst : FnIs Try.prog 65 := ⟨by kernel_rfl⟩
instance fn_hsize : FnIs Try.prog 68 := ⟨by kernel_rfl⟩
instance fn_hlist : FnIs Try.prog 66 := ⟨by kernel_rfl⟩
instance fn_hdrop : FnIs Try.prog 64 := ⟨by kernel_rfl⟩
instance fn_hput : FnIs Try.prog 67 := ⟨by kernel_rfl⟩
instance fn_htake : FnIs Try.prog 69 := ⟨by kernel_rfl⟩
instance mt_hfirst : MtIs Try.prog 50 "remit/timers.first" 65 := ⟨fun v w hv => by obtain ⟨ad, rfl⟩ := hv; rfl⟩
instance mt_hsize : MtIs Try.prog 50 "remit/timers.size" 68 := ⟨fun v w hv => by obtain ⟨ad, rfl⟩ := hv; rfl⟩
instance mt_hlist : MtIs Try.prog 50 "remit/timers.list" 66 := ⟨fun v w hv => by obtain ⟨ad, rfl⟩ := hv; rfl⟩
instance mt_hdrop : MtIs Try.prog 50 "remit/timers.drop" 64 := ⟨fun v w hv => by obtain ⟨ad, rfl⟩ := hv; rfl⟩
instance mt_hput : MtIs Try.prog 50 "remit/timers.put" 67 := ⟨fun v w hv => by obtain ⟨ad, rfl⟩ := hv; rfl⟩
instance mt_htake : MtIs Try.prog 50 "remit/timers.take" 69 := ⟨fun v w hv => by obtain ⟨ad, rfl⟩ := hv; rfl⟩
instance fn_tSet : FnIs Try.prog 10 := ⟨by kernel_rfl⟩
instance fn_tCancel : FnIs Try.prog 14 := ⟨by kernel_rfl⟩
instance fn_tLen : FnIs Try.prog 13 := ⟨by kernel_rfl⟩
instance fn_tNext : FnIs Try.prog 12 := ⟨by kernel_rfl⟩
instance fn_tTake : FnIs Try.prog 6 := ⟨by kernel_rfl⟩
instance fn_tAll : FnIs Try.prog 11 := ⟨by kernel_rfl⟩
abbrev HeV (h : Nat) (v : Value) (l : List Due) : List SP := [cellsP h [v] 52, lsP dueC 37 2 v l]
instance st_due : StIs Try.prog 37 := ⟨by kernel_rfl, by kernel_rfl⟩
theorem due_eqF (x y : Due) {fs : Array Field} (hu : Try.prog.underlying 37 = some (.struct fs)) : EqF Try.prog (dueC x) (dueC y) fs.toList (decide (x = y)) := by
  have e := Try.underlying37.symm.trans hu
  simp only [Option.some.injEq, TypeDesc.struct.injEq] at e
  subst e
  have e2 : decide (x = y) = (decide (x.1 = y.1) && (decide (x.2 = y.2) && true)) := by
    rw [Bool.eq_iff_iff]
    obtain ⟨x1, x2⟩ := x
    obtain ⟨y1, y2⟩ := y
    simp
  rw [e2]
  refine EqF.cons rfl inferInstance rfl rfl ?_ (EqF.cons rfl inferInstance rfl rfl ?_ EqF.nil)
  all_goals (unfold cellEq; simp)
section
variable {W : World} {h mb t : Nat} {v : Value} {l : List Due}
theorem hsize_ct : Ct Try.prog W 68 [.pointer (some ⟨h, 0, none⟩)] (HeV h v l) (fun _ : Unit => .int .i64 (l.length : Nat)) (fun _ => HeV h v l) := by
  refine Ct.enter Try.func68 rfl Try.ntmps68 (by simp) (fun R => ?_)
  refine KJ.lsOpen xS (fun a c hv hc => ?_)
  subst hv
  repeat' (first 
    | refine xst ?_
    | (refine xsa ?_; intro _)
    | (refine xsb ?_ ?_ <;> intro _ <;> first | (exfalso; omega) | skip)
    | refine xsc ?_
    | fail)
  all_goals (exact xdn ())
theorem hfirst_ct {x : Due} (hx : l[0]? = some x) : Ct Try.prog W 65 [.pointer (some ⟨h, 0, none⟩)] (HeV h v l) (fun _ : Unit => dueV x) (fun _ => HeV h v l) := by
  have hl : 0 < l.length := (List.getElem?_eq_some_iff.1 hx).1
  have o1 : 0 + Int.toNat 0 * 2 = 0 * 2 := rfl
  refine Ct.enter Try.func65 rfl Try.ntmps65 (by simp) (fun R => ?_)
  refine KJ.lsOpen xS (fun a c hv hc => ?_)
  subst hv
  refine KJ.lsSome xS hl (fun g hg => ?_)
  subst hg
  repeat' (first 
    | (refine is_alloc ?_; refine KJ_alloc rfl (fun g2 => ?_))
    | (refine ek_load ?_; refine EK_ev (Ev_loadLs enc_due rfl xS rfl o1 hx) ?_)
    | (refine ek_indexAddr ?_; refine EK_ev (Ev_indexSlice rfl rfl (by omega)) ?_)
    | refine xst ?_
    | (refine xsa ?_; intro _)
    | (refine xsb ?_ ?_ <;> intro _ <;> first | (exfalso; omega) | skip)
    | refine xsc ?_
    | fail)
  all_goals (refine is_ex ?_; exact KJ_done (by first | exact Or.inl rfl | exact Or.inr rfl) rfl (Rvs.agg (T := 37) rfl inferInstance inferInstance xS xC Rvs.nil) () (by rfl) (xN))
theorem hlist_ct (hl : l.length * 16 ≤ 140737488355328) : Ct Try.prog W 66 [.pointer (some ⟨h, 0, none⟩)] (HeV h v l) (fun x : Option Addr × Nat => .slice x.1 l.length x.2) (fun x => lsP dueC 37 2 (.slice x.1 l.length x.2) l :: HeV h v l) := by
  have b1 : (([] : List Due).length + l.length) * 16 ≤ 140737488355328 := by rw [List.length_nil]; omega
  have b2 : ([] : List Due).length + l.length ≤ 9223372036854775807 := by rw [List.length_nil]; omega
  refine Ct.enter Try.func66 rfl Try.ntmps66 (by simp) (fun R => ?_)
  refine KJ.lsOpen xS (fun a c hv hc => ?_)
  subst hv
  have hT := Lv.own (W := W) (e := 37) (a := a) (c := c) (L := l) enc_due rfl
  refine KJ.lvOpen hT xS (fun b o hbo => ?_)
  repeat' (first 
    | (refine is_append ?_; refine KJ_appAll (l := ([] : List Due)) (l2 := l) enc_due rfl rfl rfl rfl xS (Src.lv hT hbo xS) b1 b2 rfl (fun a1 c1 => ?_))
    | (refine is_bslice ?_; refine KJ_bslice0 rfl (fun g0 => ?_))
    | refine xst ?_
    | (refine xsa ?_; intro _)
    | (refine xsb ?_ ?_ <;> intro _ <;> first | (exfalso; omega) | skip)
    | refine xsc ?_
    | fail)
  all_goals (exact xdn (a1, c1))
theorem hdrop_ct (h0 : 0 < l.length) (hm : l.length < 2305843009213693952) : Ct Try.prog W 64 [.pointer (some ⟨h, 0, none⟩)] (HeV h v l) (fun _ : Value => .tuple #[]) (fun v' => HeV h v' (outD l 0)) := by
  refine Ct.enter Try.func64 rfl Try.ntmps64 (by simp) (fun R => ?_)
  refine KJ.lsOpen xS (fun a c hv hc => ?_)
  subst hv
  refine KJ.lsSome xS h0 (fun g hg => ?_)
  subst hg
  have cs := hout_ct (W := W) (h := h) (g := g) (c := c) (N := l.length) rfl hm hc 0 h0
  repeat' (first 
    | (refine is_call ?_; refine KJ_call xE cs xP rfl (fun _ => ?_))
    | refine xst ?_
    | (refine xsa ?_; intro _)
    | (refine xsb ?_ ?_ <;> intro _ <;> first | (exfalso; omega) | skip)
    | refine xsc ?_
    | fail)
  all_goals (exact xdn (.slice (some ⟨g, 0, none⟩) (l.length - 1) c))
set_option maxHeartbeats 4000000 in
theorem hput_ct (x : Due) (hm : (l.length + 1) * 16 ≤ 140737488355328) : Ct Try.prog W 67 [.pointer (some ⟨h, 0, none⟩), dueV x] (HeV h v l) (fun _ : Value => .tuple #[]) (fun v' => HeV h v' (putD l x)) := by
  have b2 : l.length + 1 ≤ 9223372036854775807 := by omega
  have nl : (l ++ [x]).length = l.length + 1 := by simp
  have cs := fun g c => hrise_ct (W := W) (h := h) (g := g) (c := c) (N := (l ++ [x]).length) (l := l ++ [x]) rfl (by omega) l.length l.length (by omega) (Nat.le_refl _)
  refine Ct.enter Try.func67 rfl Try.ntmps67 (by simp) (fun R => ?_)
  repeat' (first 
    | (refine is_box ?_; refine KJ_box rfl xF rfl (fun g3 => ?_))
    | (refine is_call ?_; refine KJ_call xE (cs _ _) xP rfl (fun _ => ?_))
    | (refine is_append ?_; refine KJ_appOne (a := x) enc_due rfl rfl rfl xS xS hm b2 rfl (fun g' c' => ?_))
    | (refine is_bslice ?_; refine KJ_bslice1 rfl xF (by rfl) (by omega) rfl (fun gb => ?_); show KJ W _ _ _ (cellsP gb (dueC x) 37 :: _))
    | (refine ek_sub ?_; refine EK_ev (Ev_subI_v (r := ((l.length : Nat) : Int)) rfl rfl (by omega) (by omega)) ?_)
    | refine xst ?_
    | (refine xsa ?_; intro _)
    | (refine xsb ?_ ?_ <;> intro _ <;> first | (exfalso; omega) | skip)
    | refine xsc ?_
    | (refine KJ_draws (id := 1) (.op 0 (.op 1 (.op 2 (.op 3 (.op 4 (.op 5 (.ef 6 [4, 3, 2, 1, 0] (.ef 7 [0] (.op 8 (.op 9 (.ef 10 [] .nil))))))))))) (by kernel_rfl) (by kernel_rfl) ?_)
    | refine FW_alt ?_ ?_
    | refine FW_efn rfl rfl rfl rfl rfl ?_ ?_
    | refine KJ_flow ?_ ?_
    | exact Rech.nil
    | fail)
  all_goals (exact xdn (.slice (some ⟨g', 0, none⟩) (l ++ [x]).length c'))
theorem takeD_at {l : List Due} {x : Due} {i : Nat} (h1 : l[i]? = some x) (h2 : ∀ j, j < i → l[j]? ≠ some x) : takeD l x = outD l i := by
  have hi : i < l.length := (List.getElem?_eq_some_iff.1 h1).1
  have : l.findIdx? (fun y => decide (x = y)) = some i := by
    rw [List.findIdx?_eq_some_iff_getElem]
    have e1 : l[i] = x := (List.getElem?_eq_some_iff.1 h1).2
    refine ⟨hi, by rw [e1]; simp, fun j hj => ?_⟩
    have := h2 j hj
    rw [List.getElem?_eq_getElem (by omega)] at this
    simp only [decide_eq_true_eq]
    intro q
    exact this (by rw [q])
  unfold takeD
  rw [this]
theorem takeD_none {l : List Due} {x : Due} (h2 : ∀ j, j < l.length → l[j]? ≠ some x) : takeD l x = l := by
  have : l.findIdx? (fun y => decide (x = y)) = none := by
    rw [List.findIdx?_eq_none_iff]
    intro y hy
    obtain ⟨j, hj, rfl⟩ := List.mem_iff_getElem.1 hy
    have := h2 j hj
    rw [List.getElem?_eq_getElem hj] at this
    simp only [decide_eq_false_iff_not]
    intro q
    exact this (by rw [q])
  unfold takeD
  rw [this]
set_option maxHeartbeats 4000000 in
theorem htake_ct (x : Due) (hm : l.length < 2305843009213693952) : Ct Try.prog W 69 [.pointer (some ⟨h, 0, none⟩), dueV x] (HeV h v l) (fun _ : Value => .tuple #[]) (fun v' => HeV h v' (takeD l x)) := by
  refine Ct.enter Try.func69 rfl Try.ntmps69 (by simp) (fun R => ?_)
  refine KJ.lsOpen xS (fun a c hv hc => ?_)
  subst hv
  repeat' (first 
    | (refine is_box ?_; refine KJ_box rfl xF rfl (fun g3 => ?_))
    | refine xst ?_
    | (refine xsa ?_; intro _)
    | (refine xsb ?_ ?_ <;> intro _ <;> first | (exfalso; omega) | skip)
    | refine xsc ?_
    | fail)
  refine KJ_loop (fun i : {i : Nat // i ≤ l.length ∧ ∀ j, j < i → l[j]? ≠ some x} => [(0, .pointer (some ⟨h, 0, none⟩)), (3, .pointer (some ⟨g3, 0, none⟩)), (9, .slice a l.length c), (10, .int .i64 (l.length : Nat)), (11, .int .i64 (i.1 : Nat))])
    (fun _ => HeV h (.slice a l.length c) l ++ [cellsP g3 (dueC x) 37] ++ R) (fun i => l.length - i.1) ⟨0, Nat.zero_le _, fun j hj => by omega⟩ xB (xN) (fun ⟨i, hi, ht⟩ => ?_)
  dsimp only
  by_cases hlt : i < l.length
  rotate_left
  · have ql : decide ((i : Int) < (l.length : Nat)) = false := decide_eq_false (by omega)
    have e := takeD_none (l := l) (x := x) (fun j hj => ht j (by omega))
    repeat' (first 
    | (refine ek_lss ?_; refine EK_ev (Ev_lssI_q rfl rfl ql) ?_)
    | refine xst ?_
    | (refine xsa ?_; intro _)
    | (refine xsb ?_ ?_ <;> intro _ <;> first | (exfalso; omega) | skip)
    | refine xsc ?_
    | fail)
    all_goals exact xdn (.slice a l.length c) (hE := by rw [e]; exact (xN))
  have ql : decide ((i : Int) < (l.length : Nat)) = true := decide_eq_true (by omega)
  obtain ⟨y, hy⟩ : ∃ s, l[i]? = some s := ⟨_, List.getElem?_eq_getElem hlt⟩
  refine KJ.lsSome (l := l) xS (by omega) (fun g e1 => ?_)
  subst e1
  have ho : 0 + Int.toNat (i : Int) * 2 = i * 2 := by simp
  by_cases hxy : x = y
  · have hq : decide (x = y) = true := decide_eq_true hxy
    have e := takeD_at (l := l) (x := x) (i := i) (by rw [hy, hxy]) ht
    have cs := hout_ct (W := W) (h := h) (g := g) (c := c) (N := l.length) rfl hm hc i hlt
    rw [← e] at cs
    repeat' (first 
    | (refine is_alloc ?_; refine KJ_alloc rfl (fun g5 => ?_))
    | (refine is_call ?_; refine KJ_call xE cs xP rfl (fun _ => ?_))
    | (refine ek_load ?_; refine EK_ev (Ev_loadLs enc_due rfl xS rfl ho hy) ?_)
    | (refine ek_indexAddr ?_; refine EK_ev (Ev_indexSlice rfl rfl (by omega)) ?_)
    | (refine ek_eql ?_; refine EK_ev (Ev_eqlSt (xs := dueC x) (ys := dueC y) rfl rfl (due_eqF x y Try.underlying37) hq) ?_)
    | (refine ek_lss ?_; refine EK_ev (Ev_lssI_q rfl rfl ql) ?_)
    | refine xst ?_
    | (refine xsa ?_; intro _)
    | (refine xsb ?_ ?_ <;> intro _ <;> first | (exfalso; omega) | skip)
    | refine xsc ?_
    | fail)
    all_goals (exact xdn (.slice (some ⟨g, 0, none⟩) (l.length - 1) c))
  · have hq : decide (x = y) = false := decide_eq_false hxy
    have hnext : ∀ j, j < i + 1 → l[j]? ≠ some x := by
      intro j hj
      by_cases q : j = i
      · rw [q, hy]; intro q2; exact hxy (Option.some.inj q2).symm
      · exact ht j (by omega)
    repeat' (first 
    | (refine is_alloc ?_; refine KJ_alloc rfl (fun g5 => ?_))
    | (refine ek_load ?_; refine EK_ev (Ev_loadLs enc_due rfl xS rfl ho hy) ?_)
    | (refine ek_indexAddr ?_; refine EK_ev (Ev_indexSlice rfl rfl (by omega)) ?_)
    | (refine ek_add ?_; refine EK_ev (Ev_addI_v (r := ((i + 1 : Nat) : Int)) rfl rfl (by omega) (by omega)) ?_)
    | (refine ek_eql ?_; refine EK_ev (Ev_eqlSt (xs := dueC x) (ys := dueC y) rfl rfl (due_eqF x y Try.underlying37) hq) ?_)
    | (refine ek_lss ?_; refine EK_ev (Ev_lssI_q rfl rfl ql) ?_)
    | refine xst ?_
    | (refine xsa ?_; intro _)
    | (refine xsb ?_ ?_ <;> intro _ <;> first | (exfalso; omega) | skip)
    | refine xsc ?_
    | fail)
    all_goals refine KJ_again ⟨i + 1, hlt, hnext⟩ (by dsimp only; omega) xB (xN)
end
end Go.Proofs.Ytmlnegmabfnaaaa
/-
  The package timers: New, Cancel, Set, Len, Next, Take. (Printed by gentm4.py.)
-/
namespace Go.Proofs.Ytmlnegmabfnaaaa
open Go Go.RowKit
abbrev inV (i : Int) : Value := .int .i64 i
theorem ky_in : KyOk Try.prog 3 inV := ky_int Try.underlying3
instance zv_in : ZvIs Try.prog 3 (inV 0) := ⟨by kernel_rfl⟩
/-- timers -/
abbrev TmL (t h mb : Nat) (v : Value) (s : Tms) : List SP := [cellsP t [.iface 50 (.pointer (some ⟨h, 0, none⟩)), .map (some mb)] 48, cellsP h [v] 52, lsP dueC 37 2 v s.1, mapP inV inV mb s.2]
section
variable {W : World} {t h mb : Nat} {v : Value} {s : Tms}
theorem tnew_ct : Ct Try.prog W 9 [] [] (fun x : Nat × Nat × Nat => .pointer (some ⟨x.1, 0, none⟩)) (fun x => TmL x.1 x.2.1 x.2.2 (.slice none 0 0) ([], [])) := by
  refine Ct.enter Try.func9 rfl Try.ntmps9 (by simp) (fun R => ?_)
  refine KJ.nilrow 37 2 ?_
  repeat' (first 
    | (refine is_box ?_; first | (refine KJ_box (d := 6) rfl xF rfl (fun t => ?_)) | (refine KJ_box (d := 2) rfl xF rfl (fun h => ?_)))
    | (refine is_mkMap ?_; refine KJ_makeMap (t := 46) inV inV rfl (fun mb => ?_))
    | (refine ek_build ?_; refine EK_ev (Ev_build xV xW) ?_)
    | refine xst ?_
    | (refine xsa ?_; intro _)
    | (refine xsb ?_ ?_ <;> intro _ <;> first | (exfalso; omega) | skip)
    | refine xsc ?_
    | fail)
  all_goals (exact xdn (t, h, mb))
set_option maxHeartbeats 4000000 in
theorem tcancel_ct (n : Int) (hm : s.1.length < 2305843009213693952) : Ct Try.prog W 14 [.pointer (some ⟨t, 0, none⟩), inV n] (TmL t h mb v s) (fun _ : Value => .bool (lk s.2 n).isSome) (fun v' => TmL t h mb v' (cancelT s n)) := by
  obtain ⟨l, tb⟩ := s
  dsimp only at hm ⊢
  unfold cancelT
  dsimp only
  cases hl : lk tb n with
  | some k =>
    have cs := htake_ct (W := W) (h := h) (v := v) (l := l) (k, n) hm
    have e1 : (lk tb n).elim (inV 0) inV = inV k := by rw [hl]; rfl
    have e2 : (lk tb n).isSome = true := by rw [hl]; rfl
    dsimp only
    refine Ct.enter Try.func14 rfl Try.ntmps14 (by simp) (fun R => ?_)
    repeat' (first 
    | (refine is_delete ?_; refine KJ_mapDelete ky_in rfl rfl xS rfl ?_)
    | (refine is_callM ?_; refine KJ_callM (t := 50) rfl xE cs xP rfl (fun v' => ?_))
    | (refine ek_lookup ?_; refine EK_ev (Ev_lookupOk ky_in rfl rfl xS e1 e2) ?_)
    | (refine ek_build ?_; refine EK_ev (Ev_build xV xW) ?_)
    | refine xst ?_
    | (refine xsa ?_; intro _)
    | (refine xsb ?_ ?_ <;> intro _ <;> first | (exfalso; omega) | skip)
    | refine xsc ?_
    | fail)
    all_goals (exact xdn v')
  | none =>
    have e1 : (lk tb n).elim (inV 0) inV = inV 0 := by rw [hl]; rfl
    have e2 : (lk tb n).isSome = false := by rw [hl]; rfl
    dsimp only
    refine Ct.enter Try.func14 rfl Try.ntmps14 (by simp) (fun R => ?_)
    repeat' (first 
    | (refine ek_lookup ?_; refine EK_ev (Ev_lookupOk ky_in rfl rfl xS e1 e2) ?_)
    | refine xst ?_
    | (refine xsa ?_; intro _)
    | (refine xsb ?_ ?_ <;> intro _ <;> first | (exfalso; omega) | skip)
    | refine xsc ?_
    | fail)
    all_goals (exact xdn v)
theorem takeD_len (l : List Due) (x : Due) : (takeD l x).length ≤ l.length := by
  unfold takeD
  split
  · rw [outD_len]; omega
  · exact Nat.le_refl _
theorem cancelT_len (s : Tms) (n : Int) : (cancelT s n).1.length ≤ s.1.length := by
  unfold cancelT
  split
  · exact takeD_len _ _
  · exact Nat.le_refl _
theorem putD_len (l : List Due) (x : Due) : (putD l x).length = l.length + 1 := by unfold putD; rw [riseD_len]; simp
theorem setT_len (s : Tms) (n k : Int) : (setT s n k).1.length ≤ s.1.length + 1 := by
  have := cancelT_len s n
  unfold setT
  dsimp only
  rw [putD_len]
  omega
set_option maxHeartbeats 4000000 in
theorem tset_ct (n k : Int) (hm : (s.1.length + 1) * 16 ≤ 140737488355328) : Ct Try.prog W 10 [.pointer (some ⟨t, 0, none⟩), inV n, inV k] (TmL t h mb v s) (fun _ : Value => .tuple #[]) (fun v' => TmL t h mb v' (setT s n k)) := by
  have c1 := tcancel_ct (W := W) (t := t) (h := h) (mb := mb) (v := v) (s := s) n (by omega)
  have hl := cancelT_len s n
  unfold setT
  dsimp only
  obtain ⟨⟨l, tb⟩, hs⟩ : ∃ x, x = cancelT s n := ⟨_, rfl⟩
  rw [← hs] at c1 hl ⊢
  dsimp only at hl ⊢
  have c2 := fun v => hput_ct (W := W) (h := h) (v := v) (l := l) (k, n) (by omega)
  refine Ct.enter Try.func10 rfl Try.ntmps10 (by simp) (fun R => ?_)
  repeat' (first 
    | (refine is_call ?_; refine KJ_call xE c1 xP rfl (fun v1 => ?_))
    | (refine is_mapUpdate ?_; refine KJ_mapUpdate ky_in rfl rfl rfl xS ?_)
    | (refine is_callM ?_; refine KJ_callM (t := 50) rfl xE (c2 _) xP rfl (fun v2 => ?_))
    | (refine ek_build ?_; refine EK_ev (Ev_build xV xW) ?_)
    | refine xst ?_
    | (refine xsa ?_; intro _)
    | (refine xsb ?_ ?_ <;> intro _ <;> first | (exfalso; omega) | skip)
    | refine xsc ?_
    | fail)
  all_goals (exact xdn v2)
theorem tlen_ct : Ct Try.prog W 13 [.pointer (some ⟨t, 0, none⟩)] (TmL t h mb v s) (fun _ : Unit => .int .i64 (s.1.length : Nat)) (fun _ => TmL t h mb v s) := by
  have c1 := hsize_ct (W := W) (h := h) (v := v) (l := s.1)
  refine Ct.enter Try.func13 rfl Try.ntmps13 (by simp) (fun R => ?_)
  repeat' (first 
    | (refine is_callM ?_; refine KJ_callM (t := 50) rfl xE c1 xP rfl (fun _ => ?_))
    | refine xst ?_
    | (refine xsa ?_; intro _)
    | (refine xsb ?_ ?_ <;> intro _ <;> first | (exfalso; omega) | skip)
    | refine xsc ?_
    | fail)
  all_goals (exact xdn ())
theorem tnext_ct {x : Due} (hx : s.1[0]? = some x) : Ct Try.prog W 12 [.pointer (some ⟨t, 0, none⟩)] (TmL t h mb v s) (fun _ : Unit => .tuple #[dueV x, .bool true]) (fun _ => TmL t h mb v s) := by
  have hl : 0 < s.1.length := (List.getElem?_eq_some_iff.1 hx).1
  have c1 := hsize_ct (W := W) (h := h) (v := v) (l := s.1)
  have c2 := hfirst_ct (W := W) (h := h) (v := v) (l := s.1) hx
  have q1 : decide (((s.1.length : Nat) : Int) = 0) = false := decide_eq_false (by omega)
  refine Ct.enter Try.func12 rfl Try.ntmps12 (by simp) (fun R => ?_)
  repeat' (first 
    | (refine is_alloc ?_; refine KJ_alloc rfl (fun g2 => ?_))
    | (refine is_callM ?_; first | (refine KJ_callM (d := 15) (t := 50) rfl xE c2 xP rfl (fun _ => ?_)) | (refine KJ_callM (d := 8) (t := 50) rfl xE c1 xP rfl (fun _ => ?_)))
    | (refine ek_eql ?_; refine EK_ev (Ev_eqlI_q rfl rfl q1) ?_)
    | refine xst ?_
    | (refine xsa ?_; intro _)
    | (refine xsb ?_ ?_ <;> intro _ <;> first | (exfalso; omega) | skip)
    | refine xsc ?_
    | fail)
  all_goals (refine is_ex ?_; exact KJ_done (by first | exact Or.inl rfl | exact Or.inr rfl) rfl (Rvs.agg (T := 37) rfl inferInstance inferInstance xS xC (Rvs.tmp rfl Rvs.nil)) () (by rfl) (xN))
/-- what a Take has done by now -/
structure PopS where
  out : List Due
  s : Tms
  v : Value
  o : Value
set_option maxHeartbeats 8000000 in
theorem ttake_ct (now : Int) (hm : s.1.length * 16 ≤ 140737488355328) : Ct Try.prog W 6 [.pointer (some ⟨t, 0, none⟩), inV now] (TmL t h mb v s) (fun x : Value × Option Addr × Nat => .slice x.2.1 (popAll now s).1.length x.2.2) (fun x => lsP dueC 37 2 (.slice x.2.1 (popAll now s).1.length x.2.2) (popAll now s).1 :: TmL t h mb x.1 (popAll now s).2) := by
  obtain ⟨z, hz⟩ : ∃ z, z = popAll now s := ⟨_, rfl⟩
  rw [← hz]
  refine Ct.enter Try.func6 rfl Try.ntmps6 (by simp) (fun R => ?_)
  refine KJ.nilrow 37 2 ?_
  repeat' (first 
    | refine xst ?_
    | (refine xsa ?_; intro _)
    | (refine xsb ?_ ?_ <;> intro _ <;> first | (exfalso; omega) | skip)
    | refine xsc ?_
    | (refine KJ_draws (id := 5) (.op 0 (.op 1 (.op 2 (.op 3 (.op 4 (.op 5 (.ef 6 [] .nil))))))) (by kernel_rfl) (by kernel_rfl) ?_)
    | refine FW_alt ?_ ?_
    | refine FW_efn rfl rfl rfl rfl rfl ?_ ?_
    | refine KJ_flow ?_ ?_
    | exact Rech.nil
    | fail)
  refine KJ_loop (fun x : {x : PopS // x.out.length + x.s.1.length = s.1.length ∧ (x.out ++ (popAll now x.s).1, (popAll now x.s).2) = z} => [(0, .pointer (some ⟨t, 0, none⟩)), (1, inV now), (5, x.1.o)])
    (fun x => lsP dueC 37 2 x.1.o x.1.out :: TmL t h mb x.1.v x.1.s ++ R) (fun x => x.1.s.1.length) ⟨⟨[], s, v, .slice none 0 0⟩, by simp, by rw [List.nil_append]; exact hz.symm⟩ xB (xN) (fun ⟨⟨out, s1, v1, o1⟩, g1, g2⟩ => ?_)
  dsimp only at g1 g2 ⊢
  have c1 := hsize_ct (W := W) (h := h) (v := v1) (l := s1.1)
  cases hx : s1.1[0]? with
  | none =>
    have hl : s1.1.length = 0 := by have := List.getElem?_eq_none_iff.1 hx; omega
    have q1 : decide ((0 : Int) < ((s1.1.length : Nat) : Int)) = false := decide_eq_false (by omega)
    rw [popAll_stop (fun x q => by rw [hx] at q; cases q), List.append_nil] at g2
    refine KJ.lsOpen (l := out) (v := o1) xS (fun a c hv hc => ?_)
    repeat' (first 
    | (refine is_callM ?_; refine KJ_callM (d := 11) (t := 50) rfl xE c1 xP rfl (fun _ => ?_))
    | (refine ek_gtr ?_; refine EK_ev (Ev_gtrI_q rfl rfl q1) ?_)
    | refine xst ?_
    | (refine xsa ?_; intro _)
    | (refine xsb ?_ ?_ <;> intro _ <;> first | (exfalso; omega) | skip)
    | refine xsc ?_
    | (refine KJ_draws (id := 5) (.op 0 (.op 1 (.op 2 (.op 3 (.op 4 (.op 5 (.ef 6 [] .nil))))))) (by kernel_rfl) (by kernel_rfl) ?_)
    | refine FW_alt ?_ ?_
    | refine FW_efn rfl rfl rfl rfl rfl ?_ ?_
    | refine KJ_flow ?_ ?_
    | exact Rech.nil
    | fail)
    all_goals exact xdn (v1, a, c) (hc := by rw [← g2]; exact hv) (hE := by rw [← g2, ← hv]; exact (xN))
  | some x =>
    have hl : 0 < s1.1.length := (List.getElem?_eq_some_iff.1 hx).1
    have q1 : decide ((0 : Int) < ((s1.1.length : Nat) : Int)) = true := decide_eq_true (by omega)
    have c2 := hfirst_ct (W := W) (h := h) (v := v1) (l := s1.1) hx
    by_cases hle : x.1 ≤ now
    · have q2 : decide (x.1 ≤ now) = true := decide_eq_true hle
      rw [popAll_next hx hle] at g2
      have c3 := hdrop_ct (W := W) (h := h) (v := v1) (l := s1.1) hl (by omega)
      have b1 : (out.length + 1) * 16 ≤ 140737488355328 := by omega
      have b2 : out.length + 1 ≤ 9223372036854775807 := by omega
      repeat' (first 
    | (refine is_alloc ?_; refine KJ_alloc rfl (fun g6 => ?_))
    | (refine is_append ?_; refine KJ_appOne (a := x) enc_due rfl rfl rfl xS xS b1 b2 rfl (fun g' c' => ?_))
    | (refine is_bslice ?_; refine KJ_bslice1 rfl xF (by rfl) (by omega) rfl (fun gb => ?_); show KJ W _ _ _ (cellsP gb (dueC x) 37 :: _))
    | (refine is_delete ?_; refine KJ_mapDelete ky_in rfl rfl xS rfl ?_)
    | (refine is_callM ?_; first | (refine KJ_callM (d := 32) (t := 50) rfl xE c3 xP rfl (fun v2 => ?_)) | (refine KJ_callM (d := 27) (t := 50) rfl xE c2 xP rfl (fun _ => ?_)) | (refine KJ_callM (d := 18) (t := 50) rfl xE c2 xP rfl (fun _ => ?_)) | (refine KJ_callM (d := 11) (t := 50) rfl xE c1 xP rfl (fun _ => ?_)))
    | (refine ek_leq ?_; refine EK_ev (Ev_leqI_q rfl rfl q2) ?_)
    | (refine ek_gtr ?_; refine EK_ev (Ev_gtrI_q rfl rfl q1) ?_)
    | refine xst ?_
    | (refine xsa ?_; intro _)
    | (refine xsb ?_ ?_ <;> intro _ <;> first | (exfalso; omega) | skip)
    | refine xsc ?_
    | (refine KJ_draws (id := 5) (.op 0 (.op 1 (.op 2 (.op 3 (.op 4 (.op 5 (.ef 6 [] .nil))))))) (by kernel_rfl) (by kernel_rfl) ?_)
    | refine FW_alt ?_ ?_
    | refine FW_efn rfl rfl rfl rfl rfl ?_ ?_
    | refine KJ_flow ?_ ?_
    | exact Rech.nil
    | fail)
      all_goals refine KJ_again ⟨⟨out ++ [x], (outD s1.1 0, mdel s1.2 x.2), v2, .slice (some ⟨g', 0, none⟩) (out ++ [x]).length c'⟩, by dsimp only; rw [outD_len, List.length_append]; simp only [List.length_cons, List.length_nil]; omega, by dsimp only; rw [List.append_assoc]; exact g2⟩ (by dsimp only; rw [outD_len]; omega) xB (xN)
    · have q2 : decide (x.1 ≤ now) = false := decide_eq_false hle
      rw [popAll_stop (fun y q => by rw [hx] at q; cases q; omega), List.append_nil] at g2
      refine KJ.lsOpen (l := out) (v := o1) xS (fun a c hv hc => ?_)
      repeat' (first 
    | (refine is_callM ?_; first | (refine KJ_callM (d := 18) (t := 50) rfl xE c2 xP rfl (fun _ => ?_)) | (refine KJ_callM (d := 11) (t := 50) rfl xE c1 xP rfl (fun _ => ?_)))
    | (refine ek_leq ?_; refine EK_ev (Ev_leqI_q rfl rfl q2) ?_)
    | (refine ek_gtr ?_; refine EK_ev (Ev_gtrI_q rfl rfl q1) ?_)
    | refine xst ?_
    | (refine xsa ?_; intro _)
    | (refine xsb ?_ ?_ <;> intro _ <;> first | (exfalso; omega) | skip)
    | refine xsc ?_
    | (refine KJ_draws (id := 5) (.op 0 (.op 1 (.op 2 (.op 3 (.op 4 (.op 5 (.ef 6 [] .nil))))))) (by kernel_rfl) (by kernel_rfl) ?_)
    | refine FW_alt ?_ ?_
    | refine FW_efn rfl rfl rfl rfl rfl ?_ ?_
    | refine KJ_flow ?_ ?_
    | exact Rech.nil
    | fail)
      all_goals exact xdn (v1, a, c) (hc := by rw [← g2]; exact hv) (hE := by rw [← g2, ← hv]; exact (xN))
end
end Go.Proofs.Ytmlnegmabfnaaaa
