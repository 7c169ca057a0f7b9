/-
  TmL2, TmL3.
-/
import Derived.Test.YtmlnegmabfnaaaaBBU
/-
  Chapter 21's law: lives, filled, TimersJoin.
-/
namespace Go.Proofs.Ytmlnegmabfnaaaa
open Go Go.RowKit Go.Sort
/-- an operation: its kind, its number, its tick -/
structure TOp where
  k : Int
  n : Int
  t : Int
instance : Inhabited TOp := ⟨⟨0, 0, 0⟩⟩
def TOp.cells (o : TOp) : List Value := [.int .i64 o.k, .int .i64 o.n, .int .i64 o.t]
theorem enc_top : EncOk TOp.cells 3 where
  pos := by decide
  len := fun _ => rfl
  ones := fun x => by unfold TOp.cells; exact xO
def stepT (s : Tms) (o : TOp) : Tms := if o.k = 0 then setT s o.n o.t else if o.k = 1 then cancelT s o.n else s
def fillT (ops : List TOp) : Tms := ops.foldl stepT ([], [])
theorem fillT_next {ops : List TOp} {i : Nat} {o : TOp} (h : ops[i]? = some o) : fillT (ops.take (i + 1)) = stepT (fillT (ops.take i)) o := by
  have e : ops.take (i + 1) = ops.take i ++ [o] := by rw [List.take_add_one, h]; rfl
  unfold fillT
  rw [e, List.foldl_append]
  rfl
theorem stepT_len (s : Tms) (o : TOp) : (stepT s o).1.length ≤ s.1.length + 1 := by
  unfold stepT
  split
  · exact setT_len _ _ _
  split
  · have := cancelT_len s o.n; omega
  · omega
theorem fillT_len (ops : List TOp) : (fillT ops).1.length ≤ ops.length := by
  have key : ∀ (ops : List TOp) (s : Tms), (ops.foldl stepT s).1.length ≤ s.1.length + ops.length := by
    intro ops
    induction ops with
    | nil => intro s; exact Nat.le_refl _
    | cons o r ih => intro s; have h1 := ih (stepT s o); have h2 := stepT_len s o; rw [List.foldl_cons, List.length_cons]; omega
  have := key ops ([], [])
  unfold fillT
  simpa using this
theorem popAll_len (now : Int) : ∀ (n : Nat) (s : Tms), s.1.length = n → (popAll now s).1.length + (popAll now s).2.1.length = n := by
  intro n
  induction n with
  | zero =>
    intro s hs
    rw [popAll_stop (fun x q => by rw [List.length_eq_zero_iff.1 hs] at q; cases q)]
    simpa using hs
  | succ n ih =>
    intro s hs
    cases hx : s.1[0]? with
    | none => have := List.getElem?_eq_none_iff.1 hx; omega
    | some x =>
      by_cases c : x.1 ≤ now
      · rw [popAll_next hx c]
        have := ih (outD s.1 0, mdel s.2 x.2) (by dsimp only; rw [outD_len]; omega)
        dsimp only
        rw [List.length_cons]
        omega
      · rw [popAll_stop (fun y q => by rw [hx] at q; cases q; omega)]
        simpa using hs
section
variable {W : World}
set_option maxHeartbeats 4000000 in
theorem fill21_ct (v : Value) (ops : List TOp) (hs : LsAt W TOp.cells 3 v ops) (hb : ops.length * 24 ≤ 140737488355328) : Ct Try.prog W 5 [v] [] (fun x : Nat × Nat × Nat × Value => .pointer (some ⟨x.1, 0, none⟩)) (fun x => TmL x.1 x.2.1 x.2.2.1 x.2.2.2 (fillT ops)) := by
  obtain ⟨a, c, rfl, -⟩ := id hs
  have hT := Lv.old (W := W) enc_top hs
  have c0 := tnew_ct (W := W)
  refine Ct.enter Try.func5 rfl Try.ntmps5 (by simp) (fun R => ?_)
  repeat' (first 
    | (refine is_call ?_; refine KJ_call xE c0 xP rfl (fun x => ?_))
    | refine xst ?_
    | (refine xsa ?_; intro _)
    | (refine xsb ?_ ?_ <;> intro _ <;> first | (exfalso; omega) | skip)
    | refine xsc ?_
    | fail)
  obtain ⟨t, h, mb⟩ := x
  dsimp only
  refine KJ.noP ?_
  refine KJ_loop (fun x : {x : Nat × Value // x.1 ≤ ops.length} => [(3, .pointer (some ⟨t, 0, none⟩)), (9, .slice a ops.length c), (10, .int .i64 (ops.length : Nat)), (11, .int .i64 (x.1.1 : Nat))])
    (fun x => TmL t h mb x.1.2 (fillT (ops.take x.1.1)) ++ [noP] ++ R) (fun x => ops.length - x.1.1) ⟨(0, .slice none 0 0), Nat.zero_le _⟩ xB (by dsimp only; rw [List.take_zero]; exact (xN)) (fun ⟨(i, v), hi⟩ => ?_)
  dsimp only at hi ⊢
  by_cases hlt : i < ops.length
  rotate_left
  · have ql : decide ((i : Int) < (ops.length : Nat)) = false := decide_eq_false (by omega)
    have e : ops.take i = ops := List.take_of_length_le (by omega)
    repeat' (first 
    | (refine ek_lss ?_; refine EK_ev (Ev_lssI_q rfl rfl ql) ?_)
    | refine xst ?_
    | (refine xsa ?_; intro _)
    | (refine xsb ?_ ?_ <;> intro _ <;> first | (exfalso; omega) | skip)
    | refine xsc ?_
    | fail)
    all_goals exact xdn (t, h, mb, v) (hE := by rw [e]; exact (xN))
  have ql : decide ((i : Int) < (ops.length : Nat)) = true := decide_eq_true (by omega)
  obtain ⟨o, ho⟩ : ∃ o, ops[i]? = some o := ⟨_, List.getElem?_eq_getElem hlt⟩
  have hf := fillT_next ho
  have hl := fillT_len (ops.take i)
  rw [List.length_take] at hl
  obtain ⟨s, hs'⟩ : ∃ s, s = fillT (ops.take i) := ⟨_, rfl⟩
  obtain ⟨s2, hs2⟩ : ∃ s, s = fillT (ops.take (i + 1)) := ⟨_, rfl⟩
  rw [← hs'] at hf hl ⊢
  rw [← hs2] at hf
  refine KJ.lvSome (A := noP) hT xS (by omega) (fun b o1 ha => ?_)
  have ho1 : o1 + Int.toNat (i : Int) * 3 = o1 + i * 3 := by simp
  subst ha
  unfold stepT at hf
  by_cases h0 : o.k = 0
  · have q0 : decide (o.k = 0) = true := decide_eq_true h0
    rw [if_pos h0] at hf
    have c1 := tset_ct (W := W) (t := t) (h := h) (mb := mb) (v := v) (s := s) o.n o.t (by omega)
    rw [← hf] at c1
    repeat' (first 
    | (refine is_alloc ?_; refine KJ_alloc rfl (fun g5 => ?_))
    | (refine is_call ?_; refine KJ_call xE c1 xP rfl (fun v' => ?_))
    | (refine ek_load ?_; refine EK_ev (Ev_loadLv (A := noP) enc_top hT rfl rfl xS ho1 ho) ?_)
    | (refine ek_indexAddr ?_; refine EK_ev (Ev_indexSlice rfl rfl (by omega)) ?_)
    | (refine ek_add ?_; refine EK_ev (Ev_addI_v (r := ((i + 1 : Nat) : Int)) rfl rfl (by omega) (by omega)) ?_)
    | (refine ek_eql ?_; refine EK_ev (Ev_eqlI_q rfl rfl q0) ?_)
    | (refine ek_lss ?_; refine EK_ev (Ev_lssI_q rfl rfl ql) ?_)
    | refine xst ?_
    | (refine xsa ?_; intro _)
    | (refine xsb ?_ ?_ <;> intro _ <;> first | (exfalso; omega) | skip)
    | refine xsc ?_
    | fail)
    all_goals refine KJ_again ⟨(i + 1, v'), hlt⟩ (by dsimp only; omega) xB (by dsimp only; rw [← hs2]; exact (xN))
  have q0 : decide (o.k = 0) = false := decide_eq_false h0
  rw [if_neg h0] at hf
  by_cases h1 : o.k = 1
  · have q1 : decide (o.k = 1) = true := decide_eq_true h1
    rw [if_pos h1] at hf
    have c1 := tcancel_ct (W := W) (t := t) (h := h) (mb := mb) (v := v) (s := s) o.n (by omega)
    rw [← hf] at c1
    repeat' (first 
    | (refine is_alloc ?_; refine KJ_alloc rfl (fun g5 => ?_))
    | (refine is_call ?_; refine KJ_call xE c1 xP rfl (fun v' => ?_))
    | (refine ek_load ?_; refine EK_ev (Ev_loadLv (A := noP) enc_top hT rfl rfl xS ho1 ho) ?_)
    | (refine ek_indexAddr ?_; refine EK_ev (Ev_indexSlice rfl rfl (by omega)) ?_)
    | (refine ek_add ?_; refine EK_ev (Ev_addI_v (r := ((i + 1 : Nat) : Int)) rfl rfl (by omega) (by omega)) ?_)
    | (refine ek_eql ?_; first | refine EK_ev (Ev_eqlI_q rfl rfl q1) ?_ | refine EK_ev (Ev_eqlI_q rfl rfl q0) ?_)
    | (refine ek_lss ?_; refine EK_ev (Ev_lssI_q rfl rfl ql) ?_)
    | refine xst ?_
    | (refine xsa ?_; intro _)
    | (refine xsb ?_ ?_ <;> intro _ <;> first | (exfalso; omega) | skip)
    | refine xsc ?_
    | fail)
    all_goals refine KJ_again ⟨(i + 1, v'), hlt⟩ (by dsimp only; omega) xB (by dsimp only; rw [← hs2]; exact (xN))
  · have q1 : decide (o.k = 1) = false := decide_eq_false h1
    rw [if_neg h1] at hf
    repeat' (first 
    | (refine is_alloc ?_; refine KJ_alloc rfl (fun g5 => ?_))
    | (refine ek_load ?_; refine EK_ev (Ev_loadLv (A := noP) enc_top hT rfl rfl xS ho1 ho) ?_)
    | (refine ek_indexAddr ?_; refine EK_ev (Ev_indexSlice rfl rfl (by omega)) ?_)
    | (refine ek_add ?_; refine EK_ev (Ev_addI_v (r := ((i + 1 : Nat) : Int)) rfl rfl (by omega) (by omega)) ?_)
    | (refine ek_eql ?_; first | refine EK_ev (Ev_eqlI_q rfl rfl q1) ?_ | refine EK_ev (Ev_eqlI_q rfl rfl q0) ?_)
    | (refine ek_lss ?_; refine EK_ev (Ev_lssI_q rfl rfl ql) ?_)
    | refine xst ?_
    | (refine xsa ?_; intro _)
    | (refine xsb ?_ ?_ <;> intro _ <;> first | (exfalso; omega) | skip)
    | refine xsc ?_
    | fail)
    all_goals refine KJ_again ⟨(i + 1, v), hlt⟩ (by dsimp only; omega) xB (by dsimp only; rw [← hs2, hf]; exact (xN))
/-- chapter 21's fixed timers -/
def tf3 : Tms := setT (setT (setT ([], []) 3 10) 1 10) 2 5
set_option maxHeartbeats 8000000 in
theorem lives21_ct : Ct Try.prog W 4 [] [] (fun _ : Unit => .bool true) (fun _ => []) := by
  have c0 := tnew_ct (W := W)
  have l1 := setT_len ([], []) 3 10
  have l2 := setT_len (setT ([], []) 3 10) 1 10
  have l3 := setT_len (setT (setT ([], []) 3 10) 1 10) 2 5
  simp only [List.length_nil] at l1
  have c1 := fun t h mb v => tset_ct (W := W) (t := t) (h := h) (mb := mb) (v := v) (s := ([], [])) 3 10 (by simp)
  have c2 := fun t h mb v => tset_ct (W := W) (t := t) (h := h) (mb := mb) (v := v) (s := setT ([], []) 3 10) 1 10 (by omega)
  have c3 := fun t h mb v => tset_ct (W := W) (t := t) (h := h) (mb := mb) (v := v) (s := setT (setT ([], []) 3 10) 1 10) 2 5 (by omega)
  obtain ⟨s1, h1⟩ : ∃ s, s = setT ([], []) 3 10 := ⟨_, rfl⟩
  rw [← h1] at l1 l2 l3
  simp only [← h1] at c1 c2 c3
  obtain ⟨s2, h2⟩ : ∃ s, s = setT s1 1 10 := ⟨_, rfl⟩
  rw [← h2] at l2 l3
  simp only [← h2] at c2 c3
  obtain ⟨s3, h3⟩ : ∃ s, s = setT s2 2 5 := ⟨_, rfl⟩
  rw [← h3] at l3
  simp only [← h3] at c3
  have e3 : s3 = tf3 := by rw [h3, h2, h1]; rfl
  have hx : s3.1[0]? = some (5, 2) := by rw [e3]; decide
  have hp : popAll 9 s3 = ([(5, 2)], (popAll 9 s3).2) := by rw [e3]; decide
  have hl4 : (popAll 9 s3).2.1.length = 2 := by rw [e3]; decide
  have hk4 : (lk (popAll 9 s3).2.2 3).isSome = true := by rw [e3]; decide
  have hk5 : (lk (cancelT (popAll 9 s3).2 3).2 3).isSome = false := by rw [e3]; decide
  have c4 := fun t h mb v => tall_ct (W := W) (t := t) (h := h) (mb := mb) (v := v) (s := s3) (by omega)
  have c5 := fun t h mb v => tnext_ct (W := W) (t := t) (h := h) (mb := mb) (v := v) (s := s3) hx
  have c6 := fun t h mb v => ttake_ct (W := W) (t := t) (h := h) (mb := mb) (v := v) (s := s3) 9 (by omega)
  obtain ⟨s4, h4⟩ : ∃ s, s = (popAll 9 s3).2 := ⟨_, rfl⟩
  rw [← h4] at hp hl4 hk4 hk5
  simp only [hp] at c6
  have c7 := fun t h mb v => tlen_ct (W := W) (t := t) (h := h) (mb := mb) (v := v) (s := s4)
  rw [hl4] at c7
  have c8 := fun t h mb v => tcancel_ct (W := W) (t := t) (h := h) (mb := mb) (v := v) (s := s4) 3 (by omega)
  have l5 := cancelT_len s4 3
  obtain ⟨s5, h5⟩ : ∃ s, s = cancelT s4 3 := ⟨_, rfl⟩
  rw [← h5] at hk5 l5
  simp only [← h5, hk4] at c8
  have c9 := fun t h mb v => tcancel_ct (W := W) (t := t) (h := h) (mb := mb) (v := v) (s := s5) 3 (by omega)
  simp only [hk5] at c9
  clear hp hx h1 h2 h3 e3 h4 h5 l1 l2 l3
  have o1 : 0 + Int.toNat 0 * 2 = 0 * 2 := rfl
  have e0 : ([(5, 2)] : List Due)[0]? = some (5, 2) := rfl
  have qd : decide (((5, 2) : Due) = (5, 2)) = true := rfl
  have ql1 : decide (((([(5, 2)] : List Due).length : Nat) : Int) = 1) = true := rfl
  have ql2 : decide (((2 : Nat) : Int) = 2) = true := rfl
  refine Ct.enter Try.func4 rfl Try.ntmps4 (by simp) (fun R => ?_)
  repeat' (first 
    | (refine at_seq_region (id := 10) ?_; refine hold ?_)
    | (refine is_alloc ?_; refine KJ_alloc rfl (fun g3 => ?_))
    | (refine is_call ?_; first | (refine KJ_call (d := 23) xE (c6 _ _ _ _) xP rfl (fun z => ?_)) | (refine KJ_call (d := 19) xE (c5 _ _ _ _) xP rfl (fun _ => ?_)) | (refine KJ_call (d := 16) xE (c4 _ _ _ _) xP rfl (fun y => ?_)) | (refine KJ_call (d := 14) xE (c3 _ _ _ _) xP rfl (fun v3 => ?_)) | (refine KJ_call (d := 12) xE (c2 _ _ _ _) xP rfl (fun v2 => ?_)) | (refine KJ_call (d := 10) xE (c1 _ _ _ _) xP rfl (fun v1 => ?_)) | (refine KJ_call (d := 6) xE c0 xP rfl (fun x => ?_)))
    | refine xst ?_
    | (refine xsa ?_; intro _)
    | (refine xsb ?_ ?_ <;> intro _ <;> first | (exfalso; omega) | skip)
    | refine xsc ?_
    | (refine KJ_draws (id := 10) (.op 0 (.op 1 (.op 2 (.op 3 (.op 4 (.op 5 (.op 6 (.op 7 (.op 8 (.op 9 (.op 10 (.op 11 (.op 12 (.op 13 (.op 14 (.op 15 (.op 16 (.op 17 (.op 18 (.op 19 (.op 20 (.op 21 (.op 22 (.op 23 (.ef 24 [] (.op 25 (.op 26 (.op 27 (.op 28 (.ef 29 [] (.op 30 (.op 31 (.op 32 (.ef 33 [] (.op 34 (.op 35 (.op 36 .nil))))))))))))))))))))))))))))))))))))) (by kernel_rfl) (by kernel_rfl) ?_)
    | refine FW_alt ?_ ?_
    | refine FW_efn rfl rfl rfl rfl rfl ?_ ?_
    | refine KJ_flow ?_ ?_
    | exact Rech.nil
    | fail)
  refine Hold.mk ?_
  obtain ⟨v4, a4, c4'⟩ := z
  dsimp only
  refine KJ.lsSome (l := ([(5, 2)] : List Due)) (a := a4) xS (by decide) (fun g4 e4 => ?_)
  subst e4
  repeat' (first 
    | (refine is_call ?_; first | (refine KJ_call (d := 57) xE (c9 _ _ _ _) xP rfl (fun v6 => ?_)) | (refine KJ_call (d := 53) xE (c8 _ _ _ _) xP rfl (fun v5 => ?_)) | (refine KJ_call (d := 48) xE (c7 _ _ _ _) xP rfl (fun _ => ?_)))
    | (refine ek_load ?_; refine EK_ev (Ev_loadLs enc_due rfl xS rfl o1 e0) ?_)
    | (refine ek_indexAddr ?_; refine EK_ev (Ev_indexSlice rfl rfl (by decide)) ?_)
    | (refine ek_build ?_; refine EK_ev (Ev_build xV xW) ?_)
    | (refine ek_eql ?_; first | refine EK_ev (Ev_eqlI_q rfl rfl ql2) ?_ | refine EK_ev (Ev_eqlI_q rfl rfl ql1) ?_ | refine EK_ev (Ev_eqlSt (xs := dueC (5, 2)) (ys := dueC (5, 2)) rfl rfl (due_eqF (5, 2) (5, 2) Try.underlying37) qd) ?_)
    | (refine ek_neq ?_; refine EK_ev (Ev_neqFnT rfl rfl) ?_)
    | refine xst ?_
    | (refine xsa ?_; intro _)
    | (refine xsb ?_ ?_ <;> intro _ <;> first | (exfalso; omega) | skip)
    | refine xsc ?_
    | (refine KJ_draws (id := 10) (.op 0 (.op 1 (.op 2 (.op 3 (.op 4 (.op 5 (.op 6 (.op 7 (.op 8 (.op 9 (.op 10 (.op 11 (.op 12 (.op 13 (.op 14 (.op 15 (.op 16 (.op 17 (.op 18 (.op 19 (.op 20 (.op 21 (.op 22 (.op 23 (.ef 24 [] (.op 25 (.op 26 (.op 27 (.op 28 (.ef 29 [] (.op 30 (.op 31 (.op 32 (.ef 33 [] (.op 34 (.op 35 (.op 36 .nil))))))))))))))))))))))))))))))))))))) (by kernel_rfl) (by kernel_rfl) ?_)
    | refine FW_alt ?_ ?_
    | refine FW_efn rfl rfl rfl rfl rfl ?_ ?_
    | refine KJ_flow ?_ ?_
    | exact Rech.nil
    | fail)
  all_goals (exact xdn ())
end
end Go.Proofs.Ytmlnegmabfnaaaa
/-
  Chapter 21's law: TimersJoin.
-/
namespace Go.Proofs.Ytmlnegmabfnaaaa
open Go Go.RowKit Go.Sort
section
variable {W : World}
set_option maxHeartbeats 8000000 in
theorem join21_ct (v : Value) (ops : List TOp) (a b : Int) (hs : LsAt W TOp.cells 3 v ops) (hb : ops.length * 24 ≤ 140737488355328) : Ct Try.prog W 3 [v, .int .i64 a, .int .i64 b] [] (fun _ : Unit => .bool true) (fun _ => []) := by
  have c0 := lives21_ct (W := W)
  have c1 := fill21_ct v ops hs hb
  have hl := fillT_len ops
  obtain ⟨s, hs'⟩ : ∃ s, s = fillT ops := ⟨_, rfl⟩
  rw [← hs'] at c1 hl
  clear hs'
  have hj := popAll_join (a := min a b) (b := max a b) (by omega) _ s rfl
  have p1 := popAll_len (min a b) _ s rfl
  have p2 := popAll_len (max a b) _ (popAll (min a b) s).2 rfl
  have c2 := fun t h mb v => ttake_ct (W := W) (t := t) (h := h) (mb := mb) (v := v) (s := s) (min a b) (by omega)
  have c3 := fun t h mb v => ttake_ct (W := W) (t := t) (h := h) (mb := mb) (v := v) (s := (popAll (min a b) s).2) (max a b) (by omega)
  have c4 := fun t h mb v => ttake_ct (W := W) (t := t) (h := h) (mb := mb) (v := v) (s := s) (max a b) (by omega)
  rw [hj] at c4
  obtain ⟨⟨x1, s1⟩, h1⟩ : ∃ z, z = popAll (min a b) s := ⟨_, rfl⟩
  rw [← h1] at p1 p2
  simp only [← h1] at c2 c3 c4
  dsimp only at p1 p2
  obtain ⟨⟨x2, s2⟩, h2⟩ : ∃ z, z = popAll (max a b) s1 := ⟨_, rfl⟩
  rw [← h2] at p2
  simp only [← h2] at c3 c4
  dsimp only at p2
  clear h1 h2 hj
  have b1 : (([] : List Due).length + x1.length) * 16 ≤ 140737488355328 := by rw [List.length_nil]; omega
  have b2 : ([] : List Due).length + x1.length ≤ 9223372036854775807 := by rw [List.length_nil]; omega
  have b3 : (([] ++ x1 : List Due).length + x2.length) * 16 ≤ 140737488355328 := by rw [List.nil_append]; omega
  have b4 : ([] ++ x1 : List Due).length + x2.length ≤ 9223372036854775807 := by rw [List.nil_append]; omega
  have c5 : ∀ a1 a2 k1 k2, Ct Try.prog W 7 [.slice a1 (([] ++ x1) ++ x2 : List Due).length k1, .slice a2 (x1 ++ x2).length k2] [lsP dueC 37 2 (.slice a1 (([] ++ x1) ++ x2 : List Due).length k1) (([] ++ x1) ++ x2), lsP dueC 37 2 (.slice a2 (x1 ++ x2).length k2) (x1 ++ x2)] (fun _ : Unit => .bool true)
      (fun _ => [lsP dueC 37 2 (.slice a1 (([] ++ x1) ++ x2 : List Due).length k1) (([] ++ x1) ++ x2), lsP dueC 37 2 (.slice a2 (x1 ++ x2).length k2) (x1 ++ x2)]) := by
    intro a1 a2 k1 k2
    rw [List.nil_append]
    exact same21_eq (x1 ++ x2) a1 a2 k1 k2 (by rw [List.length_append]; omega)
  have c6 := fun t h mb v => all21_ct (W := W) (t := t) (h := h) (mb := mb) (v := v) (s := s2) (by omega)
  have c7 := fun a1 a2 k1 k2 => same21_eq (W := W) (allD s2.1) a1 a2 k1 k2 (by unfold allD; rw [List.length_take, sortD_len]; omega)
  refine Ct.enter Try.func3 rfl Try.ntmps3 (by simp) (fun R => ?_)
  repeat' (first 
    | (refine at_seq_region (id := 8) ?_; refine hold ?_)
    | (refine is_call ?_; first | (refine KJ_call (d := 32) xE (c3 t.1 t.2.1 t.2.2.1 y1.1) xP rfl (fun y2 => ?_)) | (refine KJ_call (d := 27) xE (c2 t.1 t.2.1 t.2.2.1 t.2.2.2) xP rfl (fun y1 => ?_)) | (refine KJ_call (d := 16) xE c1 xP rfl (fun u => ?_)) | (refine KJ_call (d := 14) xE c1 xP rfl (fun t => ?_)) | (refine KJ_call (d := 11) xE c0 xP rfl (fun _ => ?_)))
    | refine xst ?_
    | (refine xsa ?_; intro _)
    | (refine xsb ?_ ?_ <;> intro _ <;> first | (exfalso; omega) | skip)
    | refine xsc ?_
    | fail)
  refine Hold.mk ?_
  have hT1 := Lv.own (W := W) (e := 37) (a := y1.2.1) (c := y1.2.2) (L := x1) enc_due rfl
  have hT2 := Lv.own (W := W) (e := 37) (a := y2.2.1) (c := y2.2.2) (L := x2) enc_due rfl
  refine KJ.lvOpen hT1 xS (fun b1' o1 e1 => ?_)
  refine KJ.lvOpen hT2 xS (fun b2' o2 e2 => ?_)
  repeat' (first 
    | (refine is_append ?_; refine KJ_appAll (d := 35) (l := ([] : List Due)) (l2 := x1) enc_due rfl rfl rfl rfl xS (Src.lv hT1 e1 xS) b1 b2 rfl (fun a3 k3 => ?_); refine hold ?_)
    | (refine is_bslice ?_; refine KJ_bslice0 rfl (fun g0 => ?_))
    | refine xst ?_
    | (refine xsa ?_; intro _)
    | (refine xsb ?_ ?_ <;> intro _ <;> first | (exfalso; omega) | skip)
    | refine xsc ?_
    | fail)
  refine Hold.mk ?_
  repeat' (first 
    | (refine is_append ?_; refine KJ_appAll (d := 37) (l := ([] ++ x1 : List Due)) (l2 := x2) enc_due rfl rfl rfl rfl xS (Src.lv hT2 e2 xS) b3 b4 rfl (fun a4 k4 => ?_); refine hold ?_)
    | refine xst ?_
    | (refine xsa ?_; intro _)
    | (refine xsb ?_ ?_ <;> intro _ <;> first | (exfalso; omega) | skip)
    | refine xsc ?_
    | fail)
  refine Hold.mk ?_
  repeat' (first 
    | (refine is_call ?_; first | (refine KJ_call (d := 49) xE (c7 _ _ _ _) xP rfl (fun _ => ?_)) | (refine KJ_call (d := 48) xE (c6 u.1 u.2.1 u.2.2.1 y3.1) xP rfl (fun z2 => ?_)) | (refine KJ_call (d := 46) xE (c6 t.1 t.2.1 t.2.2.1 y2.1) xP rfl (fun z1 => ?_)) | (refine KJ_call (d := 43) xE (c5 _ _ _ _) xP rfl (fun _ => ?_)) | (refine KJ_call (d := 42) xE (c4 u.1 u.2.1 u.2.2.1 u.2.2.2) xP rfl (fun y3 => ?_)))
    | refine xst ?_
    | (refine xsa ?_; intro _)
    | (refine xsb ?_ ?_ <;> intro _ <;> first | (exfalso; omega) | skip)
    | refine xsc ?_
    | fail)
  all_goals (exact xdn ())
end
end Go.Proofs.Ytmlnegmabfnaaaa
