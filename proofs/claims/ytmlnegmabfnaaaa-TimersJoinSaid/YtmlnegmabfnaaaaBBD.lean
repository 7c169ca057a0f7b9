/-
  SoD.
-/
import Derived.Test.YtmlnegmabfnaaaaBBC
/-
  sort.Slice's own functions, by contract: partialInsertionSort_func, partitionEqual_func, partition_func.
-/
namespace Go.Proofs.Ytmlnegmabfnaaaa
open Go Go.RowKit Go.Sort
section
variable {W : World} {α : Type} [Inhabited α] {g sf : FuncId} {lb sb : List Value} {lt : α → α → Bool} {n : Nat} {D : Array α → SP} [FnIs Try.prog g]
theorem scanSorted_go {b i : Nat} {d : Array α} (h : i < b) (hl : lt d[i]! d[i - 1]! = false) : scanSorted lt d b i = scanSorted lt d b (i + 1) := by
  conv => lhs; rw [scanSorted]
  rw [if_pos (by simp [h, hl])]
theorem scanSorted_stop {b i : Nat} {d : Array α} (h : ¬ (i < b ∧ lt d[i]! d[i - 1]! = false)) : scanSorted lt d b i = i := by
  rw [scanSorted, if_neg]
  simp only [Bool.and_eq_true, decide_eq_true_eq, Bool.not_eq_true']
  exact h
theorem scanUp_go {p : α → Bool} {j i : Nat} {d : Array α} (h : i ≤ j) (hl : p d[i]! = true) : scanUp p d j i = scanUp p d j (i + 1) := by
  conv => lhs; rw [scanUp]
  rw [if_pos (by simp [h, hl])]
theorem scanUp_stop {p : α → Bool} {j i : Nat} {d : Array α} (h : ¬ (i ≤ j ∧ p d[i]! = true)) : scanUp p d j i = i := by
  rw [scanUp, if_neg]
  simp only [Bool.and_eq_true, decide_eq_true_eq]
  exact h
theorem scanDown_go {p : α → Bool} {j i : Nat} {d : Array α} (h0 : 1 ≤ j) (h : i ≤ j) (hl : p d[j]! = true) : scanDown p d i j = scanDown p d i (j - 1) := by
  cases j with
  | zero => omega
  | succ j => conv => lhs; unfold scanDown
              rw [if_pos (by simp [h, hl])]; rfl
theorem scanDown_stop {p : α → Bool} {j i : Nat} {d : Array α} (h : ¬ (i ≤ j ∧ p d[j]! = true)) : scanDown p d i j = j := by
  cases j with
  | zero => rfl
  | succ j => unfold scanDown
              rw [if_neg]
              simp only [Bool.and_eq_true, decide_eq_true_eq]
              exact h
theorem shiftDown_go {j : Nat} {d : Array α} (h0 : 1 ≤ j) (hl : lt d[j]! d[j - 1]! = true) : shiftDown lt j d = shiftDown lt (j - 1) (swp d j (j - 1)) := by
  cases j with
  | zero => omega
  | succ j => conv => lhs; unfold shiftDown
              rw [if_neg (by rw [show (j + 1 : Nat) - 1 = j from rfl] at hl; simp [hl])]; rfl
theorem shiftDown_stop {j : Nat} {d : Array α} (h : 1 ≤ j → lt d[j]! d[j - 1]! = false) : shiftDown lt j d = d := by
  cases j with
  | zero => rfl
  | succ j => unfold shiftDown
              rw [if_pos (by have := h (by omega); rw [show (j + 1 : Nat) - 1 = j from rfl] at this; simp [this])]
theorem shiftUp_go {b j : Nat} {d : Array α} (h0 : j < b) (hl : lt d[j]! d[j - 1]! = true) : shiftUp lt b j d = shiftUp lt b (j + 1) (swp d j (j - 1)) := by
  conv => lhs; rw [shiftUp]
  rw [if_pos h0, if_neg (by simp [hl])]
theorem shiftUp_stop {b j : Nat} {d : Array α} (h : j < b → lt d[j]! d[j - 1]! = false) : shiftUp lt b j d = d := by
  rw [shiftUp]
  split
  · rename_i hj
    rw [if_pos (by simp [h hj])]
  · rfl
theorem fixDown_size (a i : Nat) (d : Array α) : (fixDown lt a i d).size = d.size := by
  have : ∀ (j : Nat) (d : Array α), (shiftDown lt j d).size = d.size := by
    intro j
    induction j with
    | zero => intro d; rfl
    | succ j ih => intro d; unfold shiftDown; split
                   · rfl
                   · rw [ih, size_swp]
  unfold fixDown; split
  · exact this _ _
  · rfl
theorem shiftUp_size (b : Nat) : ∀ (m j : Nat) (d : Array α), b - j ≤ m → (shiftUp lt b j d).size = d.size := by
  intro m
  induction m with
  | zero => intro j d h; rw [shiftUp_stop (fun q => by omega)]
  | succ m ih =>
    intro j d h
    by_cases hj : j < b
    · cases hl : lt d[j]! d[j - 1]! with
      | true => rw [shiftUp_go hj hl, ih _ _ (by omega), size_swp]
      | false => rw [shiftUp_stop (fun _ => hl)]
    · rw [shiftUp_stop (fun q => absurd q hj)]
theorem fixUp_size (b i : Nat) (d : Array α) : (fixUp lt b i d).size = d.size := by
  unfold fixUp; split
  · exact shiftUp_size _ _ _ _ (Nat.le_refl _)
  · rfl
theorem scanSorted_in (b : Nat) (d : Array α) : ∀ (m i : Nat), b - i ≤ m → i ≤ b → i ≤ scanSorted lt d b i ∧ scanSorted lt d b i ≤ b := by
  intro m
  induction m with
  | zero => intro i h hi; rw [scanSorted_stop (fun q => by omega)]; omega
  | succ m ih =>
    intro i h hi
    by_cases hj : i < b ∧ lt d[i]! d[i - 1]! = false
    · rw [scanSorted_go hj.1 hj.2]; have := ih (i + 1) (by omega) (by omega); omega
    · rw [scanSorted_stop hj]; omega

set_option maxHeartbeats 8000000 in
theorem pins_ct (S : SoOk Try.prog W g sf lb sb lt n D) (d : Array α) (hd : d.size = n) (a b : Nat) (hab : a < b) (hb : b ≤ n) :
    Ct Try.prog W 40 [lsV g sf lb sb, .int .i64 (a : Nat), .int .i64 (b : Nat)] [D d] (fun _ : Unit => .bool (partialInsertionSort lt d a b).2) (fun _ => [D (partialInsertionSort lt d a b).1]) := by
  have hn := S.small
  refine Ct.enter Try.func40 rfl Try.ntmps40 (by simp) (fun R => ?_)
  repeat' (first 
    | (refine is_box ?_; refine KJ_box rfl xF rfl (fun gd => ?_))
    | (refine ek_add ?_; refine EK_ev (Ev_addI_v (r := ((a + 1 : Nat) : Int)) rfl rfl (by omega) (by omega)) ?_)
    | refine xst ?_
    | (refine xsa ?_; intro _)
    | (refine xsb ?_ ?_ <;> intro _ <;> first | (exfalso; omega) | skip)
    | refine xsc ?_
    | fail)
  refine KJ_loop (fun x : {x : Nat × Nat × Array α // x.2.2.size = n ∧ a + 1 ≤ x.2.1 ∧ x.2.1 ≤ b ∧ x.1 ≤ 5 ∧ partialIns lt a b x.1 x.2.1 x.2.2 = partialInsertionSort lt d a b} => [(1, .int .i64 (a : Nat)), (2, .int .i64 (b : Nat)), (3, .pointer (some ⟨gd, 0, none⟩)), (7, .int .i64 (x.1.2.1 : Nat)), (8, .int .i64 (5 - (x.1.1 : Int)))])
    (fun x => [D x.1.2.2, cellsP gd (lsC g sf lb sb) 70] ++ R) (fun x => x.1.1) ⟨(5, a + 1, d), hd, Nat.le_refl _, hab, Nat.le_refl _, rfl⟩ xB (xN) (fun ⟨(s, i, d1), h1, h2, h3, h5, h4⟩ => ?_)
  dsimp only at h1 h2 h3 h4 h5 ⊢
  cases s with
  | zero =>
    have q1 : decide ((5 : Int) - ((0 : Nat) : Int) < 5) = false := rfl
    repeat' (first 
    | (refine ek_lss ?_; refine EK_ev (Ev_lssI_q rfl rfl q1) ?_)
    | refine xst ?_
    | (refine xsa ?_; intro _)
    | (refine xsb ?_ ?_ <;> intro _ <;> first | (exfalso; omega) | skip)
    | refine xsc ?_
    | fail)
    all_goals exact xdn () (hc := by rw [← h4]; rfl) (hE := by rw [← h4]; exact (xN))
  | succ s =>
  have q1 : decide ((5 : Int) - ((s + 1 : Nat) : Int) < 5) = true := decide_eq_true (by omega)
  rw [partialIns_succ] at h4
  have hi := scanSorted_in (lt := lt) b d1 (b - i) i (Nat.le_refl _) h3
  obtain ⟨k, hk⟩ : ∃ k, k = scanSorted lt d1 b i := ⟨_, rfl⟩
  rw [← hk] at h4 hi
  apply KJ_rest (fun K => KJ W 91 K [(1, .int .i64 (a : Nat)), (2, .int .i64 (b : Nat)), (3, .pointer (some ⟨gd, 0, none⟩)), (7, .int .i64 (k : Nat)), (8, .int .i64 (5 - ((s + 1 : Nat) : Int)))] ([D d1, cellsP gd (lsC g sf lb sb) 70] ++ R))
  · intro rest
    repeat' (first 
    | (refine ek_lss ?_; refine EK_ev (Ev_lssI_q rfl rfl q1) ?_)
    | refine xst ?_
    | (refine xsa ?_; intro _)
    | (refine xsb ?_ ?_ <;> intro _ <;> first | (exfalso; omega) | skip)
    | refine xsc ?_
    | fail)
    refine KJ_loop (fun x : {x : Nat // i ≤ x ∧ x ≤ b ∧ scanSorted lt d1 b x = k} => [(1, .int .i64 (a : Nat)), (2, .int .i64 (b : Nat)), (3, .pointer (some ⟨gd, 0, none⟩)), (7, .int .i64 (x.1 : Nat)), (8, .int .i64 (5 - ((s + 1 : Nat) : Int)))])
      (fun _ => [D d1, cellsP gd (lsC g sf lb sb) 70] ++ R) (fun x => b - x.1) ⟨i, Nat.le_refl _, h3, hk.symm⟩ xB (xN) (fun ⟨i1, k1, k2, k3⟩ => ?_)
    dsimp only at k1 k2 k3 ⊢
    by_cases hlt : i1 < b
    · have q2 : decide ((i1 : Int) < (b : Int)) = true := decide_eq_true (by omega)
      have cl := S.less d1 h1 i1 (i1 - 1) (by omega) (by omega)
      cases hl : lt d1[i1]! d1[i1 - 1]! with
      | false =>
        rw [hl] at cl
        rw [scanSorted_go hlt hl] at k3
        repeat' (first 
    | (refine is_callV ?_; refine KJ_less rfl rfl rfl cl xP rfl (fun _ => ?_))
    | (refine ek_add ?_; refine EK_ev (Ev_addI_v (r := ((i1 + 1 : Nat) : Int)) rfl rfl (by omega) (by omega)) ?_)
    | (refine ek_sub ?_; refine EK_ev (Ev_subI_v (r := ((i1 - 1 : Nat) : Int)) rfl rfl (by omega) (by omega)) ?_)
    | (refine ek_lss ?_; refine EK_ev (Ev_lssI_q rfl rfl q2) ?_)
    | refine xst ?_
    | (refine xsa ?_; intro _)
    | (refine xsb ?_ ?_ <;> intro _ <;> first | (exfalso; omega) | skip)
    | refine xsc ?_
    | fail)
        refine KJ_again ⟨i1 + 1, by omega, hlt, k3⟩ (by dsimp only; omega) xB (xN)
      | true =>
        rw [hl] at cl
        rw [scanSorted_stop (fun q => by rw [hl] at q; cases q.2)] at k3
        have e7 : Value.int .i64 ((i1 : Nat) : Int) = .int .i64 ((k : Nat) : Int) := by rw [k3]
        repeat' (first 
    | (refine at_seq_region (id := 7) ?_; refine KJ.asv0 7 rfl e7 ?_; exact KJ.weak rest xB (xN))
    | (refine is_callV ?_; refine KJ_less rfl rfl rfl cl xP rfl (fun _ => ?_))
    | (refine ek_sub ?_; refine EK_ev (Ev_subI_v (r := ((i1 - 1 : Nat) : Int)) rfl rfl (by omega) (by omega)) ?_)
    | (refine ek_lss ?_; refine EK_ev (Ev_lssI_q rfl rfl q2) ?_)
    | refine xst ?_
    | (refine xsa ?_; intro _)
    | (refine xsb ?_ ?_ <;> intro _ <;> first | (exfalso; omega) | skip)
    | refine xsc ?_
    | fail)
    · have q2 : decide ((i1 : Int) < (b : Int)) = false := decide_eq_false (by omega)
      rw [scanSorted_stop (fun q => hlt q.1)] at k3
      have e7 : Value.int .i64 ((i1 : Nat) : Int) = .int .i64 ((k : Nat) : Int) := by rw [k3]
      repeat' (first 
    | (refine at_seq_region (id := 7) ?_; refine KJ.asv0 7 rfl e7 ?_; exact KJ.weak rest xB (xN))
    | (refine ek_lss ?_; refine EK_ev (Ev_lssI_q rfl rfl q2) ?_)
    | refine xst ?_
    | (refine xsa ?_; intro _)
    | (refine xsb ?_ ?_ <;> intro _ <;> first | (exfalso; omega) | skip)
    | refine xsc ?_
    | fail)
  by_cases hkb : k = b
  · have q2 : decide (((k : Nat) : Int) = ((b : Nat) : Int)) = true := decide_eq_true (by omega)
    rw [if_pos hkb] at h4
    repeat' (first 
    | (refine ek_eql ?_; refine EK_ev (Ev_eqlI_q rfl rfl q2) ?_)
    | refine xst ?_
    | (refine xsa ?_; intro _)
    | (refine xsb ?_ ?_ <;> intro _ <;> first | (exfalso; omega) | skip)
    | refine xsc ?_
    | fail)
    all_goals exact xdn () (hc := by rw [← h4]; rfl) (hE := by rw [← h4]; exact (xN))
  have q2 : decide (((k : Nat) : Int) = ((b : Nat) : Int)) = false := decide_eq_false (by omega)
  rw [if_neg hkb] at h4
  by_cases h50 : b - a < 50
  · have q3 : decide (((b - a : Nat) : Int) < 50) = true := decide_eq_true (by omega)
    rw [if_pos h50] at h4
    repeat' (first 
    | (refine ek_sub ?_; refine EK_ev (Ev_subI_v (r := ((b - a : Nat) : Int)) rfl rfl (by omega) (by omega)) ?_)
    | (refine ek_eql ?_; refine EK_ev (Ev_eqlI_q rfl rfl q2) ?_)
    | (refine ek_lss ?_; refine EK_ev (Ev_lssI_q rfl rfl q3) ?_)
    | refine xst ?_
    | (refine xsa ?_; intro _)
    | (refine xsb ?_ ?_ <;> intro _ <;> first | (exfalso; omega) | skip)
    | refine xsc ?_
    | fail)
    all_goals exact xdn () (hc := by rw [← h4]; rfl) (hE := by rw [← h4]; exact (xN))
  have q3 : decide (((b - a : Nat) : Int) < 50) = false := decide_eq_false (by omega)
  rw [if_neg h50] at h4
  have cw := S.swap d1 h1 k (k - 1) (by omega) (by omega)
  obtain ⟨d2, hd2⟩ : ∃ x, x = swp d1 k (k - 1) := ⟨_, rfl⟩
  have z2 : d2.size = n := by rw [hd2, size_swp]; exact h1
  obtain ⟨d3, hd3⟩ : ∃ x, x = fixDown lt a k d2 := ⟨_, rfl⟩
  have z3 : d3.size = n := by rw [hd3, fixDown_size]; exact z2
  obtain ⟨d4, hd4⟩ : ∃ x, x = fixUp lt b k d3 := ⟨_, rfl⟩
  have z4 : d4.size = n := by rw [hd4, fixUp_size]; exact z3
  rw [← hd2, ← hd3, ← hd4] at h4
  rw [← hd2] at cw
  unfold fixDown at hd3
  unfold fixUp at hd4
  apply KJ_rest (fun K => KJ W 91 K [(1, .int .i64 (a : Nat)), (2, .int .i64 (b : Nat)), (3, .pointer (some ⟨gd, 0, none⟩)), (7, .int .i64 (k : Nat)), (8, .int .i64 (5 - ((s + 1 : Nat) : Int)))] ([D d3, cellsP gd (lsC g sf lb sb) 70] ++ R))
  · intro rest
    by_cases hk2 : 2 ≤ k - a
    · have q4 : decide ((2 : Int) ≤ ((k - a : Nat) : Int)) = true := decide_eq_true (by omega)
      rw [if_pos hk2] at hd3
      repeat' (first 
    | (refine is_callV ?_; refine KJ_swap rfl rfl rfl cw xP rfl ?_)
    | (refine ek_sub ?_; first | refine EK_ev (Ev_subI_v (r := ((k - 1 : Nat) : Int)) rfl rfl (by omega) (by omega)) ?_ | refine EK_ev (Ev_subI_v (r := ((k - a : Nat) : Int)) rfl rfl (by omega) (by omega)) ?_ | refine EK_ev (Ev_subI_v (r := ((b - a : Nat) : Int)) rfl rfl (by omega) (by omega)) ?_)
    | (refine ek_eql ?_; refine EK_ev (Ev_eqlI_q rfl rfl q2) ?_)
    | (refine ek_lss ?_; refine EK_ev (Ev_lssI_q rfl rfl q3) ?_)
    | (refine ek_geq ?_; refine EK_ev (Ev_geqI_q rfl rfl q4) ?_)
    | refine xst ?_
    | (refine xsa ?_; intro _)
    | (refine xsb ?_ ?_ <;> intro _ <;> first | (exfalso; omega) | skip)
    | refine xsc ?_
    | fail)
      refine KJ_loop (fun x : {x : Nat × Array α // x.2.size = n ∧ x.1 < n ∧ shiftDown lt x.1 x.2 = d3} => [(1, .int .i64 (a : Nat)), (2, .int .i64 (b : Nat)), (3, .pointer (some ⟨gd, 0, none⟩)), (7, .int .i64 (k : Nat)), (8, .int .i64 (5 - ((s + 1 : Nat) : Int))), (9, .int .i64 (x.1.1 : Nat))])
        (fun x => [D x.1.2, cellsP gd (lsC g sf lb sb) 70] ++ R) (fun x => x.1.1) ⟨(k - 1, d2), z2, by dsimp only; omega, hd3.symm⟩ xB (xN) (fun ⟨(j, d5), k1, k2, k3⟩ => ?_)
      dsimp only at k1 k2 k3 ⊢
      by_cases hj : 1 ≤ j
      · have q5 : decide ((1 : Int) ≤ ((j : Nat) : Int)) = true := decide_eq_true (by omega)
        have cl := S.less d5 k1 j (j - 1) (by omega) (by omega)
        have cv := S.swap d5 k1 j (j - 1) (by omega) (by omega)
        cases hl : lt d5[j]! d5[j - 1]! with
        | true =>
          rw [hl] at cl
          rw [shiftDown_go hj hl] at k3
          repeat' (first 
    | (refine is_callV ?_; first | (refine KJ_swap rfl rfl rfl cv xP rfl ?_) | (refine KJ_less rfl rfl rfl cl xP rfl (fun _ => ?_)))
    | (refine ek_sub ?_; refine EK_ev (Ev_subI_v (r := ((j - 1 : Nat) : Int)) rfl rfl (by omega) (by omega)) ?_)
    | (refine ek_geq ?_; refine EK_ev (Ev_geqI_q rfl rfl q5) ?_)
    | refine xst ?_
    | (refine xsa ?_; intro _)
    | (refine xsb ?_ ?_ <;> intro _ <;> first | (exfalso; omega) | skip)
    | refine xsc ?_
    | fail)
          refine KJ_again ⟨(j - 1, swp d5 j (j - 1)), by rw [size_swp]; exact k1, by dsimp only; omega, k3⟩ (by dsimp only; omega) xB (xN)
        | false =>
          rw [hl] at cl
          rw [shiftDown_stop (fun _ => hl)] at k3
          repeat' (first 
    | (refine at_seq_region (id := 18) ?_; refine KJ.weak rest xB ?_)
    | (refine is_callV ?_; refine KJ_less rfl rfl rfl cl xP rfl (fun _ => ?_))
    | (refine ek_sub ?_; refine EK_ev (Ev_subI_v (r := ((j - 1 : Nat) : Int)) rfl rfl (by omega) (by omega)) ?_)
    | (refine ek_geq ?_; refine EK_ev (Ev_geqI_q rfl rfl q5) ?_)
    | refine xst ?_
    | (refine xsa ?_; intro _)
    | (refine xsb ?_ ?_ <;> intro _ <;> first | (exfalso; omega) | skip)
    | refine xsc ?_
    | fail)
          all_goals (rw [← k3]; exact (xN))
      · have q5 : decide ((1 : Int) ≤ ((j : Nat) : Int)) = false := decide_eq_false (by omega)
        rw [shiftDown_stop (fun q => absurd q hj)] at k3
        repeat' (first 
    | (refine at_seq_region (id := 18) ?_; refine KJ.weak rest xB ?_)
    | (refine ek_geq ?_; refine EK_ev (Ev_geqI_q rfl rfl q5) ?_)
    | refine xst ?_
    | (refine xsa ?_; intro _)
    | (refine xsb ?_ ?_ <;> intro _ <;> first | (exfalso; omega) | skip)
    | refine xsc ?_
    | fail)
        all_goals (rw [← k3]; exact (xN))
    · have q4 : decide ((2 : Int) ≤ ((k - a : Nat) : Int)) = false := decide_eq_false (by omega)
      rw [if_neg hk2] at hd3
      repeat' (first 
    | (refine at_seq_region (id := 18) ?_; refine KJ.weak rest xB ?_)
    | (refine is_callV ?_; refine KJ_swap rfl rfl rfl cw xP rfl ?_)
    | (refine ek_sub ?_; first | refine EK_ev (Ev_subI_v (r := ((k - 1 : Nat) : Int)) rfl rfl (by omega) (by omega)) ?_ | refine EK_ev (Ev_subI_v (r := ((k - a : Nat) : Int)) rfl rfl (by omega) (by omega)) ?_ | refine EK_ev (Ev_subI_v (r := ((b - a : Nat) : Int)) rfl rfl (by omega) (by omega)) ?_)
    | (refine ek_eql ?_; refine EK_ev (Ev_eqlI_q rfl rfl q2) ?_)
    | (refine ek_lss ?_; refine EK_ev (Ev_lssI_q rfl rfl q3) ?_)
    | (refine ek_geq ?_; refine EK_ev (Ev_geqI_q rfl rfl q4) ?_)
    | refine xst ?_
    | (refine xsa ?_; intro _)
    | (refine xsb ?_ ?_ <;> intro _ <;> first | (exfalso; omega) | skip)
    | refine xsc ?_
    | fail)
      all_goals (rw [hd3]; exact (xN))
  by_cases hk2 : 2 ≤ b - k
  · have q4 : decide ((2 : Int) ≤ ((b - k : Nat) : Int)) = true := decide_eq_true (by omega)
    rw [if_pos hk2] at hd4
    repeat' (first 
    | (refine ek_add ?_; refine EK_ev (Ev_addI_v (r := ((k + 1 : Nat) : Int)) rfl rfl (by omega) (by omega)) ?_)
    | (refine ek_sub ?_; refine EK_ev (Ev_subI_v (r := ((b - k : Nat) : Int)) rfl rfl (by omega) (by omega)) ?_)
    | (refine ek_geq ?_; refine EK_ev (Ev_geqI_q rfl rfl q4) ?_)
    | refine xst ?_
    | (refine xsa ?_; intro _)
    | (refine xsb ?_ ?_ <;> intro _ <;> first | (exfalso; omega) | skip)
    | refine xsc ?_
    | fail)
    refine KJ_loop (fun x : {x : Nat × Array α // x.2.size = n ∧ 1 ≤ x.1 ∧ shiftUp lt b x.1 x.2 = d4} => [(1, .int .i64 (a : Nat)), (2, .int .i64 (b : Nat)), (3, .pointer (some ⟨gd, 0, none⟩)), (7, .int .i64 (k : Nat)), (8, .int .i64 (5 - ((s + 1 : Nat) : Int))), (10, .int .i64 (x.1.1 : Nat))])
      (fun x => [D x.1.2, cellsP gd (lsC g sf lb sb) 70] ++ R) (fun x => b - x.1.1) ⟨(k + 1, d3), z3, by dsimp only; omega, hd4.symm⟩ xB (xN) (fun ⟨(j, d5), k1, k2, k3⟩ => ?_)
    dsimp only at k1 k2 k3 ⊢
    by_cases hj : j < b
    · have q5 : decide (((j : Nat) : Int) < ((b : Nat) : Int)) = true := decide_eq_true (by omega)
      have cl := S.less d5 k1 j (j - 1) (by omega) (by omega)
      have cv := S.swap d5 k1 j (j - 1) (by omega) (by omega)
      cases hl : lt d5[j]! d5[j - 1]! with
      | true =>
        rw [hl] at cl
        rw [shiftUp_go hj hl] at k3
        repeat' (first 
    | (refine is_callV ?_; first | (refine KJ_swap rfl rfl rfl cv xP rfl ?_) | (refine KJ_less rfl rfl rfl cl xP rfl (fun _ => ?_)))
    | (refine ek_add ?_; refine EK_ev (Ev_addI_v (r := ((j + 1 : Nat) : Int)) rfl rfl (by omega) (by omega)) ?_)
    | (refine ek_sub ?_; refine EK_ev (Ev_subI_v (r := ((j - 1 : Nat) : Int)) rfl rfl (by omega) (by omega)) ?_)
    | (refine ek_lss ?_; refine EK_ev (Ev_lssI_q rfl rfl q5) ?_)
    | refine xst ?_
    | (refine xsa ?_; intro _)
    | (refine xsb ?_ ?_ <;> intro _ <;> first | (exfalso; omega) | skip)
    | refine xsc ?_
    | fail)
        refine KJ_again ⟨(j + 1, swp d5 j (j - 1)), by rw [size_swp]; exact k1, by dsimp only; omega, k3⟩ (by dsimp only; omega) xB (xN)
      | false =>
        rw [hl] at cl
        rw [shiftUp_stop (fun _ => hl)] at k3
        repeat' (first 
    | (refine is_callV ?_; refine KJ_less rfl rfl rfl cl xP rfl (fun _ => ?_))
    | (refine ek_add ?_; refine EK_ev (Ev_addI_v (r := 5 - (s : Int)) rfl rfl (by omega) (by omega)) ?_)
    | (refine ek_sub ?_; refine EK_ev (Ev_subI_v (r := ((j - 1 : Nat) : Int)) rfl rfl (by omega) (by omega)) ?_)
    | (refine ek_lss ?_; refine EK_ev (Ev_lssI_q rfl rfl q5) ?_)
    | refine xst ?_
    | (refine xsa ?_; intro _)
    | (refine xsb ?_ ?_ <;> intro _ <;> first | (exfalso; omega) | skip)
    | refine xsc ?_
    | fail)
        refine KJ_again ⟨(s, k, d4), z4, by dsimp only; omega, by dsimp only; omega, by dsimp only; omega, h4⟩ (by dsimp only; omega) xB (by dsimp only; rw [← k3]; exact (xN))
    · have q5 : decide (((j : Nat) : Int) < ((b : Nat) : Int)) = false := decide_eq_false (by omega)
      rw [shiftUp_stop (fun q => absurd q hj)] at k3
      repeat' (first 
    | (refine ek_add ?_; refine EK_ev (Ev_addI_v (r := 5 - (s : Int)) rfl rfl (by omega) (by omega)) ?_)
    | (refine ek_lss ?_; refine EK_ev (Ev_lssI_q rfl rfl q5) ?_)
    | refine xst ?_
    | (refine xsa ?_; intro _)
    | (refine xsb ?_ ?_ <;> intro _ <;> first | (exfalso; omega) | skip)
    | refine xsc ?_
    | fail)
      refine KJ_again ⟨(s, k, d4), z4, by dsimp only; omega, by dsimp only; omega, by dsimp only; omega, h4⟩ (by dsimp only; omega) xB (by dsimp only; rw [← k3]; exact (xN))
  · have q4 : decide ((2 : Int) ≤ ((b - k : Nat) : Int)) = false := decide_eq_false (by omega)
    rw [if_neg hk2] at hd4
    repeat' (first 
    | (refine ek_add ?_; refine EK_ev (Ev_addI_v (r := 5 - (s : Int)) rfl rfl (by omega) (by omega)) ?_)
    | (refine ek_sub ?_; refine EK_ev (Ev_subI_v (r := ((b - k : Nat) : Int)) rfl rfl (by omega) (by omega)) ?_)
    | (refine ek_geq ?_; refine EK_ev (Ev_geqI_q rfl rfl q4) ?_)
    | refine xst ?_
    | (refine xsa ?_; intro _)
    | (refine xsb ?_ ?_ <;> intro _ <;> first | (exfalso; omega) | skip)
    | refine xsc ?_
    | fail)
    refine KJ_again ⟨(s, k, d4), z4, by dsimp only; omega, by dsimp only; omega, by dsimp only; omega, h4⟩ (by dsimp only; omega) xB (by dsimp only; rw [hd4]; exact (xN))
end
end Go.Proofs.Ytmlnegmabfnaaaa
