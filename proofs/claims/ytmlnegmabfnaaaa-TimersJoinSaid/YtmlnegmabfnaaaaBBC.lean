/-
  SoB, SoC.
-/
import Derived.Test.YtmlnegmabfnaaaaBAT
import Derived.Test.YtmlnegmabfnaaaaBAN
import Derived.Test.YtmlnegmabfnaaaaBAV
import Derived.Test.YtmlnegmabfnaaaaBAY
import Derived.Test.YtmlnegmabfnaaaaBAZ
import Derived.Test.YtmlnegmabfnaaaaBBA
/-
  sort.Slice's own functions, by contract: insertionSort_func, siftDown_func, heapSort_func, reverseRange_func.
-/
namespace Go.Proofs.Ytmlnegmabfnaaaa
open Go Go.RowKit Go.Sort
section
variable {W : World} {α : Type} [Inhabited α] {g sf : FuncId} {lb sb : List Value} {lt : α → α → Bool} {n : Nat} {D : Array α → SP} [FnIs Try.prog g]
abbrev lsC (g sf : FuncId) (lb sb : List Value) : List Value := [.func (.func g) #[] lb.toArray, .func (.func sf) #[] sb.toArray]
abbrev lsV (g sf : FuncId) (lb sb : List Value) : Value := .agg #[.func (.func g) #[] lb.toArray, .func (.func sf) #[] sb.toArray]
theorem insOuter_eq (a b i : Nat) (d : Array α) : insOuter lt a b i d = if i < b then insOuter lt a b (i + 1) (insInner lt a i d) else d := by rw [insOuter]
theorem insInner_stop {a j : Nat} {d : Array α} (h : ¬ (a < j ∧ lt d[j]! d[j - 1]! = true)) : insInner lt a j d = d := by
  cases j with
  | zero => rfl
  | succ j =>
    unfold insInner
    rw [if_neg]
    intro q
    simp only [Bool.and_eq_true, decide_eq_true_eq] at q
    exact h ⟨by omega, by simpa using q.2⟩
theorem insInner_go {a j : Nat} {d : Array α} (h : a < j) (hl : lt d[j]! d[j - 1]! = true) : insInner lt a j d = insInner lt a (j - 1) (swp d j (j - 1)) := by
  cases j with
  | zero => omega
  | succ j =>
    conv => lhs; unfold insInner
    rw [if_pos]
    · rfl
    · simp only [Bool.and_eq_true, decide_eq_true_eq]; exact ⟨by omega, by simpa using hl⟩
set_option maxHeartbeats 2000000 in
theorem ins_ct (S : SoOk Try.prog W g sf lb sb lt n D) (d : Array α) (hd : d.size = n) (a b : Nat) (hab : a ≤ b) (hb : b ≤ n) :
    Ct Try.prog W 35 [lsV g sf lb sb, .int .i64 (a : Nat), .int .i64 (b : Nat)] [D d] (fun _ : Unit => .tuple #[]) (fun _ => [D (insertionSort lt d a b)]) := by
  have hn := S.small
  refine Ct.enter Try.func35 rfl Try.ntmps35 (by simp) (fun R => ?_)
  repeat' (first 
    | (refine is_box ?_; refine KJ_box rfl xF rfl (fun gd => ?_))
    | (refine ek_add ?_; refine EK_ev (Ev_addI_v (r := ((a + 1 : Nat) : Int)) rfl rfl (by omega) (by omega)) ?_)
    | refine xst ?_
    | (refine xsa ?_; intro _)
    | (refine xsb ?_ ?_ <;> intro _ <;> first | (exfalso; omega) | skip)
    | refine xsc ?_
    | fail)
  refine KJ_loop (fun x : {x : Nat × Array α // x.2.size = n ∧ a + 1 ≤ x.1 ∧ insOuter lt a b x.1 x.2 = insertionSort lt d a b} => [(1, .int .i64 (a : Nat)), (2, .int .i64 (b : Nat)), (3, .pointer (some ⟨gd, 0, none⟩)), (6, .int .i64 (x.1.1 : Nat))])
    (fun x => [D x.1.2, cellsP gd (lsC g sf lb sb) 70] ++ R) (fun x => b - x.1.1) ⟨(a + 1, d), hd, Nat.le_refl _, rfl⟩ xB (xN) (fun ⟨(i, d1), h1, h2, h3⟩ => ?_)
  dsimp only at h1 h2 h3 ⊢
  rw [insOuter_eq] at h3
  by_cases hlt : i < b
  · rw [if_pos hlt] at h3
    have q1 : decide ((i : Int) < (b : Int)) = true := decide_eq_true (by omega)
    repeat' (first 
    | (refine ek_lss ?_; refine EK_ev (Ev_lssI_q rfl rfl q1) ?_)
    | refine xst ?_
    | (refine xsa ?_; intro _)
    | (refine xsb ?_ ?_ <;> intro _ <;> first | (exfalso; omega) | skip)
    | refine xsc ?_
    | fail)
    refine KJ_loop (fun x : {x : Nat × Array α // x.2.size = n ∧ x.1 ≤ i ∧ insInner lt a x.1 x.2 = insInner lt a i d1} => [(1, .int .i64 (a : Nat)), (2, .int .i64 (b : Nat)), (3, .pointer (some ⟨gd, 0, none⟩)), (6, .int .i64 (i : Nat)), (7, .int .i64 (x.1.1 : Nat))])
      (fun x => [D x.1.2, cellsP gd (lsC g sf lb sb) 70] ++ R) (fun x => x.1.1) ⟨(i, d1), h1, Nat.le_refl _, rfl⟩ xB (xN) (fun ⟨(j, d2), k1, k2, k3⟩ => ?_)
    dsimp only at k1 k2 k3 ⊢
    by_cases hj : a < j
    · have q2 : decide ((a : Int) < (j : Int)) = true := decide_eq_true (by omega)
      have cl := S.less d2 k1 j (j - 1) (by omega) (by omega)
      have cs := S.swap d2 k1 j (j - 1) (by omega) (by omega)
      cases hl : lt d2[j]! d2[j - 1]! with
      | true =>
        rw [hl] at cl
        rw [insInner_go hj hl] at k3
        repeat' (first 
    | (refine is_callV ?_; first | (refine KJ_swap rfl rfl rfl cs xP rfl ?_) | (refine KJ_less rfl rfl rfl cl xP rfl (fun _ => ?_)))
    | (refine ek_sub ?_; refine EK_ev (Ev_subI_v (r := ((j - 1 : Nat) : Int)) rfl rfl (by omega) (by omega)) ?_)
    | (refine ek_gtr ?_; refine EK_ev (Ev_gtrI_q rfl rfl q2) ?_)
    | refine xst ?_
    | (refine xsa ?_; intro _)
    | (refine xsb ?_ ?_ <;> intro _ <;> first | (exfalso; omega) | skip)
    | refine xsc ?_
    | fail)
        refine KJ_again ⟨(j - 1, swp d2 j (j - 1)), by rw [size_swp]; exact k1, by dsimp only; omega, k3⟩ (by dsimp only; omega) xB (xN)
      | false =>
        rw [hl] at cl
        rw [insInner_stop (fun q => by rw [hl] at q; cases q.2)] at k3
        rw [← k3] at h3
        repeat' (first 
    | (refine is_callV ?_; refine KJ_less rfl rfl rfl cl xP rfl (fun _ => ?_))
    | (refine ek_add ?_; refine EK_ev (Ev_addI_v (r := ((i + 1 : Nat) : Int)) rfl rfl (by omega) (by omega)) ?_)
    | (refine ek_sub ?_; refine EK_ev (Ev_subI_v (r := ((j - 1 : Nat) : Int)) rfl rfl (by omega) (by omega)) ?_)
    | (refine ek_gtr ?_; refine EK_ev (Ev_gtrI_q rfl rfl q2) ?_)
    | refine xst ?_
    | (refine xsa ?_; intro _)
    | (refine xsb ?_ ?_ <;> intro _ <;> first | (exfalso; omega) | skip)
    | refine xsc ?_
    | fail)
        refine KJ_again ⟨(i + 1, d2), k1, by dsimp only; omega, h3⟩ (by dsimp only; omega) xB (xN)
    · have q2 : decide ((a : Int) < (j : Int)) = false := decide_eq_false (by omega)
      rw [insInner_stop (fun q => hj q.1)] at k3
      rw [← k3] at h3
      repeat' (first 
    | (refine ek_add ?_; refine EK_ev (Ev_addI_v (r := ((i + 1 : Nat) : Int)) rfl rfl (by omega) (by omega)) ?_)
    | (refine ek_gtr ?_; refine EK_ev (Ev_gtrI_q rfl rfl q2) ?_)
    | refine xst ?_
    | (refine xsa ?_; intro _)
    | (refine xsb ?_ ?_ <;> intro _ <;> first | (exfalso; omega) | skip)
    | refine xsc ?_
    | fail)
      refine KJ_again ⟨(i + 1, d2), k1, by dsimp only; omega, h3⟩ (by dsimp only; omega) xB (xN)
  · rw [if_neg hlt] at h3
    have q1 : decide ((i : Int) < (b : Int)) = false := decide_eq_false (by omega)
    repeat' (first 
    | (refine ek_lss ?_; refine EK_ev (Ev_lssI_q rfl rfl q1) ?_)
    | refine xst ?_
    | (refine xsa ?_; intro _)
    | (refine xsb ?_ ?_ <;> intro _ <;> first | (exfalso; omega) | skip)
    | refine xsc ?_
    | fail)
    all_goals exact xdn () (hE := by rw [← h3]; exact (xN))
/-- one step down the heap -/
theorem siftDown_step {hi first root : Nat} {d : Array α} (h : 2 * root + 1 < hi) : ∃ c, ((c = 2 * root + 1 ∧ (2 * root + 2 < hi → lt d[first + (2 * root + 1)]! d[first + (2 * root + 1) + 1]! = false)) ∨ (c = 2 * root + 2 ∧ 2 * root + 2 < hi ∧ lt d[first + (2 * root + 1)]! d[first + (2 * root + 1) + 1]! = true)) ∧ c < hi ∧ root < c ∧
    siftDown lt hi first root d = if lt d[first + root]! d[first + c]! = true then siftDown lt hi first c (swp d (first + root) (first + c)) else d := by
  by_cases h2 : 2 * root + 2 < hi
  · cases hl : lt d[first + (2 * root + 1)]! d[first + (2 * root + 1) + 1]! with
    | true =>
      refine ⟨2 * root + 2, .inr ⟨rfl, h2, rfl⟩, h2, by omega, ?_⟩
      conv => lhs; rw [siftDown]
      rw [dif_neg (by omega), if_pos (by simp only [Bool.and_eq_true, decide_eq_true_eq]; exact ⟨by omega, hl⟩)]
      cases hm : lt d[first + root]! d[first + (2 * root + 2)]! with
      | true => simp only [Bool.not_true, Bool.false_eq_true, if_false, dif_pos h2, if_true]
      | false => simp
    | false =>
      refine ⟨2 * root + 1, .inl ⟨rfl, fun _ => rfl⟩, h, by omega, ?_⟩
      conv => lhs; rw [siftDown]
      rw [dif_neg (by omega), if_neg (by simp only [Bool.and_eq_true, decide_eq_true_eq]; intro q; rw [hl] at q; cases q.2)]
      cases hm : lt d[first + root]! d[first + (2 * root + 1)]! <;> simp
  · refine ⟨2 * root + 1, .inl ⟨rfl, fun q => absurd q h2⟩, h, by omega, ?_⟩
    conv => lhs; rw [siftDown]
    rw [dif_neg (by omega), if_neg (by simp only [Bool.and_eq_true, decide_eq_true_eq]; intro q; omega)]
    cases hm : lt d[first + root]! d[first + (2 * root + 1)]! <;> simp
theorem siftDown_end {hi first root : Nat} {d : Array α} (h : hi ≤ 2 * root + 1) : siftDown lt hi first root d = d := by rw [siftDown, dif_pos h]
set_option maxHeartbeats 4000000 in
theorem sift_ct (S : SoOk Try.prog W g sf lb sb lt n D) (d : Array α) (hd : d.size = n) (lo hi first : Nat) (hlo : lo ≤ n) (hh : first + hi ≤ n) :
    Ct Try.prog W 43 [lsV g sf lb sb, .int .i64 (lo : Nat), .int .i64 (hi : Nat), .int .i64 (first : Nat)] [D d] (fun _ : Unit => .tuple #[]) (fun _ => [D (siftDown lt hi first lo d)]) := by
  have hn := S.small
  refine Ct.enter Try.func43 rfl Try.ntmps43 (by simp) (fun R => ?_)
  repeat' (first 
    | (refine is_box ?_; refine KJ_box rfl xF rfl (fun gd => ?_))
    | refine xst ?_
    | (refine xsa ?_; intro _)
    | (refine xsb ?_ ?_ <;> intro _ <;> first | (exfalso; omega) | skip)
    | refine xsc ?_
    | fail)
  refine KJ_loop (fun x : {x : Nat × Array α // x.2.size = n ∧ x.1 ≤ n ∧ siftDown lt hi first x.1 x.2 = siftDown lt hi first lo d} => [(2, .int .i64 (hi : Nat)), (3, .int .i64 (first : Nat)), (4, .pointer (some ⟨gd, 0, none⟩)), (8, .int .i64 (x.1.1 : Nat))])
    (fun x => [D x.1.2, cellsP gd (lsC g sf lb sb) 70] ++ R) (fun x => hi - x.1.1) ⟨(lo, d), hd, hlo, rfl⟩ xB (xN) (fun ⟨(root, d1), h1, h2, h3⟩ => ?_)
  dsimp only at h1 h2 h3 ⊢
  by_cases he : hi ≤ 2 * root + 1
  · rw [siftDown_end he] at h3
    have q1 : decide ((hi : Int) ≤ ((2 * root + 1 : Nat) : Int)) = true := decide_eq_true (by omega)
    repeat' (first 
    | (refine ek_add ?_; refine EK_ev (Ev_addI_v (r := ((2 * root + 1 : Nat) : Int)) rfl rfl (by omega) (by omega)) ?_)
    | (refine ek_mul ?_; refine EK_ev (Ev_mulI_v (r := ((2 * root : Nat) : Int)) rfl rfl (by omega) (by omega)) ?_)
    | (refine ek_geq ?_; refine EK_ev (Ev_geqI_q rfl rfl q1) ?_)
    | refine xst ?_
    | (refine xsa ?_; intro _)
    | (refine xsb ?_ ?_ <;> intro _ <;> first | (exfalso; omega) | skip)
    | refine xsc ?_
    | fail)
    all_goals exact xdn () (hE := by rw [← h3]; exact (xN))
  · have q1 : decide ((hi : Int) ≤ ((2 * root + 1 : Nat) : Int)) = false := decide_eq_false (by omega)
    obtain ⟨c, hc, hc2, hc3, hs⟩ := siftDown_step (lt := lt) (hi := hi) (first := first) (root := root) (d := d1) (by omega)
    rw [hs] at h3
    clear hs
    have cm := S.less d1 h1 (first + root) (first + c) (by omega) (by omega)
    have cw := S.swap d1 h1 (first + root) (first + c) (by omega) (by omega)
    apply KJ_rest (fun K => KJ W 55 K [(2, .int .i64 (hi : Nat)), (3, .int .i64 (first : Nat)), (4, .pointer (some ⟨gd, 0, none⟩)), (8, .int .i64 (root : Nat)), (9, .int .i64 (c : Nat))] ([D d1, cellsP gd (lsC g sf lb sb) 70] ++ R))
    · intro rest
      by_cases h2 : 2 * root + 2 < hi
      · have q2 : decide (((2 * root + 2 : Nat) : Int) < (hi : Int)) = true := decide_eq_true (by omega)
        have cl := S.less d1 h1 (first + (2 * root + 1)) (first + (2 * root + 1) + 1) (by omega) (by omega)
        rcases hc with ⟨hc, hl⟩ | ⟨hc, hl2, hl⟩
        · have e9 : Value.int .i64 ((2 * root + 1 : Nat) : Int) = .int .i64 (c : Int) := by rw [hc]
          rw [hl h2] at cl
          repeat' (first 
    | (refine at_seq_region (id := 6) ?_; refine KJ.asv0 9 rfl e9 ?_; exact KJ.weak rest xB (xN))
    | (refine is_callV ?_; refine KJ_less rfl rfl rfl cl xP rfl (fun _ => ?_))
    | (refine ek_add ?_; first | refine EK_ev (Ev_addI_v (r := ((2 * root + 1 : Nat) : Int)) rfl rfl (by omega) (by omega)) ?_ | refine EK_ev (Ev_addI_v (r := ((2 * root + 2 : Nat) : Int)) rfl rfl (by omega) (by omega)) ?_ | refine EK_ev (Ev_addI_v (r := ((first + (2 * root + 1) : Nat) : Int)) rfl rfl (by omega) (by omega)) ?_ | refine EK_ev (Ev_addI_v (r := ((first + (2 * root + 1) + 1 : Nat) : Int)) rfl rfl (by omega) (by omega)) ?_)
    | (refine ek_mul ?_; refine EK_ev (Ev_mulI_v (r := ((2 * root : Nat) : Int)) rfl rfl (by omega) (by omega)) ?_)
    | (refine ek_lss ?_; refine EK_ev (Ev_lssI_q rfl rfl q2) ?_)
    | (refine ek_geq ?_; refine EK_ev (Ev_geqI_q rfl rfl q1) ?_)
    | refine xst ?_
    | (refine xsa ?_; intro _)
    | (refine xsb ?_ ?_ <;> intro _ <;> first | (exfalso; omega) | skip)
    | refine xsc ?_
    | fail)
        · have e9 : Value.int .i64 ((2 * root + 2 : Nat) : Int) = .int .i64 (c : Int) := by rw [hc]
          rw [hl] at cl
          repeat' (first 
    | (refine at_seq_region (id := 6) ?_; refine KJ.asv0 9 rfl e9 ?_; exact KJ.weak rest xB (xN))
    | (refine is_callV ?_; refine KJ_less rfl rfl rfl cl xP rfl (fun _ => ?_))
    | (refine ek_add ?_; first | refine EK_ev (Ev_addI_v (r := ((2 * root + 1 : Nat) : Int)) rfl rfl (by omega) (by omega)) ?_ | refine EK_ev (Ev_addI_v (r := ((2 * root + 2 : Nat) : Int)) rfl rfl (by omega) (by omega)) ?_ | refine EK_ev (Ev_addI_v (r := ((first + (2 * root + 1) : Nat) : Int)) rfl rfl (by omega) (by omega)) ?_ | refine EK_ev (Ev_addI_v (r := ((first + (2 * root + 1) + 1 : Nat) : Int)) rfl rfl (by omega) (by omega)) ?_)
    | (refine ek_mul ?_; refine EK_ev (Ev_mulI_v (r := ((2 * root : Nat) : Int)) rfl rfl (by omega) (by omega)) ?_)
    | (refine ek_lss ?_; refine EK_ev (Ev_lssI_q rfl rfl q2) ?_)
    | (refine ek_geq ?_; refine EK_ev (Ev_geqI_q rfl rfl q1) ?_)
    | refine xst ?_
    | (refine xsa ?_; intro _)
    | (refine xsb ?_ ?_ <;> intro _ <;> first | (exfalso; omega) | skip)
    | refine xsc ?_
    | fail)
      · have q2 : decide (((2 * root + 2 : Nat) : Int) < (hi : Int)) = false := decide_eq_false (by omega)
        have hc : c = 2 * root + 1 := by rcases hc with ⟨hc, _⟩ | ⟨_, hc, _⟩ <;> omega
        have e9 : Value.int .i64 ((2 * root + 1 : Nat) : Int) = .int .i64 (c : Int) := by rw [hc]
        repeat' (first 
    | (refine at_seq_region (id := 6) ?_; refine KJ.asv0 9 rfl e9 ?_; exact KJ.weak rest xB (xN))
    | (refine ek_add ?_; first | refine EK_ev (Ev_addI_v (r := ((2 * root + 1 : Nat) : Int)) rfl rfl (by omega) (by omega)) ?_ | refine EK_ev (Ev_addI_v (r := ((2 * root + 2 : Nat) : Int)) rfl rfl (by omega) (by omega)) ?_ | refine EK_ev (Ev_addI_v (r := ((first + (2 * root + 1) : Nat) : Int)) rfl rfl (by omega) (by omega)) ?_ | refine EK_ev (Ev_addI_v (r := ((first + (2 * root + 1) + 1 : Nat) : Int)) rfl rfl (by omega) (by omega)) ?_)
    | (refine ek_mul ?_; refine EK_ev (Ev_mulI_v (r := ((2 * root : Nat) : Int)) rfl rfl (by omega) (by omega)) ?_)
    | (refine ek_lss ?_; refine EK_ev (Ev_lssI_q rfl rfl q2) ?_)
    | (refine ek_geq ?_; refine EK_ev (Ev_geqI_q rfl rfl q1) ?_)
    | refine xst ?_
    | (refine xsa ?_; intro _)
    | (refine xsb ?_ ?_ <;> intro _ <;> first | (exfalso; omega) | skip)
    | refine xsc ?_
    | fail)
    cases hl : lt d1[first + root]! d1[first + c]! with
    | true =>
      rw [hl] at cm h3
      rw [if_pos rfl] at h3
      repeat' (first 
    | (refine is_callV ?_; first | (refine KJ_swap rfl rfl rfl cw xP rfl ?_) | (refine KJ_less rfl rfl rfl cm xP rfl (fun _ => ?_)))
    | (refine ek_add ?_; first | refine EK_ev (Ev_addI_v (r := ((first + c : Nat) : Int)) rfl rfl (by omega) (by omega)) ?_ | refine EK_ev (Ev_addI_v (r := ((first + root : Nat) : Int)) rfl rfl (by omega) (by omega)) ?_)
    | refine xst ?_
    | (refine xsa ?_; intro _)
    | (refine xsb ?_ ?_ <;> intro _ <;> first | (exfalso; omega) | skip)
    | refine xsc ?_
    | fail)
      refine KJ_again ⟨(c, swp d1 (first + root) (first + c)), by rw [size_swp]; exact h1, by dsimp only; omega, h3⟩ (by dsimp only; omega) xB (xN)
    | false =>
      rw [hl] at cm h3
      rw [if_neg (by decide)] at h3
      repeat' (first 
    | (refine is_callV ?_; refine KJ_less rfl rfl rfl cm xP rfl (fun _ => ?_))
    | (refine ek_add ?_; first | refine EK_ev (Ev_addI_v (r := ((first + c : Nat) : Int)) rfl rfl (by omega) (by omega)) ?_ | refine EK_ev (Ev_addI_v (r := ((first + root : Nat) : Int)) rfl rfl (by omega) (by omega)) ?_)
    | refine xst ?_
    | (refine xsa ?_; intro _)
    | (refine xsb ?_ ?_ <;> intro _ <;> first | (exfalso; omega) | skip)
    | refine xsc ?_
    | fail)
      all_goals exact xdn () (hE := by rw [← h3]; exact (xN))
theorem heapBuild_zero {hi first : Nat} {d : Array α} : heapBuild lt hi first 0 d = d := rfl
theorem heapBuild_succ {hi first k : Nat} {d : Array α} : heapBuild lt hi first (k + 1) d = heapBuild lt hi first k (siftDown lt hi first k d) := rfl
theorem heapPop_zero {first : Nat} {d : Array α} : heapPop lt first 0 d = d := rfl
theorem heapPop_succ {first k : Nat} {d : Array α} : heapPop lt first (k + 1) d = heapPop lt first k (siftDown lt k first 0 (swp d first (first + k))) := rfl
theorem siftDown_size (hi first : Nat) : ∀ (m root : Nat) (d : Array α), hi - root ≤ m → (siftDown lt hi first root d).size = d.size := by
  intro m
  induction m with
  | zero => intro root d h; rw [siftDown_end (by omega)]
  | succ m ih =>
    intro root d h
    by_cases he : hi ≤ 2 * root + 1
    · rw [siftDown_end he]
    · obtain ⟨c, _, h2, h3, hs⟩ := siftDown_step (lt := lt) (first := first) (d := d) (Nat.lt_of_not_le he)
      rw [hs]
      split
      · rw [ih c _ (by omega), size_swp]
      · rfl
set_option maxHeartbeats 4000000 in
theorem heap_ct (S : SoOk Try.prog W g sf lb sb lt n D) (d : Array α) (hd : d.size = n) (a b : Nat) (hab : a ≤ b) (hb : b ≤ n) :
    Ct Try.prog W 36 [lsV g sf lb sb, .int .i64 (a : Nat), .int .i64 (b : Nat)] [D d] (fun _ : Unit => .tuple #[]) (fun _ => [D (heapSort lt d a b)]) := by
  have hn := S.small
  have hq : IntKind.i64.wrap ((((b - a : Nat) : Int) - 1).tdiv 2) = (((b - a - 1) / 2 + 1 : Nat) : Int) - 1 := by
    by_cases h0 : b - a = 0
    · rw [h0]; decide
    · rw [show ((b - a : Nat) : Int) - 1 = ((b - a - 1 : Nat) : Int) by omega, Int.tdiv_eq_ediv_of_nonneg (by omega)]
      rw [i64_in _ (by omega)]
      omega
  refine Ct.enter Try.func36 rfl Try.ntmps36 (by simp) (fun R => ?_)
  repeat' (first 
    | (refine is_box ?_; refine KJ_box rfl xF rfl (fun gd => ?_))
    | (refine ek_sub ?_; first | refine EK_ev (Ev_subI_v (r := ((b - a : Nat) : Int) - 1) rfl rfl (by omega) (by omega)) ?_ | refine EK_ev (Ev_subI_v (r := ((b - a : Nat) : Int)) rfl rfl (by omega) (by omega)) ?_)
    | (refine ek_quo ?_; refine EK_ev (Ev_quo_v0 rfl rfl (by decide) hq) ?_)
    | refine xst ?_
    | (refine xsa ?_; intro _)
    | (refine xsb ?_ ?_ <;> intro _ <;> first | (exfalso; omega) | skip)
    | refine xsc ?_
    | fail)
  refine KJ_loop (fun x : {x : Nat × Array α // x.2.size = n ∧ x.1 ≤ b - a + 1 ∧ heapBuild lt (b - a) a x.1 x.2 = heapBuild lt (b - a) a ((b - a - 1) / 2 + 1) d} => [(3, .pointer (some ⟨gd, 0, none⟩)), (6, .int .i64 (a : Nat)), (7, .int .i64 0), (8, .int .i64 (b - a : Nat)), (9, .int .i64 ((x.1.1 : Nat) - 1))])
    (fun x => [D x.1.2, cellsP gd (lsC g sf lb sb) 70] ++ R) (fun x => x.1.1) ⟨((b - a - 1) / 2 + 1, d), hd, by dsimp only; omega, rfl⟩ xB (xN) (fun ⟨(k, d1), h1, h2, h3⟩ => ?_)
  dsimp only at h1 h2 h3 ⊢
  cases k with
  | succ k =>
    have q1 : decide ((0 : Int) ≤ ((k + 1 : Nat) : Int) - 1) = true := decide_eq_true (by omega)
    have cs := sift_ct S d1 h1 k (b - a) a (by omega) (by omega)
    rw [heapBuild_succ] at h3
    repeat' (first 
    | (refine is_call ?_; refine KJ_call xE cs xP rfl (fun _ => ?_))
    | (refine ek_move ?_; refine EK_ev (Ev_move_v (v' := .int .i64 (k : Nat)) rfl (by first | exact congrArg _ (by omega) | fail)) ?_)
    | (refine ek_sub ?_; refine EK_ev (Ev_subI_v (r := ((k : Nat) : Int) - 1) rfl rfl (by omega) (by omega)) ?_)
    | (refine ek_geq ?_; refine EK_ev (Ev_geqI_q rfl rfl q1) ?_)
    | refine xst ?_
    | (refine xsa ?_; intro _)
    | (refine xsb ?_ ?_ <;> intro _ <;> first | (exfalso; omega) | skip)
    | refine xsc ?_
    | fail)
    refine KJ_again ⟨(k, siftDown lt (b - a) a k d1), by rw [siftDown_size _ _ _ _ _ (Nat.le_refl _)]; exact h1, by dsimp only; omega, h3⟩ (by dsimp only; omega) xB (xN)
  | zero =>
    rw [heapBuild_zero] at h3
    have q1 : decide ((0 : Int) ≤ ((0 : Nat) : Int) - 1) = false := rfl
    repeat' (first 
    | (refine ek_sub ?_; refine EK_ev (Ev_subI_v (r := ((b - a : Nat) : Int) - 1) rfl rfl (by omega) (by omega)) ?_)
    | (refine ek_geq ?_; refine EK_ev (Ev_geqI_q rfl rfl q1) ?_)
    | refine xst ?_
    | (refine xsa ?_; intro _)
    | (refine xsb ?_ ?_ <;> intro _ <;> first | (exfalso; omega) | skip)
    | refine xsc ?_
    | fail)
    refine KJ_loop (fun x : {x : Nat × Array α // x.2.size = n ∧ x.1 ≤ b - a ∧ heapPop lt a x.1 x.2 = heapSort lt d a b} => [(3, .pointer (some ⟨gd, 0, none⟩)), (6, .int .i64 (a : Nat)), (7, .int .i64 0), (10, .int .i64 ((x.1.1 : Nat) - 1))])
      (fun x => [D x.1.2, cellsP gd (lsC g sf lb sb) 70] ++ R) (fun x => x.1.1) ⟨(b - a, d1), h1, Nat.le_refl _, by rw [h3]; rfl⟩ xB (xN) (fun ⟨(k, d2), k1, k2, k3⟩ => ?_)
    dsimp only at k1 k2 k3 ⊢
    cases k with
    | succ k =>
      have q1 : decide ((0 : Int) ≤ ((k + 1 : Nat) : Int) - 1) = true := decide_eq_true (by omega)
      have cw := S.swap d2 k1 a (a + k) (by omega) (by omega)
      have cs := sift_ct S (swp d2 a (a + k)) (by rw [size_swp]; exact k1) 0 k a (by omega) (by omega)
      rw [heapPop_succ] at k3
      repeat' (first 
    | (refine is_call ?_; refine KJ_call xE cs xP rfl (fun _ => ?_))
    | (refine is_callV ?_; refine KJ_swap rfl rfl rfl cw xP rfl ?_)
    | (refine ek_move ?_; refine EK_ev (Ev_move_v (v' := .int .i64 (k : Nat)) rfl (by first | exact congrArg _ (by omega) | fail)) ?_)
    | (refine ek_add ?_; refine EK_ev (Ev_addI_v (r := ((a + k : Nat) : Int)) rfl rfl (by omega) (by omega)) ?_)
    | (refine ek_sub ?_; refine EK_ev (Ev_subI_v (r := ((k : Nat) : Int) - 1) rfl rfl (by omega) (by omega)) ?_)
    | (refine ek_geq ?_; refine EK_ev (Ev_geqI_q rfl rfl q1) ?_)
    | refine xst ?_
    | (refine xsa ?_; intro _)
    | (refine xsb ?_ ?_ <;> intro _ <;> first | (exfalso; omega) | skip)
    | refine xsc ?_
    | fail)
      refine KJ_again ⟨(k, siftDown lt k a 0 (swp d2 a (a + k))), by rw [siftDown_size _ _ _ _ _ (Nat.le_refl _), size_swp]; exact k1, by dsimp only; omega, k3⟩ (by dsimp only; omega) xB (xN)
    | zero =>
      rw [heapPop_zero] at k3
      repeat' (first 
    | (refine ek_geq ?_; refine EK_ev (Ev_geqI_q rfl rfl q1) ?_)
    | refine xst ?_
    | (refine xsa ?_; intro _)
    | (refine xsb ?_ ?_ <;> intro _ <;> first | (exfalso; omega) | skip)
    | refine xsc ?_
    | fail)
      all_goals exact xdn () (hE := by rw [← k3]; exact (xN))
theorem reverseLoop_eq (i j : Nat) (d : Array α) : reverseLoop i j d = if i < j then reverseLoop (i + 1) (j - 1) (swp d i j) else d := by rw [reverseLoop]
omit [FnIs Try.prog g] in
set_option maxHeartbeats 4000000 in
theorem rev_ct (S : SoOk Try.prog W g sf lb sb lt n D) (d : Array α) (hd : d.size = n) (a b : Nat) (hab : a < b) (hb : b ≤ n) :
    Ct Try.prog W 39 [lsV g sf lb sb, .int .i64 (a : Nat), .int .i64 (b : Nat)] [D d] (fun _ : Unit => .tuple #[]) (fun _ => [D (reverseRange d a b)]) := by
  have hn := S.small
  refine Ct.enter Try.func39 rfl Try.ntmps39 (by simp) (fun R => ?_)
  repeat' (first 
    | (refine is_box ?_; refine KJ_box rfl xF rfl (fun gd => ?_))
    | (refine ek_sub ?_; refine EK_ev (Ev_subI_v (r := ((b - 1 : Nat) : Int)) rfl rfl (by omega) (by omega)) ?_)
    | refine xst ?_
    | (refine xsa ?_; intro _)
    | (refine xsb ?_ ?_ <;> intro _ <;> first | (exfalso; omega) | skip)
    | refine xsc ?_
    | fail)
  refine KJ_loop (fun x : {x : Nat × Nat × Array α // x.2.2.size = n ∧ x.1 ≤ n ∧ x.2.1 < n ∧ reverseLoop x.1 x.2.1 x.2.2 = reverseRange d a b} => [(3, .pointer (some ⟨gd, 0, none⟩)), (6, .int .i64 (x.1.1 : Nat)), (7, .int .i64 (x.1.2.1 : Nat))])
    (fun x => [D x.1.2.2, cellsP gd (lsC g sf lb sb) 70] ++ R) (fun x => x.1.2.1 - x.1.1) ⟨(a, b - 1, d), hd, by dsimp only; omega, by dsimp only; omega, rfl⟩ xB (xN) (fun ⟨(i, j, d1), h1, h2, h4, h3⟩ => ?_)
  dsimp only at h1 h2 h3 h4 ⊢
  rw [reverseLoop_eq] at h3
  by_cases hlt : i < j
  · rw [if_pos hlt] at h3
    have q1 : decide ((i : Int) < (j : Int)) = true := decide_eq_true (by omega)
    have cw := S.swap d1 h1 i j (by omega) (by omega)
    repeat' (first 
    | (refine is_callV ?_; refine KJ_swap rfl rfl rfl cw xP rfl ?_)
    | (refine ek_add ?_; refine EK_ev (Ev_addI_v (r := ((i + 1 : Nat) : Int)) rfl rfl (by omega) (by omega)) ?_)
    | (refine ek_sub ?_; refine EK_ev (Ev_subI_v (r := ((j - 1 : Nat) : Int)) rfl rfl (by omega) (by omega)) ?_)
    | (refine ek_lss ?_; refine EK_ev (Ev_lssI_q rfl rfl q1) ?_)
    | refine xst ?_
    | (refine xsa ?_; intro _)
    | (refine xsb ?_ ?_ <;> intro _ <;> first | (exfalso; omega) | skip)
    | refine xsc ?_
    | fail)
    refine KJ_again ⟨(i + 1, j - 1, swp d1 i j), by rw [size_swp]; exact h1, by dsimp only; omega, by dsimp only; omega, h3⟩ (by dsimp only; omega) xB (xN)
  · rw [if_neg hlt] at h3
    have q1 : decide ((i : Int) < (j : Int)) = false := decide_eq_false (by omega)
    repeat' (first 
    | (refine ek_lss ?_; refine EK_ev (Ev_lssI_q rfl rfl q1) ?_)
    | refine xst ?_
    | (refine xsa ?_; intro _)
    | (refine xsb ?_ ?_ <;> intro _ <;> first | (exfalso; omega) | skip)
    | refine xsc ?_
    | fail)
    all_goals exact xdn () (hE := by rw [← h3]; exact (xN))
end
end Go.Proofs.Ytmlnegmabfnaaaa
/-
  sort.Slice's own functions, by contract: order2_func, median_func, medianAdjacent_func, choosePivot_func, the partitions.
-/
namespace Go.Proofs.Ytmlnegmabfnaaaa
open Go Go.RowKit Go.Sort
section
variable {W : World} {α : Type} [Inhabited α] {g sf : FuncId} {lb sb : List Value} {lt : α → α → Bool} {n : Nat} {D : Array α → SP} [FnIs Try.prog g]
theorem order2_in {a b : Nat} (d : Array α) (s : Nat) (ha : a < n) (hb : b < n) : (order2 lt d a b s).1 < n ∧ (order2 lt d a b s).2.1 < n ∧ (order2 lt d a b s).2.2 ≤ s + 1 := by
  unfold order2; split <;> (dsimp only; omega)
set_option maxHeartbeats 2000000 in
theorem order2_ct (S : SoOk Try.prog W g sf lb sb lt n D) (d : Array α) (hd : d.size = n) (a b : Nat) (ha : a < n) (hb : b < n) (sp s : Nat) (hs : s < 1000) :
    Ct Try.prog W 48 [lsV g sf lb sb, .int .i64 (a : Nat), .int .i64 (b : Nat), .pointer (some ⟨sp, 0, none⟩)] [D d, cellsP sp [.int .i64 (s : Nat)] 3] (fun _ : Unit => .tuple #[.int .i64 ((order2 lt d a b s).1 : Nat), .int .i64 ((order2 lt d a b s).2.1 : Nat)]) (fun _ => [D d, cellsP sp [.int .i64 ((order2 lt d a b s).2.2 : Nat)] 3]) := by
  have hn := S.small
  have cl := S.less d hd b a hb ha
  unfold order2
  cases hl : lt d[b]! d[a]! with
  | true =>
    rw [hl] at cl
    simp only [if_true]
    refine Ct.enter Try.func48 rfl Try.ntmps48 (by simp) (fun R => ?_)
    repeat' (first 
    | (refine is_box ?_; refine KJ_box rfl xF rfl (fun gd => ?_))
    | (refine is_callV ?_; refine KJ_less rfl rfl rfl cl xP rfl (fun _ => ?_))
    | (refine ek_add ?_; refine EK_ev (Ev_addI_v (r := ((s + 1 : Nat) : Int)) rfl rfl (by omega) (by omega)) ?_)
    | refine xst ?_
    | (refine xsa ?_; intro _)
    | (refine xsb ?_ ?_ <;> intro _ <;> first | (exfalso; omega) | skip)
    | refine xsc ?_
    | fail)
    all_goals (exact xdn ())
  | false =>
    rw [hl] at cl
    simp only [Bool.false_eq_true, if_false]
    refine Ct.enter Try.func48 rfl Try.ntmps48 (by simp) (fun R => ?_)
    repeat' (first 
    | (refine is_box ?_; refine KJ_box rfl xF rfl (fun gd => ?_))
    | (refine is_callV ?_; refine KJ_less rfl rfl rfl cl xP rfl (fun _ => ?_))
    | refine xst ?_
    | (refine xsa ?_; intro _)
    | (refine xsb ?_ ?_ <;> intro _ <;> first | (exfalso; omega) | skip)
    | refine xsc ?_
    | fail)
    all_goals (exact xdn ())
set_option maxHeartbeats 2000000 in
theorem median_ct (S : SoOk Try.prog W g sf lb sb lt n D) (d : Array α) (hd : d.size = n) (a b c : Nat) (ha : a < n) (hb : b < n) (hc : c < n) (sp s : Nat) (hs : s < 900) :
    Ct Try.prog W 47 [lsV g sf lb sb, .int .i64 (a : Nat), .int .i64 (b : Nat), .int .i64 (c : Nat), .pointer (some ⟨sp, 0, none⟩)] [D d, cellsP sp [.int .i64 (s : Nat)] 3] (fun _ : Unit => .int .i64 ((median lt d a b c s).1 : Nat)) (fun _ => [D d, cellsP sp [.int .i64 ((median lt d a b c s).2 : Nat)] 3]) := by
  have hn := S.small
  unfold median
  dsimp only
  have i1 := order2_in (lt := lt) (n := n) d s ha hb
  have c1 := order2_ct S d hd a b ha hb sp s (by omega)
  obtain ⟨⟨a1, b1, s1⟩, e1⟩ : ∃ x, x = order2 lt d a b s := ⟨_, rfl⟩
  rw [← e1] at i1 c1 ⊢
  dsimp only at i1 c1 ⊢
  have i2 := order2_in (lt := lt) (n := n) d s1 i1.2.1 hc
  have c2 := order2_ct S d hd b1 c i1.2.1 hc sp s1 (by omega)
  obtain ⟨⟨b2, c2', s2⟩, e2⟩ : ∃ x, x = order2 lt d b1 c s1 := ⟨_, rfl⟩
  rw [← e2] at i2 c2 ⊢
  dsimp only at i2 c2 ⊢
  have i3 := order2_in (lt := lt) (n := n) d s2 i1.1 i2.1
  have c3 := order2_ct S d hd a1 b2 i1.1 i2.1 sp s2 (by omega)
  obtain ⟨⟨a3, b3, s3⟩, e3⟩ : ∃ x, x = order2 lt d a1 b2 s2 := ⟨_, rfl⟩
  rw [← e3] at i3 c3 ⊢
  dsimp only at i3 c3 ⊢
  clear e1 e2 e3
  refine Ct.enter Try.func47 rfl Try.ntmps47 (by simp) (fun R => ?_)
  repeat' (first 
    | (refine is_box ?_; refine KJ_box rfl xF rfl (fun gd => ?_))
    | (refine is_call ?_; first | (refine KJ_call (d := 32) xE c3 xP rfl (fun _ => ?_)) | (refine KJ_call (d := 24) xE c2 xP rfl (fun _ => ?_)) | (refine KJ_call (d := 16) xE c1 xP rfl (fun _ => ?_)))
    | refine xst ?_
    | (refine xsa ?_; intro _)
    | (refine xsb ?_ ?_ <;> intro _ <;> first | (exfalso; omega) | skip)
    | refine xsc ?_
    | fail)
  all_goals (exact xdn ())
theorem median_in {a b c : Nat} (d : Array α) (s : Nat) (ha : a < n) (hb : b < n) (hc : c < n) : (median lt d a b c s).1 < n ∧ (median lt d a b c s).2 ≤ s + 3 := by
  unfold median
  dsimp only
  have i1 := order2_in (lt := lt) (n := n) d s ha hb
  have i2 := order2_in (lt := lt) (n := n) d (order2 lt d a b s).2.2 i1.2.1 hc
  have i3 := order2_in (lt := lt) (n := n) d (order2 lt d (order2 lt d a b s).2.1 c (order2 lt d a b s).2.2).2.2 i1.1 i2.1
  omega
set_option maxHeartbeats 2000000 in
theorem medadj_ct (S : SoOk Try.prog W g sf lb sb lt n D) (d : Array α) (hd : d.size = n) (a : Nat) (ha : 1 ≤ a) (hb : a + 1 < n) (sp s : Nat) (hs : s < 800) :
    Ct Try.prog W 46 [lsV g sf lb sb, .int .i64 (a : Nat), .pointer (some ⟨sp, 0, none⟩)] [D d, cellsP sp [.int .i64 (s : Nat)] 3] (fun _ : Unit => .int .i64 ((medianAdjacent lt d a s).1 : Nat)) (fun _ => [D d, cellsP sp [.int .i64 ((medianAdjacent lt d a s).2 : Nat)] 3]) := by
  have hn := S.small
  have c1 := median_ct S d hd (a - 1) a (a + 1) (by omega) (by omega) hb sp s (by omega)
  unfold medianAdjacent
  refine Ct.enter Try.func46 rfl Try.ntmps46 (by simp) (fun R => ?_)
  repeat' (first 
    | (refine is_box ?_; refine KJ_box rfl xF rfl (fun gd => ?_))
    | (refine is_call ?_; refine KJ_call xE c1 xP rfl (fun _ => ?_))
    | (refine ek_add ?_; refine EK_ev (Ev_addI_v (r := ((a + 1 : Nat) : Int)) rfl rfl (by omega) (by omega)) ?_)
    | (refine ek_sub ?_; refine EK_ev (Ev_subI_v (r := ((a - 1 : Nat) : Int)) rfl rfl (by omega) (by omega)) ?_)
    | refine xst ?_
    | (refine xsa ?_; intro _)
    | (refine xsb ?_ ?_ <;> intro _ <;> first | (exfalso; omega) | skip)
    | refine xsc ?_
    | fail)
  all_goals (exact xdn ())
def hintI : Hint → Int
  | .unknown => 0
  | .increasing => 1
  | .decreasing => 2
def pivR (lt : α → α → Bool) (d : Array α) (a l : Nat) : Nat × Nat :=
  if l ≥ 8 then
    if l ≥ 50 then
      median lt d (medianAdjacent lt d (a + l / 4) 0).1 (medianAdjacent lt d (a + l / 4 * 2) (medianAdjacent lt d (a + l / 4) 0).2).1 (medianAdjacent lt d (a + l / 4 * 3) (medianAdjacent lt d (a + l / 4 * 2) (medianAdjacent lt d (a + l / 4) 0).2).2).1 (medianAdjacent lt d (a + l / 4 * 3) (medianAdjacent lt d (a + l / 4 * 2) (medianAdjacent lt d (a + l / 4) 0).2).2).2
    else median lt d (a + l / 4) (a + l / 4 * 2) (a + l / 4 * 3) 0
  else (a + l / 4 * 2, 0)
theorem choosePivot_eq (d : Array α) (a b : Nat) : choosePivot lt d a b = ((pivR lt d a (b - a)).1, if (pivR lt d a (b - a)).2 = 0 then .increasing else if (pivR lt d a (b - a)).2 = 12 then .decreasing else .unknown) := by
  unfold choosePivot pivR
  simp only [Nat.mul_one]
set_option maxHeartbeats 8000000 in
theorem pivot_ct (S : SoOk Try.prog W g sf lb sb lt n D) (d : Array α) (hd : d.size = n) (a b : Nat) (hab : a < b) (hb : b ≤ n) :
    Ct Try.prog W 38 [lsV g sf lb sb, .int .i64 (a : Nat), .int .i64 (b : Nat)] [D d] (fun _ : Unit => .tuple #[.int .i64 ((choosePivot lt d a b).1 : Nat), .int .i64 (hintI (choosePivot lt d a b).2)]) (fun _ => [D d]) := by
  have hn := S.small
  rw [choosePivot_eq]
  dsimp only
  obtain ⟨⟨pj, ps⟩, hp⟩ : ∃ x, x = pivR lt d a (b - a) := ⟨_, rfl⟩
  rw [← hp]
  dsimp only
  refine Ct.enter Try.func38 rfl Try.ntmps38 (by simp) (fun R => ?_)
  apply KJ_rest (fun K => ∀ sp : Nat, KJ W 57 K [(11, .int .i64 (pj : Nat)), (9, .pointer (some ⟨sp, 0, none⟩))] ([D d, cellsP sp [.int .i64 (ps : Nat)] 3] ++ R))
  · intro rest
    have w1 : ((b - a : Nat) : Int) / 4 = (((b - a) / 4 : Nat) : Int) := by omega
    by_cases h8 : 8 ≤ b - a
    · have q8 : decide ((8 : Int) ≤ ((b - a : Nat) : Int)) = true := decide_eq_true (by omega)
      by_cases h50 : 50 ≤ b - a
      · have q50 : decide ((50 : Int) ≤ ((b - a : Nat) : Int)) = true := decide_eq_true (by omega)
        unfold pivR at hp
        rw [if_pos h8, if_pos h50] at hp
        have i1 := median_in (lt := lt) (n := n) (a := a + (b - a) / 4 - 1) (b := a + (b - a) / 4) (c := a + (b - a) / 4 + 1) d 0 (by omega) (by omega) (by omega)
        have c1 := fun sp => medadj_ct S d hd (a + (b - a) / 4) (by omega) (by omega) sp 0 (by omega)
        change (medianAdjacent lt d (a + (b - a) / 4) 0).1 < n ∧ (medianAdjacent lt d (a + (b - a) / 4) 0).2 ≤ 0 + 3 at i1
        obtain ⟨⟨m1, s1⟩, e1⟩ : ∃ x, x = medianAdjacent lt d (a + (b - a) / 4) 0 := ⟨_, rfl⟩
        rw [← e1] at hp i1
        simp only [← e1] at c1
        dsimp only at hp i1 c1
        have i2 := median_in (lt := lt) (n := n) (a := a + (b - a) / 4 * 2 - 1) (b := a + (b - a) / 4 * 2) (c := a + (b - a) / 4 * 2 + 1) d s1 (by omega) (by omega) (by omega)
        have c2 := fun sp => medadj_ct S d hd (a + (b - a) / 4 * 2) (by omega) (by omega) sp s1 (by omega)
        change (medianAdjacent lt d (a + (b - a) / 4 * 2) s1).1 < n ∧ (medianAdjacent lt d (a + (b - a) / 4 * 2) s1).2 ≤ s1 + 3 at i2
        obtain ⟨⟨m2, s2⟩, e2⟩ : ∃ x, x = medianAdjacent lt d (a + (b - a) / 4 * 2) s1 := ⟨_, rfl⟩
        rw [← e2] at hp i2
        simp only [← e2] at c2
        dsimp only at hp i2 c2
        have i3 := median_in (lt := lt) (n := n) (a := a + (b - a) / 4 * 3 - 1) (b := a + (b - a) / 4 * 3) (c := a + (b - a) / 4 * 3 + 1) d s2 (by omega) (by omega) (by omega)
        have c3 := fun sp => medadj_ct S d hd (a + (b - a) / 4 * 3) (by omega) (by omega) sp s2 (by omega)
        change (medianAdjacent lt d (a + (b - a) / 4 * 3) s2).1 < n ∧ (medianAdjacent lt d (a + (b - a) / 4 * 3) s2).2 ≤ s2 + 3 at i3
        obtain ⟨⟨m3, s3⟩, e3⟩ : ∃ x, x = medianAdjacent lt d (a + (b - a) / 4 * 3) s2 := ⟨_, rfl⟩
        rw [← e3] at hp i3
        simp only [← e3] at c3
        dsimp only at hp i3 c3
        have c4 := fun sp => median_ct S d hd m1 m2 m3 i1.1 i2.1 i3.1 sp s3 (by omega)
        simp only [← hp] at c4
        clear e1 e2 e3 hp
        repeat' (first 
    | (refine at_seq_region (id := 12) ?_; exact KJ.weak (rest sp) xB (xN))
    | (refine is_alloc ?_; refine KJ_alloc rfl (fun sp => ?_))
    | (refine is_box ?_; refine KJ_box rfl xF rfl (fun gd => ?_))
    | (refine is_call ?_; first | (refine KJ_call (d := 48) xE (c4 _) xP rfl (fun _ => ?_)) | (refine KJ_call (d := 43) xE (c3 _) xP rfl (fun _ => ?_)) | (refine KJ_call (d := 40) xE (c2 _) xP rfl (fun _ => ?_)) | (refine KJ_call (d := 37) xE (c1 _) xP rfl (fun _ => ?_)))
    | (refine ek_add ?_; first | refine EK_ev (Ev_addI_v (r := ((a + (b - a) / 4 * 3 : Nat) : Int)) rfl rfl (by omega) (by omega)) ?_ | refine EK_ev (Ev_addI_v (r := ((a + (b - a) / 4 * 2 : Nat) : Int)) rfl rfl (by omega) (by omega)) ?_ | refine EK_ev (Ev_addI_v (r := ((a + (b - a) / 4 : Nat) : Int)) rfl rfl (by omega) (by omega)) ?_)
    | (refine ek_sub ?_; refine EK_ev (Ev_subI_v (r := ((b - a : Nat) : Int)) rfl rfl (by omega) (by omega)) ?_)
    | (refine ek_mul ?_; first | refine EK_ev (Ev_mulI_v (r := (((b - a) / 4 * 3 : Nat) : Int)) rfl rfl (by omega) (by omega)) ?_ | refine EK_ev (Ev_mulI_v (r := (((b - a) / 4 * 2 : Nat) : Int)) rfl rfl (by omega) (by omega)) ?_ | refine EK_ev (Ev_mulI_v (r := (((b - a) / 4 : Nat) : Int)) rfl rfl (by omega) (by omega)) ?_)
    | (refine ek_quo ?_; refine EK_ev (Ev_quo_w rfl rfl (by omega) w1) ?_)
    | (refine ek_geq ?_; first | refine EK_ev (Ev_geqI_q rfl rfl q50) ?_ | refine EK_ev (Ev_geqI_q rfl rfl q8) ?_)
    | refine xst ?_
    | (refine xsa ?_; intro _)
    | (refine xsb ?_ ?_ <;> intro _ <;> first | (exfalso; omega) | skip)
    | refine xsc ?_
    | fail)
      · have q50 : decide ((50 : Int) ≤ ((b - a : Nat) : Int)) = false := decide_eq_false (by omega)
        unfold pivR at hp
        rw [if_pos h8, if_neg h50] at hp
        have c4 := fun sp => median_ct S d hd (a + (b - a) / 4) (a + (b - a) / 4 * 2) (a + (b - a) / 4 * 3) (by omega) (by omega) (by omega) sp 0 (by omega)
        simp only [← hp] at c4
        clear hp
        repeat' (first 
    | (refine at_seq_region (id := 12) ?_; exact KJ.weak (rest sp) xB (xN))
    | (refine is_alloc ?_; refine KJ_alloc rfl (fun sp => ?_))
    | (refine is_box ?_; refine KJ_box rfl xF rfl (fun gd => ?_))
    | (refine is_call ?_; refine KJ_call (d := 48) xE (c4 _) xP rfl (fun _ => ?_))
    | (refine ek_add ?_; first | refine EK_ev (Ev_addI_v (r := ((a + (b - a) / 4 * 3 : Nat) : Int)) rfl rfl (by omega) (by omega)) ?_ | refine EK_ev (Ev_addI_v (r := ((a + (b - a) / 4 * 2 : Nat) : Int)) rfl rfl (by omega) (by omega)) ?_ | refine EK_ev (Ev_addI_v (r := ((a + (b - a) / 4 : Nat) : Int)) rfl rfl (by omega) (by omega)) ?_)
    | (refine ek_sub ?_; refine EK_ev (Ev_subI_v (r := ((b - a : Nat) : Int)) rfl rfl (by omega) (by omega)) ?_)
    | (refine ek_mul ?_; first | refine EK_ev (Ev_mulI_v (r := (((b - a) / 4 * 3 : Nat) : Int)) rfl rfl (by omega) (by omega)) ?_ | refine EK_ev (Ev_mulI_v (r := (((b - a) / 4 * 2 : Nat) : Int)) rfl rfl (by omega) (by omega)) ?_ | refine EK_ev (Ev_mulI_v (r := (((b - a) / 4 : Nat) : Int)) rfl rfl (by omega) (by omega)) ?_)
    | (refine ek_quo ?_; refine EK_ev (Ev_quo_w rfl rfl (by omega) w1) ?_)
    | (refine ek_geq ?_; first | refine EK_ev (Ev_geqI_q rfl rfl q50) ?_ | refine EK_ev (Ev_geqI_q rfl rfl q8) ?_)
    | refine xst ?_
    | (refine xsa ?_; intro _)
    | (refine xsb ?_ ?_ <;> intro _ <;> first | (exfalso; omega) | skip)
    | refine xsc ?_
    | fail)
    · have q8 : decide ((8 : Int) ≤ ((b - a : Nat) : Int)) = false := decide_eq_false (by omega)
      unfold pivR at hp
      rw [if_neg h8] at hp
      have e11 : Value.int .i64 ((a + (b - a) / 4 * 2 : Nat) : Int) = .int .i64 ((pj : Nat) : Int) := by rw [show pj = a + (b - a) / 4 * 2 from congrArg Prod.fst hp]
      have e9 : ps = 0 := congrArg Prod.snd hp
      have r0 := rest
      repeat' (first 
    | (refine at_seq_region (id := 12) ?_; refine KJ.asv0 11 rfl e11 ?_; refine KJ.weak (rest sp) xB ?_)
    | (refine is_alloc ?_; refine KJ_alloc rfl (fun sp => ?_))
    | (refine is_box ?_; refine KJ_box rfl xF rfl (fun gd => ?_))
    | (refine ek_add ?_; first | refine EK_ev (Ev_addI_v (r := ((a + (b - a) / 4 * 3 : Nat) : Int)) rfl rfl (by omega) (by omega)) ?_ | refine EK_ev (Ev_addI_v (r := ((a + (b - a) / 4 * 2 : Nat) : Int)) rfl rfl (by omega) (by omega)) ?_ | refine EK_ev (Ev_addI_v (r := ((a + (b - a) / 4 : Nat) : Int)) rfl rfl (by omega) (by omega)) ?_)
    | (refine ek_sub ?_; refine EK_ev (Ev_subI_v (r := ((b - a : Nat) : Int)) rfl rfl (by omega) (by omega)) ?_)
    | (refine ek_mul ?_; first | refine EK_ev (Ev_mulI_v (r := (((b - a) / 4 * 3 : Nat) : Int)) rfl rfl (by omega) (by omega)) ?_ | refine EK_ev (Ev_mulI_v (r := (((b - a) / 4 * 2 : Nat) : Int)) rfl rfl (by omega) (by omega)) ?_ | refine EK_ev (Ev_mulI_v (r := (((b - a) / 4 : Nat) : Int)) rfl rfl (by omega) (by omega)) ?_)
    | (refine ek_quo ?_; refine EK_ev (Ev_quo_w rfl rfl (by omega) w1) ?_)
    | (refine ek_geq ?_; refine EK_ev (Ev_geqI_q rfl rfl q8) ?_)
    | refine xst ?_
    | (refine xsa ?_; intro _)
    | (refine xsb ?_ ?_ <;> intro _ <;> first | (exfalso; omega) | skip)
    | refine xsc ?_
    | fail)
      all_goals (rw [e9]; exact (xN))
  intro sp
  by_cases h0 : ps = 0
  · have q0 : decide (((ps : Nat) : Int) = 0) = true := decide_eq_true (by omega)
    rw [if_pos h0]
    repeat' (first 
    | (refine ek_eql ?_; refine EK_ev (Ev_eqlI_q rfl rfl q0) ?_)
    | refine xst ?_
    | (refine xsa ?_; intro _)
    | (refine xsb ?_ ?_ <;> intro _ <;> first | (exfalso; omega) | skip)
    | refine xsc ?_
    | fail)
    all_goals (exact xdn ())
  · have q0 : decide (((ps : Nat) : Int) = 0) = false := decide_eq_false (by omega)
    rw [if_neg h0]
    by_cases h12 : ps = 12
    · have q12 : decide (((ps : Nat) : Int) = 12) = true := decide_eq_true (by omega)
      rw [if_pos h12]
      repeat' (first 
    | (refine ek_eql ?_; first | refine EK_ev (Ev_eqlI_q rfl rfl q12) ?_ | refine EK_ev (Ev_eqlI_q rfl rfl q0) ?_)
    | refine xst ?_
    | (refine xsa ?_; intro _)
    | (refine xsb ?_ ?_ <;> intro _ <;> first | (exfalso; omega) | skip)
    | refine xsc ?_
    | fail)
      all_goals (exact xdn ())
    · have q12 : decide (((ps : Nat) : Int) = 12) = false := decide_eq_false (by omega)
      rw [if_neg h12]
      repeat' (first 
    | (refine ek_eql ?_; first | refine EK_ev (Ev_eqlI_q rfl rfl q12) ?_ | refine EK_ev (Ev_eqlI_q rfl rfl q0) ?_)
    | refine xst ?_
    | (refine xsa ?_; intro _)
    | (refine xsb ?_ ?_ <;> intro _ <;> first | (exfalso; omega) | skip)
    | refine xsc ?_
    | fail)
      all_goals (exact xdn ())
end
end Go.Proofs.Ytmlnegmabfnaaaa
