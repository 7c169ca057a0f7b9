/-
  SoD2.
-/
import Derived.Test.YtmlnegmabfnaaaaBBD
import Derived.Sort.LotC
/-
  sort.Slice's own functions, by contract: partitionEqual_func, partition_func. (Printed by gensod.py.)
-/
namespace Go.Proofs.Ytmlnegmabfnaaaa
open Go Go.RowKit Go.Sort
section
variable {W : World} {α : Type} [Inhabited α] {g sf : FuncId} {lb sb : List Value} {lt : α → α → Bool} {n : Nat} {D : Array α → SP} [FnIs Try.prog g]
set_option maxHeartbeats 8000000 in
theorem parteq_ct (S : SoOk Try.prog W g sf lb sb lt n D) (d : Array α) (hd : d.size = n) (a b pivot : Nat) (hab : a < b) (hb : b ≤ n) (hp : pivot < n) :
    Ct Try.prog W 41 [lsV g sf lb sb, .int .i64 (a : Nat), .int .i64 (b : Nat), .int .i64 (pivot : Nat)] [D d] (fun _ : Unit => .int .i64 ((partitionEqual lt d a b pivot).1 : Nat)) (fun _ => [D (partitionEqual lt d a b pivot).2]) := by
  have hn := S.small
  have cw := S.swap d hd a pivot (by omega) hp
  unfold partitionEqual
  obtain ⟨d0, hd0⟩ : ∃ x, x = swp d a pivot := ⟨_, rfl⟩
  have zd0 : d0.size = n := by rw [hd0, size_swp]; exact hd
  rw [← hd0] at cw ⊢
  obtain ⟨r, hr⟩ : ∃ r, r = partEqLoop lt a (a + 1) (b - 1) d0 := ⟨_, rfl⟩
  rw [← hr]
  refine Ct.enter Try.func41 rfl Try.ntmps41 (by simp) (fun R => ?_)
  repeat' (first 
    | (refine is_box ?_; refine KJ_box rfl xF rfl (fun gd => ?_))
    | (refine is_callV ?_; refine KJ_swap rfl rfl rfl cw xP rfl ?_)
    | (refine ek_add ?_; refine EK_ev (Ev_addI_v (r := ((a + 1 : Nat) : Int)) rfl rfl (by omega) (by omega)) ?_)
    | (refine ek_sub ?_; refine EK_ev (Ev_subI_v (r := ((b - 1 : Nat) : Int)) rfl rfl (by omega) (by omega)) ?_)
    | refine xst ?_
    | (refine xsa ?_; intro _)
    | (refine xsb ?_ ?_ <;> intro _ <;> first | (exfalso; omega) | skip)
    | refine xsc ?_
    | fail)
  refine KJ_loop (fun x : {x : Nat × Nat × Array α // x.2.2.size = n ∧ a + 1 ≤ x.1 ∧ True ∧ x.2.1 < b ∧ partEqLoop lt a x.1 x.2.1 x.2.2 = r} => [(1, .int .i64 (a : Nat)), (4, .pointer (some ⟨gd, 0, none⟩)), (9, .int .i64 (x.1.1 : Nat)), (10, .int .i64 (x.1.2.1 : Nat))])
    (fun x => [D x.1.2.2, cellsP gd (lsC g sf lb sb) 70] ++ R) (fun x => x.1.2.1 + 1 - x.1.1) ⟨(a + 1, b - 1, d0), zd0, Nat.le_refl _, trivial, by dsimp only; omega, hr.symm⟩ xB (xN) (fun ⟨(i, j, d1), zd1, g1, g2, g3, g4⟩ => ?_)
  dsimp only at zd1 g1 g2 g3 g4 ⊢
  rw [partEqLoop_eq] at g4
  have u1 := scanUp_spec (fun x => !lt d1[a]! x) d1 j _ i rfl
  obtain ⟨iu, hiu⟩ : ∃ x, x = scanUp (fun x => !lt d1[a]! x) d1 j i := ⟨_, rfl⟩
  rw [← hiu] at u1
  have u2 := scanDown_spec (fun x => lt d1[a]! x) d1 iu j
  obtain ⟨jd, hjd⟩ : ∃ x, x = scanDown (fun x => lt d1[a]! x) d1 iu j := ⟨_, rfl⟩
  rw [← hjd] at u2
  have v1 := u1.1
  have v3 := u2.1
  clear u1 u2
  rw [← hiu, ← hjd] at g4
  apply KJ_rest (fun K => KJ W 58 K [(1, .int .i64 (a : Nat)), (4, .pointer (some ⟨gd, 0, none⟩)), (9, .int .i64 (iu : Nat)), (10, .int .i64 (j : Nat))] ([D d1, cellsP gd (lsC g sf lb sb) 70] ++ R))
  · intro rest
    repeat' (first 
    | refine xst ?_
    | (refine xsa ?_; intro _)
    | (refine xsb ?_ ?_ <;> intro _ <;> first | (exfalso; omega) | skip)
    | refine xsc ?_
    | fail)
    refine KJ_loop (fun x : {x : Nat // i ≤ x ∧ True ∧ scanUp (fun x => !lt d1[a]! x) d1 j x = iu} => [(1, .int .i64 (a : Nat)), (4, .pointer (some ⟨gd, 0, none⟩)), (9, .int .i64 (x.1 : Nat)), (10, .int .i64 (j : Nat))])
      (fun _ => [D d1, cellsP gd (lsC g sf lb sb) 70] ++ R) (fun x => j + 1 - x.1) ⟨i, Nat.le_refl _, trivial, hiu.symm⟩ xB (xN) (fun ⟨y, k1, k2, k3⟩ => ?_)
    dsimp only at k1 k2 k3 ⊢
    by_cases hle : y ≤ j
    · have q2 : decide (((y : Nat) : Int) ≤ ((j : Nat) : Int)) = true := decide_eq_true (by omega)
      have cl := S.less d1 zd1 a y (by omega) (by omega)
      cases hl : lt d1[a]! d1[y]! with
      | false =>
        rw [hl] at cl
        rw [scanUp_go hle (by simp [hl])] at k3
        repeat' (first 
    | (refine is_callV ?_; refine KJ_less rfl rfl rfl cl xP rfl (fun _ => ?_))
    | (refine ek_add ?_; refine EK_ev (Ev_addI_v (r := ((y + 1 : Nat) : Int)) rfl rfl (by omega) (by omega)) ?_)
    | (refine ek_leq ?_; refine EK_ev (Ev_leqI_q rfl rfl q2) ?_)
    | refine xst ?_
    | (refine xsa ?_; intro _)
    | (refine xsb ?_ ?_ <;> intro _ <;> first | (exfalso; omega) | skip)
    | refine xsc ?_
    | fail)
        refine KJ_again ⟨y + 1, by omega, trivial, k3⟩ (by dsimp only; omega) xB (xN)
      | true =>
        rw [hl] at cl
        rw [scanUp_stop (fun q => by simp [hl] at q)] at k3
        have e7 : Value.int .i64 ((y : Nat) : Int) = .int .i64 ((iu : Nat) : Int) := by rw [k3]
        repeat' (first 
    | (refine at_seq_block0 (id := 4) ?_; refine KJ.asv0 9 rfl e7 ?_; exact KJ.weak rest xB (xN))
    | (refine is_callV ?_; refine KJ_less rfl rfl rfl cl xP rfl (fun _ => ?_))
    | (refine ek_leq ?_; refine EK_ev (Ev_leqI_q rfl rfl q2) ?_)
    | refine xst ?_
    | (refine xsa ?_; intro _)
    | (refine xsb ?_ ?_ <;> intro _ <;> first | (exfalso; omega) | skip)
    | refine xsc ?_
    | fail)
    · have q2 : decide (((y : Nat) : Int) ≤ ((j : Nat) : Int)) = false := decide_eq_false (by omega)
      rw [scanUp_stop (fun q => hle q.1)] at k3
      have e7 : Value.int .i64 ((y : Nat) : Int) = .int .i64 ((iu : Nat) : Int) := by rw [k3]
      repeat' (first 
    | (refine at_seq_block0 (id := 4) ?_; refine KJ.asv0 9 rfl e7 ?_; exact KJ.weak rest xB (xN))
    | (refine ek_leq ?_; refine EK_ev (Ev_leqI_q rfl rfl q2) ?_)
    | refine xst ?_
    | (refine xsa ?_; intro _)
    | (refine xsb ?_ ?_ <;> intro _ <;> first | (exfalso; omega) | skip)
    | refine xsc ?_
    | fail)
  apply KJ_rest (fun K => KJ W 58 K [(1, .int .i64 (a : Nat)), (4, .pointer (some ⟨gd, 0, none⟩)), (9, .int .i64 (iu : Nat)), (10, .int .i64 (jd : Nat))] ([D d1, cellsP gd (lsC g sf lb sb) 70] ++ R))
  · intro rest
    repeat' (first 
    | refine xst ?_
    | (refine xsa ?_; intro _)
    | (refine xsb ?_ ?_ <;> intro _ <;> first | (exfalso; omega) | skip)
    | refine xsc ?_
    | fail)
    refine KJ_loop (fun x : {x : Nat // x ≤ j ∧ True ∧ scanDown (fun x => lt d1[a]! x) d1 iu x = jd} => [(1, .int .i64 (a : Nat)), (4, .pointer (some ⟨gd, 0, none⟩)), (9, .int .i64 (iu : Nat)), (10, .int .i64 (x.1 : Nat))])
      (fun _ => [D d1, cellsP gd (lsC g sf lb sb) 70] ++ R) (fun x => x.1) ⟨j, Nat.le_refl _, trivial, hjd.symm⟩ xB (xN) (fun ⟨y, k1, k2, k3⟩ => ?_)
    dsimp only at k1 k2 k3 ⊢
    by_cases hle : iu ≤ y
    · have q2 : decide (((iu : Nat) : Int) ≤ ((y : Nat) : Int)) = true := decide_eq_true (by omega)
      have cl := S.less d1 zd1 a y (by omega) (by omega)
      cases hl : lt d1[a]! d1[y]! with
      | true =>
        rw [hl] at cl
        rw [scanDown_go (by omega) hle (by simp [hl])] at k3
        repeat' (first 
    | (refine is_callV ?_; refine KJ_less rfl rfl rfl cl xP rfl (fun _ => ?_))
    | (refine ek_sub ?_; refine EK_ev (Ev_subI_v (r := ((y - 1 : Nat) : Int)) rfl rfl (by omega) (by omega)) ?_)
    | (refine ek_leq ?_; refine EK_ev (Ev_leqI_q rfl rfl q2) ?_)
    | refine xst ?_
    | (refine xsa ?_; intro _)
    | (refine xsb ?_ ?_ <;> intro _ <;> first | (exfalso; omega) | skip)
    | refine xsc ?_
    | fail)
        refine KJ_again ⟨y - 1, by omega, trivial, k3⟩ (by dsimp only; omega) xB (xN)
      | false =>
        rw [hl] at cl
        rw [scanDown_stop (fun q => by simp [hl] at q)] at k3
        have e7 : Value.int .i64 ((y : Nat) : Int) = .int .i64 ((jd : Nat) : Int) := by rw [k3]
        repeat' (first 
    | (refine at_seq_region (id := 7) ?_; refine KJ.asv0 10 rfl e7 ?_; exact KJ.weak rest xB (xN))
    | (refine is_callV ?_; refine KJ_less rfl rfl rfl cl xP rfl (fun _ => ?_))
    | (refine ek_leq ?_; refine EK_ev (Ev_leqI_q rfl rfl q2) ?_)
    | refine xst ?_
    | (refine xsa ?_; intro _)
    | (refine xsb ?_ ?_ <;> intro _ <;> first | (exfalso; omega) | skip)
    | refine xsc ?_
    | fail)
    · have q2 : decide (((iu : Nat) : Int) ≤ ((y : Nat) : Int)) = false := decide_eq_false (by omega)
      rw [scanDown_stop (fun q => hle q.1)] at k3
      have e7 : Value.int .i64 ((y : Nat) : Int) = .int .i64 ((jd : Nat) : Int) := by rw [k3]
      repeat' (first 
    | (refine at_seq_region (id := 7) ?_; refine KJ.asv0 10 rfl e7 ?_; exact KJ.weak rest xB (xN))
    | (refine ek_leq ?_; refine EK_ev (Ev_leqI_q rfl rfl q2) ?_)
    | refine xst ?_
    | (refine xsa ?_; intro _)
    | (refine xsb ?_ ?_ <;> intro _ <;> first | (exfalso; omega) | skip)
    | refine xsc ?_
    | fail)
  by_cases hgt : jd < iu
  · have q3 : decide (((jd : Nat) : Int) < ((iu : Nat) : Int)) = true := decide_eq_true (by omega)
    rw [if_pos hgt] at g4
    repeat' (first 
    | (refine ek_gtr ?_; refine EK_ev (Ev_gtrI_q rfl rfl q3) ?_)
    | refine xst ?_
    | (refine xsa ?_; intro _)
    | (refine xsb ?_ ?_ <;> intro _ <;> first | (exfalso; omega) | skip)
    | refine xsc ?_
    | fail)
    all_goals exact xdn () (hc := by rw [← g4]; rfl) (hE := by rw [← g4]; exact (xN))
  · have q3 : decide (((jd : Nat) : Int) < ((iu : Nat) : Int)) = false := decide_eq_false (by omega)
    rw [if_neg hgt] at g4
    have cs := S.swap d1 zd1 iu jd (by omega) (by omega)
    repeat' (first 
    | (refine is_callV ?_; refine KJ_swap rfl rfl rfl cs xP rfl ?_)
    | (refine ek_add ?_; refine EK_ev (Ev_addI_v (r := ((iu + 1 : Nat) : Int)) rfl rfl (by omega) (by omega)) ?_)
    | (refine ek_sub ?_; refine EK_ev (Ev_subI_v (r := ((jd - 1 : Nat) : Int)) rfl rfl (by omega) (by omega)) ?_)
    | (refine ek_gtr ?_; refine EK_ev (Ev_gtrI_q rfl rfl q3) ?_)
    | refine xst ?_
    | (refine xsa ?_; intro _)
    | (refine xsb ?_ ?_ <;> intro _ <;> first | (exfalso; omega) | skip)
    | refine xsc ?_
    | fail)
    refine KJ_again ⟨(iu + 1, jd - 1, swp d1 iu jd), by rw [size_swp]; exact zd1, by dsimp only; omega, trivial, by dsimp only; omega, g4⟩ (by dsimp only; omega) xB (xN)
theorem partition_eq (d : Array α) (a b pivot : Nat) : partition lt d a b pivot =
    if scanUp (fun x => lt x (swp d a pivot)[a]!) (swp d a pivot) (b - 1) (a + 1) > scanDown (fun x => !lt x (swp d a pivot)[a]!) (swp d a pivot) (scanUp (fun x => lt x (swp d a pivot)[a]!) (swp d a pivot) (b - 1) (a + 1)) (b - 1) then
      (scanDown (fun x => !lt x (swp d a pivot)[a]!) (swp d a pivot) (scanUp (fun x => lt x (swp d a pivot)[a]!) (swp d a pivot) (b - 1) (a + 1)) (b - 1), true, swp (swp d a pivot) (scanDown (fun x => !lt x (swp d a pivot)[a]!) (swp d a pivot) (scanUp (fun x => lt x (swp d a pivot)[a]!) (swp d a pivot) (b - 1) (a + 1)) (b - 1)) a)
    else ((partLoop lt a (scanUp (fun x => lt x (swp d a pivot)[a]!) (swp d a pivot) (b - 1) (a + 1) + 1) (scanDown (fun x => !lt x (swp d a pivot)[a]!) (swp d a pivot) (scanUp (fun x => lt x (swp d a pivot)[a]!) (swp d a pivot) (b - 1) (a + 1)) (b - 1) - 1) (swp (swp d a pivot) (scanUp (fun x => lt x (swp d a pivot)[a]!) (swp d a pivot) (b - 1) (a + 1)) (scanDown (fun x => !lt x (swp d a pivot)[a]!) (swp d a pivot) (scanUp (fun x => lt x (swp d a pivot)[a]!) (swp d a pivot) (b - 1) (a + 1)) (b - 1)))).1, false,
      swp (partLoop lt a (scanUp (fun x => lt x (swp d a pivot)[a]!) (swp d a pivot) (b - 1) (a + 1) + 1) (scanDown (fun x => !lt x (swp d a pivot)[a]!) (swp d a pivot) (scanUp (fun x => lt x (swp d a pivot)[a]!) (swp d a pivot) (b - 1) (a + 1)) (b - 1) - 1) (swp (swp d a pivot) (scanUp (fun x => lt x (swp d a pivot)[a]!) (swp d a pivot) (b - 1) (a + 1)) (scanDown (fun x => !lt x (swp d a pivot)[a]!) (swp d a pivot) (scanUp (fun x => lt x (swp d a pivot)[a]!) (swp d a pivot) (b - 1) (a + 1)) (b - 1)))).2
        (partLoop lt a (scanUp (fun x => lt x (swp d a pivot)[a]!) (swp d a pivot) (b - 1) (a + 1) + 1) (scanDown (fun x => !lt x (swp d a pivot)[a]!) (swp d a pivot) (scanUp (fun x => lt x (swp d a pivot)[a]!) (swp d a pivot) (b - 1) (a + 1)) (b - 1) - 1) (swp (swp d a pivot) (scanUp (fun x => lt x (swp d a pivot)[a]!) (swp d a pivot) (b - 1) (a + 1)) (scanDown (fun x => !lt x (swp d a pivot)[a]!) (swp d a pivot) (scanUp (fun x => lt x (swp d a pivot)[a]!) (swp d a pivot) (b - 1) (a + 1)) (b - 1)))).1 a) := rfl
set_option maxHeartbeats 16000000 in
theorem part_ct (S : SoOk Try.prog W g sf lb sb lt n D) (d : Array α) (hd : d.size = n) (a b pivot : Nat) (hab : a < b) (hb : b ≤ n) (hp : pivot < n) :
    Ct Try.prog W 42 [lsV g sf lb sb, .int .i64 (a : Nat), .int .i64 (b : Nat), .int .i64 (pivot : Nat)] [D d] (fun _ : Unit => .tuple #[.int .i64 ((partition lt d a b pivot).1 : Nat), .bool (partition lt d a b pivot).2.1]) (fun _ => [D (partition lt d a b pivot).2.2]) := by
  have hn := S.small
  have cw := S.swap d hd a pivot (by omega) hp
  rw [partition_eq]
  obtain ⟨d0, hd0⟩ : ∃ x, x = swp d a pivot := ⟨_, rfl⟩
  have zd0 : d0.size = n := by rw [hd0, size_swp]; exact hd
  rw [← hd0] at cw ⊢
  obtain ⟨i0, hi0⟩ : ∃ x, x = a + 1 := ⟨_, rfl⟩
  obtain ⟨j0, hj0⟩ : ∃ x, x = b - 1 := ⟨_, rfl⟩
  rw [← hi0, ← hj0]
  have u1 := scanUp_spec (fun x => lt x d0[a]!) d0 j0 _ i0 rfl
  obtain ⟨iu, hiu⟩ : ∃ x, x = scanUp (fun x => lt x d0[a]!) d0 j0 i0 := ⟨_, rfl⟩
  rw [← hiu] at u1
  have u2 := scanDown_spec (fun x => !lt x d0[a]!) d0 iu j0
  obtain ⟨jd, hjd⟩ : ∃ x, x = scanDown (fun x => !lt x d0[a]!) d0 iu j0 := ⟨_, rfl⟩
  rw [← hjd] at u2
  have v1 := u1.1
  have v3 := u2.1
  clear u1 u2
  rw [← hiu, ← hjd]
  refine Ct.enter Try.func42 rfl Try.ntmps42 (by simp) (fun R => ?_)
  apply KJ_rest (fun K => ∀ gd : Nat, KJ W 107 K [(1, .int .i64 (a : Nat)), (4, .pointer (some ⟨gd, 0, none⟩)), (10, .int .i64 (i0 : Nat)), (11, .int .i64 (j0 : Nat))] ([D d0, cellsP gd (lsC g sf lb sb) 70] ++ R))
  · intro rest
    repeat' (first 
    | (refine at_seq_block0 (id := 0) ?_; exact KJ.weak (rest gd) xB (xN))
    | (refine is_box ?_; refine KJ_box rfl xF rfl (fun gd => ?_))
    | (refine is_callV ?_; refine KJ_swap rfl rfl rfl cw xP rfl ?_)
    | (refine ek_add ?_; refine EK_ev (Ev_addI_v (r := ((i0 : Nat) : Int)) rfl rfl (by omega) (by omega)) ?_)
    | (refine ek_sub ?_; refine EK_ev (Ev_subI_v (r := ((j0 : Nat) : Int)) rfl rfl (by omega) (by omega)) ?_)
    | refine xst ?_
    | (refine xsa ?_; intro _)
    | (refine xsb ?_ ?_ <;> intro _ <;> first | (exfalso; omega) | skip)
    | refine xsc ?_
    | fail)
  intro gd
  apply KJ_rest (fun K => KJ W 107 K [(1, .int .i64 (a : Nat)), (4, .pointer (some ⟨gd, 0, none⟩)), (10, .int .i64 (iu : Nat)), (11, .int .i64 (j0 : Nat))] ([D d0, cellsP gd (lsC g sf lb sb) 70] ++ R))
  · intro rest
    repeat' (first 
    | refine xst ?_
    | (refine xsa ?_; intro _)
    | (refine xsb ?_ ?_ <;> intro _ <;> first | (exfalso; omega) | skip)
    | refine xsc ?_
    | fail)
    refine KJ_loop (fun x : {x : Nat // i0 ≤ x ∧ True ∧ scanUp (fun x => lt x d0[a]!) d0 j0 x = iu} => [(1, .int .i64 (a : Nat)), (4, .pointer (some ⟨gd, 0, none⟩)), (10, .int .i64 (x.1 : Nat)), (11, .int .i64 (j0 : Nat))])
      (fun _ => [D d0, cellsP gd (lsC g sf lb sb) 70] ++ R) (fun x => j0 + 1 - x.1) ⟨i0, Nat.le_refl _, trivial, hiu.symm⟩ xB (xN) (fun ⟨y, k1, k2, k3⟩ => ?_)
    dsimp only at k1 k2 k3 ⊢
    by_cases hle : y ≤ j0
    · have q2 : decide (((y : Nat) : Int) ≤ ((j0 : Nat) : Int)) = true := decide_eq_true (by omega)
      have cl := S.less d0 zd0 y a (by omega) (by omega)
      cases hl : lt d0[y]! d0[a]! with
      | true =>
        rw [hl] at cl
        rw [scanUp_go hle (by simp [hl])] at k3
        repeat' (first 
    | (refine is_callV ?_; refine KJ_less rfl rfl rfl cl xP rfl (fun _ => ?_))
    | (refine ek_add ?_; refine EK_ev (Ev_addI_v (r := ((y + 1 : Nat) : Int)) rfl rfl (by omega) (by omega)) ?_)
    | (refine ek_leq ?_; refine EK_ev (Ev_leqI_q rfl rfl q2) ?_)
    | refine xst ?_
    | (refine xsa ?_; intro _)
    | (refine xsb ?_ ?_ <;> intro _ <;> first | (exfalso; omega) | skip)
    | refine xsc ?_
    | fail)
        refine KJ_again ⟨y + 1, by omega, trivial, k3⟩ (by dsimp only; omega) xB (xN)
      | false =>
        rw [hl] at cl
        rw [scanUp_stop (fun q => by simp [hl] at q)] at k3
        have e7 : Value.int .i64 ((y : Nat) : Int) = .int .i64 ((iu : Nat) : Int) := by rw [k3]
        repeat' (first 
    | (refine at_seq_block0 (id := 2) ?_; refine KJ.asv0 10 rfl e7 ?_; exact KJ.weak rest xB (xN))
    | (refine is_callV ?_; refine KJ_less rfl rfl rfl cl xP rfl (fun _ => ?_))
    | (refine ek_leq ?_; refine EK_ev (Ev_leqI_q rfl rfl q2) ?_)
    | refine xst ?_
    | (refine xsa ?_; intro _)
    | (refine xsb ?_ ?_ <;> intro _ <;> first | (exfalso; omega) | skip)
    | refine xsc ?_
    | fail)
    · have q2 : decide (((y : Nat) : Int) ≤ ((j0 : Nat) : Int)) = false := decide_eq_false (by omega)
      rw [scanUp_stop (fun q => hle q.1)] at k3
      have e7 : Value.int .i64 ((y : Nat) : Int) = .int .i64 ((iu : Nat) : Int) := by rw [k3]
      repeat' (first 
    | (refine at_seq_block0 (id := 2) ?_; refine KJ.asv0 10 rfl e7 ?_; exact KJ.weak rest xB (xN))
    | (refine ek_leq ?_; refine EK_ev (Ev_leqI_q rfl rfl q2) ?_)
    | refine xst ?_
    | (refine xsa ?_; intro _)
    | (refine xsb ?_ ?_ <;> intro _ <;> first | (exfalso; omega) | skip)
    | refine xsc ?_
    | fail)
  apply KJ_rest (fun K => KJ W 107 K [(1, .int .i64 (a : Nat)), (4, .pointer (some ⟨gd, 0, none⟩)), (10, .int .i64 (iu : Nat)), (11, .int .i64 (jd : Nat))] ([D d0, cellsP gd (lsC g sf lb sb) 70] ++ R))
  · intro rest
    repeat' (first 
    | refine xst ?_
    | (refine xsa ?_; intro _)
    | (refine xsb ?_ ?_ <;> intro _ <;> first | (exfalso; omega) | skip)
    | refine xsc ?_
    | fail)
    refine KJ_loop (fun x : {x : Nat // x ≤ j0 ∧ True ∧ scanDown (fun x => !lt x d0[a]!) d0 iu x = jd} => [(1, .int .i64 (a : Nat)), (4, .pointer (some ⟨gd, 0, none⟩)), (10, .int .i64 (iu : Nat)), (11, .int .i64 (x.1 : Nat))])
      (fun _ => [D d0, cellsP gd (lsC g sf lb sb) 70] ++ R) (fun x => x.1) ⟨j0, Nat.le_refl _, trivial, hjd.symm⟩ xB (xN) (fun ⟨y, k1, k2, k3⟩ => ?_)
    dsimp only at k1 k2 k3 ⊢
    by_cases hle : iu ≤ y
    · have q2 : decide (((iu : Nat) : Int) ≤ ((y : Nat) : Int)) = true := decide_eq_true (by omega)
      have cl := S.less d0 zd0 y a (by omega) (by omega)
      cases hl : lt d0[y]! d0[a]! with
      | false =>
        rw [hl] at cl
        rw [scanDown_go (by omega) hle (by simp [hl])] at k3
        repeat' (first 
    | (refine is_callV ?_; refine KJ_less rfl rfl rfl cl xP rfl (fun _ => ?_))
    | (refine ek_sub ?_; refine EK_ev (Ev_subI_v (r := ((y - 1 : Nat) : Int)) rfl rfl (by omega) (by omega)) ?_)
    | (refine ek_leq ?_; refine EK_ev (Ev_leqI_q rfl rfl q2) ?_)
    | refine xst ?_
    | (refine xsa ?_; intro _)
    | (refine xsb ?_ ?_ <;> intro _ <;> first | (exfalso; omega) | skip)
    | refine xsc ?_
    | fail)
        refine KJ_again ⟨y - 1, by omega, trivial, k3⟩ (by dsimp only; omega) xB (xN)
      | true =>
        rw [hl] at cl
        rw [scanDown_stop (fun q => by simp [hl] at q)] at k3
        have e7 : Value.int .i64 ((y : Nat) : Int) = .int .i64 ((jd : Nat) : Int) := by rw [k3]
        repeat' (first 
    | (refine at_seq_region (id := 7) ?_; refine KJ.asv0 11 rfl e7 ?_; exact KJ.weak rest xB (xN))
    | (refine is_callV ?_; refine KJ_less rfl rfl rfl cl xP rfl (fun _ => ?_))
    | (refine ek_leq ?_; refine EK_ev (Ev_leqI_q rfl rfl q2) ?_)
    | refine xst ?_
    | (refine xsa ?_; intro _)
    | (refine xsb ?_ ?_ <;> intro _ <;> first | (exfalso; omega) | skip)
    | refine xsc ?_
    | fail)
    · have q2 : decide (((iu : Nat) : Int) ≤ ((y : Nat) : Int)) = false := decide_eq_false (by omega)
      rw [scanDown_stop (fun q => hle q.1)] at k3
      have e7 : Value.int .i64 ((y : Nat) : Int) = .int .i64 ((jd : Nat) : Int) := by rw [k3]
      repeat' (first 
    | (refine at_seq_region (id := 7) ?_; refine KJ.asv0 11 rfl e7 ?_; exact KJ.weak rest xB (xN))
    | (refine ek_leq ?_; refine EK_ev (Ev_leqI_q rfl rfl q2) ?_)
    | refine xst ?_
    | (refine xsa ?_; intro _)
    | (refine xsb ?_ ?_ <;> intro _ <;> first | (exfalso; omega) | skip)
    | refine xsc ?_
    | fail)
  by_cases hgt : jd < iu
  · have q3 : decide (((jd : Nat) : Int) < ((iu : Nat) : Int)) = true := decide_eq_true (by omega)
    have cs := S.swap d0 zd0 jd a (by omega) (by omega)
    rw [if_pos hgt]
    repeat' (first 
    | (refine is_callV ?_; refine KJ_swap rfl rfl rfl cs xP rfl ?_)
    | (refine ek_gtr ?_; refine EK_ev (Ev_gtrI_q rfl rfl q3) ?_)
    | refine xst ?_
    | (refine xsa ?_; intro _)
    | (refine xsb ?_ ?_ <;> intro _ <;> first | (exfalso; omega) | skip)
    | refine xsc ?_
    | fail)
    all_goals (exact xdn ())
  have q3 : decide (((jd : Nat) : Int) < ((iu : Nat) : Int)) = false := decide_eq_false (by omega)
  rw [if_neg hgt]
  have cs := S.swap d0 zd0 iu jd (by omega) (by omega)
  obtain ⟨r, hr⟩ : ∃ r, r = partLoop lt a (iu + 1) (jd - 1) (swp d0 iu jd) := ⟨_, rfl⟩
  rw [← hr]
  repeat' (first 
    | (refine is_callV ?_; refine KJ_swap rfl rfl rfl cs xP rfl ?_)
    | (refine ek_add ?_; refine EK_ev (Ev_addI_v (r := ((iu + 1 : Nat) : Int)) rfl rfl (by omega) (by omega)) ?_)
    | (refine ek_sub ?_; refine EK_ev (Ev_subI_v (r := ((jd - 1 : Nat) : Int)) rfl rfl (by omega) (by omega)) ?_)
    | (refine ek_gtr ?_; refine EK_ev (Ev_gtrI_q rfl rfl q3) ?_)
    | refine xst ?_
    | (refine xsa ?_; intro _)
    | (refine xsb ?_ ?_ <;> intro _ <;> first | (exfalso; omega) | skip)
    | refine xsc ?_
    | fail)
  clear hiu hjd cs cw hgt
  refine KJ_loop (fun x : {x : Nat × Nat × Array α // x.2.2.size = n ∧ a + 1 ≤ x.1 ∧ True ∧ x.2.1 < b ∧ partLoop lt a x.1 x.2.1 x.2.2 = r} => [(1, .int .i64 (a : Nat)), (4, .pointer (some ⟨gd, 0, none⟩)), (10, .int .i64 (x.1.1 : Nat)), (11, .int .i64 (x.1.2.1 : Nat))])
    (fun x => [D x.1.2.2, cellsP gd (lsC g sf lb sb) 70] ++ R) (fun x => x.1.2.1 + 1 - x.1.1) ⟨(iu + 1, jd - 1, swp d0 iu jd), by rw [size_swp]; exact zd0, by dsimp only; omega, trivial, by dsimp only; omega, hr.symm⟩ xB (xN) (fun ⟨(i, j, d1), zd1, g1, g2, g3, g4⟩ => ?_)
  dsimp only at zd1 g1 g2 g3 g4 ⊢
  rw [partLoop_eq] at g4
  have u1 := scanUp_spec (fun x => lt x d1[a]!) d1 j _ i rfl
  obtain ⟨iv, hiv⟩ : ∃ x, x = scanUp (fun x => lt x d1[a]!) d1 j i := ⟨_, rfl⟩
  rw [← hiv] at u1
  have u2 := scanDown_spec (fun x => !lt x d1[a]!) d1 iv j
  obtain ⟨jv, hjv⟩ : ∃ x, x = scanDown (fun x => !lt x d1[a]!) d1 iv j := ⟨_, rfl⟩
  rw [← hjv] at u2
  have w1 := u1.1
  have w3 := u2.1
  clear u1 u2
  rw [← hiv, ← hjv] at g4
  apply KJ_rest (fun K => KJ W 107 K [(1, .int .i64 (a : Nat)), (4, .pointer (some ⟨gd, 0, none⟩)), (10, .int .i64 (iv : Nat)), (11, .int .i64 (j : Nat))] ([D d1, cellsP gd (lsC g sf lb sb) 70] ++ R))
  · intro rest
    repeat' (first 
    | refine xst ?_
    | (refine xsa ?_; intro _)
    | (refine xsb ?_ ?_ <;> intro _ <;> first | (exfalso; omega) | skip)
    | refine xsc ?_
    | fail)
    refine KJ_loop (fun x : {x : Nat // i ≤ x ∧ True ∧ scanUp (fun x => lt x d1[a]!) d1 j x = iv} => [(1, .int .i64 (a : Nat)), (4, .pointer (some ⟨gd, 0, none⟩)), (10, .int .i64 (x.1 : Nat)), (11, .int .i64 (j : Nat))])
      (fun _ => [D d1, cellsP gd (lsC g sf lb sb) 70] ++ R) (fun x => j + 1 - x.1) ⟨i, Nat.le_refl _, trivial, hiv.symm⟩ xB (xN) (fun ⟨y, k1, k2, k3⟩ => ?_)
    dsimp only at k1 k2 k3 ⊢
    by_cases hle : y ≤ j
    · have q2 : decide (((y : Nat) : Int) ≤ ((j : Nat) : Int)) = true := decide_eq_true (by omega)
      have cl := S.less d1 zd1 y a (by omega) (by omega)
      cases hl : lt d1[y]! d1[a]! with
      | true =>
        rw [hl] at cl
        rw [scanUp_go hle (by simp [hl])] at k3
        repeat' (first 
    | (refine is_callV ?_; refine KJ_less rfl rfl rfl cl xP rfl (fun _ => ?_))
    | (refine ek_add ?_; refine EK_ev (Ev_addI_v (r := ((y + 1 : Nat) : Int)) rfl rfl (by omega) (by omega)) ?_)
    | (refine ek_leq ?_; refine EK_ev (Ev_leqI_q rfl rfl q2) ?_)
    | refine xst ?_
    | (refine xsa ?_; intro _)
    | (refine xsb ?_ ?_ <;> intro _ <;> first | (exfalso; omega) | skip)
    | refine xsc ?_
    | fail)
        refine KJ_again ⟨y + 1, by omega, trivial, k3⟩ (by dsimp only; omega) xB (xN)
      | false =>
        rw [hl] at cl
        rw [scanUp_stop (fun q => by simp [hl] at q)] at k3
        have e7 : Value.int .i64 ((y : Nat) : Int) = .int .i64 ((iv : Nat) : Int) := by rw [k3]
        repeat' (first 
    | (refine at_seq_block0 (id := 8) ?_; refine KJ.asv0 10 rfl e7 ?_; exact KJ.weak rest xB (xN))
    | (refine is_callV ?_; refine KJ_less rfl rfl rfl cl xP rfl (fun _ => ?_))
    | (refine ek_leq ?_; refine EK_ev (Ev_leqI_q rfl rfl q2) ?_)
    | refine xst ?_
    | (refine xsa ?_; intro _)
    | (refine xsb ?_ ?_ <;> intro _ <;> first | (exfalso; omega) | skip)
    | refine xsc ?_
    | fail)
    · have q2 : decide (((y : Nat) : Int) ≤ ((j : Nat) : Int)) = false := decide_eq_false (by omega)
      rw [scanUp_stop (fun q => hle q.1)] at k3
      have e7 : Value.int .i64 ((y : Nat) : Int) = .int .i64 ((iv : Nat) : Int) := by rw [k3]
      repeat' (first 
    | (refine at_seq_block0 (id := 8) ?_; refine KJ.asv0 10 rfl e7 ?_; exact KJ.weak rest xB (xN))
    | (refine ek_leq ?_; refine EK_ev (Ev_leqI_q rfl rfl q2) ?_)
    | refine xst ?_
    | (refine xsa ?_; intro _)
    | (refine xsb ?_ ?_ <;> intro _ <;> first | (exfalso; omega) | skip)
    | refine xsc ?_
    | fail)
  apply KJ_rest (fun K => KJ W 107 K [(1, .int .i64 (a : Nat)), (4, .pointer (some ⟨gd, 0, none⟩)), (10, .int .i64 (iv : Nat)), (11, .int .i64 (jv : Nat))] ([D d1, cellsP gd (lsC g sf lb sb) 70] ++ R))
  · intro rest
    repeat' (first 
    | refine xst ?_
    | (refine xsa ?_; intro _)
    | (refine xsb ?_ ?_ <;> intro _ <;> first | (exfalso; omega) | skip)
    | refine xsc ?_
    | fail)
    refine KJ_loop (fun x : {x : Nat // x ≤ j ∧ True ∧ scanDown (fun x => !lt x d1[a]!) d1 iv x = jv} => [(1, .int .i64 (a : Nat)), (4, .pointer (some ⟨gd, 0, none⟩)), (10, .int .i64 (iv : Nat)), (11, .int .i64 (x.1 : Nat))])
      (fun _ => [D d1, cellsP gd (lsC g sf lb sb) 70] ++ R) (fun x => x.1) ⟨j, Nat.le_refl _, trivial, hjv.symm⟩ xB (xN) (fun ⟨y, k1, k2, k3⟩ => ?_)
    dsimp only at k1 k2 k3 ⊢
    by_cases hle : iv ≤ y
    · have q2 : decide (((iv : Nat) : Int) ≤ ((y : Nat) : Int)) = true := decide_eq_true (by omega)
      have cl := S.less d1 zd1 y a (by omega) (by omega)
      cases hl : lt d1[y]! d1[a]! with
      | false =>
        rw [hl] at cl
        rw [scanDown_go (by omega) hle (by simp [hl])] at k3
        repeat' (first 
    | (refine is_callV ?_; refine KJ_less rfl rfl rfl cl xP rfl (fun _ => ?_))
    | (refine ek_sub ?_; refine EK_ev (Ev_subI_v (r := ((y - 1 : Nat) : Int)) rfl rfl (by omega) (by omega)) ?_)
    | (refine ek_leq ?_; refine EK_ev (Ev_leqI_q rfl rfl q2) ?_)
    | refine xst ?_
    | (refine xsa ?_; intro _)
    | (refine xsb ?_ ?_ <;> intro _ <;> first | (exfalso; omega) | skip)
    | refine xsc ?_
    | fail)
        refine KJ_again ⟨y - 1, by omega, trivial, k3⟩ (by dsimp only; omega) xB (xN)
      | true =>
        rw [hl] at cl
        rw [scanDown_stop (fun q => by simp [hl] at q)] at k3
        have e7 : Value.int .i64 ((y : Nat) : Int) = .int .i64 ((jv : Nat) : Int) := by rw [k3]
        repeat' (first 
    | (refine at_seq_region (id := 17) ?_; refine KJ.asv0 11 rfl e7 ?_; exact KJ.weak rest xB (xN))
    | (refine is_callV ?_; refine KJ_less rfl rfl rfl cl xP rfl (fun _ => ?_))
    | (refine ek_leq ?_; refine EK_ev (Ev_leqI_q rfl rfl q2) ?_)
    | refine xst ?_
    | (refine xsa ?_; intro _)
    | (refine xsb ?_ ?_ <;> intro _ <;> first | (exfalso; omega) | skip)
    | refine xsc ?_
    | fail)
    · have q2 : decide (((iv : Nat) : Int) ≤ ((y : Nat) : Int)) = false := decide_eq_false (by omega)
      rw [scanDown_stop (fun q => hle q.1)] at k3
      have e7 : Value.int .i64 ((y : Nat) : Int) = .int .i64 ((jv : Nat) : Int) := by rw [k3]
      repeat' (first 
    | (refine at_seq_region (id := 17) ?_; refine KJ.asv0 11 rfl e7 ?_; exact KJ.weak rest xB (xN))
    | (refine ek_leq ?_; refine EK_ev (Ev_leqI_q rfl rfl q2) ?_)
    | refine xst ?_
    | (refine xsa ?_; intro _)
    | (refine xsb ?_ ?_ <;> intro _ <;> first | (exfalso; omega) | skip)
    | refine xsc ?_
    | fail)
  by_cases hgt : jv < iv
  · have q3 : decide (((jv : Nat) : Int) < ((iv : Nat) : Int)) = true := decide_eq_true (by omega)
    rw [if_pos hgt] at g4
    have cs := S.swap d1 zd1 jv a (by omega) (by omega)
    repeat' (first 
    | (refine is_callV ?_; refine KJ_swap rfl rfl rfl cs xP rfl ?_)
    | (refine ek_gtr ?_; refine EK_ev (Ev_gtrI_q rfl rfl q3) ?_)
    | refine xst ?_
    | (refine xsa ?_; intro _)
    | (refine xsb ?_ ?_ <;> intro _ <;> first | (exfalso; omega) | skip)
    | refine xsc ?_
    | fail)
    all_goals exact xdn () (hc := by rw [← g4]; rfl) (hE := by rw [← g4]; exact (xN))
  · have q3 : decide (((jv : Nat) : Int) < ((iv : Nat) : Int)) = false := decide_eq_false (by omega)
    rw [if_neg hgt] at g4
    have cs := S.swap d1 zd1 iv jv (by omega) (by omega)
    repeat' (first 
    | (refine is_callV ?_; refine KJ_swap rfl rfl rfl cs xP rfl ?_)
    | (refine ek_add ?_; refine EK_ev (Ev_addI_v (r := ((iv + 1 : Nat) : Int)) rfl rfl (by omega) (by omega)) ?_)
    | (refine ek_sub ?_; refine EK_ev (Ev_subI_v (r := ((jv - 1 : Nat) : Int)) rfl rfl (by omega) (by omega)) ?_)
    | (refine ek_gtr ?_; refine EK_ev (Ev_gtrI_q rfl rfl q3) ?_)
    | refine xst ?_
    | (refine xsa ?_; intro _)
    | (refine xsb ?_ ?_ <;> intro _ <;> first | (exfalso; omega) | skip)
    | refine xsc ?_
    | fail)
    refine KJ_again ⟨(iv + 1, jv - 1, swp d1 iv jv), by rw [size_swp]; exact zd1, by dsimp only; omega, trivial, by dsimp only; omega, g4⟩ (by dsimp only; omega) xB (xN)
end
end Go.Proofs.Ytmlnegmabfnaaaa
