/-
  SoE.
-/
import Derived.Test.YtmlnegmabfnaaaaBBE
import Derived.Test.YtmlnegmabfnaaaaBBF
import Derived.Shelf.SlSortFunc.Xorshift
import Derived.Sort.LotD1
import Derived.Sort.Walk7
/-
  sort.Slice's own functions, by contract: xorshift's Next, nextPowerOfTwo, breakPatterns_func.
-/
namespace Go.Proofs.Ytmlnegmabfnaaaa
open Go Go.RowKit Go.Sort Go.Shelf
section
variable {W : World} {α : Type} [Inhabited α] {g sf : FuncId} {lb sb : List Value} {lt : α → α → Bool} {n : Nat} {D : Array α → SP} [FnIs Try.prog g]
theorem St.dr {W w : World} {H : List SP} (s : St W H w) (q : Nat) : St W H (w.drewN q) :=
  St.act (A := []) (B := []) (H := H) (w' := w.drewN q) s rfl rfl rfl (Nat.le_refl _) (fun h1 _ _ => ⟨fun _ => none, trivial, (fun _ _ q => by cases q), (fun _ _ q => by cases q), fun k hk _ => rfl⟩)
instance fn_xnext : FnIs Try.prog 45 := ⟨by kernel_rfl⟩
theorem xnext_ct (rp : Nat) (r : UInt64) : Ct Try.prog W 45 [.pointer (some ⟨rp, 0, none⟩)] [cellsP rp [.int .u64 (r.toNat : Nat)] 85] (fun _ : Unit => .int .u64 ((xorNext r).toNat : Nat)) (fun _ => [cellsP rp [.int .u64 ((xorNext r).toNat : Nat)] 85]) := by
  rw [xorNext_toNat]
  refine ⟨fun R w s => ?_⟩
  have hb := (s.blk (R := R) .here).2
  have h := Any.xorshift_Next (P := Try.prog) (ρ := Try.slr) { Try.sl6 with } rp 0 r.toNat r.toNat_lt w (by rw [hb.cell]; rfl) (hb.free 0)
  refine (show Calls Try.prog 45 _ w _ from h).mono ?_
  rintro e w' ⟨rfl, rfl⟩
  refine ⟨(), rfl, St.dr (s.setCell (j := 0) .here) 3⟩
theorem npow_ct (L : Nat) (hL : L < 4611686018427387904) : Ct Try.prog W 44 [.int .i64 (L : Nat)] [] (fun _ : Unit => .int .u64 ((1 <<< bitsLen L : Nat) : Int)) (fun _ => []) := by
  refine ⟨fun R w s => ?_⟩
  have h := Any.nextPowerOfTwo (P := Try.prog) (ρ := Try.slr) { Try.sl6 with } L hL w
  refine (show Calls Try.prog 44 _ w _ from h).mono ?_
  rintro e w' ⟨rfl, rfl⟩
  exact ⟨(), rfl, s⟩
omit [FnIs Try.prog g] in
set_option maxHeartbeats 8000000 in
theorem brk_ct (S : SoOk Try.prog W g sf lb sb lt n D) (d : Array α) (hd : d.size = n) (a b : Nat) (hab : a ≤ b) (hb : b ≤ n) :
    Ct Try.prog W 37 [lsV g sf lb sb, .int .i64 (a : Nat), .int .i64 (b : Nat)] [D d] (fun _ : Unit => .tuple #[]) (fun _ => [D (breakPatterns d a b)]) := by
  have hn := S.small
  obtain ⟨L, hL⟩ : ∃ L, b = a + L := ⟨b - a, by omega⟩
  subst hL
  by_cases h8 : 8 ≤ L
  · have q8 : decide ((8 : Int) ≤ ((L : Nat) : Int)) = true := decide_eq_true (by omega)
    rw [breakPatterns_eq d a L h8]
    obtain ⟨M, hM⟩ : ∃ M : Nat, M = 1 <<< bitsLen L := ⟨_, rfl⟩
    have hM1 : 1 ≤ M := by rw [hM, Nat.one_shiftLeft]; exact Nat.two_pow_pos _
    have hM2 : M ≤ 2 * L := by rw [hM, Nat.one_shiftLeft]; exact two_pow_bitsLen_le (by omega)
    have cn := npow_ct (W := W) L (by omega)
    rw [← hM] at cn ⊢
    clear hM
    obtain ⟨i0, hi0⟩ : ∃ i0, i0 = a + L / 4 * 2 - 1 := ⟨_, rfl⟩
    rw [← hi0]
    obtain ⟨z, hz⟩ : ∃ z, z = bpRest a L M i0 3 0 (UInt64.ofNat L, d) := ⟨_, rfl⟩
    rw [← hz]
    have w1 : ((L : Nat) : Int) / 4 = ((L / 4 : Nat) : Int) := by omega
    have w2 : IntKind.u64.wrap ((L : Nat) : Int) = ((L : Nat) : Int) := by rw [IntKind.wrap_u64]; omega
    have w3 : IntKind.u64.wrap ((M : Int) - 1) = ((M - 1 : Nat) : Int) := by rw [IntKind.wrap_u64]; omega
    have w4 : (UInt64.ofNat L).toNat = L := by simp; omega
    refine Ct.enter Try.func37 rfl Try.ntmps37 (by simp) (fun R => ?_)
    repeat' (first 
    | (refine is_alloc ?_; refine KJ_alloc rfl (fun rp => ?_))
    | (refine is_box ?_; refine KJ_box rfl xF rfl (fun gd => ?_))
    | (refine is_call ?_; refine KJ_call xE cn xP rfl (fun _ => ?_))
    | (refine ek_conv ?_; refine EK_ev (Ev_convI_v rfl w2) ?_)
    | (refine ek_add ?_; refine EK_ev (Ev_addI_v (r := ((a + L / 4 * 2 : Nat) : Int)) rfl rfl (by omega) (by omega)) ?_)
    | (refine ek_sub ?_; first | refine EK_ev (Ev_subI_v (r := ((i0 : Nat) : Int)) rfl rfl (by omega) (by omega)) ?_ | refine EK_ev (Ev_subI_v (r := ((L : Nat) : Int)) rfl rfl (by omega) (by omega)) ?_)
    | (refine ek_mul ?_; refine EK_ev (Ev_mulI_v (r := ((L / 4 * 2 : Nat) : Int)) rfl rfl (by omega) (by omega)) ?_)
    | (refine ek_quo ?_; refine EK_ev (Ev_quo_w rfl rfl (by omega) w1) ?_)
    | (refine ek_geq ?_; refine EK_ev (Ev_geqI_q rfl rfl q8) ?_)
    | refine xst ?_
    | (refine xsa ?_; intro _)
    | (refine xsb ?_ ?_ <;> intro _ <;> first | (exfalso; omega) | skip)
    | refine xsc ?_
    | fail)
    refine KJ_loop (fun x : {x : Nat × UInt64 × Array α // x.2.2.size = n ∧ x.1 ≤ 3 ∧ bpRest a L M i0 x.1 (3 - x.1) x.2 = z} => [(1, .int .i64 (a : Nat)), (3, .pointer (some ⟨gd, 0, none⟩)), (6, .int .i64 (L : Nat)), (7, .pointer (some ⟨rp, 0, none⟩)), (8, .int .u64 (M : Nat)), (9, .int .i64 (i0 + (3 - x.1.1) : Nat))])
      (fun x => [D x.1.2.2, cellsP rp [.int .u64 (x.1.2.1.toNat : Nat)] 85, cellsP gd (lsC g sf lb sb) 70] ++ R) (fun x => x.1.1) ⟨(3, UInt64.ofNat L, d), hd, Nat.le_refl _, hz.symm⟩ xB (by dsimp only; rw [w4]; exact (xN)) (fun ⟨(k, r, d1), h1, h2, h3⟩ => ?_)
    dsimp only at h1 h2 h3 ⊢
    cases k with
    | zero =>
      have q1 : decide (((i0 + (3 - 0) : Nat) : Int) ≤ ((a + L / 4 * 2 + 1 : Nat) : Int)) = false := decide_eq_false (by omega)
      repeat' (first 
    | (refine ek_add ?_; first | refine EK_ev (Ev_addI_v (r := ((a + L / 4 * 2 : Nat) : Int)) rfl rfl (by omega) (by omega)) ?_ | refine EK_ev (Ev_addI_v (r := ((a + L / 4 * 2 + 1 : Nat) : Int)) rfl rfl (by omega) (by omega)) ?_)
    | (refine ek_sub ?_; refine EK_ev (Ev_subI_v (r := ((i0 : Nat) : Int)) rfl rfl (by omega) (by omega)) ?_)
    | (refine ek_mul ?_; refine EK_ev (Ev_mulI_v (r := ((L / 4 * 2 : Nat) : Int)) rfl rfl (by omega) (by omega)) ?_)
    | (refine ek_quo ?_; refine EK_ev (Ev_quo_w rfl rfl (by omega) w1) ?_)
    | (refine ek_leq ?_; refine EK_ev (Ev_leqI_q rfl rfl q1) ?_)
    | refine xst ?_
    | (refine xsa ?_; intro _)
    | (refine xsb ?_ ?_ <;> intro _ <;> first | (exfalso; omega) | skip)
    | refine xsc ?_
    | fail)
      all_goals exact xdn () (hE := by rw [← h3]; exact (xN))
    | succ k =>
      have q1 : decide (((i0 + (3 - (k + 1)) : Nat) : Int) ≤ ((a + L / 4 * 2 + 1 : Nat) : Int)) = true := decide_eq_true (by omega)
      have cx := xnext_ct (W := W) rp r
      change bpRest a L M i0 k (3 - (k + 1) + 1) (breakStep a L M (r, d1) (i0 + (3 - (k + 1)))) = z at h3
      unfold breakStep at h3
      dsimp only at h3
      have hR := (xorNext r).toNat_lt
      obtain ⟨O, hO⟩ : ∃ O : Nat, O = (xorNext r).toNat &&& (M - 1) := ⟨_, rfl⟩
      have lO : O ≤ M - 1 := by rw [hO]; exact Nat.and_le_right
      have eAnd : bits .and .u64 (((xorNext r).toNat : Nat) : Int) ((M - 1 : Nat) : Int) = (O : Int) := by rw [bits_and_u64_nat _ _ hR (by omega), hO]
      rw [← hO] at h3
      clear hO
      obtain ⟨o, ho⟩ : ∃ o, o = if O ≥ L then O - L else O := ⟨_, rfl⟩
      rw [← ho] at h3
      have lo : o < L := by rw [ho]; split <;> omega
      have cs := S.swap d1 h1 (i0 + (3 - (k + 1))) (a + o) (by omega) (by omega)
      rw [show 3 - (k + 1) + 1 = 3 - k by omega] at h3
      by_cases hOL : L ≤ O
      · have q2 : decide (((L : Nat) : Int) ≤ ((O : Nat) : Int)) = true := decide_eq_true (by omega)
        rw [if_pos hOL] at ho
        repeat' (first 
    | (refine is_call ?_; refine KJ_call xE cx xP rfl (fun _ => ?_))
    | (refine is_callV ?_; refine KJ_swap rfl rfl rfl cs xP rfl ?_)
    | (refine ek_add ?_; first | refine EK_ev (Ev_addI_v (r := ((a + L / 4 * 2 : Nat) : Int)) rfl rfl (by omega) (by omega)) ?_ | refine EK_ev (Ev_addI_v (r := ((i0 + (3 - k) : Nat) : Int)) rfl rfl (by omega) (by omega)) ?_ | refine EK_ev (Ev_addI_v (r := ((a + o : Nat) : Int)) rfl rfl (by omega) (by omega)) ?_ | refine EK_ev (Ev_addI_v (r := ((a + L / 4 * 2 + 1 : Nat) : Int)) rfl rfl (by omega) (by omega)) ?_)
    | (refine ek_sub ?_; first | refine EK_ev (Ev_subI_v (r := ((o : Nat) : Int)) rfl rfl (by omega) (by omega)) ?_ | refine EK_ev (Ev_subI_v (r := ((i0 : Nat) : Int)) rfl rfl (by omega) (by omega)) ?_ | refine EK_ev (Ev_sub_v0 rfl rfl w3) ?_)
    | (refine ek_mul ?_; refine EK_ev (Ev_mulI_v (r := ((L / 4 * 2 : Nat) : Int)) rfl rfl (by omega) (by omega)) ?_)
    | (refine ek_quo ?_; refine EK_ev (Ev_quo_w rfl rfl (by omega) w1) ?_)
    | (refine ek_and ?_; refine EK_ev (Ev_and_v0 rfl rfl eAnd) ?_)
    | (refine ek_leq ?_; refine EK_ev (Ev_leqI_q rfl rfl q1) ?_)
    | (refine ek_geq ?_; refine EK_ev (Ev_geqI_q rfl rfl q2) ?_)
    | refine xst ?_
    | (refine xsa ?_; intro _)
    | (refine xsb ?_ ?_ <;> intro _ <;> first | (exfalso; omega) | skip)
    | refine xsc ?_
    | fail)
        refine KJ_again ⟨(k, xorNext r, swp d1 (i0 + (3 - (k + 1))) (a + o)), by rw [size_swp]; exact h1, by dsimp only; omega, h3⟩ (by dsimp only; omega) xB (xN)
      · have q2 : decide (((L : Nat) : Int) ≤ ((O : Nat) : Int)) = false := decide_eq_false (by omega)
        rw [if_neg hOL] at ho
        have e10 : O = o := ho.symm
        repeat' (first 
    | (refine is_call ?_; refine KJ_call xE cx xP rfl (fun _ => ?_))
    | (refine is_callV ?_; refine KJ_swap rfl rfl rfl cs xP rfl ?_)
    | (refine ek_add ?_; first | refine EK_ev (Ev_addI_v (r := ((a + L / 4 * 2 : Nat) : Int)) rfl rfl (by omega) (by omega)) ?_ | refine EK_ev (Ev_addI_v (r := ((i0 + (3 - k) : Nat) : Int)) rfl rfl (by omega) (by omega)) ?_ | refine EK_ev (Ev_addI_v (r := ((a + o : Nat) : Int)) rfl rfl (by omega) (by omega)) ?_ | refine EK_ev (Ev_addI_v (r := ((a + L / 4 * 2 + 1 : Nat) : Int)) rfl rfl (by omega) (by omega)) ?_)
    | (refine ek_sub ?_; first | refine EK_ev (Ev_subI_v (r := ((i0 : Nat) : Int)) rfl rfl (by omega) (by omega)) ?_ | refine EK_ev (Ev_sub_v0 rfl rfl w3) ?_)
    | (refine ek_mul ?_; refine EK_ev (Ev_mulI_v (r := ((L / 4 * 2 : Nat) : Int)) rfl rfl (by omega) (by omega)) ?_)
    | (refine ek_quo ?_; refine EK_ev (Ev_quo_w rfl rfl (by omega) w1) ?_)
    | (refine ek_and ?_; refine EK_ev (Ev_and_v0 rfl rfl eAnd) ?_)
    | (refine ek_leq ?_; refine EK_ev (Ev_leqI_q rfl rfl q1) ?_)
    | (refine ek_geq ?_; refine EK_ev (Ev_geqI_q rfl rfl q2) ?_)
    | refine xst ?_
    | (refine xsa ?_; intro _)
    | (refine xsb ?_ ?_ <;> intro _ <;> first | (exfalso; omega) | skip)
    | refine xsc ?_
    | fail)
        refine KJ_again ⟨(k, xorNext r, swp d1 (i0 + (3 - (k + 1))) (a + o)), by rw [size_swp]; exact h1, by dsimp only; omega, h3⟩ (by dsimp only; omega) xB (xN)
  · have q8 : decide ((8 : Int) ≤ ((L : Nat) : Int)) = false := decide_eq_false (by omega)
    have e0 : breakPatterns d a (a + L) = d := by unfold breakPatterns; rw [if_neg (by omega)]
    rw [e0]
    refine Ct.enter Try.func37 rfl Try.ntmps37 (by simp) (fun R => ?_)
    repeat' (first 
    | (refine is_box ?_; refine KJ_box rfl xF rfl (fun gd => ?_))
    | (refine ek_sub ?_; refine EK_ev (Ev_subI_v (r := ((L : Nat) : Int)) rfl rfl (by omega) (by omega)) ?_)
    | (refine ek_geq ?_; refine EK_ev (Ev_geqI_q rfl rfl q8) ?_)
    | refine xst ?_
    | (refine xsa ?_; intro _)
    | (refine xsb ?_ ?_ <;> intro _ <;> first | (exfalso; omega) | skip)
    | refine xsc ?_
    | fail)
    all_goals (exact xdn ())
end
end Go.Proofs.Ytmlnegmabfnaaaa
