/-
  RaL4.
-/
import Derived.Test.YtehheokalgmbgaaBBM
/-
  RailApart and RailOwns.
-/
namespace Go.Proofs.Ytehheokalgmbgaa
open Go Go.RowKit
section
variable {W : World} {N : Int}
theorem only_hear (tok : List UInt8) (N : Int) (hs : RH) (m : RMsg) (v : Int) : only tok (hear N hs m v) = if m.token = tok then hear N (only tok hs) m v else only tok hs := by
  unfold hear
  cases handled N m
  · simp
  · simp only [if_true]
    rw [only_append]
theorem only_len (tok : List UInt8) (hs : RH) : (only tok hs).length ≤ hs.length := List.length_filter_le _ _
set_option maxHeartbeats 1000000 in
theorem apart24_ct (N : Int) (v : Value) (ops : List ROp) (tok : List UInt8) (hs : LsAt W ROp.cells 9 v ops) (hb : ops.length * 96 ≤ 140737488355328) : Ct Try.prog W 5 [.int .i64 N, v, strV tok] [] (fun _ : Unit => .bool true) (fun _ => []) := by
  obtain ⟨a, c, rfl, hx⟩ := hs
  have cl := lives24_ct (W := W)
  have c1 := railNew_ct (W := W) N
  refine Ct.enter Try.func5 rfl Try.ntmps5 (by simp) (fun R => ?_)
  repeat' (first 
    | (refine is_call ?_; first | (refine KJ_call xE c1 xP rfl (fun s => ?_)) | (refine KJ_call xE cl xP rfl (fun _ => ?_)))
    | refine xst ?_
    | (refine xsa ?_; intro _)
    | (refine xsb ?_ ?_ <;> intro _ <;> first | (exfalso; omega) | skip)
    | refine xsc ?_
    | fail)
  rename_i r
  refine KJ_loop (fun i : {i : Nat × RH // i.1 ≤ ops.length ∧ i.2.length ≤ i.1} => [(2, strV tok), (7, .pointer (some ⟨r, 0, none⟩)), (8, .pointer (some ⟨s, 0, none⟩)), (31, .slice a ops.length c), (32, .int .i64 (ops.length : Nat)), (33, .int .i64 (i.1.1 : Nat))])
    (fun i => [RailH r N i.1.2, RailH s N (only tok i.1.2)] ++ R) (fun i => ops.length - i.1.1) ⟨(0, []), Nat.zero_le _, Nat.le_refl _⟩ xB (xN) (fun ⟨(i, hs), hi, hle⟩ => ?_)
  dsimp only at hi hle ⊢
  have hol := only_len tok hs
  by_cases hlt : i < ops.length
  · have ql : decide ((i : Int) < (ops.length : Nat)) = true := decide_eq_true (by omega)
    obtain ⟨⟨m, v, ask⟩, ho⟩ : ∃ s, ops[i]? = some s := ⟨_, List.getElem?_eq_getElem hlt⟩
    obtain ⟨b, of, rfl, -, hr⟩ := hx (by intro e; rw [e] at hlt; simp at hlt)
    have Hr : W.rangeAt b (of + Int.toNat (i : Int) * 9) (ROp.cells ⟨m, v, ask⟩) := by
      rw [Int.toNat_natCast, Nat.mul_comm i 9]; exact hr i _ ho
    dsimp only [ROp.cells] at Hr
    have c2 := railHandle_ct (W := W) (r := r) (N := N) (hs := hs) (by omega) m v
    have c3 := railHandle_ct (W := W) (r := s) (N := N) (hs := only tok hs) (by omega) m v
    have hn := hear_len N hs m v
    have hoh := only_hear tok N hs m v
    by_cases ht : m.token = tok
    · rw [answer_only N tok hs m v ht] at c3
      rw [if_pos ht] at hoh
      rw [← hoh] at c3
      obtain ⟨ka, kb, ks, hk⟩ := ans_shape N (answer N hs m v) m.token
      obtain ⟨b, hb⟩ : ∃ b, b = decide (answer N hs m v ≠ 0) := ⟨_, rfl⟩
      unfold ansV at c2 c3
      rw [hk, ← hb] at c2 c3
      have hbb : (b != b) = false := by simp
      repeat' (first 
    | (refine is_alloc ?_; refine KJ_alloc rfl (fun g8 => ?_))
    | (refine is_call ?_; first | (refine KJ_call xE c3 xP rfl (fun _ => ?_)) | (refine KJ_call xE c2 xP rfl (fun _ => ?_)))
    | (refine ek_load ?_; refine EK_ev (Ev_loadAggOld rfl Hr) ?_)
    | (refine ek_add ?_; refine EK_ev (Ev_addI_v (r := ((i + 1 : Nat) : Int)) rfl rfl (by omega) (by omega)) ?_)
    | (refine ek_neq ?_; first | refine EK_ev (Ev_neqSt rfl rfl (ans_eqF ka kb ks Try.underlying45) rfl) ?_ | refine EK_ev (Ev_neqS_f rfl rfl ht) ?_ | refine EK_ev (Ev_neqBw rfl rfl hbb) ?_)
    | (refine ek_lss ?_; refine EK_ev (Ev_lssI_q rfl rfl ql) ?_)
    | refine xst ?_
    | (refine xsa ?_; intro _)
    | (refine xsb ?_ ?_ <;> intro _ <;> first | (exfalso; omega) | skip)
    | refine xsc ?_
    | fail)
      all_goals refine KJ_again ⟨(i + 1, hear N hs m v), hlt, Nat.le_trans hn (Nat.succ_le_succ hle)⟩ (by show ops.length - (i + 1) < ops.length - i; omega) xB (xN)
    · rw [if_neg ht] at hoh
      obtain ⟨ka, kb, ks, hk⟩ := ans_shape N (answer N hs m v) m.token
      unfold ansV at c2
      rw [hk] at c2
      rw [← hoh]
      repeat' (first 
    | (refine is_alloc ?_; refine KJ_alloc rfl (fun g8 => ?_))
    | (refine is_call ?_; refine KJ_call xE c2 xP rfl (fun _ => ?_))
    | (refine ek_load ?_; refine EK_ev (Ev_loadAggOld rfl Hr) ?_)
    | (refine ek_add ?_; refine EK_ev (Ev_addI_v (r := ((i + 1 : Nat) : Int)) rfl rfl (by omega) (by omega)) ?_)
    | (refine ek_neq ?_; refine EK_ev (Ev_neqS_t rfl rfl ht) ?_)
    | (refine ek_lss ?_; refine EK_ev (Ev_lssI_q rfl rfl ql) ?_)
    | refine xst ?_
    | (refine xsa ?_; intro _)
    | (refine xsb ?_ ?_ <;> intro _ <;> first | (exfalso; omega) | skip)
    | refine xsc ?_
    | fail)
      all_goals refine KJ_again ⟨(i + 1, hear N hs m v), hlt, Nat.le_trans hn (Nat.succ_le_succ hle)⟩ (by show ops.length - (i + 1) < ops.length - i; omega) xB (xN)
  have ql : decide ((i : Int) < (ops.length : Nat)) = false := decide_eq_false (by omega)
  have c2 := railEffect_ct (W := W) (r := r) (N := N) (hs := hs) tok
  have c3 := railEffect_ct (W := W) (r := s) (N := N) (hs := only tok hs) tok
  rw [effect_only] at c3
  have c5 := railEffects_ct (W := W) (r := s) (N := N) (hs := only tok hs) (by omega)
  have hkl : (effs (only tok hs)).length = (effect hs tok).toList.length := by rw [effs_only]
  obtain ⟨L, hL⟩ : ∃ L, L = effs (only tok hs) := ⟨_, rfl⟩
  rw [← hL] at c5 hkl
  obtain ⟨x, hx2⟩ : ∃ x, x = (effect hs tok).getD eff0 := ⟨_, rfl⟩
  obtain ⟨b, hbs⟩ : ∃ b, b = (effect hs tok).isSome := ⟨_, rfl⟩
  unfold effO at c2 c3
  rw [← hx2, ← hbs] at c2 c3
  have hbb : (b == b) = true := by simp
  have hxx : decide (x = x) = true := decide_eq_true rfl
  have q1 : decide ((L.length : Int) ≤ 1) = true := by
    rw [hkl]; cases effect hs tok <;> simp
  have q2 : decide ((L.length : Int) = 1) = b := by
    rw [hkl, hbs]; cases effect hs tok <;> simp
  repeat' (first 
    | (refine is_call ?_; first | (refine KJ_call xE c5 xP rfl (fun _ => ?_)) | (refine KJ_call xE c3 xP rfl (fun _ => ?_)) | (refine KJ_call xE c2 xP rfl (fun _ => ?_)))
    | (refine ek_eql ?_; first | refine EK_ev (Ev_eqlSt rfl rfl (eff_eqF x x Try.underlying40) hxx) ?_ | refine EK_ev (Ev_eqlBw rfl rfl hbb) ?_ | refine EK_ev (Ev_eqlI_q rfl rfl q2) ?_)
    | (refine ek_lss ?_; refine EK_ev (Ev_lssI_q rfl rfl ql) ?_)
    | (refine ek_leq ?_; refine EK_ev (Ev_leqI_q rfl rfl q1) ?_)
    | refine xst ?_
    | (refine xsa ?_; intro _)
    | (refine xsb ?_ ?_ <;> intro _ <;> first | (exfalso; omega) | skip)
    | refine xsc ?_
    | fail)
  all_goals (exact xdn ())
def spoilt : REff := ⟨[115, 112, 111, 105, 108, 116], 0, 0, []⟩
def moreE : REff := ⟨[109, 111, 114, 101], 0, 0, []⟩
set_option maxHeartbeats 2000000 in
theorem owns24_ct (N : Int) (v : Value) (ops : List ROp) (hs : LsAt W ROp.cells 9 v ops) (hb : ops.length * 96 ≤ 140737488355328) : Ct Try.prog W 6 [.int .i64 N, v] [] (fun _ : Unit => .bool true) (fun _ => []) := by
  obtain ⟨a, c, rfl, hx⟩ := hs
  have cl := lives24_ct (W := W)
  have c1 := railNew_ct (W := W) N
  refine Ct.enter Try.func6 rfl Try.ntmps6 (by simp) (fun R => ?_)
  repeat' (first 
    | (refine at_seq_region (id := 5) ?_; refine hold ?_)
    | (refine is_box ?_; refine KJ_box rfl xF rfl (fun w => ?_))
    | (refine is_call ?_; first | (refine KJ_call xE c1 xP rfl (fun s => ?_)) | (refine KJ_call xE cl xP rfl (fun _ => ?_)))
    | (refine ek_build ?_; refine EK_ev (Ev_build xV xW) ?_)
    | refine xst ?_
    | (refine xsa ?_; intro _)
    | (refine xsb ?_ ?_ <;> intro _ <;> first | (exfalso; omega) | skip)
    | refine xsc ?_
    | fail)
  rename_i r
  refine Hold.mk ?_
  refine KJ.nilrow 66 8 ?_
  refine KJ.packs (tag := 41) (key := w) (F := refF w N []) (none, 0) (by dsimp only [refF]; exact xP) ?_
  repeat' (first 
    | refine xst ?_
    | (refine xsa ?_; intro _)
    | (refine xsb ?_ ?_ <;> intro _ <;> first | (exfalso; omega) | skip)
    | refine xsc ?_
    | fail)
  refine KJ_loop (fun i : {i : Nat × RH // i.1 ≤ ops.length ∧ i.2.length ≤ i.1} => [(5, .pointer (some ⟨r, 0, none⟩)), (6, .pointer (some ⟨s, 0, none⟩)), (7, .pointer (some ⟨w, 0, none⟩)), (29, .slice a ops.length c), (30, .int .i64 (ops.length : Nat)), (31, .int .i64 (i.1.1 : Nat))])
    (fun i => [RailH r N i.1.2, RefH w N i.1.2, RailH s N []] ++ R) (fun i => ops.length - i.1.1) ⟨(0, []), Nat.zero_le _, Nat.le_refl _⟩ xB (xN) (fun ⟨(i, hs), hi, hle⟩ => ?_)
  dsimp only at hi hle ⊢
  by_cases hlt : i < ops.length
  · have ql : decide ((i : Int) < (ops.length : Nat)) = true := decide_eq_true (by omega)
    obtain ⟨⟨m, v, ask⟩, ho⟩ : ∃ s, ops[i]? = some s := ⟨_, List.getElem?_eq_getElem hlt⟩
    obtain ⟨b, of, rfl, -, hr⟩ := hx (by intro e; rw [e] at hlt; simp at hlt)
    have Hr : W.rangeAt b (of + Int.toNat (i : Int) * 9) (ROp.cells ⟨m, v, ask⟩) := by
      rw [Int.toNat_natCast, Nat.mul_comm i 9]; exact hr i _ ho
    dsimp only [ROp.cells] at Hr
    have c2 := railHandle_ct (W := W) (r := r) (N := N) (hs := hs) (by omega) m v
    have c3 := refHandle_ct (W := W) (w := w) (N := N) (hs := hs) (by omega) m v
    have hn := hear_len N hs m v
    repeat' (first 
    | (refine is_alloc ?_; refine KJ_alloc rfl (fun g8 => ?_))
    | (refine is_call ?_; first | (refine KJ_call xE c3 xP rfl (fun _ => ?_)) | (refine KJ_call xE c2 xP rfl (fun _ => ?_)))
    | (refine ek_load ?_; refine EK_ev (Ev_loadAggOld rfl Hr) ?_)
    | (refine ek_add ?_; refine EK_ev (Ev_addI_v (r := ((i + 1 : Nat) : Int)) rfl rfl (by omega) (by omega)) ?_)
    | (refine ek_lss ?_; refine EK_ev (Ev_lssI_q rfl rfl ql) ?_)
    | refine xst ?_
    | (refine xsa ?_; intro _)
    | (refine xsb ?_ ?_ <;> intro _ <;> first | (exfalso; omega) | skip)
    | refine xsc ?_
    | fail)
    all_goals refine KJ_again ⟨(i + 1, hear N hs m v), hlt, Nat.le_trans hn (Nat.succ_le_succ hle)⟩ (by show ops.length - (i + 1) < ops.length - i; omega) xB (xN)
  have ql : decide ((i : Int) < (ops.length : Nat)) = false := decide_eq_false (by omega)
  have c5 := railEffects_ct (W := W) (r := r) (N := N) (hs := hs) (by omega)
  have c6 := refEffects_ct (W := W) (w := w) (N := N) (hs := hs) (by omega)
  have c8 : Ct Try.prog W 12 [.pointer (some ⟨s, 0, none⟩)] [RailH s N []] (fun x : Option Addr × Nat => .slice x.1 0 x.2) (fun x => [RailH s N [], lsP REff.cells 40 4 (.slice x.1 0 x.2) []]) := railEffects_ct (hs := []) (by simp)
  have hel : (effs hs).length ≤ hs.length := effs_len hs
  obtain ⟨L, hL⟩ : ∃ L, L = effs hs := ⟨_, rfl⟩
  rw [← hL] at c5 c6 hel
  have hl2 : L.length ≤ 4611686018427387904 := by omega
  have c7 := fun a1 a2 b1 b2 => sameEff_ct (W := W) L L a1 a2 b1 b2 hl2 hl2
  rw [decide_eq_true rfl] at c7
  repeat' (first 
    | (refine is_call ?_; first | (refine KJ_call xE (c7 _ _ _ _) xP rfl (fun _ => ?_)) | (refine KJ_call xE c8 xP rfl (fun y4 => ?_)) | (refine KJ_call xE c6 xP rfl (fun y3 => ?_)) | (refine KJ_call xE c5 xP rfl (fun y1 => ?_)))
    | (refine ek_neq ?_; refine EK_ev (Ev_neqI_f rfl rfl rfl) ?_)
    | (refine ek_lss ?_; refine EK_ev (Ev_lssI_q rfl rfl ql) ?_)
    | refine xst ?_
    | (refine xsa ?_; intro _)
    | (refine xsb ?_ ?_ <;> intro _ <;> first | (exfalso; omega) | skip)
    | refine xsc ?_
    | fail)
  rename_i ya _u1 _u2
  obtain ⟨a1, k1⟩ := ya
  obtain ⟨a2, k2⟩ := y1
  obtain ⟨a3, k3⟩ := y3
  dsimp only
  refine KJ_loop (fun j : {j : Nat × List REff // j.1 ≤ L.length ∧ j.2.length = L.length} => [(5, .pointer (some ⟨r, 0, none⟩)), (10, .slice a1 L.length k1), (11, .slice a2 L.length k2), (12, .slice a3 L.length k3), (71, .int .i64 (L.length : Nat)), (72, .int .i64 (j.1.1 : Nat))])
    (fun j => [RailH r N hs, lsP REff.cells 40 4 (.slice a1 L.length k1) j.1.2, lsP REff.cells 40 4 (.slice a2 L.length k2) L, lsP REff.cells 40 4 (.slice a3 L.length k3) L] ++ R) (fun j => L.length - j.1.1) ⟨(0, L), Nat.zero_le _, rfl⟩ xB (xN) (fun ⟨(j, la), hj, hla⟩ => ?_)
  dsimp only at hj hla ⊢
  by_cases hlt2 : j < L.length
  · have ql2 : decide ((j : Int) < (L.length : Nat)) = true := decide_eq_true (by omega)
    refine KJ.lsSome (l := la) (a := a1) xS (by omega) (fun g1 e1 => ?_)
    subst e1
    have ho : 0 + Int.toNat (j : Int) * 4 = j * 4 := by simp
    repeat' (first 
    | (refine is_store ?_; refine KJ_storeLs (l := la) (a := spoilt) enc_eff rfl rfl xS hla.symm ho (by omega) ?_)
    | (refine ek_build ?_; refine EK_ev (Ev_build xV xW) ?_)
    | (refine ek_add ?_; refine EK_ev (Ev_addI_v (r := ((j + 1 : Nat) : Int)) rfl rfl (by omega) (by omega)) ?_)
    | (refine ek_lss ?_; refine EK_ev (Ev_lssI_q rfl rfl ql2) ?_)
    | refine xst ?_
    | (refine xsa ?_; intro _)
    | (refine xsb ?_ ?_ <;> intro _ <;> first | (exfalso; omega) | skip)
    | refine xsc ?_
    | fail)
    all_goals refine KJ_again ⟨(j + 1, la.set j spoilt), hlt2, by rw [List.length_set]; exact hla⟩ (by show L.length - (j + 1) < L.length - j; omega) xB (xN)
  have ql2 : decide ((j : Int) < (L.length : Nat)) = false := decide_eq_false (by omega)
  have hb1 : (la.length + 1) * 48 ≤ 140737488355328 ∧ la.length + 1 ≤ 9223372036854775807 := by omega
  have hml : (la ++ [moreE]).length = L.length + 1 := by rw [List.length_append, hla]; rfl
  have hmx : (la ++ [moreE])[L.length]? = some moreE := by rw [← hla]; simp
  have ho2 : 0 + Int.toNat ((L.length : Nat) : Int) * 4 + 0 = L.length * 4 + 0 := by simp
  repeat' (first 
    | (refine at_seq_region (id := 23) ?_; refine hold ?_)
    | (refine is_append ?_; refine KJ_appOne (l := la) (a := moreE) enc_eff rfl rfl rfl xS xS hb1.1 hb1.2 rfl (fun g2 c2 => ?_))
    | (refine is_bslice ?_; refine KJ_bslice1 rfl xF (by rfl) (by omega) rfl (fun gb => ?_))
    | (refine ek_build ?_; refine EK_ev (Ev_build xV xW) ?_)
    | (refine ek_lss ?_; refine EK_ev (Ev_lssI_q rfl rfl ql2) ?_)
    | refine xst ?_
    | (refine xsa ?_; intro _)
    | (refine xsb ?_ ?_ <;> intro _ <;> first | (exfalso; omega) | skip)
    | refine xsc ?_
    | fail)
  refine Hold.mk ?_
  obtain ⟨M, hM⟩ : ∃ M, M = la ++ [moreE] := ⟨_, rfl⟩
  rw [← hM] at hml hmx ⊢
  repeat' (first 
    | (refine is_call ?_; first | (refine KJ_call xE (c7 _ _ _ _) xP rfl (fun _ => ?_)) | (refine KJ_call xE c5 xP rfl (fun y5 => ?_)))
    | (refine ek_load ?_; refine EK_ev (Ev_loadLsF (l := M) enc_eff rfl xS rfl ho2 hmx rfl) ?_)
    | (refine ek_sub ?_; refine EK_ev (Ev_subI_v (r := ((L.length : Nat) : Int)) rfl rfl (by omega) (by omega)) ?_)
    | (refine ek_eql ?_; refine EK_ev (Ev_eqlS_t rfl rfl rfl) ?_)
    | refine xst ?_
    | (refine xsa ?_; intro _)
    | (refine xsb ?_ ?_ <;> intro _ <;> first | (exfalso; omega) | skip)
    | refine xsc ?_
    | fail)
  all_goals (exact xdn ())
end
end Go.Proofs.Ytehheokalgmbgaa
