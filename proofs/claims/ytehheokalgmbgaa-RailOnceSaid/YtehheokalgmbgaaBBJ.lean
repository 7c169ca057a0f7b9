/-
  RaR3.
-/
import Derived.Test.YtehheokalgmbgaaBBI
/-
  The document's rail: Effects.
-/
namespace Go.Proofs.Ytehheokalgmbgaa
open Go Go.RowKit
theorem effsUp_drop {hs : RH} {i : Nat} {m : RMsg} {v : Int} (h : hs[i]? = some (m, v)) (l : List REff) : effsUp hs (hs.drop i) l = effsUp hs (hs.drop (i + 1)) (match effect hs m.token with | none => l | some x => ins l x) := by
  obtain ⟨hl, he⟩ := List.getElem?_eq_some_iff.1 h
  rw [List.drop_eq_getElem_cons hl, he]
  rfl
theorem ins_len (l : List REff) (x : REff) : (ins l x).length ≤ l.length + 1 := by
  induction l with
  | nil => simp [ins]
  | cons y r ih =>
    unfold ins
    split
    · simp; omega
    · split <;> simp
section
variable {W : World} {w : Nat} {N : Int} {hs : RH}
set_option maxHeartbeats 2000000 in
theorem refEffects_ct (hl : hs.length * 48 ≤ 140737488355328) : Ct Try.prog W 13 [.pointer (some ⟨w, 0, none⟩)] [RefH w N hs] (fun x : Option Addr × Nat => .slice x.1 (effs hs).length x.2) (fun x => [RefH w N hs, lsP REff.cells 40 4 (.slice x.1 (effs hs).length x.2) (effs hs)]) := by
  refine Ct_unpack (Hs := []) fun x => ?_
  obtain ⟨a, c⟩ := x
  have ce := fun tok => refEffF_ct (W := W) (w := w) (N := N) (hs := hs) (by omega) tok a c
  refine Ct_packs (F := fun _ : Option Addr × Nat => refF w N hs) (fun _ => (a, c)) ?_
  rw [List.append_nil]
  dsimp only [refF] at ce ⊢
  refine Ct.enter Try.func13 rfl Try.ntmps13 (by simp) (fun R => ?_)
  repeat' (first 
    | (refine is_bslice ?_; refine KJ_bslice0 (m := 4) rfl (fun g3 => ?_))
    | refine xst ?_
    | (refine xsa ?_; intro _)
    | (refine xsb ?_ ?_ <;> intro _ <;> first | (exfalso; omega) | skip)
    | refine xsc ?_
    | (refine KJ_draws (id := 8) (.op 0 (.op 1 (.op 2 (.op 3 (.op 4 (.op 5 (.op 6 (.op 7 (.op 8 (.op 9 (.op 10 (.op 11 (.op 12 (.op 13 .nil)))))))))))))) (by kernel_rfl) (by kernel_rfl) ?_)
    | (refine KJ_draws (id := 10) (.op 0 (.op 1 (.op 2 (.op 3 (.op 4 (.op 5 (.op 6 (.op 7 (.op 8 (.op 9 (.op 10 (.op 11 (.op 12 (.op 13 .nil)))))))))))))) (by kernel_rfl) (by kernel_rfl) ?_)
    | refine FW_alt ?_ ?_
    | refine KJ_flow ?_ ?_
    | exact Rech.nil
    | fail)
  refine KJ_loop (fun i : {s : Nat × List REff × Nat × Nat // s.1 ≤ hs.length ∧ s.2.1.length ≤ s.1 ∧ effsUp hs (hs.drop s.1) s.2.1 = effs hs} => [(0, .pointer (some ⟨w, 0, none⟩)), (3, .slice (some ⟨i.1.2.2.1, 0, none⟩) i.1.2.1.length i.1.2.2.2), (14, .slice a hs.length c), (15, .int .i64 (hs.length : Nat)), (16, .int .i64 (i.1.1 : Nat))])
    (fun i => [cellsP w [.int .i64 N, .slice a hs.length c] 29, lsP hrdC 66 8 (.slice a hs.length c) hs, lsP REff.cells 40 4 (.slice (some ⟨i.1.2.2.1, 0, none⟩) i.1.2.1.length i.1.2.2.2) i.1.2.1] ++ R) (fun i => hs.length - i.1.1) ⟨(0, [], g3, 0), Nat.zero_le _, Nat.le_refl _, rfl⟩ xB (xN) (fun ⟨(i, l, g, lc), hi, hle, hup⟩ => ?_)
  dsimp only at hi hle hup ⊢
  by_cases hlt : i < hs.length
  rotate_left
  · have ql : decide ((i : Int) < (hs.length : Nat)) = false := decide_eq_false (by omega)
    rw [List.drop_of_length_le (by omega)] at hup
    have hup : l = effs hs := hup
    subst hup
    repeat' (first 
    | (refine ek_lss ?_; refine EK_ev (Ev_lssI_q rfl rfl ql) ?_)
    | refine xst ?_
    | (refine xsa ?_; intro _)
    | (refine xsb ?_ ?_ <;> intro _ <;> first | (exfalso; omega) | skip)
    | refine xsc ?_
    | (refine KJ_draws (id := 8) (.op 0 (.op 1 (.op 2 (.op 3 (.op 4 (.op 5 (.op 6 (.op 7 (.op 8 (.op 9 (.op 10 (.op 11 (.op 12 (.op 13 .nil)))))))))))))) (by kernel_rfl) (by kernel_rfl) ?_)
    | (refine KJ_draws (id := 10) (.op 0 (.op 1 (.op 2 (.op 3 (.op 4 (.op 5 (.op 6 (.op 7 (.op 8 (.op 9 (.op 10 (.op 11 (.op 12 (.op 13 .nil)))))))))))))) (by kernel_rfl) (by kernel_rfl) ?_)
    | refine FW_alt ?_ ?_
    | refine KJ_flow ?_ ?_
    | exact Rech.nil
    | fail)
    all_goals (exact xdn (some ⟨g, 0, none⟩, lc))
  have ql : decide ((i : Int) < (hs.length : Nat)) = true := decide_eq_true (by omega)
  obtain ⟨⟨m, v⟩, hx⟩ : ∃ s, hs[i]? = some s := ⟨_, List.getElem?_eq_getElem hlt⟩
  refine KJ.lsSome (enc := hrdC) xS (by omega) (fun gh hg => ?_)
  subst hg
  have ho : 0 + Int.toNat (i : Int) * 8 = i * 8 := by simp
  have hst := effsUp_drop hx l
  rw [hup] at hst
  have ce1 := ce m.token
  cases he : effect hs m.token with
  | none =>
    rw [he] at ce1 hst
    repeat' (first 
    | (refine is_call ?_; refine KJ_call xE ce1 xP rfl (fun _ => ?_))
    | (refine ek_load ?_; refine EK_ev (Ev_loadLs enc_hrd rfl xS rfl ho hx) ?_)
    | (refine ek_add ?_; refine EK_ev (Ev_addI_v (r := ((i + 1 : Nat) : Int)) rfl rfl (by omega) (by omega)) ?_)
    | (refine ek_lss ?_; refine EK_ev (Ev_lssI_q rfl rfl ql) ?_)
    | refine xst ?_
    | (refine xsa ?_; intro _)
    | (refine xsb ?_ ?_ <;> intro _ <;> first | (exfalso; omega) | skip)
    | refine xsc ?_
    | (refine KJ_draws (id := 8) (.op 0 (.op 1 (.op 2 (.op 3 (.op 4 (.op 5 (.op 6 (.op 7 (.op 8 (.op 9 (.op 10 (.op 11 (.op 12 (.op 13 .nil)))))))))))))) (by kernel_rfl) (by kernel_rfl) ?_)
    | (refine KJ_draws (id := 10) (.op 0 (.op 1 (.op 2 (.op 3 (.op 4 (.op 5 (.op 6 (.op 7 (.op 8 (.op 9 (.op 10 (.op 11 (.op 12 (.op 13 .nil)))))))))))))) (by kernel_rfl) (by kernel_rfl) ?_)
    | refine FW_alt ?_ ?_
    | refine KJ_flow ?_ ?_
    | exact Rech.nil
    | fail)
    all_goals refine KJ_again ⟨(i + 1, l, g, lc), hlt, Nat.le_succ_of_le hle, hst.symm⟩ (by show hs.length - (i + 1) < hs.length - i; omega) xB (xN)
  | some x =>
    rw [he] at ce1 hst
    dsimp only at hst
    obtain ⟨htk, -⟩ := effect_some he
    have hil := ins_len l x
    have hat := insAt_le l x.token
    refine KJ.lsOpen (enc := REff.cells) xS (fun a0 c0 hv0 hc0 => ?_)
    cases hv0
    repeat' (first 
    | (refine is_alloc ?_; refine KJ_alloc (t := 40) rfl (fun g6 => ?_))
    | (refine is_call ?_; refine KJ_call xE ce1 xP rfl (fun _ => ?_))
    | (refine ek_load ?_; refine EK_ev (Ev_loadLs enc_hrd rfl xS rfl ho hx) ?_)
    | (refine ek_lss ?_; refine EK_ev (Ev_lssI_q rfl rfl ql) ?_)
    | refine xst ?_
    | (refine xsa ?_; intro _)
    | (refine xsb ?_ ?_ <;> intro _ <;> first | (exfalso; omega) | skip)
    | refine xsc ?_
    | (refine KJ_draws (id := 8) (.op 0 (.op 1 (.op 2 (.op 3 (.op 4 (.op 5 (.op 6 (.op 7 (.op 8 (.op 9 (.op 10 (.op 11 (.op 12 (.op 13 .nil)))))))))))))) (by kernel_rfl) (by kernel_rfl) ?_)
    | (refine KJ_draws (id := 10) (.op 0 (.op 1 (.op 2 (.op 3 (.op 4 (.op 5 (.op 6 (.op 7 (.op 8 (.op 9 (.op 10 (.op 11 (.op 12 (.op 13 .nil)))))))))))))) (by kernel_rfl) (by kernel_rfl) ?_)
    | refine FW_alt ?_ ?_
    | refine KJ_flow ?_ ?_
    | exact Rech.nil
    | fail)
    refine KJ_loop (fun k : {k : Nat // k ≤ insAt l x.token} => [(0, .pointer (some ⟨w, 0, none⟩)), (3, .slice (some ⟨g, 0, none⟩) l.length lc), (6, .pointer (some ⟨g6, 0, none⟩)), (8, .int .i64 (k.1 : Nat)), (14, .slice (some ⟨gh, 0, none⟩) hs.length c), (15, .int .i64 (hs.length : Nat)), (16, .int .i64 (i : Nat))])
      (fun _ => [cellsP g6 [strV x.token, .int .i64 x.kind, .int .i64 x.amount, strV x.payee] 40, cellsP w [.int .i64 N, .slice (some ⟨gh, 0, none⟩) hs.length c] 29, lsP hrdC 66 8 (.slice (some ⟨gh, 0, none⟩) hs.length c) hs, lsP REff.cells 40 4 (.slice (some ⟨g, 0, none⟩) l.length lc) l] ++ R) (fun k => insAt l x.token - k.1) ⟨0, Nat.zero_le _⟩ xB (xN) (fun ⟨k, hk⟩ => ?_)
    dsimp only
    have hok : 0 + Int.toNat (k : Int) * 4 + 0 = k * 4 + 0 := by simp
    by_cases hkl : k < insAt l x.token
    · have hll : k < l.length := by omega
      have q1 : decide ((k : Int) < (l.length : Nat)) = true := decide_eq_true (by omega)
      obtain ⟨y, hy⟩ : ∃ s, l[k]? = some s := ⟨_, List.getElem?_eq_getElem hll⟩
      have q2 := insAt_less l x.token k y hkl hy
      repeat' (first 
    | (refine ek_load ?_; refine EK_ev (Ev_loadLsF enc_eff rfl xS rfl hok hy rfl) ?_)
    | (refine ek_add ?_; refine EK_ev (Ev_addI_v (r := ((k + 1 : Nat) : Int)) rfl rfl (by omega) (by omega)) ?_)
    | (refine ek_lss ?_; first | refine EK_ev (Ev_lssS_q rfl rfl q2) ?_ | refine EK_ev (Ev_lssI_q rfl rfl q1) ?_)
    | refine xst ?_
    | (refine xsa ?_; intro _)
    | (refine xsb ?_ ?_ <;> intro _ <;> first | (exfalso; omega) | skip)
    | refine xsc ?_
    | (refine KJ_draws (id := 8) (.op 0 (.op 1 (.op 2 (.op 3 (.op 4 (.op 5 (.op 6 (.op 7 (.op 8 (.op 9 (.op 10 (.op 11 (.op 12 (.op 13 .nil)))))))))))))) (by kernel_rfl) (by kernel_rfl) ?_)
    | (refine KJ_draws (id := 10) (.op 0 (.op 1 (.op 2 (.op 3 (.op 4 (.op 5 (.op 6 (.op 7 (.op 8 (.op 9 (.op 10 (.op 11 (.op 12 (.op 13 .nil)))))))))))))) (by kernel_rfl) (by kernel_rfl) ?_)
    | refine FW_alt ?_ ?_
    | refine KJ_flow ?_ ?_
    | exact Rech.nil
    | fail)
      all_goals refine KJ_again ⟨k + 1, hkl⟩ (by show insAt l x.token - (k + 1) < insAt l x.token - k; omega) xB (xN)
    have hke : k = insAt l x.token := by omega
    by_cases hll : k < l.length
    · have q1 : decide ((k : Int) < (l.length : Nat)) = true := decide_eq_true (by omega)
      obtain ⟨y, hy⟩ : ∃ s, l[k]? = some s := ⟨_, List.getElem?_eq_getElem hll⟩
      have q2 := insAt_stop l x.token (by rw [← hke]; exact hy)
      by_cases hyx : y.token = x.token
      · have hin := ins_here (by rw [← hke]; exact hy) hyx
        rw [hin] at hst
        repeat' (first 
    | (refine ek_load ?_; refine EK_ev (Ev_loadLsF enc_eff rfl xS rfl hok hy rfl) ?_)
    | (refine ek_add ?_; refine EK_ev (Ev_addI_v (r := ((i + 1 : Nat) : Int)) rfl rfl (by omega) (by omega)) ?_)
    | (refine ek_eql ?_; refine EK_ev (Ev_eqlS_t rfl rfl hyx) ?_)
    | (refine ek_lss ?_; first | refine EK_ev (Ev_lssS_q rfl rfl q2) ?_ | refine EK_ev (Ev_lssI_q rfl rfl q1) ?_)
    | refine xst ?_
    | (refine xsa ?_; intro _)
    | (refine xsb ?_ ?_ <;> intro _ <;> first | (exfalso; omega) | skip)
    | refine xsc ?_
    | (refine KJ_draws (id := 8) (.op 0 (.op 1 (.op 2 (.op 3 (.op 4 (.op 5 (.op 6 (.op 7 (.op 8 (.op 9 (.op 10 (.op 11 (.op 12 (.op 13 .nil)))))))))))))) (by kernel_rfl) (by kernel_rfl) ?_)
    | (refine KJ_draws (id := 10) (.op 0 (.op 1 (.op 2 (.op 3 (.op 4 (.op 5 (.op 6 (.op 7 (.op 8 (.op 9 (.op 10 (.op 11 (.op 12 (.op 13 .nil)))))))))))))) (by kernel_rfl) (by kernel_rfl) ?_)
    | refine FW_alt ?_ ?_
    | refine KJ_flow ?_ ?_
    | exact Rech.nil
    | fail)
        all_goals refine KJ_again ⟨(i + 1, l, g, lc), hlt, Nat.le_succ_of_le hle, hst.symm⟩ (by show hs.length - (i + 1) < hs.length - i; omega) xB (xN)
      · have hin := ins_at (l := l) (x := x) (fun z hz => by rw [← hke, hy] at hz; cases hz; exact hyx)
        rw [← hke] at hin
        have hk0 : k ≤ l.length := by omega
        have hb1 : (([] : List REff).length + (l.take k).length) * 48 ≤ 140737488355328 := by rw [List.length_nil, List.length_take]; omega
        have hb1' : ([] : List REff).length + (l.take k).length ≤ 9223372036854775807 := by rw [List.length_nil, List.length_take]; omega
        have hb2 : (([] ++ l.take k).length + 1) * 48 ≤ 140737488355328 ∧ ([] ++ l.take k).length + 1 ≤ 9223372036854775807 := by rw [List.nil_append, List.length_take]; omega
        have hb3 : (([] ++ l.take k ++ [x]).length + (l.drop k).length) * 48 ≤ 140737488355328 ∧ ([] ++ l.take k ++ [x]).length + (l.drop k).length ≤ 9223372036854775807 := by simp; omega
        have hkn : Int.toNat (k : Int) = (l.take k).length := by rw [List.length_take]; omega
        have hkd : l.length - Int.toNat (k : Int) = (l.drop k).length := by simp
        have hsf : Int.toNat (k : Int) = k := by simp
        repeat' (first 
    | (refine is_append ?_; first | (refine KJ_appAll (l2 := l.drop k) enc_eff rfl rfl hkd rfl xS (by rw [hsf]; exact Src.lsFrom enc_eff xS rfl hk0 hc0) hb3.1 hb3.2 rfl (fun a3 c3 => ?_)) | (refine KJ_appOne (a := x) enc_eff rfl rfl rfl xS xS hb2.1 hb2.2 rfl (fun g2 c2 => ?_)) | (refine KJ_appAll (l := ([] : List REff)) (l2 := l.take k) enc_eff rfl rfl hkn rfl xS (Src.lsTo enc_eff xS rfl) hb1 hb1' rfl (fun a1 c1 => ?_)))
    | (refine is_bslice ?_; first | (refine KJ_bslice1 rfl xF (by rfl) (by omega) rfl (fun gb => ?_)) | (refine KJ_bslice0 (m := 4) rfl (fun gn => ?_)))
    | (refine ek_load ?_; refine EK_ev (Ev_loadLsF enc_eff rfl xS rfl hok hy rfl) ?_)
    | (refine ek_slice ?_; first | refine EK_ev (Ev_sliceFromG rfl rfl (by omega)) ?_ | refine EK_ev (Ev_sliceToG rfl rfl (by omega)) ?_)
    | (refine ek_add ?_; refine EK_ev (Ev_addI_v (r := ((i + 1 : Nat) : Int)) rfl rfl (by omega) (by omega)) ?_)
    | (refine ek_eql ?_; refine EK_ev (Ev_eqlS_f rfl rfl hyx) ?_)
    | (refine ek_lss ?_; first | refine EK_ev (Ev_lssS_q rfl rfl q2) ?_ | refine EK_ev (Ev_lssI_q rfl rfl q1) ?_)
    | refine xst ?_
    | (refine xsa ?_; intro _)
    | (refine xsb ?_ ?_ <;> intro _ <;> first | (exfalso; omega) | skip)
    | refine xsc ?_
    | (refine KJ_draws (id := 8) (.op 0 (.op 1 (.op 2 (.op 3 (.op 4 (.op 5 (.op 6 (.op 7 (.op 8 (.op 9 (.op 10 (.op 11 (.op 12 (.op 13 .nil)))))))))))))) (by kernel_rfl) (by kernel_rfl) ?_)
    | (refine KJ_draws (id := 10) (.op 0 (.op 1 (.op 2 (.op 3 (.op 4 (.op 5 (.op 6 (.op 7 (.op 8 (.op 9 (.op 10 (.op 11 (.op 12 (.op 13 .nil)))))))))))))) (by kernel_rfl) (by kernel_rfl) ?_)
    | refine FW_alt ?_ ?_
    | refine KJ_flow ?_ ?_
    | exact Rech.nil
    | fail)
        all_goals
          refine KJ.lsSome (enc := REff.cells) xS (by simp; omega) (fun g4 h4 => ?_)
          subst h4
          rw [show [] ++ l.take k ++ [x] ++ l.drop k = ins l x by rw [hin, List.nil_append]]
          refine KJ_again ⟨(i + 1, ins l x, g4, c3), hlt, Nat.le_trans hil (Nat.succ_le_succ hle), hst.symm⟩ (by show hs.length - (i + 1) < hs.length - i; omega) xB (xN)
    · have q1 : decide ((k : Int) < (l.length : Nat)) = false := decide_eq_false (by omega)
      have hin := ins_at (l := l) (x := x) (fun z hz => by
        have := (List.getElem?_eq_some_iff.1 hz).1
        omega)
      rw [← hke] at hin
      have hk0 : k ≤ l.length := by omega
      have hb1 : (([] : List REff).length + (l.take k).length) * 48 ≤ 140737488355328 := by rw [List.length_nil, List.length_take]; omega
      have hb1' : ([] : List REff).length + (l.take k).length ≤ 9223372036854775807 := by rw [List.length_nil, List.length_take]; omega
      have hb2 : (([] ++ l.take k).length + 1) * 48 ≤ 140737488355328 ∧ ([] ++ l.take k).length + 1 ≤ 9223372036854775807 := by rw [List.nil_append, List.length_take]; omega
      have hb3 : (([] ++ l.take k ++ [x]).length + (l.drop k).length) * 48 ≤ 140737488355328 ∧ ([] ++ l.take k ++ [x]).length + (l.drop k).length ≤ 9223372036854775807 := by simp; omega
      have hkn : Int.toNat (k : Int) = (l.take k).length := by rw [List.length_take]; omega
      have hkd : l.length - Int.toNat (k : Int) = (l.drop k).length := by simp
      have hsf : Int.toNat (k : Int) = k := by simp
      repeat' (first 
    | (refine is_append ?_; first | (refine KJ_appAll (l2 := l.drop k) enc_eff rfl rfl hkd rfl xS (by rw [hsf]; exact Src.lsFrom enc_eff xS rfl hk0 hc0) hb3.1 hb3.2 rfl (fun a3 c3 => ?_)) | (refine KJ_appOne (a := x) enc_eff rfl rfl rfl xS xS hb2.1 hb2.2 rfl (fun g2 c2 => ?_)) | (refine KJ_appAll (l := ([] : List REff)) (l2 := l.take k) enc_eff rfl rfl hkn rfl xS (Src.lsTo enc_eff xS rfl) hb1 hb1' rfl (fun a1 c1 => ?_)))
    | (refine is_bslice ?_; first | (refine KJ_bslice1 rfl xF (by rfl) (by omega) rfl (fun gb => ?_)) | (refine KJ_bslice0 (m := 4) rfl (fun gn => ?_)))
    | (refine ek_slice ?_; first | refine EK_ev (Ev_sliceFromG rfl rfl (by omega)) ?_ | refine EK_ev (Ev_sliceToG rfl rfl (by omega)) ?_)
    | (refine ek_add ?_; refine EK_ev (Ev_addI_v (r := ((i + 1 : Nat) : Int)) rfl rfl (by omega) (by omega)) ?_)
    | (refine ek_lss ?_; refine EK_ev (Ev_lssI_q rfl rfl q1) ?_)
    | refine xst ?_
    | (refine xsa ?_; intro _)
    | (refine xsb ?_ ?_ <;> intro _ <;> first | (exfalso; omega) | skip)
    | refine xsc ?_
    | (refine KJ_draws (id := 8) (.op 0 (.op 1 (.op 2 (.op 3 (.op 4 (.op 5 (.op 6 (.op 7 (.op 8 (.op 9 (.op 10 (.op 11 (.op 12 (.op 13 .nil)))))))))))))) (by kernel_rfl) (by kernel_rfl) ?_)
    | (refine KJ_draws (id := 10) (.op 0 (.op 1 (.op 2 (.op 3 (.op 4 (.op 5 (.op 6 (.op 7 (.op 8 (.op 9 (.op 10 (.op 11 (.op 12 (.op 13 .nil)))))))))))))) (by kernel_rfl) (by kernel_rfl) ?_)
    | refine FW_alt ?_ ?_
    | refine KJ_flow ?_ ?_
    | exact Rech.nil
    | fail)
      all_goals
        refine KJ.lsSome (enc := REff.cells) xS (by simp; omega) (fun g4 h4 => ?_)
        subst h4
        rw [show [] ++ l.take k ++ [x] ++ l.drop k = ins l x by rw [hin, List.nil_append]]
        refine KJ_again ⟨(i + 1, ins l x, g4, c3), hlt, Nat.le_trans hil (Nat.succ_le_succ hle), hst.symm⟩ (by show hs.length - (i + 1) < hs.length - i; omega) xB (xN)
end
end Go.Proofs.Ytehheokalgmbgaa
