/-
  PoX6, PoX7, PoX8, PoX9.
-/
import Derived.Test.YtdbfemdpdpaffaaGreatDoorPCK
import Derived.Test.YtdbfemdpdpaffaaGreatDoorPBR
/-
  posting.read.
-/
namespace Go.Proofs.YtdbfemdpdpaffaaGreatDoor
open Go Go.RowKit Go.MapKept
theorem rup_bad {m : Nat} {l : List UInt8} {w : Rd Nat} (hw : ru l = w) (h : uptE m w ≠ 0) : rup m l = .bad (uptE m w) := by
  unfold rup
  rw [hw]
  cases w with
  | bad e => rfl
  | ok x t =>
    dsimp only
    by_cases hx : m < x
    · rw [if_pos hx, (upt_big hx).1]
    · exact absurd (upt_ok hx).1 h
theorem rup_ok {m a : Nat} {s : List UInt8} {w : Rd Nat} (hw : ru (s.drop a) = w) (h : uptE m w = 0) : rup m (s.drop a) = .ok (uptN m w) (s.drop (a + uptL m w)) ∧ a + uptL m w ≤ s.length ∧ uptN m w ≤ m := by
  cases w with
  | bad e => rcases ru_err hw with q | q <;> (have h : e = 0 := h; omega)
  | ok x t =>
    by_cases hx : m < x
    · rw [(upt_big hx).1] at h; cases h
    · obtain ⟨_, e2, e3⟩ := upt_ok (t := t) hx
      rw [e2, e3]
      refine ⟨?_, ru_fit hw, by omega⟩
      unfold rup
      rw [hw]
      dsimp only
      rw [if_neg hx, ← ru_drop hw]
def joinL (acc : List Leg) : Rd (List Leg) → Rd (List Leg)
  | .bad e => .bad e
  | .ok os t => .ok (acc ++ os) t
/-- legs being read: acc were read, the reader stands at a -/
structure RlgI (s : List UInt8) (n : Nat) (R : Rd (List Leg)) (i : Nat) (acc : List Leg) (a : Nat) : Prop where
  len : acc.length = i
  le : i ≤ n
  fit : a ≤ s.length
  go : joinL acc (rdLegs (n - i) (s.drop a)) = R
theorem RlgI.start {s : List UInt8} {n a : Nat} {R : Rd (List Leg)} (ha : a ≤ s.length) (h : rdLegs n (s.drop a) = R) : RlgI s n R 0 [] a := ⟨rfl, by omega, ha, by
  rw [Nat.sub_zero, h]
  cases R <;> rfl⟩
section
variable {s : List UInt8} {n i a : Nat} {R : Rd (List Leg)} {acc : List Leg}
theorem RlgI.bad (h : RlgI s n R i acc a) (hi : i < n) {e : Nat} (hq : rdLeg (s.drop a) = .bad e) : R = .bad e := by
  have := h.go
  rw [show n - i = (n - i - 1) + 1 by omega] at this
  unfold rdLegs at this
  rw [hq] at this
  exact this.symm
theorem RlgI.next (h : RlgI s n R i acc a) (hi : i < n) {o : Leg} {b : Nat} (hq : rdLeg (s.drop a) = .ok o (s.drop b)) (hb : b ≤ s.length) : RlgI s n R (i + 1) (acc ++ [o]) b := by
  have hg := h.go
  have hl := h.len
  refine ⟨by simp [hl], by omega, hb, ?_⟩
  rw [← hg, show n - i = (n - (i + 1)) + 1 by omega]
  conv => rhs; unfold rdLegs
  rw [hq]
  dsimp only
  cases rdLegs (n - (i + 1)) (s.drop b) <;> simp [joinL]
theorem RlgI.stop (h : RlgI s n R i acc a) (hi : ¬ i < n) : R = .ok acc (s.drop a) := by
  have hg := h.go
  have hle := h.le
  rw [show n - i = 0 by omega] at hg
  rw [← hg]
  show joinL acc (.ok [] (s.drop a)) = _
  simp [joinL]
end
theorem rdLeg_text {l : List UInt8} {e : Nat} (h : rtx 34 l = .bad e) : rdLeg l = .bad e := by unfold rdLeg; rw [h]
theorem rdLeg_num {l t : List UInt8} {ac : List UInt8} {e : Nat} (h : rtx 34 l = .ok ac t) (h2 : ru t = .bad e) : rdLeg l = .bad e := by unfold rdLeg; rw [h]; dsimp only; rw [h2]
theorem rdLeg_ok {l t u : List UInt8} {ac : List UInt8} {x : Nat} (h : rtx 34 l = .ok ac t) (h2 : ru t = .ok x u) : rdLeg l = .ok ⟨ac, zag x⟩ u := by unfold rdLeg; rw [h]; dsimp only; rw [h2]
theorem rdPst_1 {s : List UInt8} {e : Nat} (h : rtx 32 s = .bad e) : rdPst s = .bad e := by unfold rdPst; rw [h]
theorem rdPst_2 {s t i : List UInt8} {e : Nat} (h : rtx 32 s = .ok i t) (h2 : rup 1099511627776 t = .bad e) : rdPst s = .bad e := by unfold rdPst; rw [h]; dsimp only; rw [h2]
theorem rdPst_3 {s t u i : List UInt8} {e k : Nat} (h : rtx 32 s = .ok i t) (h2 : rup 1099511627776 t = .ok k u) (h3 : rtx 255 u = .bad e) : rdPst s = .bad e := by unfold rdPst; rw [h]; dsimp only; rw [h2]; dsimp only; rw [h3]
theorem rdPst_4 {s t u v i m : List UInt8} {e k : Nat} (h : rtx 32 s = .ok i t) (h2 : rup 1099511627776 t = .ok k u) (h3 : rtx 255 u = .ok m v) (h4 : rup 8 v = .bad e) : rdPst s = .bad e := by unfold rdPst; rw [h]; dsimp only; rw [h2]; dsimp only; rw [h3]; dsimp only; rw [h4]
theorem rdPst_5 {s t u v w i m : List UInt8} {e k c : Nat} (h : rtx 32 s = .ok i t) (h2 : rup 1099511627776 t = .ok k u) (h3 : rtx 255 u = .ok m v) (h4 : rup 8 v = .ok c w) (h5 : rdLegs c w = .bad e) : rdPst s = .bad e := by unfold rdPst; rw [h]; dsimp only; rw [h2]; dsimp only; rw [h3]; dsimp only; rw [h4]; dsimp only; rw [h5]
theorem rdPst_6 {s t u v w x i m : List UInt8} {k c : Nat} {ls : List Leg} (h : rtx 32 s = .ok i t) (h2 : rup 1099511627776 t = .ok k u) (h3 : rtx 255 u = .ok m v) (h4 : rup 8 v = .ok c w) (h5 : rdLegs c w = .ok ls x) : rdPst s = if x = [] then .ok ⟨i, k, m, ls⟩ [] else .bad 5 := by unfold rdPst; rw [h]; dsimp only; rw [h2]; dsimp only; rw [h3]; dsimp only; rw [h4]; dsimp only; rw [h5]
/-- four cells -/
def Four (vs : List Value) : Prop := vs.length = 4 ∧ Ones vs
def rdV (q : Rd Pst) (x : Option Addr × Nat × List Value) : List Value := match q with
  | .bad _ => x.2.2
  | .ok p _ => pstC p x.1 x.2.1
def rdC (q : Rd Pst) (x : Option Addr × Nat × List Value) : List SP := match q with
  | .bad _ => []
  | .ok p _ => [lsP legC 55 2 (.slice x.1 p.legs.length x.2.1) p.legs]
theorem four0 : Four [strV [], strV [], strV [], strV []] := ⟨rfl, xO⟩
end Go.Proofs.YtdbfemdpdpaffaaGreatDoor
/-
  posting.read: the walk (printed by genpox7.py).
-/
namespace Go.Proofs.YtdbfemdpdpaffaaGreatDoor
open Go Go.RowKit Go.MapKept
section
variable {W : World} {F : Nat → Addr}
set_option maxHeartbeats 16000000 in
set_option maxRecDepth 20000 in
theorem pread_ct (s : List UInt8) (hs : s.length ≤ 9223372036854775807) (e1 : W.cell? ⟨5, 0, none⟩ = some (errV F 1)) (e2 : W.cell? ⟨6, 0, none⟩ = some (errV F 2)) (e3 : W.cell? ⟨2, 0, none⟩ = some (errV F 3)) (e5 : W.cell? ⟨8, 0, none⟩ = some (errV F 5)) (p : Nat) (q : Rd Pst) (hq : rdPst s = q) :
    Ct Tryz.prog W 29 [.pointer (some ⟨p, 0, none⟩)] [rdP p s 0] (fun x : {x : Option Addr × Nat × List Value // Four x.2.2} => .tuple #[.agg (rdV q x.1).toArray, errV F (rdE q)]) (fun x => rdC q x.1) := by
  cases h1 : rtx 32 (s.drop 0) with
  | bad e =>
    have c1 := rtext_ct (W := W) (F := F) (p := p) (s := s) (a := 0) 32 (by omega) (by omega) (by omega) e1 e2 e3 _ h1
    have hne := errNe (F := F) (e := e) (by have := rtx_err h1; omega)
    have hb := hq.symm.trans (rdPst_1 h1)
    subst hb
    refine Ct.enter Tryz.func29 rfl Tryz.ntmps29 (by simp) (fun R => ?_)
    repeat' (first 
    | (refine is_alloc ?_; refine KJ_alloc rfl (fun g => ?_))
    | (refine is_call ?_; refine KJ_call xE c1 xP rfl (fun _ => ?_))
    | (refine ek_neq ?_; refine EK_ev (Ev_neqNil rfl hne) ?_)
    | refine xst ?_
    | (refine xsa ?_; intro _)
    | (refine xsb ?_ ?_ <;> intro _ <;> first | (exfalso; omega) | skip)
    | refine xsc ?_
    | (refine KJ_draws (id := 24) (.op 0 (.op 1 (.ef 2 [0] (.ef 3 [] (.op 4 .nil))))) (by kernel_rfl) (by kernel_rfl) ?_)
    | refine FW_alt ?_ ?_
    | refine FW_efn rfl rfl rfl rfl rfl ?_ ?_
    | refine KJ_flow ?_ ?_
    | exact Rech.nil
    | fail)
    all_goals (refine is_ex ?_; exact KJ_done (by first | exact Or.inl rfl | exact Or.inr rfl) rfl (Rvs.agg (T := 25) rfl inferInstance inferInstance xS xC (Rvs.tmp rfl Rvs.nil)) ⟨(none, 0, [strV [], .int .i64 0, strV [], .slice none 0 0]), rfl, xO⟩ (by rfl) (xN))
  | ok id t1 =>
  have c1 := rtext_ct (W := W) (F := F) (p := p) (s := s) (a := 0) 32 (by omega) (by omega) (by omega) e1 e2 e3 _ h1
  have f1 := rtx_fit h1
  have d1 := rtx_drop h1
  obtain ⟨a1, ha1⟩ : ∃ a1, a1 = 0 + (tx id).length := ⟨_, rfl⟩
  rw [← ha1] at f1 d1
  rw [d1] at h1
  replace c1 : Ct Tryz.prog W 52 [.pointer (some ⟨p, 0, none⟩), .int .i64 32] [rdP p s 0] (fun _ : Unit => .tuple #[strV id, errV F 0]) (fun _ => [rdP p s a1]) := by rw [ha1]; exact c1
  clear ha1 d1
  obtain ⟨w2, h2⟩ : ∃ w2, ru (s.drop a1) = w2 := ⟨_, rfl⟩
  have c2 := rupto_ct (W := W) (F := F) (p := p) (s := s) (a := a1) 1099511627776 (by omega) f1 (by omega) e1 e2 e3 w2 h2
  by_cases z2 : uptE 1099511627776 w2 = 0
  case neg =>
    have hne := errNe (F := F) z2
    have hb := hq.symm.trans (rdPst_2 h1 (rup_bad h2 z2))
    subst hb
    replace c2 : Ct Tryz.prog W 53 [.pointer (some ⟨p, 0, none⟩), .int .i64 1099511627776] [rdP p s a1] (fun _ : Unit => .tuple #[.int .i64 (uptN 1099511627776 w2 : Nat), errV F (uptE 1099511627776 w2)]) (fun _ => [rdP p s (a1 + uptL 1099511627776 w2)]) := c2
    obtain ⟨n2, hn2⟩ : ∃ n2, n2 = uptN 1099511627776 w2 := ⟨_, rfl⟩
    rw [← hn2] at c2
    refine Ct.enter Tryz.func29 rfl Tryz.ntmps29 (by simp) (fun R => ?_)
    repeat' (first 
    | (refine is_alloc ?_; refine KJ_alloc rfl (fun g => ?_))
    | (refine is_call ?_; first | (refine KJ_call xE c2 xP rfl (fun _ => ?_)) | (refine KJ_call xE c1 xP rfl (fun _ => ?_)))
    | (refine ek_neq ?_; refine EK_ev (Ev_neqNil rfl hne) ?_)
    | refine xst ?_
    | (refine xsa ?_; intro _)
    | (refine xsb ?_ ?_ <;> intro _ <;> first | (exfalso; omega) | skip)
    | refine xsc ?_
    | (refine KJ_draws (id := 24) (.op 0 (.op 1 (.ef 2 [0] (.ef 3 [] (.op 4 .nil))))) (by kernel_rfl) (by kernel_rfl) ?_)
    | refine FW_alt ?_ ?_
    | refine FW_efn rfl rfl rfl rfl rfl ?_ ?_
    | refine KJ_flow ?_ ?_
    | exact Rech.nil
    | fail)
    all_goals (refine is_ex ?_; exact KJ_done (by first | exact Or.inl rfl | exact Or.inr rfl) rfl (Rvs.agg (T := 25) rfl inferInstance inferInstance xS xC (Rvs.tmp rfl Rvs.nil)) ⟨(none, 0, [strV id, .int .i64 (n2 : Nat), strV [], .slice none 0 0]), rfl, xO⟩ (by rfl) (xN))
  obtain ⟨r2, f2, m2⟩ := rup_ok h2 z2
  rw [z2] at c2
  obtain ⟨k, hk⟩ : ∃ k, k = uptN 1099511627776 w2 := ⟨_, rfl⟩
  obtain ⟨a2, ha2⟩ : ∃ a2, a2 = a1 + uptL 1099511627776 w2 := ⟨_, rfl⟩
  rw [← hk, ← ha2] at c2 r2
  rw [← ha2] at f2
  rw [← hk] at m2
  replace c2 : Ct Tryz.prog W 53 [.pointer (some ⟨p, 0, none⟩), .int .i64 1099511627776] [rdP p s a1] (fun _ : Unit => .tuple #[.int .i64 (k : Nat), errV F 0]) (fun _ => [rdP p s a2]) := c2
  clear hk ha2 z2 h2
  cases h3 : rtx 255 (s.drop a2) with
  | bad e =>
    have c3 := rtext_ct (W := W) (F := F) (p := p) (s := s) (a := a2) 255 (by omega) f2 (by omega) e1 e2 e3 _ h3
    have hne := errNe (F := F) (e := e) (by have := rtx_err h3; omega)
    have hb := hq.symm.trans (rdPst_3 h1 r2 h3)
    subst hb
    refine Ct.enter Tryz.func29 rfl Tryz.ntmps29 (by simp) (fun R => ?_)
    repeat' (first 
    | (refine is_alloc ?_; refine KJ_alloc rfl (fun g => ?_))
    | (refine is_call ?_; first | (refine KJ_call xE c3 xP rfl (fun _ => ?_)) | (refine KJ_call xE c2 xP rfl (fun _ => ?_)) | (refine KJ_call xE c1 xP rfl (fun _ => ?_)))
    | (refine ek_neq ?_; refine EK_ev (Ev_neqNil rfl hne) ?_)
    | refine xst ?_
    | (refine xsa ?_; intro _)
    | (refine xsb ?_ ?_ <;> intro _ <;> first | (exfalso; omega) | skip)
    | refine xsc ?_
    | (refine KJ_draws (id := 24) (.op 0 (.op 1 (.ef 2 [0] (.ef 3 [] (.op 4 .nil))))) (by kernel_rfl) (by kernel_rfl) ?_)
    | refine FW_alt ?_ ?_
    | refine FW_efn rfl rfl rfl rfl rfl ?_ ?_
    | refine KJ_flow ?_ ?_
    | exact Rech.nil
    | fail)
    all_goals (refine is_ex ?_; exact KJ_done (by first | exact Or.inl rfl | exact Or.inr rfl) rfl (Rvs.agg (T := 25) rfl inferInstance inferInstance xS xC (Rvs.tmp rfl Rvs.nil)) ⟨(none, 0, [strV id, .int .i64 (k : Nat), strV [], .slice none 0 0]), rfl, xO⟩ (by rfl) (xN))
  | ok note t3 =>
  have c3 := rtext_ct (W := W) (F := F) (p := p) (s := s) (a := a2) 255 (by omega) f2 (by omega) e1 e2 e3 _ h3
  have f3 := rtx_fit h3
  have d3 := rtx_drop h3
  obtain ⟨a3, ha3⟩ : ∃ a3, a3 = a2 + (tx note).length := ⟨_, rfl⟩
  rw [← ha3] at f3 d3
  rw [d3] at h3
  replace c3 : Ct Tryz.prog W 52 [.pointer (some ⟨p, 0, none⟩), .int .i64 255] [rdP p s a2] (fun _ : Unit => .tuple #[strV note, errV F 0]) (fun _ => [rdP p s a3]) := by rw [ha3]; exact c3
  clear ha3 d3
  obtain ⟨w4, h4⟩ : ∃ w4, ru (s.drop a3) = w4 := ⟨_, rfl⟩
  have c4 := rupto_ct (W := W) (F := F) (p := p) (s := s) (a := a3) 8 (by omega) f3 (by omega) e1 e2 e3 w4 h4
  by_cases z4 : uptE 8 w4 = 0
  case neg =>
    have hne := errNe (F := F) z4
    have hb := hq.symm.trans (rdPst_4 h1 r2 h3 (rup_bad h4 z4))
    subst hb
    replace c4 : Ct Tryz.prog W 53 [.pointer (some ⟨p, 0, none⟩), .int .i64 8] [rdP p s a3] (fun _ : Unit => .tuple #[.int .i64 (uptN 8 w4 : Nat), errV F (uptE 8 w4)]) (fun _ => [rdP p s (a3 + uptL 8 w4)]) := c4
    refine Ct.enter Tryz.func29 rfl Tryz.ntmps29 (by simp) (fun R => ?_)
    repeat' (first 
    | (refine is_alloc ?_; refine KJ_alloc rfl (fun g => ?_))
    | (refine is_call ?_; first | (refine KJ_call xE c4 xP rfl (fun _ => ?_)) | (refine KJ_call xE c3 xP rfl (fun _ => ?_)) | (refine KJ_call xE c2 xP rfl (fun _ => ?_)) | (refine KJ_call xE c1 xP rfl (fun _ => ?_)))
    | (refine ek_neq ?_; refine EK_ev (Ev_neqNil rfl hne) ?_)
    | refine xst ?_
    | (refine xsa ?_; intro _)
    | (refine xsb ?_ ?_ <;> intro _ <;> first | (exfalso; omega) | skip)
    | refine xsc ?_
    | (refine KJ_draws (id := 24) (.op 0 (.op 1 (.ef 2 [0] (.ef 3 [] (.op 4 .nil))))) (by kernel_rfl) (by kernel_rfl) ?_)
    | refine FW_alt ?_ ?_
    | refine FW_efn rfl rfl rfl rfl rfl ?_ ?_
    | refine KJ_flow ?_ ?_
    | exact Rech.nil
    | fail)
    all_goals (refine is_ex ?_; exact KJ_done (by first | exact Or.inl rfl | exact Or.inr rfl) rfl (Rvs.agg (T := 25) rfl inferInstance inferInstance xS xC (Rvs.tmp rfl Rvs.nil)) ⟨(none, 0, [strV id, .int .i64 (k : Nat), strV note, .slice none 0 0]), rfl, xO⟩ (by rfl) (xN))
  obtain ⟨r4, f4, m4⟩ := rup_ok h4 z4
  rw [z4] at c4
  obtain ⟨n, hn⟩ : ∃ n, n = uptN 8 w4 := ⟨_, rfl⟩
  obtain ⟨a4, ha4⟩ : ∃ a4, a4 = a3 + uptL 8 w4 := ⟨_, rfl⟩
  rw [← hn, ← ha4] at c4 r4
  rw [← ha4] at f4
  rw [← hn] at m4
  replace c4 : Ct Tryz.prog W 53 [.pointer (some ⟨p, 0, none⟩), .int .i64 8] [rdP p s a3] (fun _ : Unit => .tuple #[.int .i64 (n : Nat), errV F 0]) (fun _ => [rdP p s a4]) := c4
  clear hn ha4 z4 h4
  obtain ⟨RL, h5⟩ : ∃ RL, rdLegs n (s.drop a4) = RL := ⟨_, rfl⟩
  refine Ct.enter Tryz.func29 rfl Tryz.ntmps29 (by simp) (fun R => ?_)
  repeat' (first 
    | (refine is_alloc ?_; refine KJ_alloc rfl (fun g => ?_))
    | (refine is_call ?_; first | (refine KJ_call xE c4 xP rfl (fun _ => ?_)) | (refine KJ_call xE c3 xP rfl (fun _ => ?_)) | (refine KJ_call xE c2 xP rfl (fun _ => ?_)) | (refine KJ_call xE c1 xP rfl (fun _ => ?_)))
    | refine xst ?_
    | (refine xsa ?_; intro _)
    | (refine xsb ?_ ?_ <;> intro _ <;> first | (exfalso; omega) | skip)
    | refine xsc ?_
    | (refine KJ_draws (id := 24) (.op 0 (.op 1 (.ef 2 [0] (.ef 3 [] (.op 4 .nil))))) (by kernel_rfl) (by kernel_rfl) ?_)
    | refine FW_alt ?_ ?_
    | refine FW_efn rfl rfl rfl rfl rfl ?_ ?_
    | refine KJ_flow ?_ ?_
    | exact Rech.nil
    | fail)
  refine KJ.nilrow 55 2 ?_
  refine KJ_loop (fun x : {x : Nat × List Leg × Nat × Option Addr × Nat // RlgI s n RL x.1 x.2.1 x.2.2.1} => [(0, .pointer (some ⟨p, 0, none⟩)), (2, .pointer (some ⟨g, 0, none⟩)), (45, .int .i64 (n : Nat)), (46, .int .i64 (x.1.1 : Nat))])
    (fun x => [rdP p s x.1.2.2.1, cellsP g [strV id, .int .i64 (k : Nat), strV note, .slice x.1.2.2.2.1 x.1.2.1.length x.1.2.2.2.2] 25, lsP legC 55 2 (.slice x.1.2.2.2.1 x.1.2.1.length x.1.2.2.2.2) x.1.2.1] ++ R) (fun x => n - x.1.1) ⟨(0, [], a4, none, 0), RlgI.start f4 h5⟩ xB (xN) (fun ⟨(i, acc, a, sa, sc), hi⟩ => ?_)
  dsimp only at hi ⊢
  have hlen := hi.len
  have hfit := hi.fit
  have hle := hi.le
  by_cases hlt : i < n
  · have ql : decide (((i : Nat) : Int) < ((n : Nat) : Int)) = true := decide_eq_true (by omega)
    have b1 : (acc.length + 1) * 24 ≤ 140737488355328 := by omega
    have b2 : acc.length + 1 ≤ 9223372036854775807 := by omega
    cases h6 : rtx 34 (s.drop a) with
    | bad e =>
      have c6 := rtext_ct (W := W) (F := F) (p := p) (s := s) (a := a) 34 (by omega) hfit (by omega) e1 e2 e3 _ h6
      have hne := errNe (F := F) (e := e) (by have := rtx_err h6; omega)
      have hb := hq.symm.trans (rdPst_5 h1 r2 h3 r4 (h5.trans (hi.bad hlt (rdLeg_text h6))))
      subst hb
      repeat' (first 
    | (refine is_alloc ?_; refine KJ_alloc rfl (fun g5 => ?_))
    | (refine is_call ?_; refine KJ_call xE c6 xP rfl (fun _ => ?_))
    | (refine ek_build ?_; refine EK_ev (Ev_build xV xW) ?_)
    | (refine ek_neq ?_; refine EK_ev (Ev_neqNil rfl hne) ?_)
    | (refine ek_lss ?_; refine EK_ev (Ev_lssI_q rfl rfl ql) ?_)
    | refine xst ?_
    | (refine xsa ?_; intro _)
    | (refine xsb ?_ ?_ <;> intro _ <;> first | (exfalso; omega) | skip)
    | refine xsc ?_
    | (refine KJ_draws (id := 24) (.op 0 (.op 1 (.ef 2 [0] (.ef 3 [] (.op 4 .nil))))) (by kernel_rfl) (by kernel_rfl) ?_)
    | refine FW_alt ?_ ?_
    | refine FW_efn rfl rfl rfl rfl rfl ?_ ?_
    | refine KJ_flow ?_ ?_
    | exact Rech.nil
    | fail)
      all_goals (refine is_ex ?_; exact KJ_done (by first | exact Or.inl rfl | exact Or.inr rfl) rfl (Rvs.agg (T := 25) rfl inferInstance inferInstance xS xC (Rvs.tmp rfl Rvs.nil)) ⟨(none, 0, [strV id, .int .i64 (k : Nat), strV note, .slice sa acc.length sc]), rfl, xO⟩ (by rfl) (xN))
    | ok ac t6 =>
    have c6 := rtext_ct (W := W) (F := F) (p := p) (s := s) (a := a) 34 (by omega) hfit (by omega) e1 e2 e3 _ h6
    have f6 := rtx_fit h6
    have d6 := rtx_drop h6
    obtain ⟨a6, ha6⟩ : ∃ a6, a6 = a + (tx ac).length := ⟨_, rfl⟩
    rw [← ha6] at f6 d6
    rw [d6] at h6
    replace c6 : Ct Tryz.prog W 52 [.pointer (some ⟨p, 0, none⟩), .int .i64 34] [rdP p s a] (fun _ : Unit => .tuple #[strV ac, errV F 0]) (fun _ => [rdP p s a6]) := by rw [ha6]; exact c6
    clear ha6 d6
    cases h7 : ru (s.drop a6) with
    | bad e =>
      have c7 : Ct Tryz.prog W 54 [.pointer (some ⟨p, 0, none⟩)] [rdP p s a6] (fun _ : Unit => .tuple #[.int .i64 (zag 0), errV F e]) (fun _ => [rdP p s (a6 + 0)]) := rint_ct (W := W) (F := F) (p := p) f6 (by omega) e1 e2 _ h7
      have hne := errNe (F := F) (e := e) (by have := ru_err h7; omega)
      have hb := hq.symm.trans (rdPst_5 h1 r2 h3 r4 (h5.trans (hi.bad hlt (rdLeg_num h6 h7))))
      subst hb
      repeat' (first 
    | (refine is_alloc ?_; refine KJ_alloc rfl (fun g5 => ?_))
    | (refine is_call ?_; first | (refine KJ_call xE c7 xP rfl (fun _ => ?_)) | (refine KJ_call xE c6 xP rfl (fun _ => ?_)))
    | (refine ek_build ?_; refine EK_ev (Ev_build xV xW) ?_)
    | (refine ek_neq ?_; refine EK_ev (Ev_neqNil rfl hne) ?_)
    | (refine ek_lss ?_; refine EK_ev (Ev_lssI_q rfl rfl ql) ?_)
    | refine xst ?_
    | (refine xsa ?_; intro _)
    | (refine xsb ?_ ?_ <;> intro _ <;> first | (exfalso; omega) | skip)
    | refine xsc ?_
    | (refine KJ_draws (id := 24) (.op 0 (.op 1 (.ef 2 [0] (.ef 3 [] (.op 4 .nil))))) (by kernel_rfl) (by kernel_rfl) ?_)
    | refine FW_alt ?_ ?_
    | refine FW_efn rfl rfl rfl rfl rfl ?_ ?_
    | refine KJ_flow ?_ ?_
    | exact Rech.nil
    | fail)
      all_goals (refine is_ex ?_; exact KJ_done (by first | exact Or.inl rfl | exact Or.inr rfl) rfl (Rvs.agg (T := 25) rfl inferInstance inferInstance xS xC (Rvs.tmp rfl Rvs.nil)) ⟨(none, 0, [strV id, .int .i64 (k : Nat), strV note, .slice sa acc.length sc]), rfl, xO⟩ (by rfl) (xN))
    | ok y t7 =>
      have f7 := ru_fit h7
      have d7 := ru_drop h7
      obtain ⟨a7, ha7⟩ : ∃ a7, a7 = a6 + (vu y).length := ⟨_, rfl⟩
      obtain ⟨am, ham⟩ : ∃ am, am = zag y := ⟨_, rfl⟩
      have c7 : Ct Tryz.prog W 54 [.pointer (some ⟨p, 0, none⟩)] [rdP p s a6] (fun _ : Unit => .tuple #[.int .i64 am, errV F 0]) (fun _ => [rdP p s a7]) := by rw [ha7, ham]; exact rint_ct (W := W) (F := F) (p := p) f6 (by omega) e1 e2 _ h7
      rw [← ha7] at f7 d7
      rw [d7] at h7
      have hl := rdLeg_ok h6 h7
      rw [← ham] at hl
      have hnx := hi.next hlt hl f7
      clear ha7 ham d7
      repeat' (first 
    | (refine is_alloc ?_; refine KJ_alloc rfl (fun g5 => ?_))
    | (refine is_call ?_; first | (refine KJ_call xE c7 xP rfl (fun _ => ?_)) | (refine KJ_call xE c6 xP rfl (fun _ => ?_)))
    | (refine is_append ?_; refine KJ_appOne (a := (⟨ac, am⟩ : Leg)) enc_leg rfl rfl rfl xS xS b1 b2 rfl (fun g1 c1 => ?_))
    | (refine is_bslice ?_; refine KJ_bslice1 rfl xF (by rfl) (by omega) rfl (fun gb => ?_))
    | (refine ek_build ?_; refine EK_ev (Ev_build xV xW) ?_)
    | (refine ek_add ?_; refine EK_ev (Ev_addI_v (r := ((i + 1 : Nat) : Int)) rfl rfl (by omega) (by omega)) ?_)
    | (refine ek_lss ?_; refine EK_ev (Ev_lssI_q rfl rfl ql) ?_)
    | refine xst ?_
    | (refine xsa ?_; intro _)
    | (refine xsb ?_ ?_ <;> intro _ <;> first | (exfalso; omega) | skip)
    | refine xsc ?_
    | (refine KJ_draws (id := 24) (.op 0 (.op 1 (.ef 2 [0] (.ef 3 [] (.op 4 .nil))))) (by kernel_rfl) (by kernel_rfl) ?_)
    | refine FW_alt ?_ ?_
    | refine FW_efn rfl rfl rfl rfl rfl ?_ ?_
    | refine KJ_flow ?_ ?_
    | exact Rech.nil
    | fail)
      all_goals refine KJ_again ⟨(i + 1, acc ++ [⟨ac, am⟩], a7, some ⟨g1, 0, none⟩, c1), hnx⟩ (by show n - (i + 1) < n - i; omega) xB (xN)
  · have ql : decide (((i : Nat) : Int) < ((n : Nat) : Int)) = false := decide_eq_false (by omega)
    have hst := h5.trans (hi.stop hlt)
    have cd := rdone_ct (W := W) (F := F) (p := p) (s := s) (a := a) hfit (by omega) e5
    by_cases hend : a < s.length
    · have hb := hq.symm.trans ((rdPst_6 h1 r2 h3 r4 hst).trans (if_neg (by intro h; have := congrArg List.length h; rw [List.length_drop, List.length_nil] at this; omega)))
      subst hb
      rw [if_pos hend] at cd
      repeat' (first 
    | (refine is_call ?_; refine KJ_call xE cd xP rfl (fun _ => ?_))
    | (refine ek_lss ?_; refine EK_ev (Ev_lssI_q rfl rfl ql) ?_)
    | refine xst ?_
    | (refine xsa ?_; intro _)
    | (refine xsb ?_ ?_ <;> intro _ <;> first | (exfalso; omega) | skip)
    | refine xsc ?_
    | (refine KJ_draws (id := 24) (.op 0 (.op 1 (.ef 2 [0] (.ef 3 [] (.op 4 .nil))))) (by kernel_rfl) (by kernel_rfl) ?_)
    | refine FW_alt ?_ ?_
    | refine FW_efn rfl rfl rfl rfl rfl ?_ ?_
    | refine KJ_flow ?_ ?_
    | exact Rech.nil
    | fail)
      all_goals (refine is_ex ?_; exact KJ_done (by first | exact Or.inl rfl | exact Or.inr rfl) rfl (Rvs.agg (T := 25) rfl inferInstance inferInstance xS xC (Rvs.tmp rfl Rvs.nil)) ⟨(none, 0, [strV id, .int .i64 (k : Nat), strV note, .slice sa acc.length sc]), rfl, xO⟩ (by rfl) (xN))
    · have hb := hq.symm.trans ((rdPst_6 h1 r2 h3 r4 hst).trans (if_pos (List.drop_of_length_le (by omega))))
      subst hb
      rw [if_neg hend] at cd
      repeat' (first 
    | (refine is_call ?_; refine KJ_call xE cd xP rfl (fun _ => ?_))
    | (refine ek_lss ?_; refine EK_ev (Ev_lssI_q rfl rfl ql) ?_)
    | refine xst ?_
    | (refine xsa ?_; intro _)
    | (refine xsb ?_ ?_ <;> intro _ <;> first | (exfalso; omega) | skip)
    | refine xsc ?_
    | (refine KJ_draws (id := 24) (.op 0 (.op 1 (.ef 2 [0] (.ef 3 [] (.op 4 .nil))))) (by kernel_rfl) (by kernel_rfl) ?_)
    | refine FW_alt ?_ ?_
    | refine FW_efn rfl rfl rfl rfl rfl ?_ ?_
    | refine KJ_flow ?_ ?_
    | exact Rech.nil
    | fail)
      all_goals (refine is_ex ?_; exact KJ_done (by first | exact Or.inl rfl | exact Or.inr rfl) rfl (Rvs.agg (T := 25) rfl inferInstance inferInstance xS xC (Rvs.tmp rfl Rvs.nil)) ⟨(sa, sc, [strV [], strV [], strV [], strV []]), four0⟩ (by rfl) (xN))
end
end Go.Proofs.YtdbfemdpdpaffaaGreatDoor
/-
  posting.Decode.
-/
namespace Go.Proofs.YtdbfemdpdpaffaaGreatDoor
open Go Go.RowKit Go.MapKept
theorem zag_range {x : Nat} (h : x < 18446744073709551616) : -9223372036854775808 ≤ zag x ∧ zag x ≤ 9223372036854775807 := by
  unfold zag; split <;> omega
theorem rdLegs_fit : ∀ (n : Nat) {l t : List UInt8} {xs : List Leg}, rdLegs n l = .ok xs t → xs.length = n ∧ ∀ x ∈ xs, x.acc.length ≤ 34 ∧ -9223372036854775808 ≤ x.amt ∧ x.amt ≤ 9223372036854775807
  | 0, l, t, xs, h => by cases h; exact ⟨rfl, by simp⟩
  | n + 1, l, t, xs, h => by
    unfold rdLegs at h
    split at h
    · cases h
    · rename_i x t1 h1
      split at h
      · cases h
      · rename_i ys t2 h2
        cases h
        obtain ⟨q1, q2⟩ := rdLegs_fit n h2
        refine ⟨by rw [List.length_cons, q1], fun y hy => ?_⟩
        rcases List.mem_cons.1 hy with rfl | hy
        · unfold rdLeg at h1
          split at h1
          · cases h1
          · rename_i a t3 h3
            split at h1
            · cases h1
            · rename_i z t4 h4
              cases h1
              exact ⟨(tx_rtx h3).2, zag_range (vu_ru h4).2⟩
        · exact q2 y hy
theorem rdPst_fit {s t : List UInt8} {p : Pst} (h : rdPst s = .ok p t) : PstFit p := by
  unfold rdPst at h
  split at h
  · cases h
  rename_i i t1 h1
  split at h
  · cases h
  rename_i k t2 h2
  split at h
  · cases h
  rename_i n t3 h3
  split at h
  · cases h
  rename_i c t4 h4
  split at h
  · cases h
  rename_i ls t5 h5
  split at h
  · cases h
    have q1 := (tx_rtx h1).2
    have q2 := (rup_back h2).2
    have q3 := (tx_rtx h3).2
    have q4 := (rup_back h4).2
    obtain ⟨q5, q6⟩ := rdLegs_fit c h5
    exact ⟨by show i.length ≤ _; omega, by show -9223372036854775808 ≤ ((k : Nat) : Int) ∧ ((k : Nat) : Int) ≤ 9223372036854775807; omega, by show n.length ≤ _; omega, by show ls.length ≤ _; omega, fun x hx => by have := (q6 x hx).1; omega, fun x hx => (q6 x hx).2⟩
  · cases h
theorem rdPst_badE {s : List UInt8} {e : Nat} (hq : rdPst s = .bad e) : e ≠ 0 := by
  rcases decPst_cases s with ⟨h, _⟩ | ⟨q, _, hc, he⟩
  · unfold decPst at h; rw [hq] at h; exact h
  · obtain ⟨_, _, h3⟩ := rdPst_enc hc
    rw [he, hq] at h3
    cases h3
theorem four_cases {vs : List Value} (h : Four vs) : ∃ v1 v2 v3 v4, vs = [v1, v2, v3, v4] ∧ Ones [v1, v2, v3, v4] := by
  obtain ⟨h1, h2⟩ := h
  match vs, h1, h2 with
  | [v1, v2, v3, v4], _, h2 => exact ⟨v1, v2, v3, v4, rfl, h2⟩
section
variable {W : World} {F : Nat → Addr}
set_option maxHeartbeats 8000000 in
set_option maxRecDepth 20000 in
theorem pdecode_ct (er : PErr W F) (s : List UInt8) (hs : s.length ≤ 9223372036854775807) (e1 : W.cell? ⟨5, 0, none⟩ = some (errV F 1)) (e2 : W.cell? ⟨6, 0, none⟩ = some (errV F 2)) (e5 : W.cell? ⟨8, 0, none⟩ = some (errV F 5)) (D : Pst) (e : Nat) (hD : decPst s = (D, e)) :
    Ct Tryz.prog W 10 [strV s] [] (fun x : Option Addr × Nat => .tuple #[.agg (pstC D x.1 x.2).toArray, errV F e]) (fun x => [lsP legC 55 2 (.slice x.1 D.legs.length x.2) D.legs]) := by
  have cr := rread_ct (W := W) s
  unfold decPst at hD
  cases hq : rdPst s with
  | bad e' =>
    rw [hq] at hD
    cases hD
    have he := rdPst_badE hq
    have hne := errNe (F := F) he
    have cp : ∀ p, Ct Tryz.prog W 29 [.pointer (some ⟨p, 0, none⟩)] [rdP p s 0] (fun x : {x : Option Addr × Nat × List Value // Four x.2.2} => .tuple #[.agg x.1.2.2.toArray, errV F e]) (fun _ => []) := fun p => pread_ct s hs e1 e2 er.e3 e5 p _ hq
    refine Ct.enter Tryz.func10 rfl Tryz.ntmps10 (by simp) (fun R => ?_)
    repeat' (first 
    | (refine is_alloc ?_; refine KJ_alloc rfl (fun g => ?_))
    | (refine is_call ?_; first | (refine KJ_call xE (cp _) xP rfl (fun x => ?_); refine hold ?_) | (refine KJ_call xE cr xP rfl (fun p => ?_)))
    | refine xst ?_
    | (refine xsa ?_; intro _)
    | (refine xsb ?_ ?_ <;> intro _ <;> first | (exfalso; omega) | skip)
    | refine xsc ?_
    | fail)
    refine Hold.mk ?_
    obtain ⟨⟨xa, xc, vs⟩, hv⟩ := x
    obtain ⟨v1, v2, v3, v4, hvs, hO⟩ := four_cases hv
    dsimp only at hvs ⊢
    subst hvs
    repeat' (first 
    | (refine is_store ?_; refine KJ_store rfl rfl xS xF (by rfl) (by first | exact hO | exact xO) xL xR ?_)
    | (refine is_alloc ?_; refine KJ_alloc rfl (fun g2 => ?_))
    | (refine ek_build ?_; refine EK_ev (Ev_build xV xW) ?_)
    | (refine ek_eql ?_; refine EK_ev (Ev_eqlNil rfl hne) ?_)
    | (refine ek_neq ?_; refine EK_ev (Ev_neqNil rfl hne) ?_)
    | refine xst ?_
    | (refine xsa ?_; intro _)
    | (refine xsb ?_ ?_ <;> intro _ <;> first | (exfalso; omega) | skip)
    | refine xsc ?_
    | fail)
    all_goals refine KJ.nilrow 55 2 ?_
    all_goals (refine is_ex ?_; exact KJ_done (by first | exact Or.inl rfl | exact Or.inr rfl) rfl (Rvs.agg (T := 25) rfl inferInstance inferInstance xS xC (Rvs.tmp rfl Rvs.nil)) (none, 0) (by rfl) (xN))
  | ok p t =>
    rw [hq] at hD
    dsimp only at hD
    have hfit := rdPst_fit hq
    have cp : ∀ r, Ct Tryz.prog W 29 [.pointer (some ⟨r, 0, none⟩)] [rdP r s 0] (fun x : {x : Option Addr × Nat × List Value // Four x.2.2} => .tuple #[.agg (pstC p x.1.1 x.1.2.1).toArray, errV F 0]) (fun x => [lsP legC 55 2 (.slice x.1.1 p.legs.length x.1.2.1) p.legs]) := fun r => pread_ct s hs e1 e2 er.e3 e5 r _ hq
    have cc := fun a c => pcheck_ct (W := W) (F := F) er (lsP legC 55 2 (.slice a p.legs.length c) p.legs) a c p hfit (Lv.own enc_leg rfl)
    obtain ⟨id, tick, note, legs⟩ := p
    unfold pstC at cp cc
    dsimp only at cp cc
    by_cases h0 : checkE ⟨id, tick, note, legs⟩ = 0
    · rw [if_pos h0] at hD
      cases hD
      rw [h0] at cc
      unfold pstC
      dsimp only
      refine Ct.enter Tryz.func10 rfl Tryz.ntmps10 (by simp) (fun R => ?_)
      repeat' (first 
    | (refine is_alloc ?_; refine KJ_alloc rfl (fun g => ?_))
    | (refine is_call ?_; first | (refine KJ_call xE (cc _ _) xP rfl (fun _ => ?_)) | (refine KJ_call xE (cp _) xP rfl (fun x => ?_)) | (refine KJ_call xE cr xP rfl (fun p => ?_)))
    | refine xst ?_
    | (refine xsa ?_; intro _)
    | (refine xsb ?_ ?_ <;> intro _ <;> first | (exfalso; omega) | skip)
    | refine xsc ?_
    | fail)
      all_goals (refine is_ex ?_; exact KJ_done (by first | exact Or.inl rfl | exact Or.inr rfl) rfl (Rvs.agg (T := 25) rfl inferInstance inferInstance xS xC (Rvs.tmp rfl Rvs.nil)) (x.1.1, x.1.2.1) (by rfl) (xN))
    · rw [if_neg h0] at hD
      cases hD
      have hne := errNe (F := F) h0
      unfold pstC
      dsimp only
      refine Ct.enter Tryz.func10 rfl Tryz.ntmps10 (by simp) (fun R => ?_)
      repeat' (first 
    | (refine is_alloc ?_; refine KJ_alloc rfl (fun g => ?_))
    | (refine is_call ?_; first | (refine KJ_call xE (cc _ _) xP rfl (fun _ => ?_)) | (refine KJ_call xE (cp _) xP rfl (fun x => ?_)) | (refine KJ_call xE cr xP rfl (fun p => ?_)))
    | (refine ek_build ?_; refine EK_ev (Ev_build xV xW) ?_)
    | (refine ek_neq ?_; refine EK_ev (Ev_neqNil rfl hne) ?_)
    | refine xst ?_
    | (refine xsa ?_; intro _)
    | (refine xsb ?_ ?_ <;> intro _ <;> first | (exfalso; omega) | skip)
    | refine xsc ?_
    | fail)
      all_goals refine KJ.nilrow 55 2 ?_
      all_goals (refine is_ex ?_; exact KJ_done (by first | exact Or.inl rfl | exact Or.inr rfl) rfl (Rvs.agg (T := 25) rfl inferInstance inferInstance xS xC (Rvs.tmp rfl Rvs.nil)) (none, 0) (by rfl) (xN))
end
end Go.Proofs.YtdbfemdpdpaffaaGreatDoor
/-
  posting.Same.
-/
namespace Go.Proofs.YtdbfemdpdpaffaaGreatDoor
open Go Go.RowKit Go.MapKept
def legV (x : Leg) : Value := .agg #[strV x.acc, .int .i64 x.amt]
theorem KyOk.comp {P : Program} {k : TypeId} {α β : Type} {kf : α → Value} (K : KyOk P k kf) (f : β → α) (hf : ∀ a b, f a = f b → a = b) : KyOk P k (fun b => kf (f b)) :=
  ⟨fun a b h => hf a b (K.inj _ _ h), fun w em a => K.check w em (f a), fun w a es hes => K.find w (f a) es (fun e he => let ⟨b, hb⟩ := hes e he; ⟨f b, hb⟩), fun w a => K.stays w (f a)⟩
theorem ky_leg : KyOk Tryz.prog 55 legV :=
  KyOk.comp (ky_pair (f0 := _) (f1 := _) Tryz.underlying55 (by kernel_rfl) rfl rfl rfl rfl (by decide) (by decide) Tryz.underlying9 Tryz.underlying2) (fun x : Leg => (x.acc, x.amt)) (fun a b h => by cases a; cases b; simpa using h)
theorem elimK {m : List (Leg × Int)} {a : Leg} : (lk m a).elim (Value.int .i64 0) intV = .int .i64 ((lk m a).getD 0) := by
  cases lk m a <;> rfl
theorem elimK2 {m : List (Leg × Int)} {a : Leg} : (lk (mput m a ((lk m a).getD 0)) a).elim (Value.int .i64 0) intV = .int .i64 ((lk m a).getD 0) := by
  rw [lk_put, if_pos rfl]; rfl
theorem CntI.put2 {f g : Leg → Int} {m : List (Leg × Int)} (h : CntI f m) {x : Leg} {v : Int} (hv : g x = v) (hg : ∀ y, y ≠ x → g y = f y) : CntI g (mput (mput m x ((lk m x).getD 0)) x v) := fun y => by
  rw [lk_put]
  by_cases e : y = x
  · rw [if_pos e, e, ← hv]; rfl
  · rw [if_neg e, lk_put, if_neg e, h y, hg y e]
section
variable {W : World} {F : Nat → Addr}
set_option maxHeartbeats 8000000 in
set_option maxRecDepth 20000 in
theorem psame_ct (T : SP) (a b : Option Addr) (c d : Nat) (p q : Pst) (hA : Lv W legC 2 T a p.legs) (hB : Lv W legC 2 T b q.legs) (hp : p.legs.length ≤ 4611686018427387904) :
    Ct Tryz.prog W 22 [.agg (pstC p a c).toArray, .agg (pstC q b d).toArray] [T] (fun _ : Unit => .bool (sameP p q)) (fun _ => [T]) := by
  obtain ⟨id, tick, note, legs⟩ := p
  obtain ⟨id2, tick2, note2, legs2⟩ := q
  dsimp only at hA hB hp
  obtain ⟨r, hr⟩ : ∃ r, r = sameP ⟨id, tick, note, legs⟩ ⟨id2, tick2, note2, legs2⟩ := ⟨_, rfl⟩
  rw [← hr]
  unfold sameP at hr
  unfold pstC
  dsimp only at hr ⊢
  by_cases h1 : id = id2
  case neg =>
    rw [decide_eq_false h1] at hr
    have hr : r = false := hr
    subst hr
    refine Ct.enter Tryz.func22 rfl Tryz.ntmps22 (by simp) (fun R => ?_)
    repeat' (first 
    | (refine ek_neq ?_; refine EK_ev (Ev_neqS_t rfl rfl h1) ?_)
    | refine xst ?_
    | (refine xsa ?_; intro _)
    | (refine xsb ?_ ?_ <;> intro _ <;> first | (exfalso; omega) | skip)
    | refine xsc ?_
    | (refine KJ_draws (id := 7) (.op 0 (.op 1 (.op 2 (.op 3 (.ef 4 [3, 2] (.op 5 (.ef 6 [] .nil))))))) (by kernel_rfl) (by kernel_rfl) ?_)
    | (refine KJ_draws (id := 12) (.op 0 (.op 1 (.op 2 (.op 3 (.ef 4 [3, 2] (.op 5 (.ef 6 [] .nil))))))) (by kernel_rfl) (by kernel_rfl) ?_)
    | refine FW_alt ?_ ?_
    | refine FW_efn rfl rfl rfl rfl rfl ?_ ?_
    | refine KJ_flow ?_ ?_
    | exact Rech.nil
    | fail)
    all_goals (exact xdn ())
  by_cases h2 : note = note2
  case neg =>
    rw [decide_eq_false h2, Bool.and_false] at hr
    have hr : r = false := hr
    subst hr
    refine Ct.enter Tryz.func22 rfl Tryz.ntmps22 (by simp) (fun R => ?_)
    repeat' (first 
    | (refine ek_neq ?_; first | refine EK_ev (Ev_neqS_t rfl rfl h2) ?_ | refine EK_ev (Ev_neqS_f rfl rfl h1) ?_)
    | refine xst ?_
    | (refine xsa ?_; intro _)
    | (refine xsb ?_ ?_ <;> intro _ <;> first | (exfalso; omega) | skip)
    | refine xsc ?_
    | (refine KJ_draws (id := 7) (.op 0 (.op 1 (.op 2 (.op 3 (.ef 4 [3, 2] (.op 5 (.ef 6 [] .nil))))))) (by kernel_rfl) (by kernel_rfl) ?_)
    | (refine KJ_draws (id := 12) (.op 0 (.op 1 (.op 2 (.op 3 (.ef 4 [3, 2] (.op 5 (.ef 6 [] .nil))))))) (by kernel_rfl) (by kernel_rfl) ?_)
    | refine FW_alt ?_ ?_
    | refine FW_efn rfl rfl rfl rfl rfl ?_ ?_
    | refine KJ_flow ?_ ?_
    | exact Rech.nil
    | fail)
    all_goals (exact xdn ())
  rw [decide_eq_true h1, decide_eq_true h2, Bool.true_and, Bool.true_and] at hr
  have hiff : r = true ↔ legs.Perm legs2 := by rw [hr, List.isPerm_iff]
  by_cases h3 : legs.length = legs2.length
  case neg =>
    have q3 : ((legs.length : Nat) : Int) ≠ ((legs2.length : Nat) : Int) := by omega
    have hr : r = false := by
      cases r with
      | false => rfl
      | true => exact absurd (hiff.1 rfl).length_eq h3
    subst hr
    refine Ct.enter Tryz.func22 rfl Tryz.ntmps22 (by simp) (fun R => ?_)
    repeat' (first 
    | (refine ek_neq ?_; first | refine EK_ev (Ev_neqI_t rfl rfl q3) ?_ | refine EK_ev (Ev_neqS_f rfl rfl h2) ?_ | refine EK_ev (Ev_neqS_f rfl rfl h1) ?_)
    | refine xst ?_
    | (refine xsa ?_; intro _)
    | (refine xsb ?_ ?_ <;> intro _ <;> first | (exfalso; omega) | skip)
    | refine xsc ?_
    | (refine KJ_draws (id := 7) (.op 0 (.op 1 (.op 2 (.op 3 (.ef 4 [3, 2] (.op 5 (.ef 6 [] .nil))))))) (by kernel_rfl) (by kernel_rfl) ?_)
    | (refine KJ_draws (id := 12) (.op 0 (.op 1 (.op 2 (.op 3 (.ef 4 [3, 2] (.op 5 (.ef 6 [] .nil))))))) (by kernel_rfl) (by kernel_rfl) ?_)
    | refine FW_alt ?_ ?_
    | refine FW_efn rfl rfl rfl rfl rfl ?_ ?_
    | refine KJ_flow ?_ ?_
    | exact Rech.nil
    | fail)
    all_goals (exact xdn ())
  have q3 : ((legs.length : Nat) : Int) = ((legs2.length : Nat) : Int) := by omega
  clear hr
  refine Ct.enter Tryz.func22 rfl Tryz.ntmps22 (by simp) (fun R => ?_)
  repeat' (first 
    | (refine is_box ?_; refine KJ_box rfl xF rfl (fun g => ?_))
    | (refine is_mkMap ?_; refine KJ_makeMap (t := 77) legV intV rfl (fun mb => ?_))
    | (refine ek_neq ?_; first | refine EK_ev (Ev_neqI_f rfl rfl q3) ?_ | refine EK_ev (Ev_neqS_f rfl rfl h2) ?_ | refine EK_ev (Ev_neqS_f rfl rfl h1) ?_)
    | refine xst ?_
    | (refine xsa ?_; intro _)
    | (refine xsb ?_ ?_ <;> intro _ <;> first | (exfalso; omega) | skip)
    | refine xsc ?_
    | (refine KJ_draws (id := 7) (.op 0 (.op 1 (.op 2 (.op 3 (.ef 4 [3, 2] (.op 5 (.ef 6 [] .nil))))))) (by kernel_rfl) (by kernel_rfl) ?_)
    | (refine KJ_draws (id := 12) (.op 0 (.op 1 (.op 2 (.op 3 (.ef 4 [3, 2] (.op 5 (.ef 6 [] .nil))))))) (by kernel_rfl) (by kernel_rfl) ?_)
    | refine FW_alt ?_ ?_
    | refine FW_efn rfl rfl rfl rfl rfl ?_ ?_
    | refine KJ_flow ?_ ?_
    | exact Rech.nil
    | fail)
  refine KJ_loop (fun x : {x : Nat × List (Leg × Int) // x.1 ≤ legs.length ∧ CntI (fun y => ((List.count y (legs.take x.1) : Nat) : Int)) x.2} => [(3, .pointer (some ⟨g, 0, none⟩)), (5, .map (some mb)), (33, .slice a legs.length c), (34, .int .i64 (legs.length : Nat)), (35, .int .i64 (x.1.1 : Nat))])
    (fun x => [mapP legV intV mb x.1.2, T, cellsP g [strV id2, .int .i64 tick2, strV note2, .slice b legs2.length d] 25] ++ R) (fun x => legs.length - x.1.1) ⟨(0, []), by omega, fun y => by simp [lk]⟩ xB (xN) (fun ⟨(i, m), hi, hm⟩ => ?_)
  dsimp only at hi hm ⊢
  by_cases hlt : i < legs.length
  · have ql : decide ((i : Int) < (legs.length : Nat)) = true := decide_eq_true (by omega)
    obtain ⟨x, hx⟩ : ∃ s, legs[i]? = some s := ⟨_, List.getElem?_eq_getElem hlt⟩
    refine KJ.lvSome hA xS (by omega) (fun b0 of hab => ?_)
    subst hab
    have hoff : of + Int.toNat (i : Int) * 2 = of + i * 2 := by simp
    have gx := hx
    obtain ⟨acc, amt⟩ := x
    have hc := elimK (m := m) (a := (⟨acc, amt⟩ : Leg))
    have hc2 := elimK2 (m := m) (a := (⟨acc, amt⟩ : Leg))
    have hv : (lk m (⟨acc, amt⟩ : Leg)).getD 0 = ((List.count (⟨acc, amt⟩ : Leg) (legs.take i) : Nat) : Int) := hm (⟨acc, amt⟩ : Leg)
    have hle : List.count (⟨acc, amt⟩ : Leg) (legs.take i) ≤ i := by
      have := List.count_le_length (a := (⟨acc, amt⟩ : Leg)) (l := legs.take i)
      rw [List.length_take] at this
      omega
    obtain ⟨c1, hc1⟩ : ∃ c1, c1 = (lk m (⟨acc, amt⟩ : Leg)).getD 0 + 1 := ⟨_, rfl⟩
    have hnx : CntI (fun y => ((List.count y (legs.take (i + 1)) : Nat) : Int)) (mput (mput m (⟨acc, amt⟩ : Leg) ((lk m (⟨acc, amt⟩ : Leg)).getD 0)) (⟨acc, amt⟩ : Leg) c1) := hm.put2 (by
      show ((List.count (⟨acc, amt⟩ : Leg) (legs.take (i + 1)) : Nat) : Int) = c1
      rw [hc1, hv, count_take gx, if_pos rfl]; omega) (fun y hy => by
      show ((List.count y (legs.take (i + 1)) : Nat) : Int) = _
      rw [count_take gx, if_neg hy]; rfl)
    repeat' (first 
    | (refine is_alloc ?_; refine KJ_alloc rfl (fun g5 => ?_))
    | (refine is_mapEntry ?_; refine KJ_mapEntry (a := (⟨acc, amt⟩ : Leg)) (v0 := (0 : Int)) ky_leg rfl rfl xS rfl (fun st => ?_))
    | (refine is_entryStore ?_; refine KJ_entryStore (a := (⟨acc, amt⟩ : Leg)) (v := c1) ky_leg rfl rfl rfl xS ?_)
    | (refine ek_load ?_; refine EK_ev (Ev_loadLv enc_leg hA rfl rfl xS hoff hx) ?_)
    | (refine ek_lookup ?_; first | refine EK_ev (Ev_lookupE (a := (⟨acc, amt⟩ : Leg)) (zv := .int .i64 0) ky_leg rfl rfl xS hc2) ?_ | refine EK_ev (Ev_lookup (a := (⟨acc, amt⟩ : Leg)) (zv := .int .i64 0) ky_leg rfl rfl xS hc) ?_)
    | (refine ek_add ?_; first | refine EK_ev (Ev_addI_v (r := ((i + 1 : Nat) : Int)) rfl rfl (by omega) (by omega)) ?_ | refine EK_ev (Ev_addI_v rfl rfl hc1.symm (by omega)) ?_)
    | (refine ek_lss ?_; refine EK_ev (Ev_lssI_q rfl rfl ql) ?_)
    | refine xst ?_
    | (refine xsa ?_; intro _)
    | (refine xsb ?_ ?_ <;> intro _ <;> first | (exfalso; omega) | skip)
    | refine xsc ?_
    | (refine KJ_draws (id := 7) (.op 0 (.op 1 (.op 2 (.op 3 (.ef 4 [3, 2] (.op 5 (.ef 6 [] .nil))))))) (by kernel_rfl) (by kernel_rfl) ?_)
    | (refine KJ_draws (id := 12) (.op 0 (.op 1 (.op 2 (.op 3 (.ef 4 [3, 2] (.op 5 (.ef 6 [] .nil))))))) (by kernel_rfl) (by kernel_rfl) ?_)
    | refine FW_alt ?_ ?_
    | refine FW_efn rfl rfl rfl rfl rfl ?_ ?_
    | refine KJ_flow ?_ ?_
    | exact Rech.nil
    | fail)
    all_goals refine KJ_again ⟨(i + 1, mput (mput m (⟨acc, amt⟩ : Leg) ((lk m (⟨acc, amt⟩ : Leg)).getD 0)) (⟨acc, amt⟩ : Leg) c1), hlt, hnx⟩ (by show legs.length - (i + 1) < legs.length - i; omega) xB (xN)
  have ql : decide ((i : Int) < (legs.length : Nat)) = false := decide_eq_false (by omega)
  have ei : i = legs.length := by omega
  subst ei
  rw [List.take_length] at hm
  repeat' (first 
    | (refine ek_lss ?_; refine EK_ev (Ev_lssI_q rfl rfl ql) ?_)
    | refine xst ?_
    | (refine xsa ?_; intro _)
    | (refine xsb ?_ ?_ <;> intro _ <;> first | (exfalso; omega) | skip)
    | refine xsc ?_
    | (refine KJ_draws (id := 7) (.op 0 (.op 1 (.op 2 (.op 3 (.ef 4 [3, 2] (.op 5 (.ef 6 [] .nil))))))) (by kernel_rfl) (by kernel_rfl) ?_)
    | (refine KJ_draws (id := 12) (.op 0 (.op 1 (.op 2 (.op 3 (.ef 4 [3, 2] (.op 5 (.ef 6 [] .nil))))))) (by kernel_rfl) (by kernel_rfl) ?_)
    | refine FW_alt ?_ ?_
    | refine FW_efn rfl rfl rfl rfl rfl ?_ ?_
    | refine KJ_flow ?_ ?_
    | exact Rech.nil
    | fail)
  refine KJ_loop (fun x : {x : Nat × List (Leg × Int) // x.1 ≤ legs2.length ∧ CntI (fun y => ((List.count y legs : Nat) : Int) - ((List.count y (legs2.take x.1) : Nat) : Int)) x.2 ∧ ∀ y, List.count y (legs2.take x.1) ≤ List.count y legs} => [(5, .map (some mb)), (47, .slice b legs2.length d), (48, .int .i64 (legs2.length : Nat)), (49, .int .i64 (x.1.1 : Nat))])
    (fun x => [mapP legV intV mb x.1.2, T] ++ R) (fun x => legs2.length - x.1.1) ⟨(0, m), by omega, fun y => by rw [hm y]; simp, fun y => by simp⟩ xB (xN) (fun ⟨(i, m), hi, hm, hall⟩ => ?_)
  dsimp only at hi hm hall ⊢
  by_cases hlt : i < legs2.length
  · have ql : decide ((i : Int) < (legs2.length : Nat)) = true := decide_eq_true (by omega)
    obtain ⟨x, hx⟩ : ∃ s, legs2[i]? = some s := ⟨_, List.getElem?_eq_getElem hlt⟩
    refine KJ.lvSome hB xS (by omega) (fun b0 of hab => ?_)
    subst hab
    have hoff : of + Int.toNat (i : Int) * 2 = of + i * 2 := by simp
    have gx := hx
    obtain ⟨acc, amt⟩ := x
    have hc := elimK (m := m) (a := (⟨acc, amt⟩ : Leg))
    have hc2 := elimK2 (m := m) (a := (⟨acc, amt⟩ : Leg))
    have hv : (lk m (⟨acc, amt⟩ : Leg)).getD 0 = ((List.count (⟨acc, amt⟩ : Leg) legs : Nat) : Int) - ((List.count (⟨acc, amt⟩ : Leg) (legs2.take i) : Nat) : Int) := hm (⟨acc, amt⟩ : Leg)
    have hle : List.count (⟨acc, amt⟩ : Leg) legs ≤ legs.length := by
      have := List.count_le_length (a := (⟨acc, amt⟩ : Leg)) (l := legs)
      omega
    have hal := hall (⟨acc, amt⟩ : Leg)
    have hct := count_take gx (⟨acc, amt⟩ : Leg)
    rw [if_pos rfl] at hct
    obtain ⟨c1, hc1⟩ : ∃ c1, c1 = (lk m (⟨acc, amt⟩ : Leg)).getD 0 - 1 := ⟨_, rfl⟩
    have hnx : CntI (fun y => ((List.count y legs : Nat) : Int) - ((List.count y (legs2.take (i + 1)) : Nat) : Int)) (mput (mput m (⟨acc, amt⟩ : Leg) ((lk m (⟨acc, amt⟩ : Leg)).getD 0)) (⟨acc, amt⟩ : Leg) c1) := hm.put2 (by
      show ((List.count (⟨acc, amt⟩ : Leg) legs : Nat) : Int) - ((List.count (⟨acc, amt⟩ : Leg) (legs2.take (i + 1)) : Nat) : Int) = c1
      rw [hc1, hv, hct]; omega) (fun y hy => by
      show ((List.count y legs : Nat) : Int) - ((List.count y (legs2.take (i + 1)) : Nat) : Int) = _
      rw [count_take gx, if_neg hy]; rfl)
    have hlast : (lk (mput (mput m (⟨acc, amt⟩ : Leg) ((lk m (⟨acc, amt⟩ : Leg)).getD 0)) (⟨acc, amt⟩ : Leg) c1) (⟨acc, amt⟩ : Leg)).elim (Value.int .i64 0) intV = .int .i64 c1 := by rw [lk_put, if_pos rfl]; rfl
    have hcv : c1 = ((List.count (⟨acc, amt⟩ : Leg) legs : Nat) : Int) - ((List.count (⟨acc, amt⟩ : Leg) (legs2.take (i + 1)) : Nat) : Int) := by rw [hc1, hv, hct]; omega
    obtain ⟨m2, hm2⟩ : ∃ m2, m2 = mput (mput m (⟨acc, amt⟩ : Leg) ((lk m (⟨acc, amt⟩ : Leg)).getD 0)) (⟨acc, amt⟩ : Leg) c1 := ⟨_, rfl⟩
    rw [← hm2] at hnx hlast
    by_cases hneg : c1 < 0
    · have qn : decide (c1 < 0) = true := decide_eq_true hneg
      have hr2 : r = false := by
        cases r with
        | false => rfl
        | true => exact absurd (hiff.1 rfl) (count_bad gx (by omega))
      subst hr2
      repeat' (first 
    | (refine is_alloc ?_; refine KJ_alloc rfl (fun g5 => ?_))
    | (refine is_mapEntry ?_; refine KJ_mapEntry (a := (⟨acc, amt⟩ : Leg)) (v0 := (0 : Int)) ky_leg rfl rfl xS rfl (fun st => ?_))
    | (refine is_entryStore ?_; refine KJ_entryStore (a := (⟨acc, amt⟩ : Leg)) (v := c1) ky_leg rfl rfl rfl xS ?_; rw [← hm2])
    | (refine ek_load ?_; refine EK_ev (Ev_loadLv enc_leg hB rfl rfl xS hoff hx) ?_)
    | (refine ek_lookup ?_; first | refine EK_ev (Ev_lookupE (a := (⟨acc, amt⟩ : Leg)) (zv := .int .i64 0) ky_leg rfl rfl xS hc2) ?_ | refine EK_ev (Ev_lookup (a := (⟨acc, amt⟩ : Leg)) (m := m) (zv := .int .i64 0) ky_leg rfl rfl xS hc) ?_ | refine EK_ev (Ev_lookup (a := (⟨acc, amt⟩ : Leg)) (m := m2) (zv := .int .i64 0) ky_leg rfl rfl xS hlast) ?_)
    | (refine ek_sub ?_; refine EK_ev (Ev_subI_v rfl rfl hc1.symm (by omega)) ?_)
    | (refine ek_lss ?_; first | refine EK_ev (Ev_lssI_q rfl rfl ql) ?_ | refine EK_ev (Ev_lssI_q rfl rfl qn) ?_)
    | refine xst ?_
    | (refine xsa ?_; intro _)
    | (refine xsb ?_ ?_ <;> intro _ <;> first | (exfalso; omega) | skip)
    | refine xsc ?_
    | (refine KJ_draws (id := 7) (.op 0 (.op 1 (.op 2 (.op 3 (.ef 4 [3, 2] (.op 5 (.ef 6 [] .nil))))))) (by kernel_rfl) (by kernel_rfl) ?_)
    | (refine KJ_draws (id := 12) (.op 0 (.op 1 (.op 2 (.op 3 (.ef 4 [3, 2] (.op 5 (.ef 6 [] .nil))))))) (by kernel_rfl) (by kernel_rfl) ?_)
    | refine FW_alt ?_ ?_
    | refine FW_efn rfl rfl rfl rfl rfl ?_ ?_
    | refine KJ_flow ?_ ?_
    | exact Rech.nil
    | fail)
      all_goals (exact xdn ())
    · have qn : decide (c1 < 0) = false := decide_eq_false hneg
      have hall2 : ∀ y, List.count y (legs2.take (i + 1)) ≤ List.count y legs := fun y => by
        by_cases e : y = (⟨acc, amt⟩ : Leg)
        · subst e; omega
        · rw [count_take gx, if_neg e]; exact hall y
      repeat' (first 
    | (refine is_alloc ?_; refine KJ_alloc rfl (fun g5 => ?_))
    | (refine is_mapEntry ?_; refine KJ_mapEntry (a := (⟨acc, amt⟩ : Leg)) (v0 := (0 : Int)) ky_leg rfl rfl xS rfl (fun st => ?_))
    | (refine is_entryStore ?_; refine KJ_entryStore (a := (⟨acc, amt⟩ : Leg)) (v := c1) ky_leg rfl rfl rfl xS ?_; rw [← hm2])
    | (refine ek_load ?_; refine EK_ev (Ev_loadLv enc_leg hB rfl rfl xS hoff hx) ?_)
    | (refine ek_lookup ?_; first | refine EK_ev (Ev_lookupE (a := (⟨acc, amt⟩ : Leg)) (zv := .int .i64 0) ky_leg rfl rfl xS hc2) ?_ | refine EK_ev (Ev_lookup (a := (⟨acc, amt⟩ : Leg)) (m := m) (zv := .int .i64 0) ky_leg rfl rfl xS hc) ?_ | refine EK_ev (Ev_lookup (a := (⟨acc, amt⟩ : Leg)) (m := m2) (zv := .int .i64 0) ky_leg rfl rfl xS hlast) ?_)
    | (refine ek_add ?_; refine EK_ev (Ev_addI_v (r := ((i + 1 : Nat) : Int)) rfl rfl (by omega) (by omega)) ?_)
    | (refine ek_sub ?_; refine EK_ev (Ev_subI_v rfl rfl hc1.symm (by omega)) ?_)
    | (refine ek_lss ?_; first | refine EK_ev (Ev_lssI_q rfl rfl ql) ?_ | refine EK_ev (Ev_lssI_q rfl rfl qn) ?_)
    | refine xst ?_
    | (refine xsa ?_; intro _)
    | (refine xsb ?_ ?_ <;> intro _ <;> first | (exfalso; omega) | skip)
    | refine xsc ?_
    | (refine KJ_draws (id := 7) (.op 0 (.op 1 (.op 2 (.op 3 (.ef 4 [3, 2] (.op 5 (.ef 6 [] .nil))))))) (by kernel_rfl) (by kernel_rfl) ?_)
    | (refine KJ_draws (id := 12) (.op 0 (.op 1 (.op 2 (.op 3 (.ef 4 [3, 2] (.op 5 (.ef 6 [] .nil))))))) (by kernel_rfl) (by kernel_rfl) ?_)
    | refine FW_alt ?_ ?_
    | refine FW_efn rfl rfl rfl rfl rfl ?_ ?_
    | refine KJ_flow ?_ ?_
    | exact Rech.nil
    | fail)
      all_goals refine KJ_again ⟨(i + 1, m2), hlt, hnx, hall2⟩ (by show legs2.length - (i + 1) < legs2.length - i; omega) xB (xN)
  have ql : decide ((i : Int) < (legs2.length : Nat)) = false := decide_eq_false (by omega)
  have ei : i = legs2.length := by omega
  subst ei
  have hr2 : r = true := hiff.2 (perm_of_count _ _ h3 (fun y => by have := hall y; rwa [List.take_length] at this))
  subst hr2
  repeat' (first 
    | (refine ek_lss ?_; refine EK_ev (Ev_lssI_q rfl rfl ql) ?_)
    | refine xst ?_
    | (refine xsa ?_; intro _)
    | (refine xsb ?_ ?_ <;> intro _ <;> first | (exfalso; omega) | skip)
    | refine xsc ?_
    | (refine KJ_draws (id := 7) (.op 0 (.op 1 (.op 2 (.op 3 (.ef 4 [3, 2] (.op 5 (.ef 6 [] .nil))))))) (by kernel_rfl) (by kernel_rfl) ?_)
    | (refine KJ_draws (id := 12) (.op 0 (.op 1 (.op 2 (.op 3 (.ef 4 [3, 2] (.op 5 (.ef 6 [] .nil))))))) (by kernel_rfl) (by kernel_rfl) ?_)
    | refine FW_alt ?_ ?_
    | refine FW_efn rfl rfl rfl rfl rfl ?_ ?_
    | refine KJ_flow ?_ ?_
    | exact Rech.nil
    | fail)
  all_goals (exact xdn ())
end
end Go.Proofs.YtdbfemdpdpaffaaGreatDoor
