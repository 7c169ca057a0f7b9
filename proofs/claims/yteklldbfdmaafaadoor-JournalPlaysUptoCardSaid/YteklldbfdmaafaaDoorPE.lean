/-
  JRf5, Plays, JPl, Opens, Apart, Open8, Open10, JPl2.
-/
import Derived.Test.YteklldbfdmaafaaDoorPD
/-
  The document's journal: Begin, down, Fits, Append, Sync.
-/
namespace Go.Proofs.YteklldbfdmaafaaDoor
open Go Go.RowKit
section
variable {W : World} {E : Nat → Addr} {p g : Nat} {D : Dsk}
theorem rbegin_ct (at_ n ver : Int) (hn : D.n ≤ 65536) (ho : D.off = false) (h : logOk D at_ n ver) : Ct Tryd.prog W 107 [.pointer (some ⟨p, 0, none⟩), .int .i64 at_, .int .i64 n, .int .i64 ver] [RefP p D] (fun g : Nat => .tuple #[.pointer (some ⟨g, 0, none⟩), .int .i64 0]) (fun g => [RefP p D, cellsP g [.pointer (some ⟨p, 0, none⟩), .int .i64 at_, .int .i64 n, .int .i64 ver, .int .i64 0, .bool false, .int .i64 D.life] 180]) := by
  have cm := may_yes (W := W) (p := p) at_ n ver hn h
  refine Ct.enter Tryd.func107 rfl Tryd.ntmps107 (by simp) (fun R => ?_)
  apply KJ_rest (fun K => KJ W 30 K [(0, .pointer (some ⟨p, 0, none⟩)), (1, .int .i64 at_), (2, .int .i64 n), (3, .int .i64 ver)] ([RefP p D] ++ R))
  · intro rest
    repeat' (first 
    | (refine at_seq_region (id := 3) ?_; exact KJ.weak rest xB (xN))
    | (refine is_call ?_; refine KJ_call xE cm xP rfl (fun _ => ?_))
    | refine xst ?_
    | (refine xsa ?_; intro _)
    | (refine xsb ?_ ?_ <;> intro _ <;> first | (exfalso; omega) | skip)
    | refine xsc ?_
    | fail)
  refine KJ.unpack_at (F := RefF p D) xS (fun x => ?_)
  obtain ⟨sv, wv⟩ := x
  rw [RefF_eq, ho]
  repeat' (first 
    | (refine is_box ?_; refine KJ_box rfl xF rfl (fun g1 => ?_))
    | (refine ek_build ?_; refine EK_ev (Ev_build xV xW) ?_)
    | refine xst ?_
    | (refine xsa ?_; intro _)
    | (refine xsb ?_ ?_ <;> intro _ <;> first | (exfalso; omega) | skip)
    | refine xsc ?_
    | fail)
  refine KJ.pack (tag := 21) (key := p) (F := RefF p D) (sv, wv) (by rw [RefF_eq, ho]; exact xP) ?_
  (exact xdn g1)
theorem rbegin_range (at_ n ver : Int) (hn : D.n ≤ 65536) (h : ¬ logOk D at_ n ver) : Ct Tryd.prog W 107 [.pointer (some ⟨p, 0, none⟩), .int .i64 at_, .int .i64 n, .int .i64 ver] [RefP p D] (fun _ : Unit => .tuple #[.pointer none, .int .i64 6]) (fun _ => [RefP p D]) := by
  have cm := may_no (W := W) (p := p) at_ n ver hn h
  refine Ct.enter Tryd.func107 rfl Tryd.ntmps107 (by simp) (fun R => ?_)
  repeat' (first 
    | (refine is_call ?_; refine KJ_call xE cm xP rfl (fun _ => ?_))
    | refine xst ?_
    | (refine xsa ?_; intro _)
    | (refine xsb ?_ ?_ <;> intro _ <;> first | (exfalso; omega) | skip)
    | refine xsc ?_
    | fail)
  all_goals (exact xdn ())
theorem rbegin_down (at_ n ver : Int) (hn : D.n ≤ 65536) (ho : D.off = true) (h : logOk D at_ n ver) : Ct Tryd.prog W 107 [.pointer (some ⟨p, 0, none⟩), .int .i64 at_, .int .i64 n, .int .i64 ver] [RefP p D] (fun _ : Unit => .tuple #[.pointer none, .int .i64 12]) (fun _ => [RefP p D]) := by
  have cm := may_yes (W := W) (p := p) at_ n ver hn h
  refine Ct.enter Tryd.func107 rfl Tryd.ntmps107 (by simp) (fun R => ?_)
  apply KJ_rest (fun K => KJ W 30 K [(0, .pointer (some ⟨p, 0, none⟩))] ([RefP p D] ++ R))
  · intro rest
    repeat' (first 
    | (refine at_seq_region (id := 3) ?_; exact KJ.weak rest xB (xN))
    | (refine is_call ?_; refine KJ_call xE cm xP rfl (fun _ => ?_))
    | refine xst ?_
    | (refine xsa ?_; intro _)
    | (refine xsb ?_ ?_ <;> intro _ <;> first | (exfalso; omega) | skip)
    | refine xsc ?_
    | fail)
  refine KJ.unpack_at (F := RefF p D) xS (fun x => ?_)
  obtain ⟨sv, wv⟩ := x
  rw [RefF_eq, ho]
  repeat' (first 
    | refine xst ?_
    | (refine xsa ?_; intro _)
    | (refine xsb ?_ ?_ <;> intro _ <;> first | (exfalso; omega) | skip)
    | refine xsc ?_
    | fail)
  refine KJ.pack (tag := 21) (key := p) (F := RefF p D) (sv, wv) (by rw [RefF_eq, ho]; exact xP) ?_
  (exact xdn ())
theorem rdown_ct (at_ n ver used life : Int) (dead : Bool) : Ct Tryd.prog W 126 [.pointer (some ⟨g, 0, none⟩)] [RefP p D, cellsP g [.pointer (some ⟨p, 0, none⟩), .int .i64 at_, .int .i64 n, .int .i64 ver, .int .i64 used, .bool (dead), .int .i64 life] 180] (fun _ : Unit => .bool (downB D life dead)) (fun _ => [RefP p D, cellsP g [.pointer (some ⟨p, 0, none⟩), .int .i64 at_, .int .i64 n, .int .i64 ver, .int .i64 used, .bool (downB D life dead), .int .i64 life] 180]) := by
  refine Ct.enter Tryd.func126 rfl Tryd.ntmps126 (by simp) (fun R => ?_)
  refine KJ.unpack_at (F := RefF p D) xS (fun x => ?_)
  obtain ⟨sv, wv⟩ := x
  rcases Bool.eq_false_or_eq_true D.off with ho | ho
  · have e : downB D life dead = true := by unfold downB; rw [ho]; rfl
    rw [e, RefF_eq, ho]
    repeat' (first 
    | refine xst ?_
    | (refine xsa ?_; intro _)
    | (refine xsb ?_ ?_ <;> intro _ <;> first | (exfalso; omega) | skip)
    | refine xsc ?_
    | (refine KJ_draws (id := 1) (.op 0 (.op 1 (.op 2 (.op 3 (.op 4 (.op 5 (.op 6 (.op 7 (.op 8 (.op 9 (.op 10 (.op 11 (.op 12 (.op 13 (.op 14 (.op 15 (.op 16 (.op 17 (.op 18 (.op 19 (.op 20 .nil))))))))))))))))))))) (by kernel_rfl) (by kernel_rfl) ?_)
    | refine FW_alt ?_ ?_
    | refine KJ_flow ?_ ?_
    | exact Rech.nil
    | fail)
    refine KJ.pack (tag := 21) (key := p) (F := RefF p D) (sv, wv) (by rw [RefF_eq, ho]; exact xP) ?_
    (exact xdn ())
  by_cases hl : D.life = life
  · have e : downB D life dead = dead := by unfold downB; rw [ho, decide_eq_false (by simpa using hl)]; rfl
    rw [e, RefF_eq, ho]
    repeat' (first 
    | (refine ek_neq ?_; refine EK_ev (Ev_neqI_f rfl rfl hl) ?_)
    | refine xst ?_
    | (refine xsa ?_; intro _)
    | (refine xsb ?_ ?_ <;> intro _ <;> first | (exfalso; omega) | skip)
    | refine xsc ?_
    | (refine KJ_draws (id := 1) (.op 0 (.op 1 (.op 2 (.op 3 (.op 4 (.op 5 (.op 6 (.op 7 (.op 8 (.op 9 (.op 10 (.op 11 (.op 12 (.op 13 (.op 14 (.op 15 (.op 16 (.op 17 (.op 18 (.op 19 (.op 20 .nil))))))))))))))))))))) (by kernel_rfl) (by kernel_rfl) ?_)
    | refine FW_alt ?_ ?_
    | refine KJ_flow ?_ ?_
    | exact Rech.nil
    | fail)
    refine KJ.pack (tag := 21) (key := p) (F := RefF p D) (sv, wv) (by rw [RefF_eq, ho]; exact xP) ?_
    (exact xdn ())
  · have e : downB D life dead = true := by unfold downB; rw [ho, decide_eq_true (by simpa using hl)]; rfl
    rw [e, RefF_eq, ho]
    repeat' (first 
    | (refine ek_neq ?_; refine EK_ev (Ev_neqI_t rfl rfl hl) ?_)
    | refine xst ?_
    | (refine xsa ?_; intro _)
    | (refine xsb ?_ ?_ <;> intro _ <;> first | (exfalso; omega) | skip)
    | refine xsc ?_
    | (refine KJ_draws (id := 1) (.op 0 (.op 1 (.op 2 (.op 3 (.op 4 (.op 5 (.op 6 (.op 7 (.op 8 (.op 9 (.op 10 (.op 11 (.op 12 (.op 13 (.op 14 (.op 15 (.op 16 (.op 17 (.op 18 (.op 19 (.op 20 .nil))))))))))))))))))))) (by kernel_rfl) (by kernel_rfl) ?_)
    | refine FW_alt ?_ ?_
    | refine KJ_flow ?_ ?_
    | exact Rech.nil
    | fail)
    refine KJ.pack (tag := 21) (key := p) (F := RefF p D) (sv, wv) (by rw [RefF_eq, ho]; exact xP) ?_
    (exact xdn ())
theorem rfits_ct (at_ n ver used life : Int) (dead : Bool) (b : Int) (hb : b ≤ 9223372036854775807) (hn : 0 ≤ n ∧ n ≤ 65536) (hu : 0 ≤ used ∧ used ≤ 65536) : Ct Tryd.prog W 110 [.pointer (some ⟨g, 0, none⟩), .int .i64 b] [cellsP g [.pointer (some ⟨p, 0, none⟩), .int .i64 at_, .int .i64 n, .int .i64 ver, .int .i64 used, .bool (dead), .int .i64 life] 180] (fun _ : Unit => .bool (decide (0 ≤ b ∧ costI b ≤ n - used))) (fun _ => [cellsP g [.pointer (some ⟨p, 0, none⟩), .int .i64 at_, .int .i64 n, .int .i64 ver, .int .i64 used, .bool (dead), .int .i64 life] 180]) := by
  have c1 := costr_ct (W := W) b hb
  obtain ⟨c, hc⟩ : ∃ c, c = costI b := ⟨_, rfl⟩
  rw [← hc] at c1 ⊢
  by_cases h1 : 0 ≤ b
  · have q1 : decide (0 ≤ b) = true := decide_eq_true h1
    have q2 : decide (c ≤ n - used) = decide (0 ≤ b ∧ c ≤ n - used) := by simp [h1]
    refine Ct.enter Tryd.func110 rfl Tryd.ntmps110 (by simp) (fun R => ?_)
    repeat' (first 
    | (refine ek_leq ?_; refine EK_ev (Ev_leqI_q rfl rfl q2) ?_)
    | (refine ek_geq ?_; refine EK_ev (Ev_geqI_q rfl rfl q1) ?_)
    | (refine is_fo ?_; (refine FO_call (X := Unit) xE c1 xP rfl ?_))
    | (refine is_ro ?_; (refine FO_call (X := Unit) xE c1 xP rfl ?_))
    | (refine is_fo ?_; (refine FO_callg (X := Unit) rfl rfl xE c1 xP rfl ?_))
    | (refine is_ro ?_; (refine FO_callg (X := Unit) rfl rfl xE c1 xP rfl ?_))
    | refine xst ?_
    | (refine xsa ?_; intro _)
    | (refine xsb ?_ ?_ <;> intro _ <;> first | (exfalso; omega) | skip)
    | refine xsc ?_
    | (refine KJ_draws (id := 1) (.op 0 (.op 1 (.op 2 (.op 3 (.op 4 (.op 5 (.op 6 (.op 7 (.op 8 (.op 9 (.op 10 (.op 11 (.op 12 (.op 13 (.op 14 (.op 15 (.op 16 .nil))))))))))))))))) (by kernel_rfl) (by kernel_rfl) ?_)
    | refine FW_alt ?_ ?_
    | refine KJ_flow ?_ ?_
    | exact Rech.nil
    | fail)
    all_goals (exact xdn ())
  · have q1 : decide (0 ≤ b) = false := decide_eq_false h1
    rw [show decide (0 ≤ b ∧ c ≤ n - used) = false by simp [h1]]
    refine Ct.enter Tryd.func110 rfl Tryd.ntmps110 (by simp) (fun R => ?_)
    repeat' (first 
    | (refine ek_geq ?_; refine EK_ev (Ev_geqI_q rfl rfl q1) ?_)
    | refine xst ?_
    | (refine xsa ?_; intro _)
    | (refine xsb ?_ ?_ <;> intro _ <;> first | (exfalso; omega) | skip)
    | refine xsc ?_
    | (refine KJ_draws (id := 1) (.op 0 (.op 1 (.op 2 (.op 3 (.op 4 (.op 5 (.op 6 (.op 7 (.op 8 (.op 9 (.op 10 (.op 11 (.op 12 (.op 13 (.op 14 (.op 15 (.op 16 .nil))))))))))))))))) (by kernel_rfl) (by kernel_rfl) ?_)
    | refine FW_alt ?_ ?_
    | refine KJ_flow ?_ ?_
    | exact Rech.nil
    | fail)
    all_goals (exact xdn ())
theorem rapp_down (at_ n ver used life : Int) (dead : Bool) (s : List UInt8) (hdn : downB D life dead = true) : Ct Tryd.prog W 108 [.pointer (some ⟨g, 0, none⟩), strV s] [RefP p D, cellsP g [.pointer (some ⟨p, 0, none⟩), .int .i64 at_, .int .i64 n, .int .i64 ver, .int .i64 used, .bool (dead), .int .i64 life] 180] (fun _ : Unit => .int .i64 12) (fun _ => [RefP p D, cellsP g [.pointer (some ⟨p, 0, none⟩), .int .i64 at_, .int .i64 n, .int .i64 ver, .int .i64 used, .bool (true), .int .i64 life] 180]) := by
  have c1 := rdown_ct (W := W) (p := p) (g := g) (D := D) at_ n ver used life dead
  rw [hdn] at c1
  refine Ct.enter Tryd.func108 rfl Tryd.ntmps108 (by simp) (fun R => ?_)
  repeat' (first 
    | (refine is_call ?_; refine KJ_call xE c1 xP rfl (fun _ => ?_))
    | refine xst ?_
    | (refine xsa ?_; intro _)
    | (refine xsb ?_ ?_ <;> intro _ <;> first | (exfalso; omega) | skip)
    | refine xsc ?_
    | (refine KJ_draws (id := 4) (.op 0 (.op 1 (.op 2 (.op 3 (.op 4 (.op 5 (.op 6 (.op 7 (.op 8 (.op 9 (.op 10 (.op 11 .nil)))))))))))) (by kernel_rfl) (by kernel_rfl) ?_)
    | (refine KJ_draws (id := 9) (.op 0 (.op 1 (.op 2 (.op 3 (.op 4 (.op 5 (.op 6 (.op 7 (.op 8 (.op 9 (.ef 10 [] (.op 11 (.op 12 (.op 13 (.op 14 (.op 15 .nil)))))))))))))))) (by kernel_rfl) (by kernel_rfl) ?_)
    | (refine KJ_draws (id := 11) (.op 0 (.op 1 (.op 2 (.op 3 (.op 4 (.op 5 (.op 6 (.op 7 (.op 8 (.op 9 (.op 10 (.op 11 (.op 12 (.op 13 (.op 14 (.op 15 (.ef 16 [] (.op 17 .nil)))))))))))))))))) (by kernel_rfl) (by kernel_rfl) ?_)
    | refine FW_alt ?_ ?_
    | refine KJ_flow ?_ ?_
    | exact Rech.nil
    | fail)
  all_goals (exact xdn ())
theorem rapp_full (at_ n life : Int) (ver used : Nat) (s : List UInt8) (hdn : downB D life false = false) (hnb : 0 ≤ n ∧ n ≤ 65536) (hu : (used : Int) ≤ n) (hl : s.length ≤ 1048576) (hfull : ¬ (costI s.length ≤ n - used)) : Ct Tryd.prog W 108 [.pointer (some ⟨g, 0, none⟩), strV s] [RefP p D, cellsP g [.pointer (some ⟨p, 0, none⟩), .int .i64 at_, .int .i64 n, .int .i64 ver, .int .i64 used, .bool (false), .int .i64 life] 180] (fun _ : Unit => .int .i64 17) (fun _ => [RefP p D, cellsP g [.pointer (some ⟨p, 0, none⟩), .int .i64 at_, .int .i64 n, .int .i64 ver, .int .i64 used, .bool (false), .int .i64 life] 180]) := by
  have c1 := rdown_ct (W := W) (p := p) (g := g) (D := D) at_ n ver used life false
  rw [hdn] at c1
  have c3 := rpieces_ct (W := W) s (by omega)
  have hL := pcsJ_length s
  obtain ⟨ps, hps⟩ : ∃ ps, ps = pcsJ s := ⟨_, rfl⟩
  rw [← hps] at hL c3
  rw [← hL] at hfull
  clear hps hL
  have qg : decide (n - (used : Int) < (ps.length : Nat)) = true := decide_eq_true (by omega)
  refine Ct.enter Tryd.func108 rfl Tryd.ntmps108 (by simp) (fun R => ?_)
  repeat' (first 
    | (refine is_call ?_; first | (refine KJ_call xE c3 xP rfl (fun x => ?_)) | (refine KJ_call xE c1 xP rfl (fun _ => ?_)))
    | (refine ek_gtr ?_; refine EK_ev (Ev_gtrI_q rfl rfl qg) ?_)
    | refine xst ?_
    | (refine xsa ?_; intro _)
    | (refine xsb ?_ ?_ <;> intro _ <;> first | (exfalso; omega) | skip)
    | refine xsc ?_
    | (refine KJ_draws (id := 4) (.op 0 (.op 1 (.op 2 (.op 3 (.op 4 (.op 5 (.op 6 (.op 7 (.op 8 (.op 9 (.op 10 (.op 11 .nil)))))))))))) (by kernel_rfl) (by kernel_rfl) ?_)
    | (refine KJ_draws (id := 9) (.op 0 (.op 1 (.op 2 (.op 3 (.op 4 (.op 5 (.op 6 (.op 7 (.op 8 (.op 9 (.ef 10 [] (.op 11 (.op 12 (.op 13 (.op 14 (.op 15 .nil)))))))))))))))) (by kernel_rfl) (by kernel_rfl) ?_)
    | (refine KJ_draws (id := 11) (.op 0 (.op 1 (.op 2 (.op 3 (.op 4 (.op 5 (.op 6 (.op 7 (.op 8 (.op 9 (.op 10 (.op 11 (.op 12 (.op 13 (.op 14 (.op 15 (.ef 16 [] (.op 17 .nil)))))))))))))))))) (by kernel_rfl) (by kernel_rfl) ?_)
    | refine FW_alt ?_ ?_
    | refine KJ_flow ?_ ?_
    | exact Rech.nil
    | fail)
  all_goals (exact xdn ())
theorem writeE_12 {D : Dsk} (ho : D.off = false) {i : Int} (hi : 0 ≤ i ∧ i < D.n) {s : List UInt8} (hs : s.length = 256) (hz : D.writeE i s ≠ 0) : D.writeE i s = 12 := by
  have hh : D.has i = true := decide_eq_true hi
  unfold Dsk.writeE at hz ⊢
  rw [if_neg (by rw [ho]; simp), if_pos hh, if_pos hs] at hz ⊢
  split at hz
  · rename_i hd; rw [if_pos hd]
  · exact absurd rfl hz
theorem writeD_on {D : Dsk} (ho : D.off = false) {i : Int} (hi : 0 ≤ i ∧ i < D.n) {s : List UInt8} (hs : s.length = 256) (hz : D.writeE i s = 0) : (D.writeD i s).off = false ∧ (D.writeD i s).n = D.n := by
  have hh : D.has i = true := decide_eq_true hi
  unfold Dsk.writeE at hz
  rw [if_neg (by rw [ho]; simp), if_pos hh, if_pos hs] at hz
  unfold Dsk.writeD
  rw [if_neg (by rw [ho]; simp), if_pos hh, if_pos hs]
  split at hz
  · cases hz
  · rename_i hd
    rw [if_neg hd]
    dsimp only
    refine ⟨?_, Dsk.gone_n _⟩
    unfold Dsk.gone
    have hd2 : ¬ D.armed = 0 := by
      intro e
      apply hd
      exact decide_eq_true e
    rw [if_neg hd2]
    split <;> exact ho
set_option maxHeartbeats 2000000 in
set_option maxRecDepth 100000 in
theorem rapp_ct (hok : D.ok) (at_ n life : Int) (ver used : Nat) (s : List UInt8) (hon : D.off = false) (hlog : logOk D at_ n (ver : Nat)) (hdn : downB D life false = false) (hu : (used : Int) ≤ n) (hl : s.length ≤ 1048576) (hfit : costI s.length ≤ n - used) (hul : D.und.length + 65536 < 1073741823) :
    Ct Tryd.prog W 108 [.pointer (some ⟨g, 0, none⟩), strV s] [RefP p D, cellsP g [.pointer (some ⟨p, 0, none⟩), .int .i64 at_, .int .i64 n, .int .i64 ver, .int .i64 used, .bool (false), .int .i64 life] 180] (fun _ : Unit => .int .i64 (if (apGo at_ ver used (pcsJ s) 0 D).1 then 0 else 12))
      (fun _ => [RefP p (apGo at_ ver used (pcsJ s) 0 D).2, cellsP g [.pointer (some ⟨p, 0, none⟩), .int .i64 at_, .int .i64 n, .int .i64 ver, .int .i64 (if (apGo at_ ver used (pcsJ s) 0 D).1 then (used : Int) + costI s.length else used), .bool (!(apGo at_ ver used (pcsJ s) 0 D).1), .int .i64 life] 180]) := by
  obtain ⟨k1, k2, k3, k4, k5, k6, k7⟩ := hlog
  have hn2 := hok.n2
  have c1 := rdown_ct (W := W) (p := p) (g := g) (D := D) at_ n ver used life false
  rw [hdn] at c1
  have c3 := rpieces_ct (W := W) s (by omega)
  have hL := pcsJ_length s
  have hLe := pcsJ_le s
  obtain ⟨cost, hcost⟩ : ∃ c, c = costI s.length := ⟨_, rfl⟩
  obtain ⟨ps, hps⟩ : ∃ ps, ps = pcsJ s := ⟨_, rfl⟩
  rw [← hcost] at hL hfit ⊢
  rw [← hps] at hL hLe c3 ⊢
  clear hcost hps
  obtain ⟨res, hres⟩ : ∃ res, res = apGo at_ ver used ps 0 D := ⟨_, rfl⟩
  rw [← hres]
  have qg : decide (n - (used : Int) < (ps.length : Nat)) = false := decide_eq_false (by omega)
  refine Ct.enter Tryd.func108 rfl Tryd.ntmps108 (by simp) (fun R => ?_)
  repeat' (first 
    | (refine is_call ?_; first | (refine KJ_call xE c3 xP rfl (fun x => ?_)) | (refine KJ_call xE c1 xP rfl (fun _ => ?_)))
    | (refine ek_gtr ?_; refine EK_ev (Ev_gtrI_q rfl rfl qg) ?_)
    | refine xst ?_
    | (refine xsa ?_; intro _)
    | (refine xsb ?_ ?_ <;> intro _ <;> first | (exfalso; omega) | skip)
    | refine xsc ?_
    | (refine KJ_draws (id := 4) (.op 0 (.op 1 (.op 2 (.op 3 (.op 4 (.op 5 (.op 6 (.op 7 (.op 8 (.op 9 (.op 10 (.op 11 .nil)))))))))))) (by kernel_rfl) (by kernel_rfl) ?_)
    | (refine KJ_draws (id := 9) (.op 0 (.op 1 (.op 2 (.op 3 (.op 4 (.op 5 (.op 6 (.op 7 (.op 8 (.op 9 (.ef 10 [] (.op 11 (.op 12 (.op 13 (.op 14 (.op 15 .nil)))))))))))))))) (by kernel_rfl) (by kernel_rfl) ?_)
    | (refine KJ_draws (id := 11) (.op 0 (.op 1 (.op 2 (.op 3 (.op 4 (.op 5 (.op 6 (.op 7 (.op 8 (.op 9 (.op 10 (.op 11 (.op 12 (.op 13 (.op 14 (.op 15 (.ef 16 [] (.op 17 .nil)))))))))))))))))) (by kernel_rfl) (by kernel_rfl) ?_)
    | refine FW_alt ?_ ?_
    | refine KJ_flow ?_ ?_
    | exact Rech.nil
    | fail)
  rename_i x
  obtain ⟨gw, cw⟩ := x
  dsimp only
  refine KJ_loop (fun i : {s : Nat × Dsk // apGo at_ ver used (ps.drop s.1) s.1 s.2 = res ∧ s.1 ≤ ps.length ∧ s.2.und.length ≤ D.und.length + s.1 ∧ s.2.off = false ∧ s.2.ok ∧ s.2.n = D.n} => [(0, .pointer (some ⟨g, 0, none⟩)), (5, .slice (some ⟨gw, 0, none⟩) ps.length cw), (6, .int .i64 (i.1.1 : Nat))])
    (fun i => [RefP p i.1.2, cellsP g [.pointer (some ⟨p, 0, none⟩), .int .i64 at_, .int .i64 n, .int .i64 ver, .int .i64 used, .bool (false), .int .i64 life] 180, rowP (.slice (some ⟨gw, 0, none⟩) ps.length cw) 9 1 ps.length (ps.map strV)] ++ R) (fun i => ps.length - i.1.1) ⟨(0, D), hres.symm, Nat.zero_le _, Nat.le_refl _, hon, hok, rfl⟩ xB (xN) (fun ⟨(k, Dk), hr, hk, hu2, ho2, hok2, hnn⟩ => ?_)
  dsimp only at hr hk hu2 ho2 hok2 hnn ⊢
  by_cases hlt : k < ps.length
  rotate_left
  · have hkl : k = ps.length := by omega
    subst hkl
    rw [List.drop_length] at hr
    have ql : decide ((ps.length : Int) < (ps.length : Int)) = false := decide_eq_false (by omega)
    have h1 : res.1 = true := by rw [← hr]; rfl
    have h2 : res.2 = Dk := by rw [← hr]; rfl
    rw [h1, h2]
    repeat' (first 
    | (refine ek_add ?_; refine EK_ev (Ev_addI_v (r := (used : Int) + cost) rfl rfl (by omega) (by omega)) ?_)
    | (refine ek_lss ?_; refine EK_ev (Ev_lssI_q rfl rfl ql) ?_)
    | refine xst ?_
    | (refine xsa ?_; intro _)
    | (refine xsb ?_ ?_ <;> intro _ <;> first | (exfalso; omega) | skip)
    | refine xsc ?_
    | (refine KJ_draws (id := 4) (.op 0 (.op 1 (.op 2 (.op 3 (.op 4 (.op 5 (.op 6 (.op 7 (.op 8 (.op 9 (.op 10 (.op 11 .nil)))))))))))) (by kernel_rfl) (by kernel_rfl) ?_)
    | (refine KJ_draws (id := 9) (.op 0 (.op 1 (.op 2 (.op 3 (.op 4 (.op 5 (.op 6 (.op 7 (.op 8 (.op 9 (.ef 10 [] (.op 11 (.op 12 (.op 13 (.op 14 (.op 15 .nil)))))))))))))))) (by kernel_rfl) (by kernel_rfl) ?_)
    | (refine KJ_draws (id := 11) (.op 0 (.op 1 (.op 2 (.op 3 (.op 4 (.op 5 (.op 6 (.op 7 (.op 8 (.op 9 (.op 10 (.op 11 (.op 12 (.op 13 (.op 14 (.op 15 (.ef 16 [] (.op 17 .nil)))))))))))))))))) (by kernel_rfl) (by kernel_rfl) ?_)
    | refine FW_alt ?_ ?_
    | refine KJ_flow ?_ ?_
    | exact Rech.nil
    | fail)
    all_goals (exact xdn ())
  have ql : decide ((k : Int) < (ps.length : Int)) = true := decide_eq_true (by omega)
  obtain ⟨pc, hpc⟩ : ∃ pc, ps[k]? = some pc := ⟨_, List.getElem?_eq_getElem hlt⟩
  have hpl := hLe pc (List.mem_of_getElem? hpc)
  have hdr : ps.drop k = pc :: ps.drop (k + 1) := by
    rw [List.drop_eq_getElem_cons hlt]
    congr 1
    exact (List.getElem?_eq_some_iff.1 hpc).2
  have hget : (ps.map strV)[0 + ((k : Nat) : Int).toNat * 1]? = some (strV pc) := by rw [Int.toNat_natCast, Nat.mul_one, Nat.zero_add, List.getElem?_map, hpc]; rfl
  have hcast : ((used + k : Nat) : Int) = (used : Int) + (k : Int) := by omega
  have c5 := rlog_ct (W := W) ver (used + k) ⟨by omega, by omega⟩ (by omega)
  have c6 := rseal_ok (W := W) (stampN ver (used + k)) (by unfold stampN; omega) (stamp_lt (by omega) (by omega)) pc hpl
  have hsl := sealB_length (stampN ver (used + k) : Nat) pc hpl
  have hin : 0 ≤ at_ + (used : Nat) + (k : Nat) ∧ at_ + (used : Nat) + (k : Nat) < (Dk.n : Nat) := by rw [hnn]; omega
  have c7 := rwrite_ct (W := W) (p := p) (D := Dk) hok2 (at_ + (used : Nat) + (k : Nat)) (sealB (stampN ver (used + k) : Nat) pc) (by omega)
  have hunf : apGo at_ ver used (pc :: ps.drop (k + 1)) k Dk = if Dk.writeE (at_ + (used : Nat) + (k : Nat)) (sealB (stampN ver (used + k) : Nat) pc) ≠ 0 then (false, Dk.writeD (at_ + (used : Nat) + (k : Nat)) (sealB (stampN ver (used + k) : Nat) pc))
      else apGo at_ ver used (ps.drop (k + 1)) (k + 1) (Dk.writeD (at_ + (used : Nat) + (k : Nat)) (sealB (stampN ver (used + k) : Nat) pc)) := rfl
  rw [hdr, hunf] at hr
  have hu3 := writeD_und Dk (at_ + (used : Nat) + (k : Nat)) (sealB (stampN ver (used + k) : Nat) pc)
  have hok3 := Dsk.writeD_ok hok2 (at_ + (used : Nat) + (k : Nat)) (sealB (stampN ver (used + k) : Nat) pc)
  have h12 := writeE_12 ho2 hin hsl
  have hon3 := writeD_on ho2 hin hsl
  obtain ⟨ad, had⟩ : ∃ a, a = at_ + (used : Nat) + (k : Nat) := ⟨_, rfl⟩
  rw [← had] at c7 hr hu3 hok3 h12 hon3 hin
  obtain ⟨stm, hst⟩ : ∃ m, m = stampN ver (used + k) := ⟨_, rfl⟩
  rw [← hst] at c5 c6 c7 hr hu3 hok3 h12 hon3 hsl
  obtain ⟨raw, hraw⟩ : ∃ m, m = sealB (stm : Nat) pc := ⟨_, rfl⟩
  rw [← hraw] at c6 c7 hr hu3 hok3 h12 hon3 hsl
  obtain ⟨D1, hD1⟩ : ∃ D1, D1 = Dk.writeD ad raw := ⟨_, rfl⟩
  rw [← hD1] at c7 hr hu3 hok3 hon3
  obtain ⟨e, he⟩ : ∃ e, e = Dk.writeE ad raw := ⟨_, rfl⟩
  rw [← he] at c7 hr h12 hon3
  clear hst hraw hD1 he hunf hres hdr hpc
  by_cases hz : e = 0
  · subst hz
    rw [if_neg (by simp)] at hr
    obtain ⟨hon4, hn4⟩ := hon3 rfl
    have c7' : Ct Tryd.prog W 97 [.pointer (some ⟨p, 0, none⟩), .int .i64 ad, strV raw] [RefP p Dk] (fun _ : Unit => .int .i64 0) (fun _ => [RefP p D1]) := c7
    repeat' (first 
    | (refine is_call ?_; first | (refine KJ_call xE c7' xP rfl (fun _ => ?_)) | (refine KJ_call xE c6 xP rfl (fun _ => ?_)) | (refine KJ_call xE c5 xP rfl (fun _ => ?_)))
    | (refine ek_load ?_; refine EK_ev (Ev_loadRow rfl xS hget) ?_)
    | (refine ek_add ?_; first | refine EK_ev (Ev_addI_v (r := ((k + 1 : Nat) : Int)) rfl rfl (by omega) (by omega)) ?_ | refine EK_ev (Ev_addI_v (r := ((used + k : Nat) : Int)) rfl rfl hcast.symm (by omega)) ?_ | refine EK_ev (Ev_addI_v (r := ad) rfl rfl (by omega) (by omega)) ?_)
    | (refine ek_neq ?_; refine EK_ev (Ev_neqI_f rfl rfl rfl) ?_)
    | (refine ek_lss ?_; refine EK_ev (Ev_lssI_q rfl rfl ql) ?_)
    | refine xst ?_
    | (refine xsa ?_; intro _)
    | (refine xsb ?_ ?_ <;> intro _ <;> first | (exfalso; omega) | skip)
    | refine xsc ?_
    | (refine KJ_draws (id := 4) (.op 0 (.op 1 (.op 2 (.op 3 (.op 4 (.op 5 (.op 6 (.op 7 (.op 8 (.op 9 (.op 10 (.op 11 .nil)))))))))))) (by kernel_rfl) (by kernel_rfl) ?_)
    | (refine KJ_draws (id := 9) (.op 0 (.op 1 (.op 2 (.op 3 (.op 4 (.op 5 (.op 6 (.op 7 (.op 8 (.op 9 (.ef 10 [] (.op 11 (.op 12 (.op 13 (.op 14 (.op 15 .nil)))))))))))))))) (by kernel_rfl) (by kernel_rfl) ?_)
    | (refine KJ_draws (id := 11) (.op 0 (.op 1 (.op 2 (.op 3 (.op 4 (.op 5 (.op 6 (.op 7 (.op 8 (.op 9 (.op 10 (.op 11 (.op 12 (.op 13 (.op 14 (.op 15 (.ef 16 [] (.op 17 .nil)))))))))))))))))) (by kernel_rfl) (by kernel_rfl) ?_)
    | refine FW_alt ?_ ?_
    | refine KJ_flow ?_ ?_
    | exact Rech.nil
    | fail)
    all_goals exact KJ_again ⟨(k + 1, D1), hr, by dsimp only; omega, by dsimp only; omega, hon4, hok3, by dsimp only; omega⟩ (by show ps.length - (k + 1) < ps.length - k; omega) xB (xN)
  · rw [if_pos hz] at hr
    obtain rfl := h12 hz
    have h1 : res.1 = false := by rw [← hr]
    have h2 : res.2 = D1 := by rw [← hr]
    rw [h1, h2]
    have c7' : Ct Tryd.prog W 97 [.pointer (some ⟨p, 0, none⟩), .int .i64 ad, strV raw] [RefP p Dk] (fun _ : Unit => .int .i64 12) (fun _ => [RefP p D1]) := c7
    repeat' (first 
    | (refine is_call ?_; first | (refine KJ_call xE c7' xP rfl (fun _ => ?_)) | (refine KJ_call xE c6 xP rfl (fun _ => ?_)) | (refine KJ_call xE c5 xP rfl (fun _ => ?_)))
    | (refine ek_load ?_; refine EK_ev (Ev_loadRow rfl xS hget) ?_)
    | (refine ek_add ?_; first | refine EK_ev (Ev_addI_v (r := ((used + k : Nat) : Int)) rfl rfl hcast.symm (by omega)) ?_ | refine EK_ev (Ev_addI_v (r := ad) rfl rfl (by omega) (by omega)) ?_)
    | (refine ek_neq ?_; refine EK_ev (Ev_neqI_t rfl rfl (by decide)) ?_)
    | (refine ek_lss ?_; refine EK_ev (Ev_lssI_q rfl rfl ql) ?_)
    | refine xst ?_
    | (refine xsa ?_; intro _)
    | (refine xsb ?_ ?_ <;> intro _ <;> first | (exfalso; omega) | skip)
    | refine xsc ?_
    | (refine KJ_draws (id := 4) (.op 0 (.op 1 (.op 2 (.op 3 (.op 4 (.op 5 (.op 6 (.op 7 (.op 8 (.op 9 (.op 10 (.op 11 .nil)))))))))))) (by kernel_rfl) (by kernel_rfl) ?_)
    | (refine KJ_draws (id := 9) (.op 0 (.op 1 (.op 2 (.op 3 (.op 4 (.op 5 (.op 6 (.op 7 (.op 8 (.op 9 (.ef 10 [] (.op 11 (.op 12 (.op 13 (.op 14 (.op 15 .nil)))))))))))))))) (by kernel_rfl) (by kernel_rfl) ?_)
    | (refine KJ_draws (id := 11) (.op 0 (.op 1 (.op 2 (.op 3 (.op 4 (.op 5 (.op 6 (.op 7 (.op 8 (.op 9 (.op 10 (.op 11 (.op 12 (.op 13 (.op 14 (.op 15 (.ef 16 [] (.op 17 .nil)))))))))))))))))) (by kernel_rfl) (by kernel_rfl) ?_)
    | refine FW_alt ?_ ?_
    | refine KJ_flow ?_ ?_
    | exact Rech.nil
    | fail)
    all_goals (exact xdn ())
theorem rsync_down (at_ n ver used life : Int) (dead : Bool) (hdn : downB D life dead = true) : Ct Tryd.prog W 109 [.pointer (some ⟨g, 0, none⟩)] [RefP p D, cellsP g [.pointer (some ⟨p, 0, none⟩), .int .i64 at_, .int .i64 n, .int .i64 ver, .int .i64 used, .bool (dead), .int .i64 life] 180] (fun _ : Unit => .int .i64 12) (fun _ => [RefP p D, cellsP g [.pointer (some ⟨p, 0, none⟩), .int .i64 at_, .int .i64 n, .int .i64 ver, .int .i64 used, .bool (true), .int .i64 life] 180]) := by
  have c1 := rdown_ct (W := W) (p := p) (g := g) (D := D) at_ n ver used life dead
  rw [hdn] at c1
  refine Ct.enter Tryd.func109 rfl Tryd.ntmps109 (by simp) (fun R => ?_)
  repeat' (first 
    | (refine is_call ?_; refine KJ_call xE c1 xP rfl (fun _ => ?_))
    | refine xst ?_
    | (refine xsa ?_; intro _)
    | (refine xsb ?_ ?_ <;> intro _ <;> first | (exfalso; omega) | skip)
    | refine xsc ?_
    | fail)
  all_goals (exact xdn ())
theorem rsync_ct (hok : D.ok) (hul : D.und.length < 1073741824) (at_ n ver used life : Int) (hdn : downB D life false = false) : Ct Tryd.prog W 109 [.pointer (some ⟨g, 0, none⟩)] [RefP p D, cellsP g [.pointer (some ⟨p, 0, none⟩), .int .i64 at_, .int .i64 n, .int .i64 ver, .int .i64 used, .bool (false), .int .i64 life] 180] (fun _ : Unit => .int .i64 (if D.flushE = 0 then 0 else 12)) (fun _ => [RefP p D.flushD, cellsP g [.pointer (some ⟨p, 0, none⟩), .int .i64 at_, .int .i64 n, .int .i64 ver, .int .i64 used, .bool (decide (D.flushE ≠ 0)), .int .i64 life] 180]) := by
  have c1 := rdown_ct (W := W) (p := p) (g := g) (D := D) at_ n ver used life false
  rw [hdn] at c1
  have c2 := rflush_ct (W := W) (p := p) hok hul
  have h12 : D.flushE = 0 ∨ D.flushE = 12 := by unfold Dsk.flushE; split <;> simp
  obtain ⟨D1, hD1⟩ : ∃ D1, D1 = D.flushD := ⟨_, rfl⟩
  obtain ⟨e, he⟩ : ∃ e, e = D.flushE := ⟨_, rfl⟩
  rw [← hD1, ← he] at c2
  rw [← he] at h12
  rw [← hD1, ← he]
  clear hD1 he
  rcases h12 with rfl | rfl
  · have c2' : Ct Tryd.prog W 93 [.pointer (some ⟨p, 0, none⟩)] [RefP p D] (fun _ : Unit => .int .i64 0) (fun _ => [RefP p D1]) := c2
    refine Ct.enter Tryd.func109 rfl Tryd.ntmps109 (by simp) (fun R => ?_)
    repeat' (first 
    | (refine is_call ?_; first | (refine KJ_call xE c2' xP rfl (fun _ => ?_)) | (refine KJ_call xE c1 xP rfl (fun _ => ?_)))
    | (refine ek_neq ?_; refine EK_ev (Ev_neqI_f rfl rfl rfl) ?_)
    | refine xst ?_
    | (refine xsa ?_; intro _)
    | (refine xsb ?_ ?_ <;> intro _ <;> first | (exfalso; omega) | skip)
    | refine xsc ?_
    | fail)
    all_goals (exact xdn ())
  · have c2' : Ct Tryd.prog W 93 [.pointer (some ⟨p, 0, none⟩)] [RefP p D] (fun _ : Unit => .int .i64 12) (fun _ => [RefP p D1]) := c2
    refine Ct.enter Tryd.func109 rfl Tryd.ntmps109 (by simp) (fun R => ?_)
    repeat' (first 
    | (refine is_call ?_; first | (refine KJ_call xE c2' xP rfl (fun _ => ?_)) | (refine KJ_call xE c1 xP rfl (fun _ => ?_)))
    | (refine ek_neq ?_; refine EK_ev (Ev_neqI_t rfl rfl (by decide)) ?_)
    | refine xst ?_
    | (refine xsa ?_; intro _)
    | (refine xsb ?_ ?_ <;> intro _ <;> first | (exfalso; omega) | skip)
    | refine xsc ?_
    | fail)
    all_goals (exact xdn ())
end
end Go.Proofs.YteklldbfdmaafaaDoor
/-
  Every call over a disk, in every order (chapter 6): DiskPlays, DiskFrom.
-/
namespace Go.Proofs.YteklldbfdmaafaaDoor
open Go Go.RowKit
section
variable {P : Program} {W : World} {n : Nat} {E : Env} {H : List SP} {x y : Operand} {t u : TypeId}
theorem Ev_eqlB_t {a b : Bool} (hx : Env.ev E x = some (.bool a)) (hy : Env.ev E y = some (.bool b)) [hu : UIs P t .bool] (h : a = b) : Ev P W n E H (.binOp .eql t x y u) (.bool true) := by
  subst h
  exact Ev_eqlO hx hy (by simp [eqOne]) (fun _ => rfl)
theorem Ev_neqB_f {a b : Bool} (hx : Env.ev E x = some (.bool a)) (hy : Env.ev E y = some (.bool b)) [hu : UIs P t .bool] (h : a = b) : Ev P W n E H (.binOp .neq t x y u) (.bool false) := by
  subst h
  exact Ev_neqO (b := true) hx hy (by simp [eqOne]) (fun _ => rfl)
end
/-- one call's disk -/
def POp.step (o : POp) (D : Dsk) : Dsk := if o.kind = 1 then D.writeD o.i o.sec else if o.kind = 2 then D.flushD else if o.kind = 3 then D.arm o.i else if o.kind = 4 then D.crash o.kept o.torn o.bytes else D
theorem writeE_le (D : Dsk) (i : Int) (s : List UInt8) : D.writeE i s ≤ 37 := by unfold Dsk.writeE; repeat' split
                                                                                 all_goals omega
end Go.Proofs.YteklldbfdmaafaaDoor
/-
  JournalPlays (chapter 10): one call, held against the document.
-/
namespace Go.Proofs.YteklldbfdmaafaaDoor
open Go Go.RowKit
/-- a call of a script -/
structure JOp where
  kind : Int
  at_ : Int
  n : Int
  ver : Int
  size : Int
  fill : Int
  kept : List Bool
  torn : Int
  bytes : Int
def JOp.cells (o : JOp) (kv : Value) : List Value := [.int .i64 o.kind, .int .i64 o.at_, .int .i64 o.n, .int .i64 o.ver, .int .i64 o.size, .int .i64 o.fill, kv, .int .i64 o.torn, .int .i64 o.bytes]
/-- a journal and the document's -/
structure JSt where
  jg : Nat
  qg : Nat
  at_ : Int
  n : Int
  ver : Nat
  used : Nat
  life : Int
  dead : Bool
def JSt.ok (N : Nat) (s : JSt) : Prop := 0 ≤ s.at_ ∧ 0 ≤ s.n ∧ s.at_ ≤ N ∧ s.n ≤ (N : Int) - s.at_ ∧ s.n ≤ 65536 ∧ 1 ≤ ((s.ver : Nat) : Int) ∧ ((s.ver : Nat) : Int) ≤ 1099511627776 ∧ (s.used : Int) ≤ s.n
theorem JSt.ok.log {N : Nat} {s : JSt} (h : s.ok N) {D : Dsk} (hD : D.n = N) : logOk D s.at_ s.n (s.ver : Nat) := by
  obtain ⟨h1, h2, h3, h4, h5, h6, h7, h8⟩ := h
  exact ⟨h1, h2, by rw [hD]; exact h3, by rw [hD]; exact h4, h5, h6, h7⟩
/-- the pair's claims, with a journal or none -/
def jcl (p r gp : Nat) (x : Dsk × Option JSt) : List SP := match x.2 with
  | none => [DiskP p x.1, RefP r x.1, cellsP gp [.pointer (some ⟨p, 0, none⟩), .pointer (some ⟨r, 0, none⟩), .pointer none, .pointer none] 125]
  | some s => [DiskP p x.1, RefP r x.1, cellsP gp [.pointer (some ⟨p, 0, none⟩), .pointer (some ⟨r, 0, none⟩), .pointer (some ⟨s.jg, 0, none⟩), .pointer (some ⟨s.qg, 0, none⟩)] 125,
      cellsP s.jg [.pointer (some ⟨p, 0, none⟩), .int .i64 s.at_, .int .i64 s.n, .int .i64 (s.ver : Nat), .int .i64 (s.used : Nat), .int .i64 s.life, .bool s.dead] 165, cellsP s.qg [.pointer (some ⟨r, 0, none⟩), .int .i64 s.at_, .int .i64 s.n, .int .i64 (s.ver : Nat), .int .i64 (s.used : Nat), .bool s.dead, .int .i64 s.life] 180]
/-- .. and one more -/
def jclA (A : SP) (p r gp : Nat) (x : Dsk × Option JSt) : List SP := match x.2 with
  | none => [DiskP p x.1, RefP r x.1, cellsP gp [.pointer (some ⟨p, 0, none⟩), .pointer (some ⟨r, 0, none⟩), .pointer none, .pointer none] 125, A]
  | some s => [DiskP p x.1, RefP r x.1, cellsP gp [.pointer (some ⟨p, 0, none⟩), .pointer (some ⟨r, 0, none⟩), .pointer (some ⟨s.jg, 0, none⟩), .pointer (some ⟨s.qg, 0, none⟩)] 125,
      cellsP s.jg [.pointer (some ⟨p, 0, none⟩), .int .i64 s.at_, .int .i64 s.n, .int .i64 (s.ver : Nat), .int .i64 (s.used : Nat), .int .i64 s.life, .bool s.dead] 165, cellsP s.qg [.pointer (some ⟨r, 0, none⟩), .int .i64 s.at_, .int .i64 s.n, .int .i64 (s.ver : Nat), .int .i64 (s.used : Nat), .bool s.dead, .int .i64 s.life] 180, A]
theorem Dsk.writeD_n (D : Dsk) (i : Int) (s : List UInt8) : (D.writeD i s).n = D.n := by
  unfold Dsk.writeD
  split
  · rfl
  split
  · split
    · dsimp only
      split
      · exact Dsk.gone_n _
      · exact Dsk.gone_n _
    · rfl
  · rfl
theorem Dsk.flushD_n (D : Dsk) : D.flushD.n = D.n := by
  unfold Dsk.flushD
  split
  · rfl
  split
  · exact Dsk.gone_n _
  · exact Dsk.gone_n _
theorem Dsk.flushD_und (D : Dsk) : D.flushD.und.length ≤ D.und.length := by
  unfold Dsk.flushD
  split
  · exact Nat.le_refl _
  split
  · rw [Dsk.gone_und]; exact Nat.le_refl _
  · exact Nat.zero_le _
theorem apGo_keep (at_ : Int) (ver used : Nat) : ∀ (ps : List (List UInt8)) (i : Nat) (D : Dsk), D.ok → (apGo at_ ver used ps i D).2.ok ∧ (apGo at_ ver used ps i D).2.n = D.n ∧ (apGo at_ ver used ps i D).2.und.length ≤ D.und.length + ps.length := by
  intro ps
  induction ps with
  | nil => intro i D h; exact ⟨h, rfl, Nat.le_refl _⟩
  | cons q ps ih =>
    intro i D h
    have hunf : apGo at_ ver used (q :: ps) i D = if D.writeE (at_ + (used : Nat) + (i : Nat)) (sealB (stampN ver (used + i) : Nat) q) ≠ 0 then (false, D.writeD (at_ + (used : Nat) + (i : Nat)) (sealB (stampN ver (used + i) : Nat) q))
        else apGo at_ ver used ps (i + 1) (D.writeD (at_ + (used : Nat) + (i : Nat)) (sealB (stampN ver (used + i) : Nat) q)) := rfl
    rw [hunf]
    have h1 := Dsk.writeD_ok h (at_ + (used : Nat) + (i : Nat)) (sealB (stampN ver (used + i) : Nat) q)
    have h2 := Dsk.writeD_n D (at_ + (used : Nat) + (i : Nat)) (sealB (stampN ver (used + i) : Nat) q)
    have h3 := writeD_und D (at_ + (used : Nat) + (i : Nat)) (sealB (stampN ver (used + i) : Nat) q)
    split
    · exact ⟨h1, h2, by rw [List.length_cons]; dsimp only; omega⟩
    · obtain ⟨a, b, c⟩ := ih (i + 1) _ h1
      exact ⟨a, b.trans h2, by rw [List.length_cons]; omega⟩
/-- behind a call -/
def JOk (D : Dsk) (m : Nat) (x : Dsk × Option JSt) : Prop := x.1.ok ∧ x.1.n = D.n ∧ x.1.und.length ≤ D.und.length + m ∧ ∀ s, x.2 = some s → s.ok D.n
theorem JOk.up {D : Dsk} {x : Dsk × Option JSt} (h : JOk D 1 x) : JOk D 14 x := ⟨h.1, h.2.1, Nat.le_trans h.2.2.1 (by omega), h.2.2.2⟩
theorem Ev_addS_w {P : Program} {W : World} {n : Nat} {E : Env} {H : List SP} {x y : Operand} {t u : TypeId} {a b c : List UInt8} (hx : Env.ev E x = some (strV a)) (hy : Env.ev E y = some (strV b)) (h : a ++ b = c) (hb : c.length ≤ 9223372036854775807) : Ev P W n E H (.binOp .add t x y u) (strV c) := by
  subst h; exact Ev_addS hx hy (by rw [List.length_append] at hb; exact hb)
section
variable {W : World} {E : Nat → Addr} {p r gp : Nat} {D : Dsk}
set_option maxHeartbeats 4000000 in
set_option maxRecDepth 100000 in
theorem jstep_ct (hE : ErrsAt W E) (hN : NibAt W) (hg : gB ≤ W.heap.size) (hok : D.ok) (hul : D.und.length < 1000000000) (st : Option JSt) (hst : ∀ s, st = some s → s.ok D.n) (o : JOp) (kv : Value) (hk : BoolsAt W kv o.kept) (hon : o.n ≤ 9223372036854775807) (hos : o.size ≤ 9223372036854775807) :
    Ct Tryd.prog W 75 [.pointer (some ⟨gp, 0, none⟩), .agg (o.cells kv).toArray] (jcl p r gp (D, st)) (fun _ : {x // JOk D 14 x} => .bool true) (fun x => jcl p r gp x.1) := by
  have hE8 : ErrsOn L8 W E := hE.on
  have e6 : W.cell? ⟨3, 0, none⟩ = some (errV E 6) := hE.all.at_ 6 (by decide)
  have e12 : W.cell? ⟨2, 0, none⟩ = some (errV E 12) := hE.all.at_ 12 (by decide)
  have e17 : W.cell? ⟨6, 0, none⟩ = some (errV E 17) := hE.all.at_ 17 (by decide)
  have hn2 := hok.n2
  have cN := fun e (he : e ≤ 37) => num_ct (W := W) (E := E) hE hg e he
  obtain ⟨kind, oat, on_, over, osize, ofill, kept, torn, bytes⟩ := o
  dsimp only [JOp.cells] at hk hon hos ⊢
  refine Ct.enter Tryd.func75 rfl Tryd.ntmps75 (by simp) (fun R => ?_)
  refine KJ_stp (by first | constructor | fail) ?_
  apply KJ_rest (fun K => ∀ (g3 : Nat) (x : Dsk × Option JSt), JOk D 1 x → KJ W 259 K [(0, .pointer (some ⟨gp, 0, none⟩)), (3, .pointer (some ⟨g3, 0, none⟩))] (jclA (cellsP g3 [.int .i64 kind, .int .i64 oat, .int .i64 on_, .int .i64 over, .int .i64 osize, .int .i64 ofill, kv, .int .i64 torn, .int .i64 bytes] 127) p r gp x ++ R))
  · intro rest
    have hx0 : JOk D 1 (D, st) := ⟨hok, rfl, by dsimp only; omega, hst⟩
    by_cases q1 : kind = 1
    · by_cases hl : logOk D oat on_ over
      rotate_left
      · have c1 := begin_no (W := W) (p := p) (D := D) 6 (by decide) oat on_ over (check_bad hok.n2 e6 oat on_ over hl)
        have c2 := rbegin_range (W := W) (p := r) oat on_ over hok.n2 hl
        have c3 := cN 6 (by omega)
        obtain ⟨ev, hev⟩ : ∃ ev, ev = errV E 6 := ⟨_, rfl⟩
        rw [← hev] at c1 c3
        cases st with
        | none =>
          dsimp only [jcl]
          repeat' (first 
    | (refine at_seq_region (id := 22) ?_; exact KJ.weak (rest _ _ (by assumption)) xB (by dsimp only [jclA]; exact (xN)))
    | (refine is_box ?_; refine KJ_box rfl xF rfl (fun g3 => ?_))
    | (refine is_call ?_; first | (refine KJ_call xE c3 xP rfl (fun _ => ?_)) | (refine KJ_call xE c2 xP rfl (fun _ => ?_)) | (refine KJ_call xE c1 xP rfl (fun _ => ?_)))
    | (refine ek_eql ?_; first | refine EK_ev (Ev_eqlI_f rfl rfl (by decide)) ?_ | refine EK_ev (Ev_eqlI_t rfl rfl q1) ?_)
    | (refine ek_neq ?_; first | refine EK_ev (Ev_neqB_f rfl rfl rfl) ?_ | refine EK_ev (Ev_neqI_t rfl rfl (by decide)) ?_ | refine EK_ev (Ev_neqI_f rfl rfl rfl) ?_)
    | refine xst ?_
    | (refine xsa ?_; intro _)
    | (refine xsb ?_ ?_ <;> intro _ <;> first | (exfalso; omega) | skip)
    | refine xsc ?_
    | (refine KJ_draws (id := 3) (.op 0 (.op 1 (.op 2 (.op 3 (.op 4 (.op 5 (.op 6 (.op 7 (.op 8 (.op 9 (.ef 10 [] (.op 11 (.op 12 (.op 13 (.op 14 (.op 15 .nil)))))))))))))))) (by kernel_rfl) (by kernel_rfl) ?_)
    | (refine KJ_draws (id := 4) (.op 0 (.op 1 (.op 2 (.op 3 (.op 4 (.op 5 (.op 6 (.op 7 (.op 8 (.op 9 (.ef 10 [] (.op 11 (.op 12 (.op 13 (.op 14 (.op 15 .nil)))))))))))))))) (by kernel_rfl) (by kernel_rfl) ?_)
    | (refine KJ_draws (id := 10) (.op 0 (.op 1 (.op 2 (.op 3 (.op 4 (.op 5 (.op 6 (.op 7 (.op 8 (.op 9 (.op 10 (.op 11 (.op 12 (.op 13 (.ef 14 [] (.op 15 .nil)))))))))))))))) (by kernel_rfl) (by kernel_rfl) ?_)
    | (refine KJ_draws (id := 12) (.op 0 (.op 1 (.op 2 (.op 3 (.op 4 (.op 5 (.ef 6 [] .nil))))))) (by kernel_rfl) (by kernel_rfl) ?_)
    | (refine KJ_draws (id := 13) (.op 0 (.op 1 (.op 2 (.op 3 (.op 4 (.op 5 (.ef 6 [] .nil))))))) (by kernel_rfl) (by kernel_rfl) ?_)
    | (refine KJ_draws (id := 15) (.op 0 (.op 1 (.op 2 (.op 3 (.op 4 (.op 5 (.ef 6 [] .nil))))))) (by kernel_rfl) (by kernel_rfl) ?_)
    | (refine KJ_draws (id := 16) (.op 0 (.op 1 (.op 2 (.op 3 (.op 4 (.op 5 (.ef 6 [] .nil))))))) (by kernel_rfl) (by kernel_rfl) ?_)
    | (refine KJ_draws (id := 18) (.op 2 (.op 3 (.op 4 (.alt (.ef 0 [4, 3, 2] (.op 1 (.ef 5 [1] (.op 6 (.op 7 (.op 8 .nil)))))) (.ef 5 [] (.op 6 (.ef 0 [6] (.op 1 (.op 7 (.op 8 .nil)))))))))) (by kernel_rfl) (by kernel_rfl) ?_)
    | (refine KJ_draws (id := 19) (.op 0 (.op 1 (.op 2 (.op 3 (.op 4 (.op 5 (.op 6 (.ef 7 [] (.op 8 .nil))))))))) (by kernel_rfl) (by kernel_rfl) ?_)
    | (refine KJ_draws (id := 20) (.op 0 (.op 1 (.op 2 (.op 3 (.op 4 (.op 5 (.op 6 (.ef 7 [] (.op 8 .nil))))))))) (by kernel_rfl) (by kernel_rfl) ?_)
    | (refine KJ_draws (id := 35) (.op 0 (.op 1 (.op 2 (.op 3 (.op 4 (.op 5 (.op 7 (.op 8 (.op 9 (.op 10 (.op 11 (.op 12 (.ef 6 [12, 11, 10, 9, 8, 7] (.ef 13 [] (.op 14 (.op 15 (.op 16 (.op 17 (.op 18 (.op 19 (.op 21 (.op 22 (.op 23 (.op 24 (.op 25 (.op 26 (.op 27 (.ef 20 [27, 26, 25, 24, 23, 22, 21] (.op 28 (.op 29 (.op 30 .nil))))))))))))))))))))))))))))))) (by kernel_rfl) (by kernel_rfl) ?_)
    | (refine KJ_draws (id := 37) (.op 0 (.op 1 (.op 2 (.op 3 (.op 4 (.op 5 (.op 6 (.op 7 (.op 8 (.op 9 (.op 10 (.op 11 (.op 12 (.op 13 (.op 14 (.op 15 (.op 16 (.op 17 (.op 18 (.op 19 (.op 20 (.op 21 (.op 22 (.op 23 (.op 24 (.op 25 (.op 26 (.op 27 (.op 28 (.ef 29 [] (.op 30 .nil))))))))))))))))))))))))))))))) (by kernel_rfl) (by kernel_rfl) ?_)
    | refine FW_alt ?_ ?_
    | refine KJ_flow ?_ ?_
    | exact Rech.nil
    | fail)
        | some s =>
          dsimp only [jcl]
          repeat' (first 
    | (refine at_seq_region (id := 22) ?_; exact KJ.weak (rest _ _ (by assumption)) xB (by dsimp only [jclA]; exact (xN)))
    | (refine is_box ?_; refine KJ_box rfl xF rfl (fun g3 => ?_))
    | (refine is_call ?_; first | (refine KJ_call xE c3 xP rfl (fun _ => ?_)) | (refine KJ_call xE c2 xP rfl (fun _ => ?_)) | (refine KJ_call xE c1 xP rfl (fun _ => ?_)))
    | (refine ek_eql ?_; first | refine EK_ev (Ev_eqlI_f rfl rfl (by decide)) ?_ | refine EK_ev (Ev_eqlI_t rfl rfl q1) ?_)
    | (refine ek_neq ?_; first | refine EK_ev (Ev_neqB_f rfl rfl rfl) ?_ | refine EK_ev (Ev_neqI_t rfl rfl (by decide)) ?_ | refine EK_ev (Ev_neqI_f rfl rfl rfl) ?_)
    | refine xst ?_
    | (refine xsa ?_; intro _)
    | (refine xsb ?_ ?_ <;> intro _ <;> first | (exfalso; omega) | skip)
    | refine xsc ?_
    | (refine KJ_draws (id := 3) (.op 0 (.op 1 (.op 2 (.op 3 (.op 4 (.op 5 (.op 6 (.op 7 (.op 8 (.op 9 (.ef 10 [] (.op 11 (.op 12 (.op 13 (.op 14 (.op 15 .nil)))))))))))))))) (by kernel_rfl) (by kernel_rfl) ?_)
    | (refine KJ_draws (id := 4) (.op 0 (.op 1 (.op 2 (.op 3 (.op 4 (.op 5 (.op 6 (.op 7 (.op 8 (.op 9 (.ef 10 [] (.op 11 (.op 12 (.op 13 (.op 14 (.op 15 .nil)))))))))))))))) (by kernel_rfl) (by kernel_rfl) ?_)
    | (refine KJ_draws (id := 10) (.op 0 (.op 1 (.op 2 (.op 3 (.op 4 (.op 5 (.op 6 (.op 7 (.op 8 (.op 9 (.op 10 (.op 11 (.op 12 (.op 13 (.ef 14 [] (.op 15 .nil)))))))))))))))) (by kernel_rfl) (by kernel_rfl) ?_)
    | (refine KJ_draws (id := 12) (.op 0 (.op 1 (.op 2 (.op 3 (.op 4 (.op 5 (.ef 6 [] .nil))))))) (by kernel_rfl) (by kernel_rfl) ?_)
    | (refine KJ_draws (id := 13) (.op 0 (.op 1 (.op 2 (.op 3 (.op 4 (.op 5 (.ef 6 [] .nil))))))) (by kernel_rfl) (by kernel_rfl) ?_)
    | (refine KJ_draws (id := 15) (.op 0 (.op 1 (.op 2 (.op 3 (.op 4 (.op 5 (.ef 6 [] .nil))))))) (by kernel_rfl) (by kernel_rfl) ?_)
    | (refine KJ_draws (id := 16) (.op 0 (.op 1 (.op 2 (.op 3 (.op 4 (.op 5 (.ef 6 [] .nil))))))) (by kernel_rfl) (by kernel_rfl) ?_)
    | (refine KJ_draws (id := 18) (.op 2 (.op 3 (.op 4 (.alt (.ef 0 [4, 3, 2] (.op 1 (.ef 5 [1] (.op 6 (.op 7 (.op 8 .nil)))))) (.ef 5 [] (.op 6 (.ef 0 [6] (.op 1 (.op 7 (.op 8 .nil)))))))))) (by kernel_rfl) (by kernel_rfl) ?_)
    | (refine KJ_draws (id := 19) (.op 0 (.op 1 (.op 2 (.op 3 (.op 4 (.op 5 (.op 6 (.ef 7 [] (.op 8 .nil))))))))) (by kernel_rfl) (by kernel_rfl) ?_)
    | (refine KJ_draws (id := 20) (.op 0 (.op 1 (.op 2 (.op 3 (.op 4 (.op 5 (.op 6 (.ef 7 [] (.op 8 .nil))))))))) (by kernel_rfl) (by kernel_rfl) ?_)
    | (refine KJ_draws (id := 35) (.op 0 (.op 1 (.op 2 (.op 3 (.op 4 (.op 5 (.op 7 (.op 8 (.op 9 (.op 10 (.op 11 (.op 12 (.ef 6 [12, 11, 10, 9, 8, 7] (.ef 13 [] (.op 14 (.op 15 (.op 16 (.op 17 (.op 18 (.op 19 (.op 21 (.op 22 (.op 23 (.op 24 (.op 25 (.op 26 (.op 27 (.ef 20 [27, 26, 25, 24, 23, 22, 21] (.op 28 (.op 29 (.op 30 .nil))))))))))))))))))))))))))))))) (by kernel_rfl) (by kernel_rfl) ?_)
    | (refine KJ_draws (id := 37) (.op 0 (.op 1 (.op 2 (.op 3 (.op 4 (.op 5 (.op 6 (.op 7 (.op 8 (.op 9 (.op 10 (.op 11 (.op 12 (.op 13 (.op 14 (.op 15 (.op 16 (.op 17 (.op 18 (.op 19 (.op 20 (.op 21 (.op 22 (.op 23 (.op 24 (.op 25 (.op 26 (.op 27 (.op 28 (.ef 29 [] (.op 30 .nil))))))))))))))))))))))))))))))) (by kernel_rfl) (by kernel_rfl) ?_)
    | refine FW_alt ?_ ?_
    | refine KJ_flow ?_ ?_
    | exact Rech.nil
    | fail)
      by_cases ho : D.off = true
      · have c1 := begin_no (W := W) (p := p) (D := D) 12 (by decide) oat on_ over (check_down hok.n2 e12 ho oat on_ over hl)
        have c2 := rbegin_down (W := W) (p := r) oat on_ over hok.n2 ho hl
        have c3 := cN 12 (by omega)
        obtain ⟨ev, hev⟩ : ∃ ev, ev = errV E 12 := ⟨_, rfl⟩
        rw [← hev] at c1 c3
        cases st with
        | none =>
          dsimp only [jcl]
          repeat' (first 
    | (refine at_seq_region (id := 22) ?_; exact KJ.weak (rest _ _ (by assumption)) xB (by dsimp only [jclA]; exact (xN)))
    | (refine is_box ?_; refine KJ_box rfl xF rfl (fun g3 => ?_))
    | (refine is_call ?_; first | (refine KJ_call xE c3 xP rfl (fun _ => ?_)) | (refine KJ_call xE c2 xP rfl (fun _ => ?_)) | (refine KJ_call xE c1 xP rfl (fun _ => ?_)))
    | (refine ek_eql ?_; first | refine EK_ev (Ev_eqlI_f rfl rfl (by decide)) ?_ | refine EK_ev (Ev_eqlI_t rfl rfl q1) ?_)
    | (refine ek_neq ?_; first | refine EK_ev (Ev_neqB_f rfl rfl rfl) ?_ | refine EK_ev (Ev_neqI_t rfl rfl (by decide)) ?_ | refine EK_ev (Ev_neqI_f rfl rfl rfl) ?_)
    | refine xst ?_
    | (refine xsa ?_; intro _)
    | (refine xsb ?_ ?_ <;> intro _ <;> first | (exfalso; omega) | skip)
    | refine xsc ?_
    | (refine KJ_draws (id := 3) (.op 0 (.op 1 (.op 2 (.op 3 (.op 4 (.op 5 (.op 6 (.op 7 (.op 8 (.op 9 (.ef 10 [] (.op 11 (.op 12 (.op 13 (.op 14 (.op 15 .nil)))))))))))))))) (by kernel_rfl) (by kernel_rfl) ?_)
    | (refine KJ_draws (id := 4) (.op 0 (.op 1 (.op 2 (.op 3 (.op 4 (.op 5 (.op 6 (.op 7 (.op 8 (.op 9 (.ef 10 [] (.op 11 (.op 12 (.op 13 (.op 14 (.op 15 .nil)))))))))))))))) (by kernel_rfl) (by kernel_rfl) ?_)
    | (refine KJ_draws (id := 10) (.op 0 (.op 1 (.op 2 (.op 3 (.op 4 (.op 5 (.op 6 (.op 7 (.op 8 (.op 9 (.op 10 (.op 11 (.op 12 (.op 13 (.ef 14 [] (.op 15 .nil)))))))))))))))) (by kernel_rfl) (by kernel_rfl) ?_)
    | (refine KJ_draws (id := 12) (.op 0 (.op 1 (.op 2 (.op 3 (.op 4 (.op 5 (.ef 6 [] .nil))))))) (by kernel_rfl) (by kernel_rfl) ?_)
    | (refine KJ_draws (id := 13) (.op 0 (.op 1 (.op 2 (.op 3 (.op 4 (.op 5 (.ef 6 [] .nil))))))) (by kernel_rfl) (by kernel_rfl) ?_)
    | (refine KJ_draws (id := 15) (.op 0 (.op 1 (.op 2 (.op 3 (.op 4 (.op 5 (.ef 6 [] .nil))))))) (by kernel_rfl) (by kernel_rfl) ?_)
    | (refine KJ_draws (id := 16) (.op 0 (.op 1 (.op 2 (.op 3 (.op 4 (.op 5 (.ef 6 [] .nil))))))) (by kernel_rfl) (by kernel_rfl) ?_)
    | (refine KJ_draws (id := 18) (.op 2 (.op 3 (.op 4 (.alt (.ef 0 [4, 3, 2] (.op 1 (.ef 5 [1] (.op 6 (.op 7 (.op 8 .nil)))))) (.ef 5 [] (.op 6 (.ef 0 [6] (.op 1 (.op 7 (.op 8 .nil)))))))))) (by kernel_rfl) (by kernel_rfl) ?_)
    | (refine KJ_draws (id := 19) (.op 0 (.op 1 (.op 2 (.op 3 (.op 4 (.op 5 (.op 6 (.ef 7 [] (.op 8 .nil))))))))) (by kernel_rfl) (by kernel_rfl) ?_)
    | (refine KJ_draws (id := 20) (.op 0 (.op 1 (.op 2 (.op 3 (.op 4 (.op 5 (.op 6 (.ef 7 [] (.op 8 .nil))))))))) (by kernel_rfl) (by kernel_rfl) ?_)
    | (refine KJ_draws (id := 35) (.op 0 (.op 1 (.op 2 (.op 3 (.op 4 (.op 5 (.op 7 (.op 8 (.op 9 (.op 10 (.op 11 (.op 12 (.ef 6 [12, 11, 10, 9, 8, 7] (.ef 13 [] (.op 14 (.op 15 (.op 16 (.op 17 (.op 18 (.op 19 (.op 21 (.op 22 (.op 23 (.op 24 (.op 25 (.op 26 (.op 27 (.ef 20 [27, 26, 25, 24, 23, 22, 21] (.op 28 (.op 29 (.op 30 .nil))))))))))))))))))))))))))))))) (by kernel_rfl) (by kernel_rfl) ?_)
    | (refine KJ_draws (id := 37) (.op 0 (.op 1 (.op 2 (.op 3 (.op 4 (.op 5 (.op 6 (.op 7 (.op 8 (.op 9 (.op 10 (.op 11 (.op 12 (.op 13 (.op 14 (.op 15 (.op 16 (.op 17 (.op 18 (.op 19 (.op 20 (.op 21 (.op 22 (.op 23 (.op 24 (.op 25 (.op 26 (.op 27 (.op 28 (.ef 29 [] (.op 30 .nil))))))))))))))))))))))))))))))) (by kernel_rfl) (by kernel_rfl) ?_)
    | refine FW_alt ?_ ?_
    | refine KJ_flow ?_ ?_
    | exact Rech.nil
    | fail)
        | some s =>
          dsimp only [jcl]
          repeat' (first 
    | (refine at_seq_region (id := 22) ?_; exact KJ.weak (rest _ _ (by assumption)) xB (by dsimp only [jclA]; exact (xN)))
    | (refine is_box ?_; refine KJ_box rfl xF rfl (fun g3 => ?_))
    | (refine is_call ?_; first | (refine KJ_call xE c3 xP rfl (fun _ => ?_)) | (refine KJ_call xE c2 xP rfl (fun _ => ?_)) | (refine KJ_call xE c1 xP rfl (fun _ => ?_)))
    | (refine ek_eql ?_; first | refine EK_ev (Ev_eqlI_f rfl rfl (by decide)) ?_ | refine EK_ev (Ev_eqlI_t rfl rfl q1) ?_)
    | (refine ek_neq ?_; first | refine EK_ev (Ev_neqB_f rfl rfl rfl) ?_ | refine EK_ev (Ev_neqI_t rfl rfl (by decide)) ?_ | refine EK_ev (Ev_neqI_f rfl rfl rfl) ?_)
    | refine xst ?_
    | (refine xsa ?_; intro _)
    | (refine xsb ?_ ?_ <;> intro _ <;> first | (exfalso; omega) | skip)
    | refine xsc ?_
    | (refine KJ_draws (id := 3) (.op 0 (.op 1 (.op 2 (.op 3 (.op 4 (.op 5 (.op 6 (.op 7 (.op 8 (.op 9 (.ef 10 [] (.op 11 (.op 12 (.op 13 (.op 14 (.op 15 .nil)))))))))))))))) (by kernel_rfl) (by kernel_rfl) ?_)
    | (refine KJ_draws (id := 4) (.op 0 (.op 1 (.op 2 (.op 3 (.op 4 (.op 5 (.op 6 (.op 7 (.op 8 (.op 9 (.ef 10 [] (.op 11 (.op 12 (.op 13 (.op 14 (.op 15 .nil)))))))))))))))) (by kernel_rfl) (by kernel_rfl) ?_)
    | (refine KJ_draws (id := 10) (.op 0 (.op 1 (.op 2 (.op 3 (.op 4 (.op 5 (.op 6 (.op 7 (.op 8 (.op 9 (.op 10 (.op 11 (.op 12 (.op 13 (.ef 14 [] (.op 15 .nil)))))))))))))))) (by kernel_rfl) (by kernel_rfl) ?_)
    | (refine KJ_draws (id := 12) (.op 0 (.op 1 (.op 2 (.op 3 (.op 4 (.op 5 (.ef 6 [] .nil))))))) (by kernel_rfl) (by kernel_rfl) ?_)
    | (refine KJ_draws (id := 13) (.op 0 (.op 1 (.op 2 (.op 3 (.op 4 (.op 5 (.ef 6 [] .nil))))))) (by kernel_rfl) (by kernel_rfl) ?_)
    | (refine KJ_draws (id := 15) (.op 0 (.op 1 (.op 2 (.op 3 (.op 4 (.op 5 (.ef 6 [] .nil))))))) (by kernel_rfl) (by kernel_rfl) ?_)
    | (refine KJ_draws (id := 16) (.op 0 (.op 1 (.op 2 (.op 3 (.op 4 (.op 5 (.ef 6 [] .nil))))))) (by kernel_rfl) (by kernel_rfl) ?_)
    | (refine KJ_draws (id := 18) (.op 2 (.op 3 (.op 4 (.alt (.ef 0 [4, 3, 2] (.op 1 (.ef 5 [1] (.op 6 (.op 7 (.op 8 .nil)))))) (.ef 5 [] (.op 6 (.ef 0 [6] (.op 1 (.op 7 (.op 8 .nil)))))))))) (by kernel_rfl) (by kernel_rfl) ?_)
    | (refine KJ_draws (id := 19) (.op 0 (.op 1 (.op 2 (.op 3 (.op 4 (.op 5 (.op 6 (.ef 7 [] (.op 8 .nil))))))))) (by kernel_rfl) (by kernel_rfl) ?_)
    | (refine KJ_draws (id := 20) (.op 0 (.op 1 (.op 2 (.op 3 (.op 4 (.op 5 (.op 6 (.ef 7 [] (.op 8 .nil))))))))) (by kernel_rfl) (by kernel_rfl) ?_)
    | (refine KJ_draws (id := 35) (.op 0 (.op 1 (.op 2 (.op 3 (.op 4 (.op 5 (.op 7 (.op 8 (.op 9 (.op 10 (.op 11 (.op 12 (.ef 6 [12, 11, 10, 9, 8, 7] (.ef 13 [] (.op 14 (.op 15 (.op 16 (.op 17 (.op 18 (.op 19 (.op 21 (.op 22 (.op 23 (.op 24 (.op 25 (.op 26 (.op 27 (.ef 20 [27, 26, 25, 24, 23, 22, 21] (.op 28 (.op 29 (.op 30 .nil))))))))))))))))))))))))))))))) (by kernel_rfl) (by kernel_rfl) ?_)
    | (refine KJ_draws (id := 37) (.op 0 (.op 1 (.op 2 (.op 3 (.op 4 (.op 5 (.op 6 (.op 7 (.op 8 (.op 9 (.op 10 (.op 11 (.op 12 (.op 13 (.op 14 (.op 15 (.op 16 (.op 17 (.op 18 (.op 19 (.op 20 (.op 21 (.op 22 (.op 23 (.op 24 (.op 25 (.op 26 (.op 27 (.op 28 (.ef 29 [] (.op 30 .nil))))))))))))))))))))))))))))))) (by kernel_rfl) (by kernel_rfl) ?_)
    | refine FW_alt ?_ ?_
    | refine KJ_flow ?_ ?_
    | exact Rech.nil
    | fail)
      have ho : D.off = false := by simpa using ho
      obtain ⟨vn, rfl⟩ : ∃ v : Nat, over = (v : Int) := ⟨over.toNat, by obtain ⟨-, -, -, -, -, h6, -⟩ := hl; omega⟩
      have c1 := begin_ct (W := W) (p := p) (D := D) hok.n2 ho oat on_ (vn : Nat) hl
      have c2 := rbegin_ct (W := W) (p := r) (D := D) oat on_ (vn : Nat) hok.n2 ho hl
      have c3 : Ct Tryd.prog W 35 [.nilIface] [] (fun _ : Unit => .int .i64 0) (fun _ => []) := cN 0 (by omega)
      have hx : ∀ j q, JOk D 1 (D, some ⟨j, q, oat, on_, vn, 0, D.life, false⟩) := fun j q => ⟨hok, rfl, by dsimp only; omega, fun s hs => by cases hs; obtain ⟨a1, a2, a3, a4, a5, a6, a7⟩ := hl; exact ⟨a1, a2, a3, a4, a5, a6, a7, a2⟩⟩
      cases st with
      | none =>
        dsimp only [jcl]
        repeat' (first 
    | (refine at_seq_region (id := 22) ?_; exact KJ.weak (rest _ _ (hx _ _)) xB (by dsimp only [jclA]; exact (xN)))
    | (refine is_box ?_; refine KJ_box rfl xF rfl (fun g3 => ?_))
    | (refine is_call ?_; first | (refine KJ_call xE c3 xP rfl (fun _ => ?_)) | (refine KJ_call xE c2 xP rfl (fun q => ?_)) | (refine KJ_call xE c1 xP rfl (fun j => ?_)))
    | (refine ek_eql ?_; first | refine EK_ev (Ev_eqlI_t rfl rfl rfl) ?_ | refine EK_ev (Ev_eqlI_t rfl rfl q1) ?_)
    | (refine ek_neq ?_; first | refine EK_ev (Ev_neqB_f rfl rfl rfl) ?_ | refine EK_ev (Ev_neqI_f rfl rfl rfl) ?_)
    | refine xst ?_
    | (refine xsa ?_; intro _)
    | (refine xsb ?_ ?_ <;> intro _ <;> first | (exfalso; omega) | skip)
    | refine xsc ?_
    | (refine KJ_draws (id := 3) (.op 0 (.op 1 (.op 2 (.op 3 (.op 4 (.op 5 (.op 6 (.op 7 (.op 8 (.op 9 (.ef 10 [] (.op 11 (.op 12 (.op 13 (.op 14 (.op 15 .nil)))))))))))))))) (by kernel_rfl) (by kernel_rfl) ?_)
    | (refine KJ_draws (id := 4) (.op 0 (.op 1 (.op 2 (.op 3 (.op 4 (.op 5 (.op 6 (.op 7 (.op 8 (.op 9 (.ef 10 [] (.op 11 (.op 12 (.op 13 (.op 14 (.op 15 .nil)))))))))))))))) (by kernel_rfl) (by kernel_rfl) ?_)
    | (refine KJ_draws (id := 10) (.op 0 (.op 1 (.op 2 (.op 3 (.op 4 (.op 5 (.op 6 (.op 7 (.op 8 (.op 9 (.op 10 (.op 11 (.op 12 (.op 13 (.ef 14 [] (.op 15 .nil)))))))))))))))) (by kernel_rfl) (by kernel_rfl) ?_)
    | (refine KJ_draws (id := 12) (.op 0 (.op 1 (.op 2 (.op 3 (.op 4 (.op 5 (.ef 6 [] .nil))))))) (by kernel_rfl) (by kernel_rfl) ?_)
    | (refine KJ_draws (id := 13) (.op 0 (.op 1 (.op 2 (.op 3 (.op 4 (.op 5 (.ef 6 [] .nil))))))) (by kernel_rfl) (by kernel_rfl) ?_)
    | (refine KJ_draws (id := 15) (.op 0 (.op 1 (.op 2 (.op 3 (.op 4 (.op 5 (.ef 6 [] .nil))))))) (by kernel_rfl) (by kernel_rfl) ?_)
    | (refine KJ_draws (id := 16) (.op 0 (.op 1 (.op 2 (.op 3 (.op 4 (.op 5 (.ef 6 [] .nil))))))) (by kernel_rfl) (by kernel_rfl) ?_)
    | (refine KJ_draws (id := 18) (.op 2 (.op 3 (.op 4 (.alt (.ef 0 [4, 3, 2] (.op 1 (.ef 5 [1] (.op 6 (.op 7 (.op 8 .nil)))))) (.ef 5 [] (.op 6 (.ef 0 [6] (.op 1 (.op 7 (.op 8 .nil)))))))))) (by kernel_rfl) (by kernel_rfl) ?_)
    | (refine KJ_draws (id := 19) (.op 0 (.op 1 (.op 2 (.op 3 (.op 4 (.op 5 (.op 6 (.ef 7 [] (.op 8 .nil))))))))) (by kernel_rfl) (by kernel_rfl) ?_)
    | (refine KJ_draws (id := 20) (.op 0 (.op 1 (.op 2 (.op 3 (.op 4 (.op 5 (.op 6 (.ef 7 [] (.op 8 .nil))))))))) (by kernel_rfl) (by kernel_rfl) ?_)
    | (refine KJ_draws (id := 35) (.op 0 (.op 1 (.op 2 (.op 3 (.op 4 (.op 5 (.op 7 (.op 8 (.op 9 (.op 10 (.op 11 (.op 12 (.ef 6 [12, 11, 10, 9, 8, 7] (.ef 13 [] (.op 14 (.op 15 (.op 16 (.op 17 (.op 18 (.op 19 (.op 21 (.op 22 (.op 23 (.op 24 (.op 25 (.op 26 (.op 27 (.ef 20 [27, 26, 25, 24, 23, 22, 21] (.op 28 (.op 29 (.op 30 .nil))))))))))))))))))))))))))))))) (by kernel_rfl) (by kernel_rfl) ?_)
    | (refine KJ_draws (id := 37) (.op 0 (.op 1 (.op 2 (.op 3 (.op 4 (.op 5 (.op 6 (.op 7 (.op 8 (.op 9 (.op 10 (.op 11 (.op 12 (.op 13 (.op 14 (.op 15 (.op 16 (.op 17 (.op 18 (.op 19 (.op 20 (.op 21 (.op 22 (.op 23 (.op 24 (.op 25 (.op 26 (.op 27 (.op 28 (.ef 29 [] (.op 30 .nil))))))))))))))))))))))))))))))) (by kernel_rfl) (by kernel_rfl) ?_)
    | refine FW_alt ?_ ?_
    | refine KJ_flow ?_ ?_
    | exact Rech.nil
    | fail)
      | some s =>
        dsimp only [jcl]
        repeat' (first 
    | (refine at_seq_region (id := 22) ?_; exact KJ.weak (rest _ _ (hx _ _)) xB (by dsimp only [jclA]; exact (xN)))
    | (refine is_box ?_; refine KJ_box rfl xF rfl (fun g3 => ?_))
    | (refine is_call ?_; first | (refine KJ_call xE c3 xP rfl (fun _ => ?_)) | (refine KJ_call xE c2 xP rfl (fun q => ?_)) | (refine KJ_call xE c1 xP rfl (fun j => ?_)))
    | (refine ek_eql ?_; first | refine EK_ev (Ev_eqlI_t rfl rfl rfl) ?_ | refine EK_ev (Ev_eqlI_t rfl rfl q1) ?_)
    | (refine ek_neq ?_; first | refine EK_ev (Ev_neqB_f rfl rfl rfl) ?_ | refine EK_ev (Ev_neqI_f rfl rfl rfl) ?_)
    | refine xst ?_
    | (refine xsa ?_; intro _)
    | (refine xsb ?_ ?_ <;> intro _ <;> first | (exfalso; omega) | skip)
    | refine xsc ?_
    | (refine KJ_draws (id := 3) (.op 0 (.op 1 (.op 2 (.op 3 (.op 4 (.op 5 (.op 6 (.op 7 (.op 8 (.op 9 (.ef 10 [] (.op 11 (.op 12 (.op 13 (.op 14 (.op 15 .nil)))))))))))))))) (by kernel_rfl) (by kernel_rfl) ?_)
    | (refine KJ_draws (id := 4) (.op 0 (.op 1 (.op 2 (.op 3 (.op 4 (.op 5 (.op 6 (.op 7 (.op 8 (.op 9 (.ef 10 [] (.op 11 (.op 12 (.op 13 (.op 14 (.op 15 .nil)))))))))))))))) (by kernel_rfl) (by kernel_rfl) ?_)
    | (refine KJ_draws (id := 10) (.op 0 (.op 1 (.op 2 (.op 3 (.op 4 (.op 5 (.op 6 (.op 7 (.op 8 (.op 9 (.op 10 (.op 11 (.op 12 (.op 13 (.ef 14 [] (.op 15 .nil)))))))))))))))) (by kernel_rfl) (by kernel_rfl) ?_)
    | (refine KJ_draws (id := 12) (.op 0 (.op 1 (.op 2 (.op 3 (.op 4 (.op 5 (.ef 6 [] .nil))))))) (by kernel_rfl) (by kernel_rfl) ?_)
    | (refine KJ_draws (id := 13) (.op 0 (.op 1 (.op 2 (.op 3 (.op 4 (.op 5 (.ef 6 [] .nil))))))) (by kernel_rfl) (by kernel_rfl) ?_)
    | (refine KJ_draws (id := 15) (.op 0 (.op 1 (.op 2 (.op 3 (.op 4 (.op 5 (.ef 6 [] .nil))))))) (by kernel_rfl) (by kernel_rfl) ?_)
    | (refine KJ_draws (id := 16) (.op 0 (.op 1 (.op 2 (.op 3 (.op 4 (.op 5 (.ef 6 [] .nil))))))) (by kernel_rfl) (by kernel_rfl) ?_)
    | (refine KJ_draws (id := 18) (.op 2 (.op 3 (.op 4 (.alt (.ef 0 [4, 3, 2] (.op 1 (.ef 5 [1] (.op 6 (.op 7 (.op 8 .nil)))))) (.ef 5 [] (.op 6 (.ef 0 [6] (.op 1 (.op 7 (.op 8 .nil)))))))))) (by kernel_rfl) (by kernel_rfl) ?_)
    | (refine KJ_draws (id := 19) (.op 0 (.op 1 (.op 2 (.op 3 (.op 4 (.op 5 (.op 6 (.ef 7 [] (.op 8 .nil))))))))) (by kernel_rfl) (by kernel_rfl) ?_)
    | (refine KJ_draws (id := 20) (.op 0 (.op 1 (.op 2 (.op 3 (.op 4 (.op 5 (.op 6 (.ef 7 [] (.op 8 .nil))))))))) (by kernel_rfl) (by kernel_rfl) ?_)
    | (refine KJ_draws (id := 35) (.op 0 (.op 1 (.op 2 (.op 3 (.op 4 (.op 5 (.op 7 (.op 8 (.op 9 (.op 10 (.op 11 (.op 12 (.ef 6 [12, 11, 10, 9, 8, 7] (.ef 13 [] (.op 14 (.op 15 (.op 16 (.op 17 (.op 18 (.op 19 (.op 21 (.op 22 (.op 23 (.op 24 (.op 25 (.op 26 (.op 27 (.ef 20 [27, 26, 25, 24, 23, 22, 21] (.op 28 (.op 29 (.op 30 .nil))))))))))))))))))))))))))))))) (by kernel_rfl) (by kernel_rfl) ?_)
    | (refine KJ_draws (id := 37) (.op 0 (.op 1 (.op 2 (.op 3 (.op 4 (.op 5 (.op 6 (.op 7 (.op 8 (.op 9 (.op 10 (.op 11 (.op 12 (.op 13 (.op 14 (.op 15 (.op 16 (.op 17 (.op 18 (.op 19 (.op 20 (.op 21 (.op 22 (.op 23 (.op 24 (.op 25 (.op 26 (.op 27 (.op 28 (.ef 29 [] (.op 30 .nil))))))))))))))))))))))))))))))) (by kernel_rfl) (by kernel_rfl) ?_)
    | refine FW_alt ?_ ?_
    | refine KJ_flow ?_ ?_
    | exact Rech.nil
    | fail)
    by_cases q4 : kind = 4
    · have c1 := replayed_all (W := W) (p := p) (r := r) hE hN hg hok (by omega) oat on_ over
      cases st with
      | none =>
        dsimp only [jcl]
        repeat' (first 
    | (refine is_box ?_; refine KJ_box rfl xF rfl (fun g3 => ?_))
    | (refine is_call ?_; refine KJ_call xE c1 xP rfl (fun _ => ?_))
    | (refine ek_eql ?_; first | refine EK_ev (Ev_eqlI_t rfl rfl q4) ?_ | refine EK_ev (Ev_eqlI_f rfl rfl q1) ?_)
    | refine xst ?_
    | (refine xsa ?_; intro _)
    | (refine xsb ?_ ?_ <;> intro _ <;> first | (exfalso; omega) | skip)
    | refine xsc ?_
    | (refine KJ_draws (id := 3) (.op 0 (.op 1 (.op 2 (.op 3 (.op 4 (.op 5 (.op 6 (.op 7 (.op 8 (.op 9 (.ef 10 [] (.op 11 (.op 12 (.op 13 (.op 14 (.op 15 .nil)))))))))))))))) (by kernel_rfl) (by kernel_rfl) ?_)
    | (refine KJ_draws (id := 4) (.op 0 (.op 1 (.op 2 (.op 3 (.op 4 (.op 5 (.op 6 (.op 7 (.op 8 (.op 9 (.ef 10 [] (.op 11 (.op 12 (.op 13 (.op 14 (.op 15 .nil)))))))))))))))) (by kernel_rfl) (by kernel_rfl) ?_)
    | (refine KJ_draws (id := 10) (.op 0 (.op 1 (.op 2 (.op 3 (.op 4 (.op 5 (.op 6 (.op 7 (.op 8 (.op 9 (.op 10 (.op 11 (.op 12 (.op 13 (.ef 14 [] (.op 15 .nil)))))))))))))))) (by kernel_rfl) (by kernel_rfl) ?_)
    | (refine KJ_draws (id := 12) (.op 0 (.op 1 (.op 2 (.op 3 (.op 4 (.op 5 (.ef 6 [] .nil))))))) (by kernel_rfl) (by kernel_rfl) ?_)
    | (refine KJ_draws (id := 13) (.op 0 (.op 1 (.op 2 (.op 3 (.op 4 (.op 5 (.ef 6 [] .nil))))))) (by kernel_rfl) (by kernel_rfl) ?_)
    | (refine KJ_draws (id := 15) (.op 0 (.op 1 (.op 2 (.op 3 (.op 4 (.op 5 (.ef 6 [] .nil))))))) (by kernel_rfl) (by kernel_rfl) ?_)
    | (refine KJ_draws (id := 16) (.op 0 (.op 1 (.op 2 (.op 3 (.op 4 (.op 5 (.ef 6 [] .nil))))))) (by kernel_rfl) (by kernel_rfl) ?_)
    | (refine KJ_draws (id := 18) (.op 2 (.op 3 (.op 4 (.alt (.ef 0 [4, 3, 2] (.op 1 (.ef 5 [1] (.op 6 (.op 7 (.op 8 .nil)))))) (.ef 5 [] (.op 6 (.ef 0 [6] (.op 1 (.op 7 (.op 8 .nil)))))))))) (by kernel_rfl) (by kernel_rfl) ?_)
    | (refine KJ_draws (id := 19) (.op 0 (.op 1 (.op 2 (.op 3 (.op 4 (.op 5 (.op 6 (.ef 7 [] (.op 8 .nil))))))))) (by kernel_rfl) (by kernel_rfl) ?_)
    | (refine KJ_draws (id := 20) (.op 0 (.op 1 (.op 2 (.op 3 (.op 4 (.op 5 (.op 6 (.ef 7 [] (.op 8 .nil))))))))) (by kernel_rfl) (by kernel_rfl) ?_)
    | (refine KJ_draws (id := 35) (.op 0 (.op 1 (.op 2 (.op 3 (.op 4 (.op 5 (.op 7 (.op 8 (.op 9 (.op 10 (.op 11 (.op 12 (.ef 6 [12, 11, 10, 9, 8, 7] (.ef 13 [] (.op 14 (.op 15 (.op 16 (.op 17 (.op 18 (.op 19 (.op 21 (.op 22 (.op 23 (.op 24 (.op 25 (.op 26 (.op 27 (.ef 20 [27, 26, 25, 24, 23, 22, 21] (.op 28 (.op 29 (.op 30 .nil))))))))))))))))))))))))))))))) (by kernel_rfl) (by kernel_rfl) ?_)
    | (refine KJ_draws (id := 37) (.op 0 (.op 1 (.op 2 (.op 3 (.op 4 (.op 5 (.op 6 (.op 7 (.op 8 (.op 9 (.op 10 (.op 11 (.op 12 (.op 13 (.op 14 (.op 15 (.op 16 (.op 17 (.op 18 (.op 19 (.op 20 (.op 21 (.op 22 (.op 23 (.op 24 (.op 25 (.op 26 (.op 27 (.op 28 (.ef 29 [] (.op 30 .nil))))))))))))))))))))))))))))))) (by kernel_rfl) (by kernel_rfl) ?_)
    | refine FW_alt ?_ ?_
    | refine KJ_flow ?_ ?_
    | exact Rech.nil
    | fail)
        refine is_ex ?_; exact xdn ⟨_, hx0.up⟩
      | some s =>
        dsimp only [jcl]
        repeat' (first 
    | (refine is_box ?_; refine KJ_box rfl xF rfl (fun g3 => ?_))
    | (refine is_call ?_; refine KJ_call xE c1 xP rfl (fun _ => ?_))
    | (refine ek_eql ?_; first | refine EK_ev (Ev_eqlI_t rfl rfl q4) ?_ | refine EK_ev (Ev_eqlI_f rfl rfl q1) ?_)
    | refine xst ?_
    | (refine xsa ?_; intro _)
    | (refine xsb ?_ ?_ <;> intro _ <;> first | (exfalso; omega) | skip)
    | refine xsc ?_
    | (refine KJ_draws (id := 3) (.op 0 (.op 1 (.op 2 (.op 3 (.op 4 (.op 5 (.op 6 (.op 7 (.op 8 (.op 9 (.ef 10 [] (.op 11 (.op 12 (.op 13 (.op 14 (.op 15 .nil)))))))))))))))) (by kernel_rfl) (by kernel_rfl) ?_)
    | (refine KJ_draws (id := 4) (.op 0 (.op 1 (.op 2 (.op 3 (.op 4 (.op 5 (.op 6 (.op 7 (.op 8 (.op 9 (.ef 10 [] (.op 11 (.op 12 (.op 13 (.op 14 (.op 15 .nil)))))))))))))))) (by kernel_rfl) (by kernel_rfl) ?_)
    | (refine KJ_draws (id := 10) (.op 0 (.op 1 (.op 2 (.op 3 (.op 4 (.op 5 (.op 6 (.op 7 (.op 8 (.op 9 (.op 10 (.op 11 (.op 12 (.op 13 (.ef 14 [] (.op 15 .nil)))))))))))))))) (by kernel_rfl) (by kernel_rfl) ?_)
    | (refine KJ_draws (id := 12) (.op 0 (.op 1 (.op 2 (.op 3 (.op 4 (.op 5 (.ef 6 [] .nil))))))) (by kernel_rfl) (by kernel_rfl) ?_)
    | (refine KJ_draws (id := 13) (.op 0 (.op 1 (.op 2 (.op 3 (.op 4 (.op 5 (.ef 6 [] .nil))))))) (by kernel_rfl) (by kernel_rfl) ?_)
    | (refine KJ_draws (id := 15) (.op 0 (.op 1 (.op 2 (.op 3 (.op 4 (.op 5 (.ef 6 [] .nil))))))) (by kernel_rfl) (by kernel_rfl) ?_)
    | (refine KJ_draws (id := 16) (.op 0 (.op 1 (.op 2 (.op 3 (.op 4 (.op 5 (.ef 6 [] .nil))))))) (by kernel_rfl) (by kernel_rfl) ?_)
    | (refine KJ_draws (id := 18) (.op 2 (.op 3 (.op 4 (.alt (.ef 0 [4, 3, 2] (.op 1 (.ef 5 [1] (.op 6 (.op 7 (.op 8 .nil)))))) (.ef 5 [] (.op 6 (.ef 0 [6] (.op 1 (.op 7 (.op 8 .nil)))))))))) (by kernel_rfl) (by kernel_rfl) ?_)
    | (refine KJ_draws (id := 19) (.op 0 (.op 1 (.op 2 (.op 3 (.op 4 (.op 5 (.op 6 (.ef 7 [] (.op 8 .nil))))))))) (by kernel_rfl) (by kernel_rfl) ?_)
    | (refine KJ_draws (id := 20) (.op 0 (.op 1 (.op 2 (.op 3 (.op 4 (.op 5 (.op 6 (.ef 7 [] (.op 8 .nil))))))))) (by kernel_rfl) (by kernel_rfl) ?_)
    | (refine KJ_draws (id := 35) (.op 0 (.op 1 (.op 2 (.op 3 (.op 4 (.op 5 (.op 7 (.op 8 (.op 9 (.op 10 (.op 11 (.op 12 (.ef 6 [12, 11, 10, 9, 8, 7] (.ef 13 [] (.op 14 (.op 15 (.op 16 (.op 17 (.op 18 (.op 19 (.op 21 (.op 22 (.op 23 (.op 24 (.op 25 (.op 26 (.op 27 (.ef 20 [27, 26, 25, 24, 23, 22, 21] (.op 28 (.op 29 (.op 30 .nil))))))))))))))))))))))))))))))) (by kernel_rfl) (by kernel_rfl) ?_)
    | (refine KJ_draws (id := 37) (.op 0 (.op 1 (.op 2 (.op 3 (.op 4 (.op 5 (.op 6 (.op 7 (.op 8 (.op 9 (.op 10 (.op 11 (.op 12 (.op 13 (.op 14 (.op 15 (.op 16 (.op 17 (.op 18 (.op 19 (.op 20 (.op 21 (.op 22 (.op 23 (.op 24 (.op 25 (.op 26 (.op 27 (.op 28 (.ef 29 [] (.op 30 .nil))))))))))))))))))))))))))))))) (by kernel_rfl) (by kernel_rfl) ?_)
    | refine FW_alt ?_ ?_
    | refine KJ_flow ?_ ?_
    | exact Rech.nil
    | fail)
        refine is_ex ?_; exact xdn ⟨_, hx0.up⟩
    by_cases q6 : kind = 6
    · have c1 := arm_ct (W := W) (p := p) (D := D) on_ hon
      have c2 := rarm_ct (W := W) (p := r) (D := D) on_ hon
      have hx : JOk D 1 (D.arm on_, st) := ⟨Dsk.arm_ok hok _ hon, rfl, by dsimp only [Dsk.arm]; omega, hst⟩
      obtain ⟨D2, hD2⟩ : ∃ D2, D2 = D.arm on_ := ⟨_, rfl⟩
      rw [← hD2] at c1 c2 hx
      clear hD2
      cases st with
      | none =>
        dsimp only [jcl]
        repeat' (first 
    | (refine at_seq_region (id := 22) ?_; exact KJ.weak (rest _ _ hx) xB (by dsimp only [jclA]; exact (xN)))
    | (refine is_box ?_; refine KJ_box rfl xF rfl (fun g3 => ?_))
    | (refine is_call ?_; first | (refine KJ_call xE c2 xP rfl (fun _ => ?_)) | (refine KJ_call xE c1 xP rfl (fun _ => ?_)) | (refine KJ_call0 xE c2 xP (fun _ => ?_)) | (refine KJ_call0 xE c1 xP (fun _ => ?_)))
    | (refine ek_eql ?_; first | refine EK_ev (Ev_eqlI_t rfl rfl q6) ?_ | refine EK_ev (Ev_eqlI_f rfl rfl q4) ?_ | refine EK_ev (Ev_eqlI_f rfl rfl q1) ?_)
    | refine xst ?_
    | (refine xsa ?_; intro _)
    | (refine xsb ?_ ?_ <;> intro _ <;> first | (exfalso; omega) | skip)
    | refine xsc ?_
    | (refine KJ_draws (id := 3) (.op 0 (.op 1 (.op 2 (.op 3 (.op 4 (.op 5 (.op 6 (.op 7 (.op 8 (.op 9 (.ef 10 [] (.op 11 (.op 12 (.op 13 (.op 14 (.op 15 .nil)))))))))))))))) (by kernel_rfl) (by kernel_rfl) ?_)
    | (refine KJ_draws (id := 4) (.op 0 (.op 1 (.op 2 (.op 3 (.op 4 (.op 5 (.op 6 (.op 7 (.op 8 (.op 9 (.ef 10 [] (.op 11 (.op 12 (.op 13 (.op 14 (.op 15 .nil)))))))))))))))) (by kernel_rfl) (by kernel_rfl) ?_)
    | (refine KJ_draws (id := 10) (.op 0 (.op 1 (.op 2 (.op 3 (.op 4 (.op 5 (.op 6 (.op 7 (.op 8 (.op 9 (.op 10 (.op 11 (.op 12 (.op 13 (.ef 14 [] (.op 15 .nil)))))))))))))))) (by kernel_rfl) (by kernel_rfl) ?_)
    | (refine KJ_draws (id := 12) (.op 0 (.op 1 (.op 2 (.op 3 (.op 4 (.op 5 (.ef 6 [] .nil))))))) (by kernel_rfl) (by kernel_rfl) ?_)
    | (refine KJ_draws (id := 13) (.op 0 (.op 1 (.op 2 (.op 3 (.op 4 (.op 5 (.ef 6 [] .nil))))))) (by kernel_rfl) (by kernel_rfl) ?_)
    | (refine KJ_draws (id := 15) (.op 0 (.op 1 (.op 2 (.op 3 (.op 4 (.op 5 (.ef 6 [] .nil))))))) (by kernel_rfl) (by kernel_rfl) ?_)
    | (refine KJ_draws (id := 16) (.op 0 (.op 1 (.op 2 (.op 3 (.op 4 (.op 5 (.ef 6 [] .nil))))))) (by kernel_rfl) (by kernel_rfl) ?_)
    | (refine KJ_draws (id := 18) (.op 2 (.op 3 (.op 4 (.alt (.ef 0 [4, 3, 2] (.op 1 (.ef 5 [1] (.op 6 (.op 7 (.op 8 .nil)))))) (.ef 5 [] (.op 6 (.ef 0 [6] (.op 1 (.op 7 (.op 8 .nil)))))))))) (by kernel_rfl) (by kernel_rfl) ?_)
    | (refine KJ_draws (id := 19) (.op 0 (.op 1 (.op 2 (.op 3 (.op 4 (.op 5 (.op 6 (.ef 7 [] (.op 8 .nil))))))))) (by kernel_rfl) (by kernel_rfl) ?_)
    | (refine KJ_draws (id := 20) (.op 0 (.op 1 (.op 2 (.op 3 (.op 4 (.op 5 (.op 6 (.ef 7 [] (.op 8 .nil))))))))) (by kernel_rfl) (by kernel_rfl) ?_)
    | (refine KJ_draws (id := 35) (.op 0 (.op 1 (.op 2 (.op 3 (.op 4 (.op 5 (.op 7 (.op 8 (.op 9 (.op 10 (.op 11 (.op 12 (.ef 6 [12, 11, 10, 9, 8, 7] (.ef 13 [] (.op 14 (.op 15 (.op 16 (.op 17 (.op 18 (.op 19 (.op 21 (.op 22 (.op 23 (.op 24 (.op 25 (.op 26 (.op 27 (.ef 20 [27, 26, 25, 24, 23, 22, 21] (.op 28 (.op 29 (.op 30 .nil))))))))))))))))))))))))))))))) (by kernel_rfl) (by kernel_rfl) ?_)
    | (refine KJ_draws (id := 37) (.op 0 (.op 1 (.op 2 (.op 3 (.op 4 (.op 5 (.op 6 (.op 7 (.op 8 (.op 9 (.op 10 (.op 11 (.op 12 (.op 13 (.op 14 (.op 15 (.op 16 (.op 17 (.op 18 (.op 19 (.op 20 (.op 21 (.op 22 (.op 23 (.op 24 (.op 25 (.op 26 (.op 27 (.op 28 (.ef 29 [] (.op 30 .nil))))))))))))))))))))))))))))))) (by kernel_rfl) (by kernel_rfl) ?_)
    | refine FW_alt ?_ ?_
    | refine KJ_flow ?_ ?_
    | exact Rech.nil
    | fail)
      | some s =>
        dsimp only [jcl]
        repeat' (first 
    | (refine at_seq_region (id := 22) ?_; exact KJ.weak (rest _ _ hx) xB (by dsimp only [jclA]; exact (xN)))
    | (refine is_box ?_; refine KJ_box rfl xF rfl (fun g3 => ?_))
    | (refine is_call ?_; first | (refine KJ_call xE c2 xP rfl (fun _ => ?_)) | (refine KJ_call xE c1 xP rfl (fun _ => ?_)) | (refine KJ_call0 xE c2 xP (fun _ => ?_)) | (refine KJ_call0 xE c1 xP (fun _ => ?_)))
    | (refine ek_eql ?_; first | refine EK_ev (Ev_eqlI_t rfl rfl q6) ?_ | refine EK_ev (Ev_eqlI_f rfl rfl q4) ?_ | refine EK_ev (Ev_eqlI_f rfl rfl q1) ?_)
    | refine xst ?_
    | (refine xsa ?_; intro _)
    | (refine xsb ?_ ?_ <;> intro _ <;> first | (exfalso; omega) | skip)
    | refine xsc ?_
    | (refine KJ_draws (id := 3) (.op 0 (.op 1 (.op 2 (.op 3 (.op 4 (.op 5 (.op 6 (.op 7 (.op 8 (.op 9 (.ef 10 [] (.op 11 (.op 12 (.op 13 (.op 14 (.op 15 .nil)))))))))))))))) (by kernel_rfl) (by kernel_rfl) ?_)
    | (refine KJ_draws (id := 4) (.op 0 (.op 1 (.op 2 (.op 3 (.op 4 (.op 5 (.op 6 (.op 7 (.op 8 (.op 9 (.ef 10 [] (.op 11 (.op 12 (.op 13 (.op 14 (.op 15 .nil)))))))))))))))) (by kernel_rfl) (by kernel_rfl) ?_)
    | (refine KJ_draws (id := 10) (.op 0 (.op 1 (.op 2 (.op 3 (.op 4 (.op 5 (.op 6 (.op 7 (.op 8 (.op 9 (.op 10 (.op 11 (.op 12 (.op 13 (.ef 14 [] (.op 15 .nil)))))))))))))))) (by kernel_rfl) (by kernel_rfl) ?_)
    | (refine KJ_draws (id := 12) (.op 0 (.op 1 (.op 2 (.op 3 (.op 4 (.op 5 (.ef 6 [] .nil))))))) (by kernel_rfl) (by kernel_rfl) ?_)
    | (refine KJ_draws (id := 13) (.op 0 (.op 1 (.op 2 (.op 3 (.op 4 (.op 5 (.ef 6 [] .nil))))))) (by kernel_rfl) (by kernel_rfl) ?_)
    | (refine KJ_draws (id := 15) (.op 0 (.op 1 (.op 2 (.op 3 (.op 4 (.op 5 (.ef 6 [] .nil))))))) (by kernel_rfl) (by kernel_rfl) ?_)
    | (refine KJ_draws (id := 16) (.op 0 (.op 1 (.op 2 (.op 3 (.op 4 (.op 5 (.ef 6 [] .nil))))))) (by kernel_rfl) (by kernel_rfl) ?_)
    | (refine KJ_draws (id := 18) (.op 2 (.op 3 (.op 4 (.alt (.ef 0 [4, 3, 2] (.op 1 (.ef 5 [1] (.op 6 (.op 7 (.op 8 .nil)))))) (.ef 5 [] (.op 6 (.ef 0 [6] (.op 1 (.op 7 (.op 8 .nil)))))))))) (by kernel_rfl) (by kernel_rfl) ?_)
    | (refine KJ_draws (id := 19) (.op 0 (.op 1 (.op 2 (.op 3 (.op 4 (.op 5 (.op 6 (.ef 7 [] (.op 8 .nil))))))))) (by kernel_rfl) (by kernel_rfl) ?_)
    | (refine KJ_draws (id := 20) (.op 0 (.op 1 (.op 2 (.op 3 (.op 4 (.op 5 (.op 6 (.ef 7 [] (.op 8 .nil))))))))) (by kernel_rfl) (by kernel_rfl) ?_)
    | (refine KJ_draws (id := 35) (.op 0 (.op 1 (.op 2 (.op 3 (.op 4 (.op 5 (.op 7 (.op 8 (.op 9 (.op 10 (.op 11 (.op 12 (.ef 6 [12, 11, 10, 9, 8, 7] (.ef 13 [] (.op 14 (.op 15 (.op 16 (.op 17 (.op 18 (.op 19 (.op 21 (.op 22 (.op 23 (.op 24 (.op 25 (.op 26 (.op 27 (.ef 20 [27, 26, 25, 24, 23, 22, 21] (.op 28 (.op 29 (.op 30 .nil))))))))))))))))))))))))))))))) (by kernel_rfl) (by kernel_rfl) ?_)
    | (refine KJ_draws (id := 37) (.op 0 (.op 1 (.op 2 (.op 3 (.op 4 (.op 5 (.op 6 (.op 7 (.op 8 (.op 9 (.op 10 (.op 11 (.op 12 (.op 13 (.op 14 (.op 15 (.op 16 (.op 17 (.op 18 (.op 19 (.op 20 (.op 21 (.op 22 (.op 23 (.op 24 (.op 25 (.op 26 (.op 27 (.op 28 (.ef 29 [] (.op 30 .nil))))))))))))))))))))))))))))))) (by kernel_rfl) (by kernel_rfl) ?_)
    | refine FW_alt ?_ ?_
    | refine KJ_flow ?_ ?_
    | exact Rech.nil
    | fail)
    by_cases q7 : kind = 7
    · have c1 := crash_old (W := W) (p := p) (D := D) torn bytes hk (by omega)
      have c2 := rcrash_ct (W := W) (p := r) (D := D) hok (by omega) torn bytes hk
      have hx : JOk D 1 (D.crash kept torn bytes, st) := ⟨Dsk.crash_ok hok _ _ _, rfl, by show 0 ≤ _; omega, hst⟩
      obtain ⟨D2, hD2⟩ : ∃ D2, D2 = D.crash kept torn bytes := ⟨_, rfl⟩
      rw [← hD2] at c1 c2 hx
      clear hD2
      cases st with
      | none =>
        dsimp only [jcl]
        repeat' (first 
    | (refine at_seq_region (id := 22) ?_; exact KJ.weak (rest _ _ hx) xB (by dsimp only [jclA]; exact (xN)))
    | (refine is_box ?_; refine KJ_box rfl xF rfl (fun g3 => ?_))
    | (refine is_call ?_; first | (refine KJ_call xE c2 xP rfl (fun _ => ?_)) | (refine KJ_call xE c1 xP rfl (fun _ => ?_)) | (refine KJ_call0 xE c2 xP (fun _ => ?_)) | (refine KJ_call0 xE c1 xP (fun _ => ?_)))
    | (refine ek_eql ?_; first | refine EK_ev (Ev_eqlI_t rfl rfl q7) ?_ | refine EK_ev (Ev_eqlI_f rfl rfl q6) ?_ | refine EK_ev (Ev_eqlI_f rfl rfl q4) ?_ | refine EK_ev (Ev_eqlI_f rfl rfl q1) ?_)
    | refine xst ?_
    | (refine xsa ?_; intro _)
    | (refine xsb ?_ ?_ <;> intro _ <;> first | (exfalso; omega) | skip)
    | refine xsc ?_
    | (refine KJ_draws (id := 3) (.op 0 (.op 1 (.op 2 (.op 3 (.op 4 (.op 5 (.op 6 (.op 7 (.op 8 (.op 9 (.ef 10 [] (.op 11 (.op 12 (.op 13 (.op 14 (.op 15 .nil)))))))))))))))) (by kernel_rfl) (by kernel_rfl) ?_)
    | (refine KJ_draws (id := 4) (.op 0 (.op 1 (.op 2 (.op 3 (.op 4 (.op 5 (.op 6 (.op 7 (.op 8 (.op 9 (.ef 10 [] (.op 11 (.op 12 (.op 13 (.op 14 (.op 15 .nil)))))))))))))))) (by kernel_rfl) (by kernel_rfl) ?_)
    | (refine KJ_draws (id := 10) (.op 0 (.op 1 (.op 2 (.op 3 (.op 4 (.op 5 (.op 6 (.op 7 (.op 8 (.op 9 (.op 10 (.op 11 (.op 12 (.op 13 (.ef 14 [] (.op 15 .nil)))))))))))))))) (by kernel_rfl) (by kernel_rfl) ?_)
    | (refine KJ_draws (id := 12) (.op 0 (.op 1 (.op 2 (.op 3 (.op 4 (.op 5 (.ef 6 [] .nil))))))) (by kernel_rfl) (by kernel_rfl) ?_)
    | (refine KJ_draws (id := 13) (.op 0 (.op 1 (.op 2 (.op 3 (.op 4 (.op 5 (.ef 6 [] .nil))))))) (by kernel_rfl) (by kernel_rfl) ?_)
    | (refine KJ_draws (id := 15) (.op 0 (.op 1 (.op 2 (.op 3 (.op 4 (.op 5 (.ef 6 [] .nil))))))) (by kernel_rfl) (by kernel_rfl) ?_)
    | (refine KJ_draws (id := 16) (.op 0 (.op 1 (.op 2 (.op 3 (.op 4 (.op 5 (.ef 6 [] .nil))))))) (by kernel_rfl) (by kernel_rfl) ?_)
    | (refine KJ_draws (id := 18) (.op 2 (.op 3 (.op 4 (.alt (.ef 0 [4, 3, 2] (.op 1 (.ef 5 [1] (.op 6 (.op 7 (.op 8 .nil)))))) (.ef 5 [] (.op 6 (.ef 0 [6] (.op 1 (.op 7 (.op 8 .nil)))))))))) (by kernel_rfl) (by kernel_rfl) ?_)
    | (refine KJ_draws (id := 19) (.op 0 (.op 1 (.op 2 (.op 3 (.op 4 (.op 5 (.op 6 (.ef 7 [] (.op 8 .nil))))))))) (by kernel_rfl) (by kernel_rfl) ?_)
    | (refine KJ_draws (id := 20) (.op 0 (.op 1 (.op 2 (.op 3 (.op 4 (.op 5 (.op 6 (.ef 7 [] (.op 8 .nil))))))))) (by kernel_rfl) (by kernel_rfl) ?_)
    | (refine KJ_draws (id := 35) (.op 0 (.op 1 (.op 2 (.op 3 (.op 4 (.op 5 (.op 7 (.op 8 (.op 9 (.op 10 (.op 11 (.op 12 (.ef 6 [12, 11, 10, 9, 8, 7] (.ef 13 [] (.op 14 (.op 15 (.op 16 (.op 17 (.op 18 (.op 19 (.op 21 (.op 22 (.op 23 (.op 24 (.op 25 (.op 26 (.op 27 (.ef 20 [27, 26, 25, 24, 23, 22, 21] (.op 28 (.op 29 (.op 30 .nil))))))))))))))))))))))))))))))) (by kernel_rfl) (by kernel_rfl) ?_)
    | (refine KJ_draws (id := 37) (.op 0 (.op 1 (.op 2 (.op 3 (.op 4 (.op 5 (.op 6 (.op 7 (.op 8 (.op 9 (.op 10 (.op 11 (.op 12 (.op 13 (.op 14 (.op 15 (.op 16 (.op 17 (.op 18 (.op 19 (.op 20 (.op 21 (.op 22 (.op 23 (.op 24 (.op 25 (.op 26 (.op 27 (.op 28 (.ef 29 [] (.op 30 .nil))))))))))))))))))))))))))))))) (by kernel_rfl) (by kernel_rfl) ?_)
    | refine FW_alt ?_ ?_
    | refine KJ_flow ?_ ?_
    | exact Rech.nil
    | fail)
      | some s =>
        dsimp only [jcl]
        repeat' (first 
    | (refine at_seq_region (id := 22) ?_; exact KJ.weak (rest _ _ hx) xB (by dsimp only [jclA]; exact (xN)))
    | (refine is_box ?_; refine KJ_box rfl xF rfl (fun g3 => ?_))
    | (refine is_call ?_; first | (refine KJ_call xE c2 xP rfl (fun _ => ?_)) | (refine KJ_call xE c1 xP rfl (fun _ => ?_)) | (refine KJ_call0 xE c2 xP (fun _ => ?_)) | (refine KJ_call0 xE c1 xP (fun _ => ?_)))
    | (refine ek_eql ?_; first | refine EK_ev (Ev_eqlI_t rfl rfl q7) ?_ | refine EK_ev (Ev_eqlI_f rfl rfl q6) ?_ | refine EK_ev (Ev_eqlI_f rfl rfl q4) ?_ | refine EK_ev (Ev_eqlI_f rfl rfl q1) ?_)
    | refine xst ?_
    | (refine xsa ?_; intro _)
    | (refine xsb ?_ ?_ <;> intro _ <;> first | (exfalso; omega) | skip)
    | refine xsc ?_
    | (refine KJ_draws (id := 3) (.op 0 (.op 1 (.op 2 (.op 3 (.op 4 (.op 5 (.op 6 (.op 7 (.op 8 (.op 9 (.ef 10 [] (.op 11 (.op 12 (.op 13 (.op 14 (.op 15 .nil)))))))))))))))) (by kernel_rfl) (by kernel_rfl) ?_)
    | (refine KJ_draws (id := 4) (.op 0 (.op 1 (.op 2 (.op 3 (.op 4 (.op 5 (.op 6 (.op 7 (.op 8 (.op 9 (.ef 10 [] (.op 11 (.op 12 (.op 13 (.op 14 (.op 15 .nil)))))))))))))))) (by kernel_rfl) (by kernel_rfl) ?_)
    | (refine KJ_draws (id := 10) (.op 0 (.op 1 (.op 2 (.op 3 (.op 4 (.op 5 (.op 6 (.op 7 (.op 8 (.op 9 (.op 10 (.op 11 (.op 12 (.op 13 (.ef 14 [] (.op 15 .nil)))))))))))))))) (by kernel_rfl) (by kernel_rfl) ?_)
    | (refine KJ_draws (id := 12) (.op 0 (.op 1 (.op 2 (.op 3 (.op 4 (.op 5 (.ef 6 [] .nil))))))) (by kernel_rfl) (by kernel_rfl) ?_)
    | (refine KJ_draws (id := 13) (.op 0 (.op 1 (.op 2 (.op 3 (.op 4 (.op 5 (.ef 6 [] .nil))))))) (by kernel_rfl) (by kernel_rfl) ?_)
    | (refine KJ_draws (id := 15) (.op 0 (.op 1 (.op 2 (.op 3 (.op 4 (.op 5 (.ef 6 [] .nil))))))) (by kernel_rfl) (by kernel_rfl) ?_)
    | (refine KJ_draws (id := 16) (.op 0 (.op 1 (.op 2 (.op 3 (.op 4 (.op 5 (.ef 6 [] .nil))))))) (by kernel_rfl) (by kernel_rfl) ?_)
    | (refine KJ_draws (id := 18) (.op 2 (.op 3 (.op 4 (.alt (.ef 0 [4, 3, 2] (.op 1 (.ef 5 [1] (.op 6 (.op 7 (.op 8 .nil)))))) (.ef 5 [] (.op 6 (.ef 0 [6] (.op 1 (.op 7 (.op 8 .nil)))))))))) (by kernel_rfl) (by kernel_rfl) ?_)
    | (refine KJ_draws (id := 19) (.op 0 (.op 1 (.op 2 (.op 3 (.op 4 (.op 5 (.op 6 (.ef 7 [] (.op 8 .nil))))))))) (by kernel_rfl) (by kernel_rfl) ?_)
    | (refine KJ_draws (id := 20) (.op 0 (.op 1 (.op 2 (.op 3 (.op 4 (.op 5 (.op 6 (.ef 7 [] (.op 8 .nil))))))))) (by kernel_rfl) (by kernel_rfl) ?_)
    | (refine KJ_draws (id := 35) (.op 0 (.op 1 (.op 2 (.op 3 (.op 4 (.op 5 (.op 7 (.op 8 (.op 9 (.op 10 (.op 11 (.op 12 (.ef 6 [12, 11, 10, 9, 8, 7] (.ef 13 [] (.op 14 (.op 15 (.op 16 (.op 17 (.op 18 (.op 19 (.op 21 (.op 22 (.op 23 (.op 24 (.op 25 (.op 26 (.op 27 (.ef 20 [27, 26, 25, 24, 23, 22, 21] (.op 28 (.op 29 (.op 30 .nil))))))))))))))))))))))))))))))) (by kernel_rfl) (by kernel_rfl) ?_)
    | (refine KJ_draws (id := 37) (.op 0 (.op 1 (.op 2 (.op 3 (.op 4 (.op 5 (.op 6 (.op 7 (.op 8 (.op 9 (.op 10 (.op 11 (.op 12 (.op 13 (.op 14 (.op 15 (.op 16 (.op 17 (.op 18 (.op 19 (.op 20 (.op 21 (.op 22 (.op 23 (.op 24 (.op 25 (.op 26 (.op 27 (.op 28 (.ef 29 [] (.op 30 .nil))))))))))))))))))))))))))))))) (by kernel_rfl) (by kernel_rfl) ?_)
    | refine FW_alt ?_ ?_
    | refine KJ_flow ?_ ?_
    | exact Rech.nil
    | fail)
    by_cases q8 : kind = 8
    · obtain ⟨c, hc⟩ : ∃ c : UInt8, IntKind.u8.wrap ofill = (c.toNat : Int) := ⟨UInt8.ofNat (ofill % 256).toNat, by
      have e : IntKind.u8.wrap ofill = ofill % 256 := rfl
      rw [e, UInt8.toNat_ofNat']; omega⟩
      obtain ⟨raw, hraw⟩ : ∃ raw : List UInt8, zs 255 ++ [c] = raw := ⟨_, rfl⟩
      have hzl : (zs 255).length = 255 := zs_length 255
      have hz : List.replicate 255 (0 : UInt8) = zs 255 := rfl
      have hrl : raw.length ≤ 9223372036854775807 := by rw [← hraw, List.length_append, hzl]; show 255 + 1 ≤ _; omega
      have c1 := write_ct (W := W) (p := p) (D := D) hE8 oat raw (by omega)
      have c2 := rwrite_ct (W := W) (p := r) (D := D) hok oat raw (by omega)
      have c3 := cN (D.writeE oat raw) (writeE_le D oat raw)
      have hx : JOk D 1 (D.writeD oat raw, st) := ⟨Dsk.writeD_ok hok _ _, Dsk.writeD_n _ _ _, by have := writeD_und D oat raw; dsimp only; omega, hst⟩
      obtain ⟨D2, hD2⟩ : ∃ D2, D2 = D.writeD oat raw := ⟨_, rfl⟩
      obtain ⟨e, he⟩ : ∃ e, e = D.writeE oat raw := ⟨_, rfl⟩
      obtain ⟨Z, hZ⟩ : ∃ Z, Z = zs 255 := ⟨_, rfl⟩
      rw [← hD2] at c1 c2 hx
      rw [← he] at c1 c2 c3
      rw [← hZ] at hz hzl hraw
      clear hD2 he hZ
      obtain ⟨ev, hev⟩ : ∃ ev, ev = errV E e := ⟨_, rfl⟩
      rw [← hev] at c1 c3
      cases st with
      | none =>
        dsimp only [jcl]
        repeat' (first 
    | (refine is_box ?_; refine KJ_box rfl xF rfl (fun g3 => ?_))
    | (refine is_call ?_; first | (refine KJ_call xE c3 xP rfl (fun _ => ?_)) | (refine KJ_call xE c2 xP rfl (fun _ => ?_)) | (refine KJ_call xE c1 xP rfl (fun _ => ?_)))
    | (refine is_mkSlice ?_; refine KJ_makeBytesV (m := 255) rfl rfl rfl (by omega) (by omega) hz rfl (fun g => ?_))
    | (refine is_bslice ?_; refine KJ_bslice1 rfl xF (by rfl) (by omega) rfl (fun g2 => ?_))
    | (refine ek_conv ?_; first | refine EK_ev (Ev_convI_v rfl hc) ?_ | refine EK_ev (Ev_bytesAll (l := [c]) rfl xS rfl) ?_ | refine EK_ev (Ev_bytesAll (l := Z) rfl xS hzl) ?_)
    | (refine ek_add ?_; refine EK_ev (Ev_addS_w rfl rfl hraw hrl) ?_)
    | (refine ek_eql ?_; first | refine EK_ev (Ev_eqlI_t rfl rfl rfl) ?_ | refine EK_ev (Ev_eqlI_t rfl rfl q8) ?_ | refine EK_ev (Ev_eqlI_f rfl rfl q7) ?_ | refine EK_ev (Ev_eqlI_f rfl rfl q6) ?_ | refine EK_ev (Ev_eqlI_f rfl rfl q4) ?_ | refine EK_ev (Ev_eqlI_f rfl rfl q1) ?_)
    | refine xst ?_
    | (refine xsa ?_; intro _)
    | (refine xsb ?_ ?_ <;> intro _ <;> first | (exfalso; omega) | skip)
    | refine xsc ?_
    | (refine KJ_draws (id := 3) (.op 0 (.op 1 (.op 2 (.op 3 (.op 4 (.op 5 (.op 6 (.op 7 (.op 8 (.op 9 (.ef 10 [] (.op 11 (.op 12 (.op 13 (.op 14 (.op 15 .nil)))))))))))))))) (by kernel_rfl) (by kernel_rfl) ?_)
    | (refine KJ_draws (id := 4) (.op 0 (.op 1 (.op 2 (.op 3 (.op 4 (.op 5 (.op 6 (.op 7 (.op 8 (.op 9 (.ef 10 [] (.op 11 (.op 12 (.op 13 (.op 14 (.op 15 .nil)))))))))))))))) (by kernel_rfl) (by kernel_rfl) ?_)
    | (refine KJ_draws (id := 10) (.op 0 (.op 1 (.op 2 (.op 3 (.op 4 (.op 5 (.op 6 (.op 7 (.op 8 (.op 9 (.op 10 (.op 11 (.op 12 (.op 13 (.ef 14 [] (.op 15 .nil)))))))))))))))) (by kernel_rfl) (by kernel_rfl) ?_)
    | (refine KJ_draws (id := 12) (.op 0 (.op 1 (.op 2 (.op 3 (.op 4 (.op 5 (.ef 6 [] .nil))))))) (by kernel_rfl) (by kernel_rfl) ?_)
    | (refine KJ_draws (id := 13) (.op 0 (.op 1 (.op 2 (.op 3 (.op 4 (.op 5 (.ef 6 [] .nil))))))) (by kernel_rfl) (by kernel_rfl) ?_)
    | (refine KJ_draws (id := 15) (.op 0 (.op 1 (.op 2 (.op 3 (.op 4 (.op 5 (.ef 6 [] .nil))))))) (by kernel_rfl) (by kernel_rfl) ?_)
    | (refine KJ_draws (id := 16) (.op 0 (.op 1 (.op 2 (.op 3 (.op 4 (.op 5 (.ef 6 [] .nil))))))) (by kernel_rfl) (by kernel_rfl) ?_)
    | (refine KJ_draws (id := 18) (.op 2 (.op 3 (.op 4 (.alt (.ef 0 [4, 3, 2] (.op 1 (.ef 5 [1] (.op 6 (.op 7 (.op 8 .nil)))))) (.ef 5 [] (.op 6 (.ef 0 [6] (.op 1 (.op 7 (.op 8 .nil)))))))))) (by kernel_rfl) (by kernel_rfl) ?_)
    | (refine KJ_draws (id := 19) (.op 0 (.op 1 (.op 2 (.op 3 (.op 4 (.op 5 (.op 6 (.ef 7 [] (.op 8 .nil))))))))) (by kernel_rfl) (by kernel_rfl) ?_)
    | (refine KJ_draws (id := 20) (.op 0 (.op 1 (.op 2 (.op 3 (.op 4 (.op 5 (.op 6 (.ef 7 [] (.op 8 .nil))))))))) (by kernel_rfl) (by kernel_rfl) ?_)
    | (refine KJ_draws (id := 35) (.op 0 (.op 1 (.op 2 (.op 3 (.op 4 (.op 5 (.op 7 (.op 8 (.op 9 (.op 10 (.op 11 (.op 12 (.ef 6 [12, 11, 10, 9, 8, 7] (.ef 13 [] (.op 14 (.op 15 (.op 16 (.op 17 (.op 18 (.op 19 (.op 21 (.op 22 (.op 23 (.op 24 (.op 25 (.op 26 (.op 27 (.ef 20 [27, 26, 25, 24, 23, 22, 21] (.op 28 (.op 29 (.op 30 .nil))))))))))))))))))))))))))))))) (by kernel_rfl) (by kernel_rfl) ?_)
    | (refine KJ_draws (id := 37) (.op 0 (.op 1 (.op 2 (.op 3 (.op 4 (.op 5 (.op 6 (.op 7 (.op 8 (.op 9 (.op 10 (.op 11 (.op 12 (.op 13 (.op 14 (.op 15 (.op 16 (.op 17 (.op 18 (.op 19 (.op 20 (.op 21 (.op 22 (.op 23 (.op 24 (.op 25 (.op 26 (.op 27 (.op 28 (.ef 29 [] (.op 30 .nil))))))))))))))))))))))))))))))) (by kernel_rfl) (by kernel_rfl) ?_)
    | refine FW_alt ?_ ?_
    | refine KJ_flow ?_ ?_
    | exact Rech.nil
    | fail)
        all_goals (refine is_ex ?_; exact xdn ⟨_, hx.up⟩)
      | some s =>
        dsimp only [jcl]
        repeat' (first 
    | (refine is_box ?_; refine KJ_box rfl xF rfl (fun g3 => ?_))
    | (refine is_call ?_; first | (refine KJ_call xE c3 xP rfl (fun _ => ?_)) | (refine KJ_call xE c2 xP rfl (fun _ => ?_)) | (refine KJ_call xE c1 xP rfl (fun _ => ?_)))
    | (refine is_mkSlice ?_; refine KJ_makeBytesV (m := 255) rfl rfl rfl (by omega) (by omega) hz rfl (fun g => ?_))
    | (refine is_bslice ?_; refine KJ_bslice1 rfl xF (by rfl) (by omega) rfl (fun g2 => ?_))
    | (refine ek_conv ?_; first | refine EK_ev (Ev_convI_v rfl hc) ?_ | refine EK_ev (Ev_bytesAll (l := [c]) rfl xS rfl) ?_ | refine EK_ev (Ev_bytesAll (l := Z) rfl xS hzl) ?_)
    | (refine ek_add ?_; refine EK_ev (Ev_addS_w rfl rfl hraw hrl) ?_)
    | (refine ek_eql ?_; first | refine EK_ev (Ev_eqlI_t rfl rfl rfl) ?_ | refine EK_ev (Ev_eqlI_t rfl rfl q8) ?_ | refine EK_ev (Ev_eqlI_f rfl rfl q7) ?_ | refine EK_ev (Ev_eqlI_f rfl rfl q6) ?_ | refine EK_ev (Ev_eqlI_f rfl rfl q4) ?_ | refine EK_ev (Ev_eqlI_f rfl rfl q1) ?_)
    | refine xst ?_
    | (refine xsa ?_; intro _)
    | (refine xsb ?_ ?_ <;> intro _ <;> first | (exfalso; omega) | skip)
    | refine xsc ?_
    | (refine KJ_draws (id := 3) (.op 0 (.op 1 (.op 2 (.op 3 (.op 4 (.op 5 (.op 6 (.op 7 (.op 8 (.op 9 (.ef 10 [] (.op 11 (.op 12 (.op 13 (.op 14 (.op 15 .nil)))))))))))))))) (by kernel_rfl) (by kernel_rfl) ?_)
    | (refine KJ_draws (id := 4) (.op 0 (.op 1 (.op 2 (.op 3 (.op 4 (.op 5 (.op 6 (.op 7 (.op 8 (.op 9 (.ef 10 [] (.op 11 (.op 12 (.op 13 (.op 14 (.op 15 .nil)))))))))))))))) (by kernel_rfl) (by kernel_rfl) ?_)
    | (refine KJ_draws (id := 10) (.op 0 (.op 1 (.op 2 (.op 3 (.op 4 (.op 5 (.op 6 (.op 7 (.op 8 (.op 9 (.op 10 (.op 11 (.op 12 (.op 13 (.ef 14 [] (.op 15 .nil)))))))))))))))) (by kernel_rfl) (by kernel_rfl) ?_)
    | (refine KJ_draws (id := 12) (.op 0 (.op 1 (.op 2 (.op 3 (.op 4 (.op 5 (.ef 6 [] .nil))))))) (by kernel_rfl) (by kernel_rfl) ?_)
    | (refine KJ_draws (id := 13) (.op 0 (.op 1 (.op 2 (.op 3 (.op 4 (.op 5 (.ef 6 [] .nil))))))) (by kernel_rfl) (by kernel_rfl) ?_)
    | (refine KJ_draws (id := 15) (.op 0 (.op 1 (.op 2 (.op 3 (.op 4 (.op 5 (.ef 6 [] .nil))))))) (by kernel_rfl) (by kernel_rfl) ?_)
    | (refine KJ_draws (id := 16) (.op 0 (.op 1 (.op 2 (.op 3 (.op 4 (.op 5 (.ef 6 [] .nil))))))) (by kernel_rfl) (by kernel_rfl) ?_)
    | (refine KJ_draws (id := 18) (.op 2 (.op 3 (.op 4 (.alt (.ef 0 [4, 3, 2] (.op 1 (.ef 5 [1] (.op 6 (.op 7 (.op 8 .nil)))))) (.ef 5 [] (.op 6 (.ef 0 [6] (.op 1 (.op 7 (.op 8 .nil)))))))))) (by kernel_rfl) (by kernel_rfl) ?_)
    | (refine KJ_draws (id := 19) (.op 0 (.op 1 (.op 2 (.op 3 (.op 4 (.op 5 (.op 6 (.ef 7 [] (.op 8 .nil))))))))) (by kernel_rfl) (by kernel_rfl) ?_)
    | (refine KJ_draws (id := 20) (.op 0 (.op 1 (.op 2 (.op 3 (.op 4 (.op 5 (.op 6 (.ef 7 [] (.op 8 .nil))))))))) (by kernel_rfl) (by kernel_rfl) ?_)
    | (refine KJ_draws (id := 35) (.op 0 (.op 1 (.op 2 (.op 3 (.op 4 (.op 5 (.op 7 (.op 8 (.op 9 (.op 10 (.op 11 (.op 12 (.ef 6 [12, 11, 10, 9, 8, 7] (.ef 13 [] (.op 14 (.op 15 (.op 16 (.op 17 (.op 18 (.op 19 (.op 21 (.op 22 (.op 23 (.op 24 (.op 25 (.op 26 (.op 27 (.ef 20 [27, 26, 25, 24, 23, 22, 21] (.op 28 (.op 29 (.op 30 .nil))))))))))))))))))))))))))))))) (by kernel_rfl) (by kernel_rfl) ?_)
    | (refine KJ_draws (id := 37) (.op 0 (.op 1 (.op 2 (.op 3 (.op 4 (.op 5 (.op 6 (.op 7 (.op 8 (.op 9 (.op 10 (.op 11 (.op 12 (.op 13 (.op 14 (.op 15 (.op 16 (.op 17 (.op 18 (.op 19 (.op 20 (.op 21 (.op 22 (.op 23 (.op 24 (.op 25 (.op 26 (.op 27 (.op 28 (.ef 29 [] (.op 30 .nil))))))))))))))))))))))))))))))) (by kernel_rfl) (by kernel_rfl) ?_)
    | refine FW_alt ?_ ?_
    | refine KJ_flow ?_ ?_
    | exact Rech.nil
    | fail)
        all_goals (refine is_ex ?_; exact xdn ⟨_, hx.up⟩)
    cases st with
    | none =>
      dsimp only [jcl]
      repeat' (first 
    | (refine at_seq_region (id := 22) ?_; exact KJ.weak (rest _ _ hx0) xB (by dsimp only [jclA]; exact (xN)))
    | (refine is_box ?_; refine KJ_box rfl xF rfl (fun g3 => ?_))
    | (refine ek_eql ?_; first | refine EK_ev (Ev_eqlI_f rfl rfl q8) ?_ | refine EK_ev (Ev_eqlI_f rfl rfl q7) ?_ | refine EK_ev (Ev_eqlI_f rfl rfl q6) ?_ | refine EK_ev (Ev_eqlI_f rfl rfl q4) ?_ | refine EK_ev (Ev_eqlI_f rfl rfl q1) ?_)
    | refine xst ?_
    | (refine xsa ?_; intro _)
    | (refine xsb ?_ ?_ <;> intro _ <;> first | (exfalso; omega) | skip)
    | refine xsc ?_
    | (refine KJ_draws (id := 3) (.op 0 (.op 1 (.op 2 (.op 3 (.op 4 (.op 5 (.op 6 (.op 7 (.op 8 (.op 9 (.ef 10 [] (.op 11 (.op 12 (.op 13 (.op 14 (.op 15 .nil)))))))))))))))) (by kernel_rfl) (by kernel_rfl) ?_)
    | (refine KJ_draws (id := 4) (.op 0 (.op 1 (.op 2 (.op 3 (.op 4 (.op 5 (.op 6 (.op 7 (.op 8 (.op 9 (.ef 10 [] (.op 11 (.op 12 (.op 13 (.op 14 (.op 15 .nil)))))))))))))))) (by kernel_rfl) (by kernel_rfl) ?_)
    | (refine KJ_draws (id := 10) (.op 0 (.op 1 (.op 2 (.op 3 (.op 4 (.op 5 (.op 6 (.op 7 (.op 8 (.op 9 (.op 10 (.op 11 (.op 12 (.op 13 (.ef 14 [] (.op 15 .nil)))))))))))))))) (by kernel_rfl) (by kernel_rfl) ?_)
    | (refine KJ_draws (id := 12) (.op 0 (.op 1 (.op 2 (.op 3 (.op 4 (.op 5 (.ef 6 [] .nil))))))) (by kernel_rfl) (by kernel_rfl) ?_)
    | (refine KJ_draws (id := 13) (.op 0 (.op 1 (.op 2 (.op 3 (.op 4 (.op 5 (.ef 6 [] .nil))))))) (by kernel_rfl) (by kernel_rfl) ?_)
    | (refine KJ_draws (id := 15) (.op 0 (.op 1 (.op 2 (.op 3 (.op 4 (.op 5 (.ef 6 [] .nil))))))) (by kernel_rfl) (by kernel_rfl) ?_)
    | (refine KJ_draws (id := 16) (.op 0 (.op 1 (.op 2 (.op 3 (.op 4 (.op 5 (.ef 6 [] .nil))))))) (by kernel_rfl) (by kernel_rfl) ?_)
    | (refine KJ_draws (id := 18) (.op 2 (.op 3 (.op 4 (.alt (.ef 0 [4, 3, 2] (.op 1 (.ef 5 [1] (.op 6 (.op 7 (.op 8 .nil)))))) (.ef 5 [] (.op 6 (.ef 0 [6] (.op 1 (.op 7 (.op 8 .nil)))))))))) (by kernel_rfl) (by kernel_rfl) ?_)
    | (refine KJ_draws (id := 19) (.op 0 (.op 1 (.op 2 (.op 3 (.op 4 (.op 5 (.op 6 (.ef 7 [] (.op 8 .nil))))))))) (by kernel_rfl) (by kernel_rfl) ?_)
    | (refine KJ_draws (id := 20) (.op 0 (.op 1 (.op 2 (.op 3 (.op 4 (.op 5 (.op 6 (.ef 7 [] (.op 8 .nil))))))))) (by kernel_rfl) (by kernel_rfl) ?_)
    | (refine KJ_draws (id := 35) (.op 0 (.op 1 (.op 2 (.op 3 (.op 4 (.op 5 (.op 7 (.op 8 (.op 9 (.op 10 (.op 11 (.op 12 (.ef 6 [12, 11, 10, 9, 8, 7] (.ef 13 [] (.op 14 (.op 15 (.op 16 (.op 17 (.op 18 (.op 19 (.op 21 (.op 22 (.op 23 (.op 24 (.op 25 (.op 26 (.op 27 (.ef 20 [27, 26, 25, 24, 23, 22, 21] (.op 28 (.op 29 (.op 30 .nil))))))))))))))))))))))))))))))) (by kernel_rfl) (by kernel_rfl) ?_)
    | (refine KJ_draws (id := 37) (.op 0 (.op 1 (.op 2 (.op 3 (.op 4 (.op 5 (.op 6 (.op 7 (.op 8 (.op 9 (.op 10 (.op 11 (.op 12 (.op 13 (.op 14 (.op 15 (.op 16 (.op 17 (.op 18 (.op 19 (.op 20 (.op 21 (.op 22 (.op 23 (.op 24 (.op 25 (.op 26 (.op 27 (.op 28 (.ef 29 [] (.op 30 .nil))))))))))))))))))))))))))))))) (by kernel_rfl) (by kernel_rfl) ?_)
    | refine FW_alt ?_ ?_
    | refine KJ_flow ?_ ?_
    | exact Rech.nil
    | fail)
    | some s =>
      dsimp only [jcl]
      repeat' (first 
    | (refine at_seq_region (id := 22) ?_; exact KJ.weak (rest _ _ hx0) xB (by dsimp only [jclA]; exact (xN)))
    | (refine is_box ?_; refine KJ_box rfl xF rfl (fun g3 => ?_))
    | (refine ek_eql ?_; first | refine EK_ev (Ev_eqlI_f rfl rfl q8) ?_ | refine EK_ev (Ev_eqlI_f rfl rfl q7) ?_ | refine EK_ev (Ev_eqlI_f rfl rfl q6) ?_ | refine EK_ev (Ev_eqlI_f rfl rfl q4) ?_ | refine EK_ev (Ev_eqlI_f rfl rfl q1) ?_)
    | refine xst ?_
    | (refine xsa ?_; intro _)
    | (refine xsb ?_ ?_ <;> intro _ <;> first | (exfalso; omega) | skip)
    | refine xsc ?_
    | (refine KJ_draws (id := 3) (.op 0 (.op 1 (.op 2 (.op 3 (.op 4 (.op 5 (.op 6 (.op 7 (.op 8 (.op 9 (.ef 10 [] (.op 11 (.op 12 (.op 13 (.op 14 (.op 15 .nil)))))))))))))))) (by kernel_rfl) (by kernel_rfl) ?_)
    | (refine KJ_draws (id := 4) (.op 0 (.op 1 (.op 2 (.op 3 (.op 4 (.op 5 (.op 6 (.op 7 (.op 8 (.op 9 (.ef 10 [] (.op 11 (.op 12 (.op 13 (.op 14 (.op 15 .nil)))))))))))))))) (by kernel_rfl) (by kernel_rfl) ?_)
    | (refine KJ_draws (id := 10) (.op 0 (.op 1 (.op 2 (.op 3 (.op 4 (.op 5 (.op 6 (.op 7 (.op 8 (.op 9 (.op 10 (.op 11 (.op 12 (.op 13 (.ef 14 [] (.op 15 .nil)))))))))))))))) (by kernel_rfl) (by kernel_rfl) ?_)
    | (refine KJ_draws (id := 12) (.op 0 (.op 1 (.op 2 (.op 3 (.op 4 (.op 5 (.ef 6 [] .nil))))))) (by kernel_rfl) (by kernel_rfl) ?_)
    | (refine KJ_draws (id := 13) (.op 0 (.op 1 (.op 2 (.op 3 (.op 4 (.op 5 (.ef 6 [] .nil))))))) (by kernel_rfl) (by kernel_rfl) ?_)
    | (refine KJ_draws (id := 15) (.op 0 (.op 1 (.op 2 (.op 3 (.op 4 (.op 5 (.ef 6 [] .nil))))))) (by kernel_rfl) (by kernel_rfl) ?_)
    | (refine KJ_draws (id := 16) (.op 0 (.op 1 (.op 2 (.op 3 (.op 4 (.op 5 (.ef 6 [] .nil))))))) (by kernel_rfl) (by kernel_rfl) ?_)
    | (refine KJ_draws (id := 18) (.op 2 (.op 3 (.op 4 (.alt (.ef 0 [4, 3, 2] (.op 1 (.ef 5 [1] (.op 6 (.op 7 (.op 8 .nil)))))) (.ef 5 [] (.op 6 (.ef 0 [6] (.op 1 (.op 7 (.op 8 .nil)))))))))) (by kernel_rfl) (by kernel_rfl) ?_)
    | (refine KJ_draws (id := 19) (.op 0 (.op 1 (.op 2 (.op 3 (.op 4 (.op 5 (.op 6 (.ef 7 [] (.op 8 .nil))))))))) (by kernel_rfl) (by kernel_rfl) ?_)
    | (refine KJ_draws (id := 20) (.op 0 (.op 1 (.op 2 (.op 3 (.op 4 (.op 5 (.op 6 (.ef 7 [] (.op 8 .nil))))))))) (by kernel_rfl) (by kernel_rfl) ?_)
    | (refine KJ_draws (id := 35) (.op 0 (.op 1 (.op 2 (.op 3 (.op 4 (.op 5 (.op 7 (.op 8 (.op 9 (.op 10 (.op 11 (.op 12 (.ef 6 [12, 11, 10, 9, 8, 7] (.ef 13 [] (.op 14 (.op 15 (.op 16 (.op 17 (.op 18 (.op 19 (.op 21 (.op 22 (.op 23 (.op 24 (.op 25 (.op 26 (.op 27 (.ef 20 [27, 26, 25, 24, 23, 22, 21] (.op 28 (.op 29 (.op 30 .nil))))))))))))))))))))))))))))))) (by kernel_rfl) (by kernel_rfl) ?_)
    | (refine KJ_draws (id := 37) (.op 0 (.op 1 (.op 2 (.op 3 (.op 4 (.op 5 (.op 6 (.op 7 (.op 8 (.op 9 (.op 10 (.op 11 (.op 12 (.op 13 (.op 14 (.op 15 (.op 16 (.op 17 (.op 18 (.op 19 (.op 20 (.op 21 (.op 22 (.op 23 (.op 24 (.op 25 (.op 26 (.op 27 (.op 28 (.ef 29 [] (.op 30 .nil))))))))))))))))))))))))))))))) (by kernel_rfl) (by kernel_rfl) ?_)
    | refine FW_alt ?_ ?_
    | refine KJ_flow ?_ ?_
    | exact Rech.nil
    | fail)
  intro g3 x hx
  clear hst hok hn2
  obtain ⟨D1, st1⟩ := x
  cases st1 with
  | none =>
    dsimp only [jcl, jclA]
    repeat' (first 
    | refine xst ?_
    | (refine xsa ?_; intro _)
    | (refine xsb ?_ ?_ <;> intro _ <;> first | (exfalso; omega) | skip)
    | refine xsc ?_
    | (refine KJ_draws (id := 3) (.op 0 (.op 1 (.op 2 (.op 3 (.op 4 (.op 5 (.op 6 (.op 7 (.op 8 (.op 9 (.ef 10 [] (.op 11 (.op 12 (.op 13 (.op 14 (.op 15 .nil)))))))))))))))) (by kernel_rfl) (by kernel_rfl) ?_)
    | (refine KJ_draws (id := 4) (.op 0 (.op 1 (.op 2 (.op 3 (.op 4 (.op 5 (.op 6 (.op 7 (.op 8 (.op 9 (.ef 10 [] (.op 11 (.op 12 (.op 13 (.op 14 (.op 15 .nil)))))))))))))))) (by kernel_rfl) (by kernel_rfl) ?_)
    | (refine KJ_draws (id := 10) (.op 0 (.op 1 (.op 2 (.op 3 (.op 4 (.op 5 (.op 6 (.op 7 (.op 8 (.op 9 (.op 10 (.op 11 (.op 12 (.op 13 (.ef 14 [] (.op 15 .nil)))))))))))))))) (by kernel_rfl) (by kernel_rfl) ?_)
    | (refine KJ_draws (id := 12) (.op 0 (.op 1 (.op 2 (.op 3 (.op 4 (.op 5 (.ef 6 [] .nil))))))) (by kernel_rfl) (by kernel_rfl) ?_)
    | (refine KJ_draws (id := 13) (.op 0 (.op 1 (.op 2 (.op 3 (.op 4 (.op 5 (.ef 6 [] .nil))))))) (by kernel_rfl) (by kernel_rfl) ?_)
    | (refine KJ_draws (id := 15) (.op 0 (.op 1 (.op 2 (.op 3 (.op 4 (.op 5 (.ef 6 [] .nil))))))) (by kernel_rfl) (by kernel_rfl) ?_)
    | (refine KJ_draws (id := 16) (.op 0 (.op 1 (.op 2 (.op 3 (.op 4 (.op 5 (.ef 6 [] .nil))))))) (by kernel_rfl) (by kernel_rfl) ?_)
    | (refine KJ_draws (id := 18) (.op 2 (.op 3 (.op 4 (.alt (.ef 0 [4, 3, 2] (.op 1 (.ef 5 [1] (.op 6 (.op 7 (.op 8 .nil)))))) (.ef 5 [] (.op 6 (.ef 0 [6] (.op 1 (.op 7 (.op 8 .nil)))))))))) (by kernel_rfl) (by kernel_rfl) ?_)
    | (refine KJ_draws (id := 19) (.op 0 (.op 1 (.op 2 (.op 3 (.op 4 (.op 5 (.op 6 (.ef 7 [] (.op 8 .nil))))))))) (by kernel_rfl) (by kernel_rfl) ?_)
    | (refine KJ_draws (id := 20) (.op 0 (.op 1 (.op 2 (.op 3 (.op 4 (.op 5 (.op 6 (.ef 7 [] (.op 8 .nil))))))))) (by kernel_rfl) (by kernel_rfl) ?_)
    | (refine KJ_draws (id := 35) (.op 0 (.op 1 (.op 2 (.op 3 (.op 4 (.op 5 (.op 7 (.op 8 (.op 9 (.op 10 (.op 11 (.op 12 (.ef 6 [12, 11, 10, 9, 8, 7] (.ef 13 [] (.op 14 (.op 15 (.op 16 (.op 17 (.op 18 (.op 19 (.op 21 (.op 22 (.op 23 (.op 24 (.op 25 (.op 26 (.op 27 (.ef 20 [27, 26, 25, 24, 23, 22, 21] (.op 28 (.op 29 (.op 30 .nil))))))))))))))))))))))))))))))) (by kernel_rfl) (by kernel_rfl) ?_)
    | (refine KJ_draws (id := 37) (.op 0 (.op 1 (.op 2 (.op 3 (.op 4 (.op 5 (.op 6 (.op 7 (.op 8 (.op 9 (.op 10 (.op 11 (.op 12 (.op 13 (.op 14 (.op 15 (.op 16 (.op 17 (.op 18 (.op 19 (.op 20 (.op 21 (.op 22 (.op 23 (.op 24 (.op 25 (.op 26 (.op 27 (.op 28 (.ef 29 [] (.op 30 .nil))))))))))))))))))))))))))))))) (by kernel_rfl) (by kernel_rfl) ?_)
    | refine FW_alt ?_ ?_
    | refine KJ_flow ?_ ?_
    | exact Rech.nil
    | fail)
    refine is_ex ?_; exact xdn ⟨_, hx.up⟩
  | some s =>
  obtain ⟨hok, hn1, hul1, hst⟩ := hx
  have hs := hst s rfl
  dsimp only at hok hn1 hul1
  have hlog := hs.log hn1
  obtain ⟨s1, s2, s3, s4, s5, s6, s7, s8⟩ := hs
  obtain ⟨jg, qg, sat, sn, sver, used, life, dead⟩ := s
  dsimp only at s1 s2 s3 s4 s5 s6 s7 s8 hlog
  dsimp only [jcl, jclA]
  have hn2 := hok.n2
  have hs' : ∀ used' : Nat, (used' : Int) ≤ sn → ∀ dead', JSt.ok D.n ⟨jg, qg, sat, sn, sver, used', life, dead'⟩ := fun u hu d => ⟨s1, s2, s3, s4, s5, s6, s7, hu⟩
  by_cases q2 : kind = 2
  · have cr := record10a_ct (W := W) osize ofill
    have hrl : (recL osize ofill).length ≤ 3000 := by unfold recL; rw [recB_length]; have := Int.emod_lt_of_pos (IntKind.u64.wrap osize) (show (0 : Int) < 3001 by omega); have := Int.emod_nonneg (IntKind.u64.wrap osize) (show (3001 : Int) ≠ 0 by omega); omega
    obtain ⟨t, ht⟩ : ∃ t, t = recL osize ofill := ⟨_, rfl⟩
    rw [← ht] at cr hrl
    clear ht
    by_cases hdn : downB D1 life dead = true
    · have c1 := append_down (W := W) (p := p) (g := jg) (D := D1) hE8 sat sn (sver : Nat) (used : Nat) life dead t hdn
      have c2 := rapp_down (W := W) (p := r) (g := qg) (D := D1) sat sn (sver : Nat) (used : Nat) life dead t hdn
      have c3 := cN 12 (by omega)
      have hx2 : JOk D 14 (D1, some ⟨jg, qg, sat, sn, sver, used, life, true⟩) := ⟨hok, hn1, by dsimp only; omega, fun s h => by cases h; exact hs' _ s8 _⟩
      obtain ⟨ev, hev⟩ : ∃ ev, ev = errV E 12 := ⟨_, rfl⟩
      rw [← hev] at c1 c3
      repeat' (first 
    | (refine is_call ?_; first | (refine KJ_call xE c3 xP rfl (fun _ => ?_)) | (refine KJ_call xE c2 xP rfl (fun _ => ?_)) | (refine KJ_call xE c1 xP rfl (fun _ => ?_)) | (refine KJ_call xE cr xP rfl (fun _ => ?_)))
    | (refine ek_eql ?_; first | refine EK_ev (Ev_eqlI_t rfl rfl rfl) ?_ | refine EK_ev (Ev_eqlI_t rfl rfl q2) ?_)
    | refine xst ?_
    | (refine xsa ?_; intro _)
    | (refine xsb ?_ ?_ <;> intro _ <;> first | (exfalso; omega) | skip)
    | refine xsc ?_
    | (refine KJ_draws (id := 3) (.op 0 (.op 1 (.op 2 (.op 3 (.op 4 (.op 5 (.op 6 (.op 7 (.op 8 (.op 9 (.ef 10 [] (.op 11 (.op 12 (.op 13 (.op 14 (.op 15 .nil)))))))))))))))) (by kernel_rfl) (by kernel_rfl) ?_)
    | (refine KJ_draws (id := 4) (.op 0 (.op 1 (.op 2 (.op 3 (.op 4 (.op 5 (.op 6 (.op 7 (.op 8 (.op 9 (.ef 10 [] (.op 11 (.op 12 (.op 13 (.op 14 (.op 15 .nil)))))))))))))))) (by kernel_rfl) (by kernel_rfl) ?_)
    | (refine KJ_draws (id := 10) (.op 0 (.op 1 (.op 2 (.op 3 (.op 4 (.op 5 (.op 6 (.op 7 (.op 8 (.op 9 (.op 10 (.op 11 (.op 12 (.op 13 (.ef 14 [] (.op 15 .nil)))))))))))))))) (by kernel_rfl) (by kernel_rfl) ?_)
    | (refine KJ_draws (id := 12) (.op 0 (.op 1 (.op 2 (.op 3 (.op 4 (.op 5 (.ef 6 [] .nil))))))) (by kernel_rfl) (by kernel_rfl) ?_)
    | (refine KJ_draws (id := 13) (.op 0 (.op 1 (.op 2 (.op 3 (.op 4 (.op 5 (.ef 6 [] .nil))))))) (by kernel_rfl) (by kernel_rfl) ?_)
    | (refine KJ_draws (id := 15) (.op 0 (.op 1 (.op 2 (.op 3 (.op 4 (.op 5 (.ef 6 [] .nil))))))) (by kernel_rfl) (by kernel_rfl) ?_)
    | (refine KJ_draws (id := 16) (.op 0 (.op 1 (.op 2 (.op 3 (.op 4 (.op 5 (.ef 6 [] .nil))))))) (by kernel_rfl) (by kernel_rfl) ?_)
    | (refine KJ_draws (id := 18) (.op 2 (.op 3 (.op 4 (.alt (.ef 0 [4, 3, 2] (.op 1 (.ef 5 [1] (.op 6 (.op 7 (.op 8 .nil)))))) (.ef 5 [] (.op 6 (.ef 0 [6] (.op 1 (.op 7 (.op 8 .nil)))))))))) (by kernel_rfl) (by kernel_rfl) ?_)
    | (refine KJ_draws (id := 19) (.op 0 (.op 1 (.op 2 (.op 3 (.op 4 (.op 5 (.op 6 (.ef 7 [] (.op 8 .nil))))))))) (by kernel_rfl) (by kernel_rfl) ?_)
    | (refine KJ_draws (id := 20) (.op 0 (.op 1 (.op 2 (.op 3 (.op 4 (.op 5 (.op 6 (.ef 7 [] (.op 8 .nil))))))))) (by kernel_rfl) (by kernel_rfl) ?_)
    | (refine KJ_draws (id := 35) (.op 0 (.op 1 (.op 2 (.op 3 (.op 4 (.op 5 (.op 7 (.op 8 (.op 9 (.op 10 (.op 11 (.op 12 (.ef 6 [12, 11, 10, 9, 8, 7] (.ef 13 [] (.op 14 (.op 15 (.op 16 (.op 17 (.op 18 (.op 19 (.op 21 (.op 22 (.op 23 (.op 24 (.op 25 (.op 26 (.op 27 (.ef 20 [27, 26, 25, 24, 23, 22, 21] (.op 28 (.op 29 (.op 30 .nil))))))))))))))))))))))))))))))) (by kernel_rfl) (by kernel_rfl) ?_)
    | (refine KJ_draws (id := 37) (.op 0 (.op 1 (.op 2 (.op 3 (.op 4 (.op 5 (.op 6 (.op 7 (.op 8 (.op 9 (.op 10 (.op 11 (.op 12 (.op 13 (.op 14 (.op 15 (.op 16 (.op 17 (.op 18 (.op 19 (.op 20 (.op 21 (.op 22 (.op 23 (.op 24 (.op 25 (.op 26 (.op 27 (.op 28 (.ef 29 [] (.op 30 .nil))))))))))))))))))))))))))))))) (by kernel_rfl) (by kernel_rfl) ?_)
    | refine FW_alt ?_ ?_
    | refine KJ_flow ?_ ?_
    | exact Rech.nil
    | fail)
      all_goals (refine is_ex ?_; exact xdn ⟨_, hx2⟩)
    have hdn : downB D1 life dead = false := by simpa using hdn
    have hd0 : D1.off = false ∧ D1.life = life ∧ dead = false := by
      unfold downB at hdn
      simp only [Bool.or_eq_false_iff, decide_eq_false_iff_not, ne_eq, Decidable.not_not] at hdn
      exact ⟨hdn.1, hdn.2.1, hdn.2.2⟩
    obtain ⟨ho, -, rfl⟩ := hd0
    by_cases hfit : costI t.length ≤ sn - (used : Nat)
    rotate_left
    · have c1 := append_full (W := W) (p := p) (g := jg) (D := D1) hE8 e17 hN sat sn life sver used t hn2 hdn ⟨s2, s5⟩ s8 (by omega) hfit
      have c2 := rapp_full (W := W) (p := r) (g := qg) (D := D1) sat sn life sver used t hdn ⟨s2, s5⟩ s8 (by omega) hfit
      have c3 := cN 17 (by omega)
      have hx2 : JOk D 14 (D1, some ⟨jg, qg, sat, sn, sver, used, life, false⟩) := ⟨hok, hn1, by dsimp only; omega, fun s h => by cases h; exact hs' _ s8 _⟩
      obtain ⟨ev, hev⟩ : ∃ ev, ev = errV E 17 := ⟨_, rfl⟩
      rw [← hev] at c1 c3
      repeat' (first 
    | (refine is_call ?_; first | (refine KJ_call xE c3 xP rfl (fun _ => ?_)) | (refine KJ_call xE c2 xP rfl (fun _ => ?_)) | (refine KJ_call xE c1 xP rfl (fun _ => ?_)) | (refine KJ_call xE cr xP rfl (fun _ => ?_)))
    | (refine ek_eql ?_; first | refine EK_ev (Ev_eqlI_t rfl rfl rfl) ?_ | refine EK_ev (Ev_eqlI_t rfl rfl q2) ?_)
    | refine xst ?_
    | (refine xsa ?_; intro _)
    | (refine xsb ?_ ?_ <;> intro _ <;> first | (exfalso; omega) | skip)
    | refine xsc ?_
    | (refine KJ_draws (id := 3) (.op 0 (.op 1 (.op 2 (.op 3 (.op 4 (.op 5 (.op 6 (.op 7 (.op 8 (.op 9 (.ef 10 [] (.op 11 (.op 12 (.op 13 (.op 14 (.op 15 .nil)))))))))))))))) (by kernel_rfl) (by kernel_rfl) ?_)
    | (refine KJ_draws (id := 4) (.op 0 (.op 1 (.op 2 (.op 3 (.op 4 (.op 5 (.op 6 (.op 7 (.op 8 (.op 9 (.ef 10 [] (.op 11 (.op 12 (.op 13 (.op 14 (.op 15 .nil)))))))))))))))) (by kernel_rfl) (by kernel_rfl) ?_)
    | (refine KJ_draws (id := 10) (.op 0 (.op 1 (.op 2 (.op 3 (.op 4 (.op 5 (.op 6 (.op 7 (.op 8 (.op 9 (.op 10 (.op 11 (.op 12 (.op 13 (.ef 14 [] (.op 15 .nil)))))))))))))))) (by kernel_rfl) (by kernel_rfl) ?_)
    | (refine KJ_draws (id := 12) (.op 0 (.op 1 (.op 2 (.op 3 (.op 4 (.op 5 (.ef 6 [] .nil))))))) (by kernel_rfl) (by kernel_rfl) ?_)
    | (refine KJ_draws (id := 13) (.op 0 (.op 1 (.op 2 (.op 3 (.op 4 (.op 5 (.ef 6 [] .nil))))))) (by kernel_rfl) (by kernel_rfl) ?_)
    | (refine KJ_draws (id := 15) (.op 0 (.op 1 (.op 2 (.op 3 (.op 4 (.op 5 (.ef 6 [] .nil))))))) (by kernel_rfl) (by kernel_rfl) ?_)
    | (refine KJ_draws (id := 16) (.op 0 (.op 1 (.op 2 (.op 3 (.op 4 (.op 5 (.ef 6 [] .nil))))))) (by kernel_rfl) (by kernel_rfl) ?_)
    | (refine KJ_draws (id := 18) (.op 2 (.op 3 (.op 4 (.alt (.ef 0 [4, 3, 2] (.op 1 (.ef 5 [1] (.op 6 (.op 7 (.op 8 .nil)))))) (.ef 5 [] (.op 6 (.ef 0 [6] (.op 1 (.op 7 (.op 8 .nil)))))))))) (by kernel_rfl) (by kernel_rfl) ?_)
    | (refine KJ_draws (id := 19) (.op 0 (.op 1 (.op 2 (.op 3 (.op 4 (.op 5 (.op 6 (.ef 7 [] (.op 8 .nil))))))))) (by kernel_rfl) (by kernel_rfl) ?_)
    | (refine KJ_draws (id := 20) (.op 0 (.op 1 (.op 2 (.op 3 (.op 4 (.op 5 (.op 6 (.ef 7 [] (.op 8 .nil))))))))) (by kernel_rfl) (by kernel_rfl) ?_)
    | (refine KJ_draws (id := 35) (.op 0 (.op 1 (.op 2 (.op 3 (.op 4 (.op 5 (.op 7 (.op 8 (.op 9 (.op 10 (.op 11 (.op 12 (.ef 6 [12, 11, 10, 9, 8, 7] (.ef 13 [] (.op 14 (.op 15 (.op 16 (.op 17 (.op 18 (.op 19 (.op 21 (.op 22 (.op 23 (.op 24 (.op 25 (.op 26 (.op 27 (.ef 20 [27, 26, 25, 24, 23, 22, 21] (.op 28 (.op 29 (.op 30 .nil))))))))))))))))))))))))))))))) (by kernel_rfl) (by kernel_rfl) ?_)
    | (refine KJ_draws (id := 37) (.op 0 (.op 1 (.op 2 (.op 3 (.op 4 (.op 5 (.op 6 (.op 7 (.op 8 (.op 9 (.op 10 (.op 11 (.op 12 (.op 13 (.op 14 (.op 15 (.op 16 (.op 17 (.op 18 (.op 19 (.op 20 (.op 21 (.op 22 (.op 23 (.op 24 (.op 25 (.op 26 (.op 27 (.op 28 (.ef 29 [] (.op 30 .nil))))))))))))))))))))))))))))))) (by kernel_rfl) (by kernel_rfl) ?_)
    | refine FW_alt ?_ ?_
    | refine KJ_flow ?_ ?_
    | exact Rech.nil
    | fail)
      all_goals (refine is_ex ?_; exact xdn ⟨_, hx2⟩)
    have c1 := append_ct (W := W) (p := p) (g := jg) (D := D1) hE8 e17 hN sat sn life sver used t hn2 hdn ⟨s2, s5⟩ s8 (by omega) hfit ⟨s1, by omega⟩ ⟨by omega, by omega⟩ (by omega)
    have c2 := rapp_ct (W := W) (p := r) (g := qg) (D := D1) hok sat sn life sver used t ho hlog hdn s8 (by omega) hfit (by omega)
    have hkeep := apGo_keep sat sver used (pcsJ t) 0 D1 hok
    have hpl := pcsJ_length t
    have hcb : costI t.length ≤ 13 := by
      unfold costI
      split
      · omega
      split <;> omega
    have hc0 : 0 ≤ costI t.length := by
      unfold costI
      split
      · omega
      split <;> omega
    obtain ⟨cost, hcost⟩ : ∃ c : Nat, costI t.length = (c : Int) := ⟨(costI t.length).toNat, by omega⟩
    rw [hcost] at c1 c2 hfit hpl hcb
    obtain ⟨res, hres⟩ : ∃ res, res = apGo sat sver used (pcsJ t) 0 D1 := ⟨_, rfl⟩
    rw [← hres] at c1 c2 hkeep
    clear hres hcost
    obtain ⟨b, D2⟩ := res
    dsimp only at c1 c2 hkeep
    obtain ⟨k1, k2, k3⟩ := hkeep
    have hb0 : D.und.length + 14 + 13 ≤ D.und.length + 27 := by omega
    cases b with
    | true =>
      have hx2 : JOk D 14 (D2, some ⟨jg, qg, sat, sn, sver, used + cost, life, false⟩) := ⟨k1, k2.trans hn1, by dsimp only; omega, fun s h => by cases h; exact hs' _ (by omega) _⟩
      have c1' : Ct Tryd.prog W 67 [.pointer (some ⟨jg, 0, none⟩), strV t] [DiskP p D1, cellsP jg [.pointer (some ⟨p, 0, none⟩), .int .i64 sat, .int .i64 sn, .int .i64 (sver : Nat), .int .i64 (used : Nat), .int .i64 life, .bool false] 165] (fun _ : Unit => .nilIface) (fun _ => [DiskP p D2, cellsP jg [.pointer (some ⟨p, 0, none⟩), .int .i64 sat, .int .i64 sn, .int .i64 (sver : Nat), .int .i64 ((used + cost : Nat) : Int), .int .i64 life, .bool false] 165]) := c1
      have c2' : Ct Tryd.prog W 108 [.pointer (some ⟨qg, 0, none⟩), strV t] [RefP r D1, cellsP qg [.pointer (some ⟨r, 0, none⟩), .int .i64 sat, .int .i64 sn, .int .i64 (sver : Nat), .int .i64 (used : Nat), .bool false, .int .i64 life] 180] (fun _ : Unit => .int .i64 0) (fun _ => [RefP r D2, cellsP qg [.pointer (some ⟨r, 0, none⟩), .int .i64 sat, .int .i64 sn, .int .i64 (sver : Nat), .int .i64 ((used + cost : Nat) : Int), .bool false, .int .i64 life] 180]) := c2
      have c3 : Ct Tryd.prog W 35 [.nilIface] [] (fun _ : Unit => .int .i64 0) (fun _ => []) := cN 0 (by omega)
      repeat' (first 
    | (refine is_call ?_; first | (refine KJ_call xE c3 xP rfl (fun _ => ?_)) | (refine KJ_call xE c2' xP rfl (fun _ => ?_)) | (refine KJ_call xE c1' xP rfl (fun _ => ?_)) | (refine KJ_call xE cr xP rfl (fun _ => ?_)))
    | (refine ek_eql ?_; first | refine EK_ev (Ev_eqlI_t rfl rfl rfl) ?_ | refine EK_ev (Ev_eqlI_t rfl rfl q2) ?_)
    | refine xst ?_
    | (refine xsa ?_; intro _)
    | (refine xsb ?_ ?_ <;> intro _ <;> first | (exfalso; omega) | skip)
    | refine xsc ?_
    | (refine KJ_draws (id := 3) (.op 0 (.op 1 (.op 2 (.op 3 (.op 4 (.op 5 (.op 6 (.op 7 (.op 8 (.op 9 (.ef 10 [] (.op 11 (.op 12 (.op 13 (.op 14 (.op 15 .nil)))))))))))))))) (by kernel_rfl) (by kernel_rfl) ?_)
    | (refine KJ_draws (id := 4) (.op 0 (.op 1 (.op 2 (.op 3 (.op 4 (.op 5 (.op 6 (.op 7 (.op 8 (.op 9 (.ef 10 [] (.op 11 (.op 12 (.op 13 (.op 14 (.op 15 .nil)))))))))))))))) (by kernel_rfl) (by kernel_rfl) ?_)
    | (refine KJ_draws (id := 10) (.op 0 (.op 1 (.op 2 (.op 3 (.op 4 (.op 5 (.op 6 (.op 7 (.op 8 (.op 9 (.op 10 (.op 11 (.op 12 (.op 13 (.ef 14 [] (.op 15 .nil)))))))))))))))) (by kernel_rfl) (by kernel_rfl) ?_)
    | (refine KJ_draws (id := 12) (.op 0 (.op 1 (.op 2 (.op 3 (.op 4 (.op 5 (.ef 6 [] .nil))))))) (by kernel_rfl) (by kernel_rfl) ?_)
    | (refine KJ_draws (id := 13) (.op 0 (.op 1 (.op 2 (.op 3 (.op 4 (.op 5 (.ef 6 [] .nil))))))) (by kernel_rfl) (by kernel_rfl) ?_)
    | (refine KJ_draws (id := 15) (.op 0 (.op 1 (.op 2 (.op 3 (.op 4 (.op 5 (.ef 6 [] .nil))))))) (by kernel_rfl) (by kernel_rfl) ?_)
    | (refine KJ_draws (id := 16) (.op 0 (.op 1 (.op 2 (.op 3 (.op 4 (.op 5 (.ef 6 [] .nil))))))) (by kernel_rfl) (by kernel_rfl) ?_)
    | (refine KJ_draws (id := 18) (.op 2 (.op 3 (.op 4 (.alt (.ef 0 [4, 3, 2] (.op 1 (.ef 5 [1] (.op 6 (.op 7 (.op 8 .nil)))))) (.ef 5 [] (.op 6 (.ef 0 [6] (.op 1 (.op 7 (.op 8 .nil)))))))))) (by kernel_rfl) (by kernel_rfl) ?_)
    | (refine KJ_draws (id := 19) (.op 0 (.op 1 (.op 2 (.op 3 (.op 4 (.op 5 (.op 6 (.ef 7 [] (.op 8 .nil))))))))) (by kernel_rfl) (by kernel_rfl) ?_)
    | (refine KJ_draws (id := 20) (.op 0 (.op 1 (.op 2 (.op 3 (.op 4 (.op 5 (.op 6 (.ef 7 [] (.op 8 .nil))))))))) (by kernel_rfl) (by kernel_rfl) ?_)
    | (refine KJ_draws (id := 35) (.op 0 (.op 1 (.op 2 (.op 3 (.op 4 (.op 5 (.op 7 (.op 8 (.op 9 (.op 10 (.op 11 (.op 12 (.ef 6 [12, 11, 10, 9, 8, 7] (.ef 13 [] (.op 14 (.op 15 (.op 16 (.op 17 (.op 18 (.op 19 (.op 21 (.op 22 (.op 23 (.op 24 (.op 25 (.op 26 (.op 27 (.ef 20 [27, 26, 25, 24, 23, 22, 21] (.op 28 (.op 29 (.op 30 .nil))))))))))))))))))))))))))))))) (by kernel_rfl) (by kernel_rfl) ?_)
    | (refine KJ_draws (id := 37) (.op 0 (.op 1 (.op 2 (.op 3 (.op 4 (.op 5 (.op 6 (.op 7 (.op 8 (.op 9 (.op 10 (.op 11 (.op 12 (.op 13 (.op 14 (.op 15 (.op 16 (.op 17 (.op 18 (.op 19 (.op 20 (.op 21 (.op 22 (.op 23 (.op 24 (.op 25 (.op 26 (.op 27 (.op 28 (.ef 29 [] (.op 30 .nil))))))))))))))))))))))))))))))) (by kernel_rfl) (by kernel_rfl) ?_)
    | refine FW_alt ?_ ?_
    | refine KJ_flow ?_ ?_
    | exact Rech.nil
    | fail)
      all_goals (refine is_ex ?_; exact xdn ⟨_, hx2⟩)
    | false =>
      have hx2 : JOk D 14 (D2, some ⟨jg, qg, sat, sn, sver, used, life, true⟩) := ⟨k1, k2.trans hn1, by dsimp only; omega, fun s h => by cases h; exact hs' _ s8 _⟩
      have c1' : Ct Tryd.prog W 67 [.pointer (some ⟨jg, 0, none⟩), strV t] [DiskP p D1, cellsP jg [.pointer (some ⟨p, 0, none⟩), .int .i64 sat, .int .i64 sn, .int .i64 (sver : Nat), .int .i64 (used : Nat), .int .i64 life, .bool false] 165] (fun _ : Unit => errV E 12) (fun _ => [DiskP p D2, cellsP jg [.pointer (some ⟨p, 0, none⟩), .int .i64 sat, .int .i64 sn, .int .i64 (sver : Nat), .int .i64 (used : Nat), .int .i64 life, .bool true] 165]) := c1
      have c2' : Ct Tryd.prog W 108 [.pointer (some ⟨qg, 0, none⟩), strV t] [RefP r D1, cellsP qg [.pointer (some ⟨r, 0, none⟩), .int .i64 sat, .int .i64 sn, .int .i64 (sver : Nat), .int .i64 (used : Nat), .bool false, .int .i64 life] 180] (fun _ : Unit => .int .i64 12) (fun _ => [RefP r D2, cellsP qg [.pointer (some ⟨r, 0, none⟩), .int .i64 sat, .int .i64 sn, .int .i64 (sver : Nat), .int .i64 (used : Nat), .bool true, .int .i64 life] 180]) := c2
      have c3 := cN 12 (by omega)
      obtain ⟨ev, hev⟩ : ∃ ev, ev = errV E 12 := ⟨_, rfl⟩
      rw [← hev] at c1' c3
      repeat' (first 
    | (refine is_call ?_; first | (refine KJ_call xE c3 xP rfl (fun _ => ?_)) | (refine KJ_call xE c2' xP rfl (fun _ => ?_)) | (refine KJ_call xE c1' xP rfl (fun _ => ?_)) | (refine KJ_call xE cr xP rfl (fun _ => ?_)))
    | (refine ek_eql ?_; first | refine EK_ev (Ev_eqlI_t rfl rfl rfl) ?_ | refine EK_ev (Ev_eqlI_t rfl rfl q2) ?_)
    | refine xst ?_
    | (refine xsa ?_; intro _)
    | (refine xsb ?_ ?_ <;> intro _ <;> first | (exfalso; omega) | skip)
    | refine xsc ?_
    | (refine KJ_draws (id := 3) (.op 0 (.op 1 (.op 2 (.op 3 (.op 4 (.op 5 (.op 6 (.op 7 (.op 8 (.op 9 (.ef 10 [] (.op 11 (.op 12 (.op 13 (.op 14 (.op 15 .nil)))))))))))))))) (by kernel_rfl) (by kernel_rfl) ?_)
    | (refine KJ_draws (id := 4) (.op 0 (.op 1 (.op 2 (.op 3 (.op 4 (.op 5 (.op 6 (.op 7 (.op 8 (.op 9 (.ef 10 [] (.op 11 (.op 12 (.op 13 (.op 14 (.op 15 .nil)))))))))))))))) (by kernel_rfl) (by kernel_rfl) ?_)
    | (refine KJ_draws (id := 10) (.op 0 (.op 1 (.op 2 (.op 3 (.op 4 (.op 5 (.op 6 (.op 7 (.op 8 (.op 9 (.op 10 (.op 11 (.op 12 (.op 13 (.ef 14 [] (.op 15 .nil)))))))))))))))) (by kernel_rfl) (by kernel_rfl) ?_)
    | (refine KJ_draws (id := 12) (.op 0 (.op 1 (.op 2 (.op 3 (.op 4 (.op 5 (.ef 6 [] .nil))))))) (by kernel_rfl) (by kernel_rfl) ?_)
    | (refine KJ_draws (id := 13) (.op 0 (.op 1 (.op 2 (.op 3 (.op 4 (.op 5 (.ef 6 [] .nil))))))) (by kernel_rfl) (by kernel_rfl) ?_)
    | (refine KJ_draws (id := 15) (.op 0 (.op 1 (.op 2 (.op 3 (.op 4 (.op 5 (.ef 6 [] .nil))))))) (by kernel_rfl) (by kernel_rfl) ?_)
    | (refine KJ_draws (id := 16) (.op 0 (.op 1 (.op 2 (.op 3 (.op 4 (.op 5 (.ef 6 [] .nil))))))) (by kernel_rfl) (by kernel_rfl) ?_)
    | (refine KJ_draws (id := 18) (.op 2 (.op 3 (.op 4 (.alt (.ef 0 [4, 3, 2] (.op 1 (.ef 5 [1] (.op 6 (.op 7 (.op 8 .nil)))))) (.ef 5 [] (.op 6 (.ef 0 [6] (.op 1 (.op 7 (.op 8 .nil)))))))))) (by kernel_rfl) (by kernel_rfl) ?_)
    | (refine KJ_draws (id := 19) (.op 0 (.op 1 (.op 2 (.op 3 (.op 4 (.op 5 (.op 6 (.ef 7 [] (.op 8 .nil))))))))) (by kernel_rfl) (by kernel_rfl) ?_)
    | (refine KJ_draws (id := 20) (.op 0 (.op 1 (.op 2 (.op 3 (.op 4 (.op 5 (.op 6 (.ef 7 [] (.op 8 .nil))))))))) (by kernel_rfl) (by kernel_rfl) ?_)
    | (refine KJ_draws (id := 35) (.op 0 (.op 1 (.op 2 (.op 3 (.op 4 (.op 5 (.op 7 (.op 8 (.op 9 (.op 10 (.op 11 (.op 12 (.ef 6 [12, 11, 10, 9, 8, 7] (.ef 13 [] (.op 14 (.op 15 (.op 16 (.op 17 (.op 18 (.op 19 (.op 21 (.op 22 (.op 23 (.op 24 (.op 25 (.op 26 (.op 27 (.ef 20 [27, 26, 25, 24, 23, 22, 21] (.op 28 (.op 29 (.op 30 .nil))))))))))))))))))))))))))))))) (by kernel_rfl) (by kernel_rfl) ?_)
    | (refine KJ_draws (id := 37) (.op 0 (.op 1 (.op 2 (.op 3 (.op 4 (.op 5 (.op 6 (.op 7 (.op 8 (.op 9 (.op 10 (.op 11 (.op 12 (.op 13 (.op 14 (.op 15 (.op 16 (.op 17 (.op 18 (.op 19 (.op 20 (.op 21 (.op 22 (.op 23 (.op 24 (.op 25 (.op 26 (.op 27 (.op 28 (.ef 29 [] (.op 30 .nil))))))))))))))))))))))))))))))) (by kernel_rfl) (by kernel_rfl) ?_)
    | refine FW_alt ?_ ?_
    | refine KJ_flow ?_ ?_
    | exact Rech.nil
    | fail)
      all_goals (refine is_ex ?_; exact xdn ⟨_, hx2⟩)
  by_cases q3 : kind = 3
  · by_cases hdn : downB D1 life dead = true
    · have c1 := sync_down (W := W) (p := p) (g := jg) (D := D1) hE8 sat sn (sver : Nat) (used : Nat) life dead hdn
      have c2 := rsync_down (W := W) (p := r) (g := qg) (D := D1) sat sn (sver : Nat) (used : Nat) life dead hdn
      have c3 := cN 12 (by omega)
      have hx2 : JOk D 14 (D1, some ⟨jg, qg, sat, sn, sver, used, life, true⟩) := ⟨hok, hn1, by dsimp only; omega, fun s h => by cases h; exact hs' _ s8 _⟩
      obtain ⟨ev, hev⟩ : ∃ ev, ev = errV E 12 := ⟨_, rfl⟩
      rw [← hev] at c1 c3
      repeat' (first 
    | (refine is_call ?_; first | (refine KJ_call xE c3 xP rfl (fun _ => ?_)) | (refine KJ_call xE c2 xP rfl (fun _ => ?_)) | (refine KJ_call xE c1 xP rfl (fun _ => ?_)))
    | (refine ek_eql ?_; first | refine EK_ev (Ev_eqlI_t rfl rfl rfl) ?_ | refine EK_ev (Ev_eqlI_t rfl rfl q3) ?_ | refine EK_ev (Ev_eqlI_f rfl rfl q2) ?_)
    | refine xst ?_
    | (refine xsa ?_; intro _)
    | (refine xsb ?_ ?_ <;> intro _ <;> first | (exfalso; omega) | skip)
    | refine xsc ?_
    | (refine KJ_draws (id := 3) (.op 0 (.op 1 (.op 2 (.op 3 (.op 4 (.op 5 (.op 6 (.op 7 (.op 8 (.op 9 (.ef 10 [] (.op 11 (.op 12 (.op 13 (.op 14 (.op 15 .nil)))))))))))))))) (by kernel_rfl) (by kernel_rfl) ?_)
    | (refine KJ_draws (id := 4) (.op 0 (.op 1 (.op 2 (.op 3 (.op 4 (.op 5 (.op 6 (.op 7 (.op 8 (.op 9 (.ef 10 [] (.op 11 (.op 12 (.op 13 (.op 14 (.op 15 .nil)))))))))))))))) (by kernel_rfl) (by kernel_rfl) ?_)
    | (refine KJ_draws (id := 10) (.op 0 (.op 1 (.op 2 (.op 3 (.op 4 (.op 5 (.op 6 (.op 7 (.op 8 (.op 9 (.op 10 (.op 11 (.op 12 (.op 13 (.ef 14 [] (.op 15 .nil)))))))))))))))) (by kernel_rfl) (by kernel_rfl) ?_)
    | (refine KJ_draws (id := 12) (.op 0 (.op 1 (.op 2 (.op 3 (.op 4 (.op 5 (.ef 6 [] .nil))))))) (by kernel_rfl) (by kernel_rfl) ?_)
    | (refine KJ_draws (id := 13) (.op 0 (.op 1 (.op 2 (.op 3 (.op 4 (.op 5 (.ef 6 [] .nil))))))) (by kernel_rfl) (by kernel_rfl) ?_)
    | (refine KJ_draws (id := 15) (.op 0 (.op 1 (.op 2 (.op 3 (.op 4 (.op 5 (.ef 6 [] .nil))))))) (by kernel_rfl) (by kernel_rfl) ?_)
    | (refine KJ_draws (id := 16) (.op 0 (.op 1 (.op 2 (.op 3 (.op 4 (.op 5 (.ef 6 [] .nil))))))) (by kernel_rfl) (by kernel_rfl) ?_)
    | (refine KJ_draws (id := 18) (.op 2 (.op 3 (.op 4 (.alt (.ef 0 [4, 3, 2] (.op 1 (.ef 5 [1] (.op 6 (.op 7 (.op 8 .nil)))))) (.ef 5 [] (.op 6 (.ef 0 [6] (.op 1 (.op 7 (.op 8 .nil)))))))))) (by kernel_rfl) (by kernel_rfl) ?_)
    | (refine KJ_draws (id := 19) (.op 0 (.op 1 (.op 2 (.op 3 (.op 4 (.op 5 (.op 6 (.ef 7 [] (.op 8 .nil))))))))) (by kernel_rfl) (by kernel_rfl) ?_)
    | (refine KJ_draws (id := 20) (.op 0 (.op 1 (.op 2 (.op 3 (.op 4 (.op 5 (.op 6 (.ef 7 [] (.op 8 .nil))))))))) (by kernel_rfl) (by kernel_rfl) ?_)
    | (refine KJ_draws (id := 35) (.op 0 (.op 1 (.op 2 (.op 3 (.op 4 (.op 5 (.op 7 (.op 8 (.op 9 (.op 10 (.op 11 (.op 12 (.ef 6 [12, 11, 10, 9, 8, 7] (.ef 13 [] (.op 14 (.op 15 (.op 16 (.op 17 (.op 18 (.op 19 (.op 21 (.op 22 (.op 23 (.op 24 (.op 25 (.op 26 (.op 27 (.ef 20 [27, 26, 25, 24, 23, 22, 21] (.op 28 (.op 29 (.op 30 .nil))))))))))))))))))))))))))))))) (by kernel_rfl) (by kernel_rfl) ?_)
    | (refine KJ_draws (id := 37) (.op 0 (.op 1 (.op 2 (.op 3 (.op 4 (.op 5 (.op 6 (.op 7 (.op 8 (.op 9 (.op 10 (.op 11 (.op 12 (.op 13 (.op 14 (.op 15 (.op 16 (.op 17 (.op 18 (.op 19 (.op 20 (.op 21 (.op 22 (.op 23 (.op 24 (.op 25 (.op 26 (.op 27 (.op 28 (.ef 29 [] (.op 30 .nil))))))))))))))))))))))))))))))) (by kernel_rfl) (by kernel_rfl) ?_)
    | refine FW_alt ?_ ?_
    | refine KJ_flow ?_ ?_
    | exact Rech.nil
    | fail)
      all_goals (refine is_ex ?_; exact xdn ⟨_, hx2⟩)
    have hdn : downB D1 life dead = false := by simpa using hdn
    have hd0 : dead = false := by
      unfold downB at hdn
      simp only [Bool.or_eq_false_iff] at hdn
      exact hdn.2.2
    subst hd0
    have c1 := sync_ct (W := W) (p := p) (g := jg) (D := D1) hE8 sat sn (sver : Nat) (used : Nat) life hdn (by omega)
    have c2 := rsync_ct (W := W) (p := r) (g := qg) (D := D1) hok (by omega) sat sn (sver : Nat) (used : Nat) life hdn
    have c3 := cN (if D1.flushE = 0 then 0 else 12) (by split <;> omega)
    have hx2 : JOk D 14 (D1.flushD, some ⟨jg, qg, sat, sn, sver, used, life, decide (D1.flushE ≠ 0)⟩) := ⟨Dsk.flushD_ok hok, (Dsk.flushD_n _).trans hn1, by have := Dsk.flushD_und D1; dsimp only; omega, fun s h => by cases h; exact hs' _ s8 _⟩
    obtain ⟨D2, hD2⟩ : ∃ D2, D2 = D1.flushD := ⟨_, rfl⟩
    obtain ⟨b, hb⟩ : ∃ b, b = decide (D1.flushE ≠ 0) := ⟨_, rfl⟩
    obtain ⟨e, he⟩ : ∃ e, e = (if D1.flushE = 0 then 0 else 12) := ⟨_, rfl⟩
    have he2 : (if D1.flushE = 0 then (0 : Int) else 12) = ((e : Nat) : Int) := by rw [he]; split <;> rfl
    rw [← hD2, ← hb] at c1 c2 hx2
    rw [← he] at c1 c3
    rw [he2] at c2
    clear hD2 hb he he2
    obtain ⟨ev, hev⟩ : ∃ ev, ev = errV E e := ⟨_, rfl⟩
    rw [← hev] at c1 c3
    repeat' (first 
    | (refine is_call ?_; first | (refine KJ_call xE c3 xP rfl (fun _ => ?_)) | (refine KJ_call xE c2 xP rfl (fun _ => ?_)) | (refine KJ_call xE c1 xP rfl (fun _ => ?_)))
    | (refine ek_eql ?_; first | refine EK_ev (Ev_eqlI_t rfl rfl rfl) ?_ | refine EK_ev (Ev_eqlI_t rfl rfl q3) ?_ | refine EK_ev (Ev_eqlI_f rfl rfl q2) ?_)
    | refine xst ?_
    | (refine xsa ?_; intro _)
    | (refine xsb ?_ ?_ <;> intro _ <;> first | (exfalso; omega) | skip)
    | refine xsc ?_
    | (refine KJ_draws (id := 3) (.op 0 (.op 1 (.op 2 (.op 3 (.op 4 (.op 5 (.op 6 (.op 7 (.op 8 (.op 9 (.ef 10 [] (.op 11 (.op 12 (.op 13 (.op 14 (.op 15 .nil)))))))))))))))) (by kernel_rfl) (by kernel_rfl) ?_)
    | (refine KJ_draws (id := 4) (.op 0 (.op 1 (.op 2 (.op 3 (.op 4 (.op 5 (.op 6 (.op 7 (.op 8 (.op 9 (.ef 10 [] (.op 11 (.op 12 (.op 13 (.op 14 (.op 15 .nil)))))))))))))))) (by kernel_rfl) (by kernel_rfl) ?_)
    | (refine KJ_draws (id := 10) (.op 0 (.op 1 (.op 2 (.op 3 (.op 4 (.op 5 (.op 6 (.op 7 (.op 8 (.op 9 (.op 10 (.op 11 (.op 12 (.op 13 (.ef 14 [] (.op 15 .nil)))))))))))))))) (by kernel_rfl) (by kernel_rfl) ?_)
    | (refine KJ_draws (id := 12) (.op 0 (.op 1 (.op 2 (.op 3 (.op 4 (.op 5 (.ef 6 [] .nil))))))) (by kernel_rfl) (by kernel_rfl) ?_)
    | (refine KJ_draws (id := 13) (.op 0 (.op 1 (.op 2 (.op 3 (.op 4 (.op 5 (.ef 6 [] .nil))))))) (by kernel_rfl) (by kernel_rfl) ?_)
    | (refine KJ_draws (id := 15) (.op 0 (.op 1 (.op 2 (.op 3 (.op 4 (.op 5 (.ef 6 [] .nil))))))) (by kernel_rfl) (by kernel_rfl) ?_)
    | (refine KJ_draws (id := 16) (.op 0 (.op 1 (.op 2 (.op 3 (.op 4 (.op 5 (.ef 6 [] .nil))))))) (by kernel_rfl) (by kernel_rfl) ?_)
    | (refine KJ_draws (id := 18) (.op 2 (.op 3 (.op 4 (.alt (.ef 0 [4, 3, 2] (.op 1 (.ef 5 [1] (.op 6 (.op 7 (.op 8 .nil)))))) (.ef 5 [] (.op 6 (.ef 0 [6] (.op 1 (.op 7 (.op 8 .nil)))))))))) (by kernel_rfl) (by kernel_rfl) ?_)
    | (refine KJ_draws (id := 19) (.op 0 (.op 1 (.op 2 (.op 3 (.op 4 (.op 5 (.op 6 (.ef 7 [] (.op 8 .nil))))))))) (by kernel_rfl) (by kernel_rfl) ?_)
    | (refine KJ_draws (id := 20) (.op 0 (.op 1 (.op 2 (.op 3 (.op 4 (.op 5 (.op 6 (.ef 7 [] (.op 8 .nil))))))))) (by kernel_rfl) (by kernel_rfl) ?_)
    | (refine KJ_draws (id := 35) (.op 0 (.op 1 (.op 2 (.op 3 (.op 4 (.op 5 (.op 7 (.op 8 (.op 9 (.op 10 (.op 11 (.op 12 (.ef 6 [12, 11, 10, 9, 8, 7] (.ef 13 [] (.op 14 (.op 15 (.op 16 (.op 17 (.op 18 (.op 19 (.op 21 (.op 22 (.op 23 (.op 24 (.op 25 (.op 26 (.op 27 (.ef 20 [27, 26, 25, 24, 23, 22, 21] (.op 28 (.op 29 (.op 30 .nil))))))))))))))))))))))))))))))) (by kernel_rfl) (by kernel_rfl) ?_)
    | (refine KJ_draws (id := 37) (.op 0 (.op 1 (.op 2 (.op 3 (.op 4 (.op 5 (.op 6 (.op 7 (.op 8 (.op 9 (.op 10 (.op 11 (.op 12 (.op 13 (.op 14 (.op 15 (.op 16 (.op 17 (.op 18 (.op 19 (.op 20 (.op 21 (.op 22 (.op 23 (.op 24 (.op 25 (.op 26 (.op 27 (.op 28 (.ef 29 [] (.op 30 .nil))))))))))))))))))))))))))))))) (by kernel_rfl) (by kernel_rfl) ?_)
    | refine FW_alt ?_ ?_
    | refine KJ_flow ?_ ?_
    | exact Rech.nil
    | fail)
    all_goals (refine is_ex ?_; exact xdn ⟨_, hx2⟩)
  have hx2 : JOk D 14 (D1, some ⟨jg, qg, sat, sn, sver, used, life, dead⟩) := ⟨hok, hn1, by dsimp only; omega, fun s h => by cases h; exact hs' _ s8 _⟩
  by_cases q5 : kind = 5
  · have c1 := fits_ct (W := W) (p := p) (g := jg) sat sn (sver : Nat) (used : Nat) life dead osize hos ⟨s2, s5⟩ (by omega)
    have c2 := rfits_ct (W := W) (p := r) (g := qg) sat sn (sver : Nat) (used : Nat) life dead osize hos ⟨s2, s5⟩ (by omega)
    have c3 := used_ct (W := W) (p := p) (g := jg) sat sn (sver : Nat) (used : Nat) life dead
    obtain ⟨b, hb⟩ : ∃ b, b = decide (0 ≤ osize ∧ costI osize ≤ sn - ((used : Nat) : Int)) := ⟨_, rfl⟩
    rw [← hb] at c1 c2
    repeat' (first 
    | (refine is_call ?_; first | (refine KJ_call xE c3 xP rfl (fun _ => ?_)) | (refine KJ_call xE c2 xP rfl (fun _ => ?_)) | (refine KJ_call xE c1 xP rfl (fun _ => ?_)))
    | (refine ek_eql ?_; first | refine EK_ev (Ev_eqlB_t rfl rfl rfl) ?_ | refine EK_ev (Ev_eqlI_t rfl rfl rfl) ?_ | refine EK_ev (Ev_eqlI_t rfl rfl q5) ?_ | refine EK_ev (Ev_eqlI_f rfl rfl q3) ?_ | refine EK_ev (Ev_eqlI_f rfl rfl q2) ?_)
    | refine xst ?_
    | (refine xsa ?_; intro _)
    | (refine xsb ?_ ?_ <;> intro _ <;> first | (exfalso; omega) | skip)
    | refine xsc ?_
    | (refine KJ_draws (id := 3) (.op 0 (.op 1 (.op 2 (.op 3 (.op 4 (.op 5 (.op 6 (.op 7 (.op 8 (.op 9 (.ef 10 [] (.op 11 (.op 12 (.op 13 (.op 14 (.op 15 .nil)))))))))))))))) (by kernel_rfl) (by kernel_rfl) ?_)
    | (refine KJ_draws (id := 4) (.op 0 (.op 1 (.op 2 (.op 3 (.op 4 (.op 5 (.op 6 (.op 7 (.op 8 (.op 9 (.ef 10 [] (.op 11 (.op 12 (.op 13 (.op 14 (.op 15 .nil)))))))))))))))) (by kernel_rfl) (by kernel_rfl) ?_)
    | (refine KJ_draws (id := 10) (.op 0 (.op 1 (.op 2 (.op 3 (.op 4 (.op 5 (.op 6 (.op 7 (.op 8 (.op 9 (.op 10 (.op 11 (.op 12 (.op 13 (.ef 14 [] (.op 15 .nil)))))))))))))))) (by kernel_rfl) (by kernel_rfl) ?_)
    | (refine KJ_draws (id := 12) (.op 0 (.op 1 (.op 2 (.op 3 (.op 4 (.op 5 (.ef 6 [] .nil))))))) (by kernel_rfl) (by kernel_rfl) ?_)
    | (refine KJ_draws (id := 13) (.op 0 (.op 1 (.op 2 (.op 3 (.op 4 (.op 5 (.ef 6 [] .nil))))))) (by kernel_rfl) (by kernel_rfl) ?_)
    | (refine KJ_draws (id := 15) (.op 0 (.op 1 (.op 2 (.op 3 (.op 4 (.op 5 (.ef 6 [] .nil))))))) (by kernel_rfl) (by kernel_rfl) ?_)
    | (refine KJ_draws (id := 16) (.op 0 (.op 1 (.op 2 (.op 3 (.op 4 (.op 5 (.ef 6 [] .nil))))))) (by kernel_rfl) (by kernel_rfl) ?_)
    | (refine KJ_draws (id := 18) (.op 2 (.op 3 (.op 4 (.alt (.ef 0 [4, 3, 2] (.op 1 (.ef 5 [1] (.op 6 (.op 7 (.op 8 .nil)))))) (.ef 5 [] (.op 6 (.ef 0 [6] (.op 1 (.op 7 (.op 8 .nil)))))))))) (by kernel_rfl) (by kernel_rfl) ?_)
    | (refine KJ_draws (id := 19) (.op 0 (.op 1 (.op 2 (.op 3 (.op 4 (.op 5 (.op 6 (.ef 7 [] (.op 8 .nil))))))))) (by kernel_rfl) (by kernel_rfl) ?_)
    | (refine KJ_draws (id := 20) (.op 0 (.op 1 (.op 2 (.op 3 (.op 4 (.op 5 (.op 6 (.ef 7 [] (.op 8 .nil))))))))) (by kernel_rfl) (by kernel_rfl) ?_)
    | (refine KJ_draws (id := 35) (.op 0 (.op 1 (.op 2 (.op 3 (.op 4 (.op 5 (.op 7 (.op 8 (.op 9 (.op 10 (.op 11 (.op 12 (.ef 6 [12, 11, 10, 9, 8, 7] (.ef 13 [] (.op 14 (.op 15 (.op 16 (.op 17 (.op 18 (.op 19 (.op 21 (.op 22 (.op 23 (.op 24 (.op 25 (.op 26 (.op 27 (.ef 20 [27, 26, 25, 24, 23, 22, 21] (.op 28 (.op 29 (.op 30 .nil))))))))))))))))))))))))))))))) (by kernel_rfl) (by kernel_rfl) ?_)
    | (refine KJ_draws (id := 37) (.op 0 (.op 1 (.op 2 (.op 3 (.op 4 (.op 5 (.op 6 (.op 7 (.op 8 (.op 9 (.op 10 (.op 11 (.op 12 (.op 13 (.op 14 (.op 15 (.op 16 (.op 17 (.op 18 (.op 19 (.op 20 (.op 21 (.op 22 (.op 23 (.op 24 (.op 25 (.op 26 (.op 27 (.op 28 (.ef 29 [] (.op 30 .nil))))))))))))))))))))))))))))))) (by kernel_rfl) (by kernel_rfl) ?_)
    | refine FW_alt ?_ ?_
    | refine KJ_flow ?_ ?_
    | exact Rech.nil
    | fail)
    all_goals (refine is_ex ?_; exact xdn ⟨_, hx2⟩)
  by_cases q9 : kind = 9
  · have c1 := replayed_all (W := W) (p := p) (r := r) (D := D1) hE hN hg hok (by omega) sat sn (sver : Nat)
    repeat' (first 
    | (refine is_call ?_; refine KJ_call xE c1 xP rfl (fun _ => ?_))
    | (refine ek_eql ?_; first | refine EK_ev (Ev_eqlI_t rfl rfl rfl) ?_ | refine EK_ev (Ev_eqlI_t rfl rfl q9) ?_ | refine EK_ev (Ev_eqlI_f rfl rfl q5) ?_ | refine EK_ev (Ev_eqlI_f rfl rfl q3) ?_ | refine EK_ev (Ev_eqlI_f rfl rfl q2) ?_)
    | refine xst ?_
    | (refine xsa ?_; intro _)
    | (refine xsb ?_ ?_ <;> intro _ <;> first | (exfalso; omega) | skip)
    | refine xsc ?_
    | (refine KJ_draws (id := 3) (.op 0 (.op 1 (.op 2 (.op 3 (.op 4 (.op 5 (.op 6 (.op 7 (.op 8 (.op 9 (.ef 10 [] (.op 11 (.op 12 (.op 13 (.op 14 (.op 15 .nil)))))))))))))))) (by kernel_rfl) (by kernel_rfl) ?_)
    | (refine KJ_draws (id := 4) (.op 0 (.op 1 (.op 2 (.op 3 (.op 4 (.op 5 (.op 6 (.op 7 (.op 8 (.op 9 (.ef 10 [] (.op 11 (.op 12 (.op 13 (.op 14 (.op 15 .nil)))))))))))))))) (by kernel_rfl) (by kernel_rfl) ?_)
    | (refine KJ_draws (id := 10) (.op 0 (.op 1 (.op 2 (.op 3 (.op 4 (.op 5 (.op 6 (.op 7 (.op 8 (.op 9 (.op 10 (.op 11 (.op 12 (.op 13 (.ef 14 [] (.op 15 .nil)))))))))))))))) (by kernel_rfl) (by kernel_rfl) ?_)
    | (refine KJ_draws (id := 12) (.op 0 (.op 1 (.op 2 (.op 3 (.op 4 (.op 5 (.ef 6 [] .nil))))))) (by kernel_rfl) (by kernel_rfl) ?_)
    | (refine KJ_draws (id := 13) (.op 0 (.op 1 (.op 2 (.op 3 (.op 4 (.op 5 (.ef 6 [] .nil))))))) (by kernel_rfl) (by kernel_rfl) ?_)
    | (refine KJ_draws (id := 15) (.op 0 (.op 1 (.op 2 (.op 3 (.op 4 (.op 5 (.ef 6 [] .nil))))))) (by kernel_rfl) (by kernel_rfl) ?_)
    | (refine KJ_draws (id := 16) (.op 0 (.op 1 (.op 2 (.op 3 (.op 4 (.op 5 (.ef 6 [] .nil))))))) (by kernel_rfl) (by kernel_rfl) ?_)
    | (refine KJ_draws (id := 18) (.op 2 (.op 3 (.op 4 (.alt (.ef 0 [4, 3, 2] (.op 1 (.ef 5 [1] (.op 6 (.op 7 (.op 8 .nil)))))) (.ef 5 [] (.op 6 (.ef 0 [6] (.op 1 (.op 7 (.op 8 .nil)))))))))) (by kernel_rfl) (by kernel_rfl) ?_)
    | (refine KJ_draws (id := 19) (.op 0 (.op 1 (.op 2 (.op 3 (.op 4 (.op 5 (.op 6 (.ef 7 [] (.op 8 .nil))))))))) (by kernel_rfl) (by kernel_rfl) ?_)
    | (refine KJ_draws (id := 20) (.op 0 (.op 1 (.op 2 (.op 3 (.op 4 (.op 5 (.op 6 (.ef 7 [] (.op 8 .nil))))))))) (by kernel_rfl) (by kernel_rfl) ?_)
    | (refine KJ_draws (id := 35) (.op 0 (.op 1 (.op 2 (.op 3 (.op 4 (.op 5 (.op 7 (.op 8 (.op 9 (.op 10 (.op 11 (.op 12 (.ef 6 [12, 11, 10, 9, 8, 7] (.ef 13 [] (.op 14 (.op 15 (.op 16 (.op 17 (.op 18 (.op 19 (.op 21 (.op 22 (.op 23 (.op 24 (.op 25 (.op 26 (.op 27 (.ef 20 [27, 26, 25, 24, 23, 22, 21] (.op 28 (.op 29 (.op 30 .nil))))))))))))))))))))))))))))))) (by kernel_rfl) (by kernel_rfl) ?_)
    | (refine KJ_draws (id := 37) (.op 0 (.op 1 (.op 2 (.op 3 (.op 4 (.op 5 (.op 6 (.op 7 (.op 8 (.op 9 (.op 10 (.op 11 (.op 12 (.op 13 (.op 14 (.op 15 (.op 16 (.op 17 (.op 18 (.op 19 (.op 20 (.op 21 (.op 22 (.op 23 (.op 24 (.op 25 (.op 26 (.op 27 (.op 28 (.ef 29 [] (.op 30 .nil))))))))))))))))))))))))))))))) (by kernel_rfl) (by kernel_rfl) ?_)
    | refine FW_alt ?_ ?_
    | refine KJ_flow ?_ ?_
    | exact Rech.nil
    | fail)
    all_goals (refine is_ex ?_; exact xdn ⟨_, hx2⟩)
  repeat' (first 
    | (refine ek_eql ?_; first | refine EK_ev (Ev_eqlI_f rfl rfl q9) ?_ | refine EK_ev (Ev_eqlI_f rfl rfl q5) ?_ | refine EK_ev (Ev_eqlI_f rfl rfl q3) ?_ | refine EK_ev (Ev_eqlI_f rfl rfl q2) ?_)
    | refine xst ?_
    | (refine xsa ?_; intro _)
    | (refine xsb ?_ ?_ <;> intro _ <;> first | (exfalso; omega) | skip)
    | refine xsc ?_
    | (refine KJ_draws (id := 3) (.op 0 (.op 1 (.op 2 (.op 3 (.op 4 (.op 5 (.op 6 (.op 7 (.op 8 (.op 9 (.ef 10 [] (.op 11 (.op 12 (.op 13 (.op 14 (.op 15 .nil)))))))))))))))) (by kernel_rfl) (by kernel_rfl) ?_)
    | (refine KJ_draws (id := 4) (.op 0 (.op 1 (.op 2 (.op 3 (.op 4 (.op 5 (.op 6 (.op 7 (.op 8 (.op 9 (.ef 10 [] (.op 11 (.op 12 (.op 13 (.op 14 (.op 15 .nil)))))))))))))))) (by kernel_rfl) (by kernel_rfl) ?_)
    | (refine KJ_draws (id := 10) (.op 0 (.op 1 (.op 2 (.op 3 (.op 4 (.op 5 (.op 6 (.op 7 (.op 8 (.op 9 (.op 10 (.op 11 (.op 12 (.op 13 (.ef 14 [] (.op 15 .nil)))))))))))))))) (by kernel_rfl) (by kernel_rfl) ?_)
    | (refine KJ_draws (id := 12) (.op 0 (.op 1 (.op 2 (.op 3 (.op 4 (.op 5 (.ef 6 [] .nil))))))) (by kernel_rfl) (by kernel_rfl) ?_)
    | (refine KJ_draws (id := 13) (.op 0 (.op 1 (.op 2 (.op 3 (.op 4 (.op 5 (.ef 6 [] .nil))))))) (by kernel_rfl) (by kernel_rfl) ?_)
    | (refine KJ_draws (id := 15) (.op 0 (.op 1 (.op 2 (.op 3 (.op 4 (.op 5 (.ef 6 [] .nil))))))) (by kernel_rfl) (by kernel_rfl) ?_)
    | (refine KJ_draws (id := 16) (.op 0 (.op 1 (.op 2 (.op 3 (.op 4 (.op 5 (.ef 6 [] .nil))))))) (by kernel_rfl) (by kernel_rfl) ?_)
    | (refine KJ_draws (id := 18) (.op 2 (.op 3 (.op 4 (.alt (.ef 0 [4, 3, 2] (.op 1 (.ef 5 [1] (.op 6 (.op 7 (.op 8 .nil)))))) (.ef 5 [] (.op 6 (.ef 0 [6] (.op 1 (.op 7 (.op 8 .nil)))))))))) (by kernel_rfl) (by kernel_rfl) ?_)
    | (refine KJ_draws (id := 19) (.op 0 (.op 1 (.op 2 (.op 3 (.op 4 (.op 5 (.op 6 (.ef 7 [] (.op 8 .nil))))))))) (by kernel_rfl) (by kernel_rfl) ?_)
    | (refine KJ_draws (id := 20) (.op 0 (.op 1 (.op 2 (.op 3 (.op 4 (.op 5 (.op 6 (.ef 7 [] (.op 8 .nil))))))))) (by kernel_rfl) (by kernel_rfl) ?_)
    | (refine KJ_draws (id := 35) (.op 0 (.op 1 (.op 2 (.op 3 (.op 4 (.op 5 (.op 7 (.op 8 (.op 9 (.op 10 (.op 11 (.op 12 (.ef 6 [12, 11, 10, 9, 8, 7] (.ef 13 [] (.op 14 (.op 15 (.op 16 (.op 17 (.op 18 (.op 19 (.op 21 (.op 22 (.op 23 (.op 24 (.op 25 (.op 26 (.op 27 (.ef 20 [27, 26, 25, 24, 23, 22, 21] (.op 28 (.op 29 (.op 30 .nil))))))))))))))))))))))))))))))) (by kernel_rfl) (by kernel_rfl) ?_)
    | (refine KJ_draws (id := 37) (.op 0 (.op 1 (.op 2 (.op 3 (.op 4 (.op 5 (.op 6 (.op 7 (.op 8 (.op 9 (.op 10 (.op 11 (.op 12 (.op 13 (.op 14 (.op 15 (.op 16 (.op 17 (.op 18 (.op 19 (.op 20 (.op 21 (.op 22 (.op 23 (.op 24 (.op 25 (.op 26 (.op 27 (.op 28 (.ef 29 [] (.op 30 .nil))))))))))))))))))))))))))))))) (by kernel_rfl) (by kernel_rfl) ?_)
    | refine FW_alt ?_ ?_
    | refine KJ_flow ?_ ?_
    | exact Rech.nil
    | fail)
  all_goals (refine is_ex ?_; exact xdn ⟨_, hx2⟩)
end
end Go.Proofs.YteklldbfdmaafaaDoor
/-
  The arguments of the laws of chapter 6, opened: a fate, a script; with what the bound gives of their sizes.
-/
namespace Go.Proofs.YteklldbfdmaafaaDoor
open Go Go.RowKit Go.ChangeShapes Go.WideShapes Go.Deep
section
variable {H : Type} {enc : TypeId × Value → H} {W : World} {base : Nat} {held : Bool}
theorem cell_spot {a : Addr} {v : Value} (h : W.cell? a = some v) : a.spot = none ∧ a.block < W.heap.size := by
  unfold World.cell? at h
  split at h
  · rename_i c t fr hh
    refine ⟨?_, (Array.getElem?_eq_some_iff.1 hh).1⟩
    split at h
    · cases h
    · rename_i hs
      cases hq : a.spot with
      | none => rfl
      | some _ => rw [hq] at hs; simp at hs
  · cases h
theorem spot_add {a : Addr} {i : Nat} (hi : i = 0) {v : Value} (h : W.cell? (a.add i) = some v) : a.spot = none ∧ a.block < W.heap.size := by
  subst hi
  have h1 := cell_spot h
  simpa [Addr.add] using h1
instance : Inhabited POp := ⟨⟨0, 0, [], 0, [], 0, 0⟩⟩
theorem add_is {a : Addr} (h : a.spot = none) (i : Nat) : a.add i = ⟨a.block, a.off + i, none⟩ := by
  cases a; simp at h; subst h
  unfold Addr.add
  simp
theorem addr_is {a : Addr} (h : a.spot = none) : a = ⟨a.block, a.off, none⟩ := by
  cases a; simp at h; subst h; rfl
theorem cellsBool : Tryd.prog.cellsOf 4 = 1 := by kernel_rfl
theorem cellsFate : Tryd.prog.cellsOf 25 = 3 := by kernel_rfl
theorem cellsInt : Tryd.prog.cellsOf 3 = 1 := by kernel_rfl
theorem cellsBools : Tryd.prog.cellsOf 23 = 1 := by kernel_rfl
/-- a slice of bools -/
theorem bools_of {n : Nat} {cs : List Value} {x : DataW H × List MemPlace} (h : DataW.trod enc Tryd.prog W base (fun _ => true) held n 23 cs = some x) :
    ∃ kv l, cs = [kv] ∧ BoolsAt W kv l ∧ l.length ≤ Rows.uptoBulk x.1 := by
  rcases open_bools Tryd.underlying23 Tryd.underlying4 cellsBool h with ⟨rfl, rfl⟩ | ⟨a, len, cap, B, rfl, _, hl, hm, rfl, hB⟩
  · exact ⟨_, [], rfl, ⟨none, 0, rfl, fun h => absurd rfl h, fun _ => rfl, by simp, by unfold maxLen; omega⟩, by simp⟩
  · refine ⟨_, (List.range len).map B, rfl, ⟨some a, cap, by simp, fun hne => ?_, fun h => (by cases h), by simpa using hl, hm⟩, ?_⟩
    · have h0 : 0 < len := by
        rcases Nat.eq_zero_or_pos len with h | h
        · subst h; simp at hne
        · exact h
      have hc := hB 0 (by omega)
      obtain ⟨hs, hb⟩ := spot_add rfl hc
      refine ⟨a.block, a.off, by rw [← addr_is hs], hb, fun j v hj => ?_⟩
      simp only [List.map_map, List.getElem?_map, Option.map_eq_some_iff] at hj
      obtain ⟨i, hi, rfl⟩ := hj
      have hij : i = j ∧ j < len := by
        rw [List.getElem?_eq_some_iff] at hi
        obtain ⟨h1, h2⟩ := hi
        simp at h1 h2
        exact ⟨h2.symm, h1⟩
      obtain ⟨rfl, hij⟩ := hij
      have := hB i (by omega)
      rw [add_is hs] at this
      exact this
    · have := slice_le (H := H) ((List.range len).map fun i => .lit (.bool (B i))) ((List.range (cap - len)).map fun j => .lit (.bool (B (len + j))))
      simp only [boolRow]
      simp only [List.length_map, List.length_range] at this ⊢
      omega

theorem field_of {P : Program} {fs : Array Field} {m : Nat} {cs : List Value} {xs : List (DataW H × List MemPlace)}
    (hf : ∀ (i : Nat) (f : Field), fs[i]? = some f → DataW.trod enc P W base (fun _ => true) held m f.type ((cs.drop f.offset).take (P.cellsOf f.type)) = xs[i]?)
    (i : Nat) {nm : String} {t o : Nat} {em : Bool} {tg pk : String} {bo : Nat} (h : fs[i]? = some ⟨nm, t, o, em, tg, pk, bo⟩) {k : Nat} (hk : P.cellsOf t = k) :
    DataW.trod enc P W base (fun _ => true) held m t ((cs.drop o).take k) = xs[i]? := by
  subst hk
  exact hf i _ h
set_option maxRecDepth 100000 in
/-- a fate's three cells -/
theorem fate_cells {n : Nat} {cs : List Value} {x : DataW H × List MemPlace} (h : DataW.trod enc Tryd.prog W base (fun _ => true) held n 25 cs = some x) :
    ∃ kv kept torn bytes, cs = [kv, .int .i64 torn, .int .i64 bytes] ∧ BoolsAt W kv kept ∧ kept.length ≤ Rows.uptoBulk x.1 ∧ (Lit.int .i64 torn).wf = true ∧ (Lit.int .i64 bytes).wf = true := by
  obtain ⟨xs, m, _, rfl, hl, hxl, hf⟩ := DataW.trod_struct Tryd.underlying25 h
  rw [cellsFate] at hl
  match cs, hl with
  | [c0, c1, c2], _ =>
    match xs, hxl with
    | [y0, y1, y2], _ =>
      have h0 : DataW.trod enc Tryd.prog W base (fun _ => true) held m 23 [c0] = some y0 := field_of hf 0 rfl cellsBools
      have h1 : DataW.trod enc Tryd.prog W base (fun _ => true) held m 3 [c1] = some y1 := field_of hf 1 rfl cellsInt
      have h2 : DataW.trod enc Tryd.prog W base (fun _ => true) held m 3 [c2] = some y2 := field_of hf 2 rfl cellsInt
      obtain ⟨kv, l, e0, hb, hbl⟩ := bools_of h0
      obtain ⟨n1, e1, _, w1⟩ := DataW.trod_int Tryd.underlying3 h1
      obtain ⟨n2, e2, _, w2⟩ := DataW.trod_int Tryd.underlying3 h2
      simp only [List.cons.injEq, and_true] at e0 e1 e2
      subst e0; subst e1; subst e2
      refine ⟨_, l, n1, n2, rfl, hb, ?_, w1, w2⟩
      have a1 := agg_parts (H := H) ([y0, y1, y2].map (·.1))
      have a2 := part_le (H := H) (d := y0.1) (l := [y0, y1, y2].map (·.1)) (by simp)
      show l.length ≤ Rows.uptoBulk (.agg ([y0, y1, y2].map (·.1)))
      omega
end
end Go.Proofs.YteklldbfdmaafaaDoor
/-
  SlotsApart (chapter 8): slots at two places do not see each other; no other sector is touched.
-/
namespace Go.Proofs.YteklldbfdmaafaaDoor
open Go Go.RowKit
/-- what stands behind the first values -/
structure ApSt (c0 c1 : Nat) (l0 l1 : List UInt8) (m : Nat) (D : Dsk) : Prop where
  rest : Rest D
  n : D.n = 6
  h0 : Holds D 1 c0 l0
  h1 : Holds D 3 c1 l1
  z0 : D.sec 0 = zs 256
  z5 : D.sec 5 = zs 256
  m0 : c0 ≤ m
  m1 : c1 ≤ m
theorem ApSt.start : ApSt 0 0 [] [] 0 (Dsk.blank 6) :=
  ⟨blank_rest 6 (by omega) (by omega), rfl, Holds.blank 6 1 (by omega), Holds.blank 6 3 (by omega), blank_sec _ _ (by omega), blank_sec _ _ (by omega), Nat.le_refl _, Nat.le_refl _⟩
theorem ApSt.step {c0 c1 m : Nat} {l0 l1 : List UInt8} {D : Dsk} (h : ApSt c0 c1 l0 l1 m D) : ApSt c0 c1 l0 l1 (m + 1) D :=
  ⟨h.rest, h.n, h.h0, h.h1, h.z0, h.z5, by have := h.m0; omega, by have := h.m1; omega⟩
end Go.Proofs.YteklldbfdmaafaaDoor
/-
  Arguments opened: slices of texts, of bools, of structs; with what the bound gives of their sizes.
-/
namespace Go.Proofs.YteklldbfdmaafaaDoor
open Go Go.RowKit Go.ChangeShapes Go.WideShapes Go.Deep
section
variable {H : Type} {enc : TypeId × Value → H} {W : World} {base : Nat} {held : Bool}
/-- A slice whose elements can be opened. -/
theorem elems_of {α : Type} [Inhabited α] {T eT k : Nat} (hu : Tryd.prog.underlying T = some (.slice eT)) (hk : Tryd.prog.cellsOf eT = k) (hk0 : 0 < k) (Q : α → List Value → DataW H → Prop)
    (hQ : ∀ n cs x, DataW.trod enc Tryd.prog W base (fun _ => true) held n eT cs = some x → ∃ a, Q a cs x.1) {n : Nat} {cs : List Value} {x : DataW H × List MemPlace} (h : DataW.trod enc Tryd.prog W base (fun _ => true) held n T cs = some x) :
    ∃ (l : List α) (ad : Option Addr) (c : Nat), cs = [.slice ad l.length c] ∧ l.length ≤ Rows.uptoBulk x.1 ∧ l.length ≤ c ∧ c ≤ maxLen ∧ (ad = none → c = 0) ∧ (l ≠ [] → ∃ b o, ad = some ⟨b, o, none⟩ ∧ b < W.heap.size ∧
      ∀ i a, l[i]? = some a → ∃ cs D, Q a cs D ∧ Rows.uptoBulk D ≤ Rows.uptoBulk x.1 ∧ cs.length = k ∧ W.rangeAt b (o + k * i) cs) := by
  rcases open_slice hu h with ⟨rfl, rfl⟩ | ⟨a, len, cap, m, n, D, Pl, rfl, _, hl, hm, hmm, rfl, hi⟩
  · exact ⟨[], none, 0, rfl, by simp, by simp, by unfold maxLen; omega, fun _ => rfl, fun h => absurd rfl h⟩
  · simp only [if_true] at hmm
    have hmm' := hmm.symm
    subst hmm'
    obtain ⟨f, hfo⟩ := choose_lt (α := α) (n := len) (p := fun i al => ∃ cs, Q al cs (D i) ∧ cs.length = k ∧ ∀ j v, cs[j]? = some v → W.cell? (a.add (i * k + j)) = some v) (fun i hil => by
      obtain ⟨cs', hc, ht⟩ := hi i (by omega)
      rw [hk] at hc
      obtain ⟨_, hcl, hat⟩ := World.cells?_some hc
      obtain ⟨al, hq⟩ := hQ _ _ _ ht
      refine ⟨al, cs', hq, hcl, fun j v hj => ?_⟩
      have hjl : j < k := by
        have := (List.getElem?_eq_some_iff.1 hj).1
        omega
      rw [← Go.Deep.add_add, hat j hjl, hj])
    have hbulk : ∀ i, i < len → Rows.uptoBulk (D i) ≤ Rows.uptoBulk (DataW.slice ((List.range len).map D) ((List.range (cap - len)).map fun j => D (len + j))) := fun i hil => by
      have h1 := part_le (H := H) (d := D i) (l := (List.range len).map D) (List.mem_map.2 ⟨i, List.mem_range.2 hil, rfl⟩)
      have h2 := slice_elems (H := H) ((List.range len).map D) ((List.range (cap - len)).map fun j => D (len + j))
      omega
    refine ⟨(List.range len).map f, some a, cap, by simp, ?_, by simpa using hl, hm, fun q => (by cases q), fun hne => ?_⟩
    · have := slice_le (H := H) ((List.range len).map D) ((List.range (cap - len)).map fun j => D (len + j))
      simp only [List.length_map, List.length_range] at this ⊢
      omega
    · have h0 : 0 < len := by
        rcases Nat.eq_zero_or_pos len with h | h
        · subst h; simp at hne
        · exact h
      obtain ⟨cs0, _, hl0, hc0⟩ := hfo 0 h0
      obtain ⟨v0, hv0⟩ : ∃ v, cs0[0]? = some v := ⟨_, List.getElem?_eq_getElem (by omega)⟩
      obtain ⟨hs, hb⟩ := spot_add (by simp) (hc0 0 v0 hv0)
      have ha : a = ⟨a.block, a.off, none⟩ := addr_is hs
      refine ⟨a.block, a.off, by rw [← ha], hb, fun i al hal => ?_⟩
      simp only [List.getElem?_map, Option.map_eq_some_iff] at hal
      obtain ⟨i', hi', rfl⟩ := hal
      have hij : i' = i ∧ i < len := by
        rw [List.getElem?_eq_some_iff] at hi'
        obtain ⟨h1, h2⟩ := hi'
        simp at h1 h2
        exact ⟨h2.symm, h1⟩
      obtain ⟨rfl, hij⟩ := hij
      obtain ⟨cs', hq, hcl, hc⟩ := hfo i' hij
      refine ⟨cs', D i', hq, hbulk i' hij, hcl, fun j v hj => ?_⟩
      have := hc j v hj
      rw [add_is hs] at this
      rw [Nat.mul_comm k i', Nat.add_assoc]
      exact this
set_option maxRecDepth 100000 in
/-- a parameter's cells are the value's own -/
theorem param_slice {r : Reach} {b0 T eT : Nat} {v : Value} {d : DataW H} {p : List MemPlace} (hu : Tryd.prog.underlying T = some (.slice eT)) (hv : Value.okWide Tryd.prog W r b0 T v) (h : DataW.Trod enc Tryd.prog W base (fun _ => true) held T v d p) :
    ∃ n, DataW.trod enc Tryd.prog W base (fun _ => true) held n T [v] = some (d, p) := by
  obtain ⟨a', len', cap', rfl⟩ := okWide_slice hu hv
  obtain ⟨fuel, hf⟩ := h
  exact ⟨fuel, hf⟩
/-- a step of SlotsKeeps -/
structure KStep where
  val : List UInt8
  arm : Int
  crash : Bool
  kept : List Bool
  torn : Int
  bytes : Int
instance : Inhabited KStep := ⟨⟨[], 0, false, [], 0, 0⟩⟩
def KStep.cells (o : KStep) (kv : Value) : List Value := [strV o.val, .int .i64 o.arm, .bool o.crash, kv, .int .i64 o.torn, .int .i64 o.bytes]
end
end Go.Proofs.YteklldbfdmaafaaDoor
/-
  Arguments of chapter 10 opened: lives.
-/
namespace Go.Proofs.YteklldbfdmaafaaDoor
open Go Go.RowKit Go.ChangeShapes Go.WideShapes Go.Deep
/-- a Life -/
structure LLife where
  more : Int
  sizes : List Int
  syncs : List Bool
  arm : Int
  kept : List Bool
  torn : Int
  fb : Int
instance : Inhabited LLife := ⟨⟨0, [], [], 0, [], 0, 0⟩⟩
def LLife.cells (o : LLife) (sv yv kv : Value) : List Value := [.int .i64 o.more, sv, yv, .int .i64 o.arm, kv, .int .i64 o.torn, .int .i64 o.fb]
end Go.Proofs.YteklldbfdmaafaaDoor
/-
  JournalPlays (chapter 10): the script opened; the law.
-/
namespace Go.Proofs.YteklldbfdmaafaaDoor
open Go Go.RowKit Go.ChangeShapes Go.WideShapes Go.Deep
def JOpsAt (w : World) (v : Value) (l : List JOp) : Prop :=
  ∃ a c, v = .slice a l.length c ∧ (l ≠ [] → ∃ b o, a = some ⟨b, o, none⟩ ∧ b < w.heap.size ∧ ∀ k op, l[k]? = some op → ∃ kv, w.rangeAt b (o + 9 * k) (op.cells kv) ∧ BoolsAt w kv op.kept)
instance : Inhabited JOp := ⟨⟨0, 0, 0, 0, 0, 0, [], 0, 0⟩⟩
theorem cellsJOp : Tryd.prog.cellsOf 127 = 9 := by kernel_rfl
section
variable {H : Type} {enc : TypeId × Value → H} {W : World} {base : Nat} {held : Bool}
set_option maxRecDepth 100000 in
theorem script10_of {r : Reach} {b0 : Nat} {v : Value} {d : DataW H} {p : List MemPlace} (hv : Value.okWide Tryd.prog W r b0 121 v) (h : DataW.Trod enc Tryd.prog W base (fun _ => true) held 121 v d p) :
    ∃ l : List JOp, JOpsAt W v l ∧ l.length ≤ Rows.uptoBulk d ∧ ∀ o ∈ l, (Lit.int .i64 o.n).wf = true ∧ (Lit.int .i64 o.size).wf = true := by
  obtain ⟨n, hf⟩ := param_slice Tryd.underlying121 hv h
  obtain ⟨l, ad, c, e, hb, hl1, hl2, -, hx⟩ := elems_of (α := JOp) Tryd.underlying121 cellsJOp (by omega) (fun s cs D => ∃ kv, cs = s.cells kv ∧ BoolsAt W kv s.kept ∧ (Lit.int .i64 s.n).wf = true ∧ (Lit.int .i64 s.size).wf = true) (fun n cs x hx => by
    obtain ⟨xs, m, _, rfl, hl, hxl, hf⟩ := DataW.trod_struct Tryd.underlying127 hx
    rw [cellsJOp] at hl
    match cs, hl with
    | [c0, c1, c2, c3, c4, c5, c6, c7, c8], _ =>
      match xs, hxl with
      | [y0, y1, y2, y3, y4, y5, y6], _ =>
        have h0 : DataW.trod enc Tryd.prog W base (fun _ => true) held m 3 [c0] = some y0 := field_of hf 0 rfl cellsInt
        have h1 : DataW.trod enc Tryd.prog W base (fun _ => true) held m 3 [c1] = some y1 := field_of hf 1 rfl cellsInt
        have h2 : DataW.trod enc Tryd.prog W base (fun _ => true) held m 3 [c2] = some y2 := field_of hf 2 rfl cellsInt
        have h3 : DataW.trod enc Tryd.prog W base (fun _ => true) held m 3 [c3] = some y3 := field_of hf 3 rfl cellsInt
        have h4 : DataW.trod enc Tryd.prog W base (fun _ => true) held m 3 [c4] = some y4 := field_of hf 4 rfl cellsInt
        have h5 : DataW.trod enc Tryd.prog W base (fun _ => true) held m 3 [c5] = some y5 := field_of hf 5 rfl cellsInt
        have h6 : DataW.trod enc Tryd.prog W base (fun _ => true) held m 25 [c6, c7, c8] = some y6 := field_of hf 6 rfl cellsFate
        obtain ⟨n0, e0, _, w0⟩ := DataW.trod_int Tryd.underlying3 h0
        obtain ⟨n1, e1, _, w1⟩ := DataW.trod_int Tryd.underlying3 h1
        obtain ⟨n2, e2, _, w2⟩ := DataW.trod_int Tryd.underlying3 h2
        obtain ⟨n3, e3, _, w3⟩ := DataW.trod_int Tryd.underlying3 h3
        obtain ⟨n4, e4, _, w4⟩ := DataW.trod_int Tryd.underlying3 h4
        obtain ⟨n5, e5, _, w5⟩ := DataW.trod_int Tryd.underlying3 h5
        obtain ⟨kv, kept, torn, bytes, e6, hb, hbl, w7, w8⟩ := fate_cells h6
        simp only [List.cons.injEq, and_true] at e0 e1 e2 e3 e4 e5 e6
        obtain ⟨rfl, rfl, rfl⟩ := e6
        subst e0; subst e1; subst e2; subst e3; subst e4; subst e5
        exact ⟨⟨n0, n1, n2, n3, n4, n5, kept, torn, bytes⟩, _, rfl, hb, w2, w4⟩) hf
  simp only [List.cons.injEq, and_true] at e
  refine ⟨l, ⟨ad, c, e, fun hne => ?_⟩, hb, fun o ho => ?_⟩
  · obtain ⟨b, o, h1, h2, h3⟩ := hx hne
    refine ⟨b, o, h1, h2, fun k op hop => ?_⟩
    obtain ⟨cs, D, ⟨kv', rfl, hq, _⟩, _, _, h4⟩ := h3 k op hop
    exact ⟨kv', h4, hq⟩
  · obtain ⟨i, hi⟩ := List.mem_iff_getElem?.1 ho
    obtain ⟨_, _, _, _, h3⟩ := hx (by intro q; subst q; simp at ho)
    obtain ⟨cs, D, ⟨kv, _, _, w1, w2⟩, _⟩ := h3 i o hi
    exact ⟨w1, w2⟩
end
/-- the pair behind m calls -/
def JInv (N m : Nat) (x : Dsk × Option JSt) : Prop := x.1.ok ∧ x.1.n = N ∧ x.1.und.length ≤ 14 * m ∧ ∀ s, x.2 = some s → s.ok N
def jF (p r gp N m : Nat) (x : {x // JInv N m x}) : List SP := jcl p r gp x.1
set_option maxHeartbeats 2000000 in
set_option maxRecDepth 100000 in
theorem jplays_ct {W : World} {E : Nat → Addr} (hE : ErrsAt W E) (hN : NibAt W) (hg : gB ≤ W.heap.size) (n : Int) (sv : Value) (ops : List JOp) (hs : JOpsAt W sv ops) (hw : ∀ o ∈ ops, o.n ≤ 9223372036854775807 ∧ o.size ≤ 9223372036854775807) (hlen : ops.length ≤ 1048576) : Ct Tryd.prog W 21 [.int .i64 n, sv] [] (fun _ : Unit => .bool true) (fun _ => []) := by
  have cl := fixed10_ct (W := W) (E := E) hE hN hg
  by_cases hb : n < 1 ∨ 65536 < n
  · have c1 := new_bad_ct (W := W) (E := E) hE.on n hb
    have c2 := rnew_bad (W := W) n hb
    have c3 := num_ct hE hg 6 (by omega)
    refine Ct.enter Tryd.func21 rfl Tryd.ntmps21 (by simp) (fun R => ?_)
    repeat' (first 
    | (refine is_call ?_; first | (refine KJ_call xE c3 xP rfl (fun _ => ?_)) | (refine KJ_call xE c2 xP rfl (fun _ => ?_)) | (refine KJ_call xE c1 xP rfl (fun _ => ?_)) | (refine KJ_call xE cl xP rfl (fun _ => ?_)))
    | (refine ek_neq ?_; first | refine EK_ev (Ev_neqB_f rfl rfl rfl) ?_ | refine EK_ev (Ev_neqI_f rfl rfl (by first | rfl | omega)) ?_ | refine EK_ev (Ev_neqI_t rfl rfl (by omega)) ?_)
    | refine xst ?_
    | (refine xsa ?_; intro _)
    | (refine xsb ?_ ?_ <;> intro _ <;> first | (exfalso; omega) | skip)
    | refine xsc ?_
    | fail)
    all_goals (exact xdn ())
  obtain ⟨N, rfl⟩ : ∃ N : Nat, n = (N : Int) := ⟨n.toNat, by omega⟩
  have c1 := new_ct (W := W) N (by omega) (by omega) hg
  have c2 := rnew_ct (W := W) N (by omega) (by omega)
  have c3 : Ct Tryd.prog W 35 [.nilIface] [] (fun _ : Unit => .int .i64 0) (fun _ => []) := num_ct hE hg 0 (by omega)
  by_cases h3 : 3000 < N
  · have q3 : decide ((3000 : Int) < (N : Nat)) = true := decide_eq_true (by omega)
    refine Ct.enter Tryd.func21 rfl Tryd.ntmps21 (by simp) (fun R => ?_)
    repeat' (first 
    | (refine is_call ?_; first | (refine KJ_call xE c3 xP rfl (fun _ => ?_)) | (refine KJ_call xE c2 xP rfl (fun _ => ?_)) | (refine KJ_call xE c1 xP rfl (fun _ => ?_)) | (refine KJ_call xE cl xP rfl (fun _ => ?_)))
    | (refine ek_neq ?_; first | refine EK_ev (Ev_neqB_f rfl rfl rfl) ?_ | refine EK_ev (Ev_neqI_f rfl rfl (by first | rfl | omega)) ?_)
    | (refine ek_gtr ?_; refine EK_ev (Ev_gtrI_q rfl rfl q3) ?_)
    | refine xst ?_
    | (refine xsa ?_; intro _)
    | (refine xsb ?_ ?_ <;> intro _ <;> first | (exfalso; omega) | skip)
    | refine xsc ?_
    | fail)
    all_goals (exact xdn ())
  have q3 : decide ((3000 : Int) < (N : Nat)) = false := decide_eq_false (by omega)
  obtain ⟨a, c0, rfl, hv⟩ := hs
  have hok0 := Dsk.blank_ok N (by omega) (by omega)
  have hx0 : JInv N 0 (Dsk.blank N, none) := ⟨hok0, rfl, Nat.le_refl _, fun s h => by cases h⟩
  obtain ⟨D0, hD0⟩ : ∃ D0, D0 = Dsk.blank N := ⟨_, rfl⟩
  rw [← hD0] at c1 c2 hx0
  clear hD0 hok0
  refine Ct.enter Tryd.func21 rfl Tryd.ntmps21 (by simp) (fun R => ?_)
  repeat' (first 
    | (refine is_box ?_; refine KJ_box rfl xF rfl (fun gp => ?_))
    | (refine is_call ?_; first | (refine KJ_call xE c3 xP rfl (fun _ => ?_)) | (refine KJ_call xE c2 xP rfl (fun r => ?_)) | (refine KJ_call xE c1 xP rfl (fun p => ?_)) | (refine KJ_call xE cl xP rfl (fun _ => ?_)))
    | (refine ek_build ?_; refine EK_ev (Ev_build xV xW) ?_)
    | (refine ek_neq ?_; first | refine EK_ev (Ev_neqB_f rfl rfl rfl) ?_ | refine EK_ev (Ev_neqI_f rfl rfl (by first | rfl | omega)) ?_)
    | (refine ek_gtr ?_; refine EK_ev (Ev_gtrI_q rfl rfl q3) ?_)
    | refine xst ?_
    | (refine xsa ?_; intro _)
    | (refine xsb ?_ ?_ <;> intro _ <;> first | (exfalso; omega) | skip)
    | refine xsc ?_
    | fail)
  refine KJ.pack (tag := 33) (key := gp) (F := jF p r gp N 0) ⟨(D0, none), hx0⟩ (by dsimp only [jF, jcl]; exact xP) ?_
  refine KJ_loop (fun i : {m : Nat // m ≤ ops.length} => [(5, .pointer (some ⟨p, 0, none⟩)), (7, .pointer (some ⟨r, 0, none⟩)), (9, .pointer (some ⟨gp, 0, none⟩)), (45, .slice a ops.length c0), (46, .int .i64 (ops.length : Nat)), (47, .int .i64 (i.1 : Nat))])
    (fun i => [packP 33 gp (jF p r gp N i.1)] ++ R) (fun i => ops.length - i.1) ⟨0, Nat.zero_le _⟩ xB (xN) (fun ⟨m, hm⟩ => ?_)
  dsimp only
  refine KJ.unpack_at (F := jF p r gp N m) xS (fun x => ?_)
  obtain ⟨⟨D, st⟩, hx⟩ := x
  obtain ⟨hok, hn, hu, hst⟩ := id hx
  dsimp only at hok hn hu hst
  by_cases hlt : m < ops.length
  rotate_left
  · have ql : decide ((m : Int) < (ops.length : Nat)) = false := decide_eq_false (by omega)
    have c4 : Ct Tryd.prog W 27 [.pointer (some ⟨p, 0, none⟩)] [DiskP p D] (fun _ : Unit => strV D.img) (fun _ => [DiskP p D]) := image_ct
    have c5 := rimage_ct (W := W) (p := r) hok
    obtain ⟨im, him⟩ : ∃ im, im = D.img := ⟨_, rfl⟩
    rw [← him] at c4 c5
    cases st with
    | none =>
      dsimp only [jF, jcl]
      repeat' (first 
    | (refine is_call ?_; first | (refine KJ_call xE c5 xP rfl (fun _ => ?_)) | (refine KJ_call xE c4 xP rfl (fun _ => ?_)))
    | (refine ek_eql ?_; refine EK_ev (Ev_eqlS_t rfl rfl rfl) ?_)
    | (refine ek_lss ?_; refine EK_ev (Ev_lssI_q rfl rfl ql) ?_)
    | refine xst ?_
    | (refine xsa ?_; intro _)
    | (refine xsb ?_ ?_ <;> intro _ <;> first | (exfalso; omega) | skip)
    | refine xsc ?_
    | fail)
      all_goals (exact xdn ())
    | some s =>
      dsimp only [jF, jcl]
      repeat' (first 
    | (refine is_call ?_; first | (refine KJ_call xE c5 xP rfl (fun _ => ?_)) | (refine KJ_call xE c4 xP rfl (fun _ => ?_)))
    | (refine ek_eql ?_; refine EK_ev (Ev_eqlS_t rfl rfl rfl) ?_)
    | (refine ek_lss ?_; refine EK_ev (Ev_lssI_q rfl rfl ql) ?_)
    | refine xst ?_
    | (refine xsa ?_; intro _)
    | (refine xsb ?_ ?_ <;> intro _ <;> first | (exfalso; omega) | skip)
    | refine xsc ?_
    | fail)
      all_goals (exact xdn ())
  have ql : decide ((m : Int) < (ops.length : Nat)) = true := decide_eq_true (by omega)
  obtain ⟨op, hop⟩ : ∃ s, ops[m]? = some s := ⟨_, List.getElem?_eq_getElem hlt⟩
  obtain ⟨b, o, rfl, hb, hr⟩ := hv (by intro e; rw [e] at hlt; simp at hlt)
  obtain ⟨kv, hr, hkv⟩ := hr m op hop
  have hmem := List.mem_of_getElem? hop
  have cst := jstep_ct (W := W) (p := p) (r := r) (gp := gp) (D := D) hE hN hg hok (by omega) st (by rw [hn]; exact hst) op kv hkv (hw op hmem).1 (hw op hmem).2
  obtain ⟨ka, kc, rfl, -⟩ := id hkv
  have hnx : ∀ x : {x // JOk D 14 x}, JInv N (m + 1) x.1 := fun x => ⟨x.2.1, x.2.2.1.trans hn, by have := x.2.2.2.1; omega, fun s h => by have := x.2.2.2.2 s h; rw [hn] at this; exact this⟩
  clear hkv hmem hop hw
  obtain ⟨kind, oat, on_, over, osize, ofill, kept, torn, bytes⟩ := op
  dsimp only [JOp.cells] at hr cst
  have Hr : W.rangeAt b (o + Int.toNat (m : Int) * 9) [.int .i64 kind, .int .i64 oat, .int .i64 on_, .int .i64 over, .int .i64 osize, .int .i64 ofill, .slice ka kept.length kc, .int .i64 torn, .int .i64 bytes] := by
    rw [Int.toNat_natCast, Nat.mul_comm m 9]; exact hr
  clear hr
  cases st with
  | none =>
    dsimp only [jF, jcl] at cst ⊢
    repeat' (first 
    | (refine is_alloc ?_; refine KJ_alloc rfl (fun g11 => ?_))
    | (refine is_call ?_; refine KJ_call xE cst xP rfl (fun c => ?_))
    | (refine ek_load ?_; refine EK_ev (Ev_loadAggOld rfl Hr) ?_)
    | (refine ek_add ?_; refine EK_ev (Ev_addI_v (r := ((m + 1 : Nat) : Int)) rfl rfl (by omega) (by omega)) ?_)
    | (refine ek_lss ?_; refine EK_ev (Ev_lssI_q rfl rfl ql) ?_)
    | refine xst ?_
    | (refine xsa ?_; intro _)
    | (refine xsb ?_ ?_ <;> intro _ <;> first | (exfalso; omega) | skip)
    | refine xsc ?_
    | fail)
    refine KJ_again ⟨m + 1, Nat.succ_le_of_lt hlt⟩ (by show ops.length - (m + 1) < ops.length - m; omega) xB (fun g q => ((xN)) g (pack_star (tag := 33) (key := gp) (F := jF p r gp N (m + 1)) ⟨_, hnx c⟩ g q))
  | some s =>
    dsimp only [jF, jcl] at cst ⊢
    repeat' (first 
    | (refine is_alloc ?_; refine KJ_alloc rfl (fun g11 => ?_))
    | (refine is_call ?_; refine KJ_call xE cst xP rfl (fun c => ?_))
    | (refine ek_load ?_; refine EK_ev (Ev_loadAggOld rfl Hr) ?_)
    | (refine ek_add ?_; refine EK_ev (Ev_addI_v (r := ((m + 1 : Nat) : Int)) rfl rfl (by omega) (by omega)) ?_)
    | (refine ek_lss ?_; refine EK_ev (Ev_lssI_q rfl rfl ql) ?_)
    | refine xst ?_
    | (refine xsa ?_; intro _)
    | (refine xsb ?_ ?_ <;> intro _ <;> first | (exfalso; omega) | skip)
    | refine xsc ?_
    | fail)
    refine KJ_again ⟨m + 1, Nat.succ_le_of_lt hlt⟩ (by show ops.length - (m + 1) < ops.length - m; omega) xB (fun g q => ((xN)) g (pack_star (tag := 33) (key := gp) (F := jF p r gp N (m + 1)) ⟨_, hnx c⟩ g q))
end Go.Proofs.YteklldbfdmaafaaDoor
