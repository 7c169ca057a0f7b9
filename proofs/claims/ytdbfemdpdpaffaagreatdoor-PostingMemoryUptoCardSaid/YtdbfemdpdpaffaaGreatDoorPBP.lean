/-
  RuP, RdW1, RdW2, RdW3, RdW4.
-/
import Derived.Test.YtdbfemdpdpaffaaGreatDoorPBI
import Derived.Test.YtdbfemdpdpaffaaGreatDoorPBL
import Derived.Test.YtdbfemdpdpaffaaGreatDoorPAR
/-
  A number read byte by byte; a bitwise and, a shift to the left.
-/
namespace Go.Proofs.YtdbfemdpdpaffaaGreatDoor
open Go Go.RowKit
structure AndF (kd : IntKind) (i j y : Int) : Prop where
  h : bits .and kd i j = y
theorem Ev_and_s {P : Program} {W : World} {n : Nat} {E : Env} {H : List SP} {t u : TypeId} {x y : Operand} {kd : IntKind} {i j r : Int} (hx : Env.ev E x = some (.int kd i)) (hy : Env.ev E y = some (.int kd j)) (h : AndF kd i j r) : Ev P W n E H (.binOp .and t x y u) (.int kd r) := by
  have q := h.h
  subst q
  exact Ev_and hx hy
structure ShlF (kd : IntKind) (i s y : Int) : Prop where
  h0 : 0 ≤ s
  h : kd.wrap (i * 2 ^ (min s.toNat kd.bits)) = y
theorem Ev_shl_t {P : Program} {W : World} {n : Nat} {E : Env} {H : List SP} {t u : TypeId} {x y : Operand} {kd yk : IntKind} {i j r : Int} (hx : Env.ev E x = some (.int kd i)) (hy : Env.ev E y = some (.int yk j)) (h : ShlF kd i j r) : Ev P W n E H (.binOp .shl t x y u) (.int kd r) := by
  have q := h.h
  subst q
  exact Ev_shl hx hy h.h0
theorem and127 (b : UInt8) : AndF .u8 (b.toNat : Int) 127 ((b.toNat % 128 : Nat) : Int) := by
  refine ⟨?_⟩
  have key : ∀ y : Fin 256, bits .and .u8 ((y.val : Nat) : Int) 127 = ((y.val % 128 : Nat) : Int) := by decide +kernel
  exact key ⟨b.toNat, UInt8.toNat_lt b⟩
theorem shl7 (y i : Nat) (hi : i ≤ 9) (hy : y * 2 ^ (7 * i) < 18446744073709551616) : ShlF .u64 (y : Int) ((7 * i : Nat) : Int) ((y * 2 ^ (7 * i) : Nat) : Int) := by
  refine ⟨by omega, ?_⟩
  have hm : min ((7 * i : Nat) : Int).toNat IntKind.u64.bits = 7 * i := by
    show min ((7 * i : Nat) : Int).toNat 64 = 7 * i
    omega
  rw [hm]
  have e2 : ((y : Int) * 2 ^ (7 * i)) = ((y * 2 ^ (7 * i) : Nat) : Int) := by simp
  rw [e2]
  exact u64_wrap _ hy
theorem or7 (x y i : Nat) (hx : x < 2 ^ (7 * i)) (hs : y * 2 ^ (7 * i) + x < 18446744073709551616) : OrF .u64 (x : Int) ((y * 2 ^ (7 * i) : Nat) : Int) ((x + y * 2 ^ (7 * i) : Nat) : Int) := by
  refine ⟨?_⟩
  obtain ⟨z, hz⟩ : ∃ z, z = y * 2 ^ (7 * i) := ⟨_, rfl⟩
  have hor : x ||| z = x + z := by rw [hz, Nat.or_comm, Nat.mul_comm, ← Nat.two_pow_add_eq_or_of_lt hx, Nat.add_comm]
  rw [← hz] at hs ⊢
  have e : bits .or .u64 (x : Int) (z : Int) = IntKind.u64.wrap ((BitVec.ofInt 64 (x : Int) ||| BitVec.ofInt 64 (z : Int)).toNat : Int) := rfl
  have b1 : (BitVec.ofInt 64 (x : Int)).toNat = x := by rw [BitVec.toNat_ofInt]; omega
  have b2 : (BitVec.ofInt 64 (z : Int)).toNat = z := by rw [BitVec.toNat_ofInt]; omega
  rw [e, BitVec.toNat_or, b1, b2, hor]
  exact u64_wrap _ (by omega)
/-- a number being read: its first i bytes have made x -/
structure RuI (l : List UInt8) (i x : Nat) : Prop where
  go : ruG (l.drop i) i x = ru l
  i9 : i ≤ 9
  x7 : x < 2 ^ (7 * i)
  il : i ≤ l.length
theorem RuI.start (l : List UInt8) : RuI l 0 0 := ⟨rfl, by omega, by simp, by omega⟩
theorem drop_get {l : List UInt8} {i : Nat} {b : UInt8} (hb : l[i]? = some b) : l.drop i = b :: l.drop (i + 1) := by
  obtain ⟨h1, h2⟩ := List.getElem?_eq_some_iff.1 hb
  rw [List.drop_eq_getElem_cons h1, h2]
section
variable {l : List UInt8} {i x : Nat} {b : UInt8}
theorem RuI.short (h : RuI l i x) (hi : l.length ≤ i) : ru l = .bad 1 := by
  rw [← h.go, List.drop_of_length_le hi]; rfl
theorem RuI.bad (h : RuI l i x) (hb : l[i]? = some b) (hc : i = 9 ∧ 1 < b.toNat) : ru l = .bad 2 := by
  rw [← h.go, drop_get hb]; unfold ruG; rw [if_pos hc]
theorem RuI.nought (h : RuI l i x) (hb : l[i]? = some b) (h0 : b.toNat = 0) (hi : 0 < i) : ru l = .bad 2 := by
  rw [← h.go, drop_get hb]; unfold ruG; rw [if_neg (by omega), if_pos (by omega), if_pos ⟨h0, hi⟩]
theorem RuI.done (h : RuI l i x) (hb : l[i]? = some b) (hn : ¬ (i = 9 ∧ 1 < b.toNat)) (hs : b.toNat < 128) (h0 : ¬ (b.toNat = 0 ∧ 0 < i)) : ru l = .ok (x + b.toNat % 128 * 2 ^ (7 * i)) (l.drop (i + 1)) := by
  rw [← h.go, drop_get hb]; unfold ruG; rw [if_neg hn, if_pos hs, if_neg h0, Nat.mod_eq_of_lt hs]
theorem RuI.fit (h : RuI l i x) (hn : ¬ (i = 9 ∧ 1 < b.toNat)) : b.toNat % 128 * 2 ^ (7 * i) + x < 18446744073709551616 := by
  have hx := h.x7
  have h9 := h.i9
  have hbb := UInt8.toNat_lt b
  by_cases e : i = 9
  · subst e
    have : b.toNat % 128 ≤ 1 := by omega
    have := Nat.mul_le_mul_right (2 ^ (7 * 9)) this
    omega
  · have : b.toNat % 128 ≤ 127 := by omega
    have := Nat.mul_le_mul_right (2 ^ (7 * i)) this
    have : (2 : Nat) ^ (7 * i) ≤ 2 ^ (7 * 8) := Nat.pow_le_pow_right (by omega) (by omega)
    omega
theorem RuI.next (h : RuI l i x) (hb : l[i]? = some b) (hn : ¬ (i = 9 ∧ 1 < b.toNat)) (hs : ¬ b.toNat < 128) : RuI l (i + 1) (x + b.toNat % 128 * 2 ^ (7 * i)) := by
  have h1 := (List.getElem?_eq_some_iff.1 hb).1
  have h9 := h.i9
  refine ⟨?_, by omega, ?_, by omega⟩
  · rw [← h.go, drop_get hb]
    conv => rhs; unfold ruG
    rw [if_neg hn, if_neg hs]
  · have hx := h.x7
    have : b.toNat % 128 ≤ 127 := by omega
    have := Nat.mul_le_mul_right (2 ^ (7 * i)) this
    have e : (2 : Nat) ^ (7 * (i + 1)) = 128 * 2 ^ (7 * i) := by rw [Nat.mul_add, Nat.pow_add, Nat.mul_comm]
    omega
theorem RuI.len {z : Nat} {j : Nat} (h : ru l = .ok z (l.drop j)) (hj : j ≤ l.length) : (vu z).length = j := by
  have := congrArg List.length (vu_ru h).1
  rw [List.length_append, List.length_drop] at this
  omega
end
theorem ru_drop {s t : List UInt8} {a x : Nat} (h : ru (s.drop a) = .ok x t) : t = s.drop (a + (vu x).length) := by
  have e := (vu_ru h).1
  rw [← List.drop_drop, e, List.drop_left]
theorem ru_fit {s t : List UInt8} {a x : Nat} (h : ru (s.drop a) = .ok x t) : a + (vu x).length ≤ s.length := by
  have e := congrArg List.length (vu_ru h).1
  have p := vu_pos x
  rw [List.length_append, List.length_drop] at e
  omega
theorem rtx_drop {s t y : List UInt8} {m a : Nat} (h : rtx m (s.drop a) = .ok y t) : t = s.drop (a + (tx y).length) := by
  have e := (tx_rtx h).1
  rw [← List.drop_drop, e, List.drop_left]
theorem rtx_fit {s t y : List UInt8} {m a : Nat} (h : rtx m (s.drop a) = .ok y t) : a + (tx y).length ≤ s.length := by
  have e := congrArg List.length (tx_rtx h).1
  have p := tx_len y
  rw [List.length_append, List.length_drop] at e
  omega
/-- the errors' numbers of a read -/
theorem ruG_err : ∀ (l : List UInt8) (i acc e : Nat), ruG l i acc = .bad e → e = 1 ∨ e = 2
  | [], _, _, _, h => by cases h; exact .inl rfl
  | b :: t, i, acc, e, h => by
    unfold ruG at h
    split at h
    · cases h; exact .inr rfl
    split at h
    · split at h
      · cases h; exact .inr rfl
      · cases h
    · exact ruG_err t _ _ e h
theorem ru_err {l : List UInt8} {e : Nat} (h : ru l = .bad e) : e = 1 ∨ e = 2 := ruG_err l 0 0 e h
theorem rtx_err {m : Nat} {l : List UInt8} {e : Nat} (h : rtx m l = .bad e) : e = 1 ∨ e = 2 ∨ e = 3 := by
  unfold rtx at h
  split at h
  · rename_i e' he
    cases h
    rcases ru_err he with q | q <;> omega
  split at h
  · cases h; omega
  split at h
  · cases h; omega
  · cases h
end Go.Proofs.YtdbfemdpdpaffaaGreatDoor
/-
  The package wire: a reader; its numbers, its bytes.
-/
namespace Go.Proofs.YtdbfemdpdpaffaaGreatDoor
open Go Go.RowKit
/-- a reader over s that stands at a -/
abbrev rdP (p : Nat) (s : List UInt8) (a : Nat) : SP := cellsP p [strV s, .int .i64 (a : Nat)] 100
def rdE {α : Type} : Rd α → Nat
  | .bad e => e
  | .ok _ _ => 0
def rdN : Rd Nat → Nat
  | .bad _ => 0
  | .ok x _ => x
/-- how many bytes a number takes -/
def rdL : Rd Nat → Nat
  | .bad _ => 0
  | .ok x _ => (vu x).length
section
variable {W : World} {F : Nat → Addr} {p : Nat} {s : List UInt8} {a : Nat}
theorem rread_ct (s : List UInt8) : Ct Tryz.prog W 30 [strV s] [] (fun p : Nat => .pointer (some ⟨p, 0, none⟩)) (fun p => [rdP p s 0]) := by
  refine Ct.enter Tryz.func30 rfl Tryz.ntmps30 (by simp) (fun R => ?_)
  repeat' (first 
    | (refine is_box ?_; refine KJ_box rfl xF rfl (fun g => ?_))
    | (refine ek_build ?_; refine EK_ev (Ev_build xV xW) ?_)
    | refine xst ?_
    | (refine xsa ?_; intro _)
    | (refine xsb ?_ ?_ <;> intro _ <;> first | (exfalso; omega) | skip)
    | refine xsc ?_
    | fail)
  all_goals (exact xdn g)
theorem rleft_ct (ha : a ≤ s.length) (hs : s.length ≤ 9223372036854775807) : Ct Tryz.prog W 88 [.pointer (some ⟨p, 0, none⟩)] [rdP p s a] (fun _ : Unit => .int .i64 (s.length - a : Nat)) (fun _ => [rdP p s a]) := by
  refine Ct.enter Tryz.func88 rfl Tryz.ntmps88 (by simp) (fun R => ?_)
  repeat' (first 
    | (refine ek_sub ?_; refine EK_ev (Ev_subI_v (r := ((s.length - a : Nat) : Int)) rfl rfl (by omega) (by omega)) ?_)
    | refine xst ?_
    | (refine xsa ?_; intro _)
    | (refine xsb ?_ ?_ <;> intro _ <;> first | (exfalso; omega) | skip)
    | refine xsc ?_
    | (refine KJ_draws (id := 1) (.op 0 (.op 1 (.op 2 (.op 3 (.op 4 (.op 5 (.op 6 (.op 7 (.op 8 (.op 9 (.op 10 .nil))))))))))) (by kernel_rfl) (by kernel_rfl) ?_)
    | refine FW_alt ?_ ?_
    | refine FW_efn rfl rfl rfl rfl rfl ?_ ?_
    | refine KJ_flow ?_ ?_
    | exact Rech.nil
    | fail)
  all_goals (exact xdn ())
set_option maxHeartbeats 4000000 in
theorem ruint_ct (ha : a ≤ s.length) (hs : s.length ≤ 9223372036854775807) (e1 : W.cell? ⟨5, 0, none⟩ = some (errV F 1)) (e2 : W.cell? ⟨6, 0, none⟩ = some (errV F 2)) (q : Rd Nat) (hq : ru (s.drop a) = q) :
    Ct Tryz.prog W 91 [.pointer (some ⟨p, 0, none⟩)] [rdP p s a] (fun _ : Unit => .tuple #[.int .u64 (rdN q : Nat), errV F (rdE q)]) (fun _ => [rdP p s (a + rdL q)]) := by
  have cl := rleft_ct (W := W) (p := p) (s := s) (a := a) ha (by omega)
  have hdl : (s.drop a).length = s.length - a := List.length_drop
  refine Ct.enter Tryz.func91 rfl Tryz.ntmps91 (by simp) (fun R => ?_)
  repeat' (first 
    | refine xst ?_
    | (refine xsa ?_; intro _)
    | (refine xsb ?_ ?_ <;> intro _ <;> first | (exfalso; omega) | skip)
    | refine xsc ?_
    | (refine KJ_draws (id := 5) (.op 0 (.op 1 (.op 2 .nil))) (by kernel_rfl) (by kernel_rfl) ?_)
    | (refine KJ_draws (id := 6) (.op 0 (.op 1 (.op 2 (.op 3 (.op 4 (.op 5 (.op 6 (.op 7 (.op 8 (.op 9 (.op 10 (.op 11 .nil)))))))))))) (by kernel_rfl) (by kernel_rfl) ?_)
    | (refine KJ_draws (id := 8) (.op 0 (.op 1 (.op 2 .nil))) (by kernel_rfl) (by kernel_rfl) ?_)
    | (refine KJ_draws (id := 12) (.op 0 (.op 1 (.op 2 .nil))) (by kernel_rfl) (by kernel_rfl) ?_)
    | refine FW_alt ?_ ?_
    | refine FW_efn rfl rfl rfl rfl rfl ?_ ?_
    | refine KJ_flow ?_ ?_
    | exact Rech.nil
    | fail)
  refine KJ_loop (fun i : {i : Nat × Nat // RuI (s.drop a) i.1 i.2} => [(0, .pointer (some ⟨p, 0, none⟩)), (4, .int .u64 (i.1.2 : Nat)), (5, .int .i64 (i.1.1 : Nat))])
    (fun i => [rdP p s a] ++ R) (fun i => 10 - i.1.1) ⟨(0, 0), RuI.start _⟩ xB (xN) (fun ⟨(i, x), hi⟩ => ?_)
  dsimp only at hi ⊢
  have i9 := hi.i9
  have hil := hi.il
  by_cases hend : i = s.length - a
  · have hbad := hi.short (by omega)
    rw [hq] at hbad
    have qe : decide ((i : Int) = ((s.length - a : Nat) : Int)) = true := decide_eq_true (by omega)
    repeat' (first 
    | (refine is_call ?_; refine KJ_call xE cl xP rfl (fun _ => ?_))
    | (refine ek_load ?_; refine EK_ev (Ev_loadOld rfl e1) ?_)
    | (refine ek_eql ?_; refine EK_ev (Ev_eqlI_q rfl rfl qe) ?_)
    | refine xst ?_
    | (refine xsa ?_; intro _)
    | (refine xsb ?_ ?_ <;> intro _ <;> first | (exfalso; omega) | skip)
    | refine xsc ?_
    | (refine KJ_draws (id := 5) (.op 0 (.op 1 (.op 2 .nil))) (by kernel_rfl) (by kernel_rfl) ?_)
    | (refine KJ_draws (id := 6) (.op 0 (.op 1 (.op 2 (.op 3 (.op 4 (.op 5 (.op 6 (.op 7 (.op 8 (.op 9 (.op 10 (.op 11 .nil)))))))))))) (by kernel_rfl) (by kernel_rfl) ?_)
    | (refine KJ_draws (id := 8) (.op 0 (.op 1 (.op 2 .nil))) (by kernel_rfl) (by kernel_rfl) ?_)
    | (refine KJ_draws (id := 12) (.op 0 (.op 1 (.op 2 .nil))) (by kernel_rfl) (by kernel_rfl) ?_)
    | refine FW_alt ?_ ?_
    | refine FW_efn rfl rfl rfl rfl rfl ?_ ?_
    | refine KJ_flow ?_ ?_
    | exact Rech.nil
    | fail)
    all_goals exact xdn () (hc := by rw [hbad]; rfl) (hE := by rw [show a + rdL q = a by rw [hbad]; rfl]; exact (xN))
  have qe : decide ((i : Int) = ((s.length - a : Nat) : Int)) = false := decide_eq_false (by omega)
  obtain ⟨b, hb⟩ : ∃ b, (s.drop a)[i]? = some b := ⟨_, List.getElem?_eq_getElem (by omega)⟩
  have hbs : s[a + i]? = some b := by rw [← hb, List.getElem?_drop]
  have hbt := UInt8.toNat_lt b
  have hcase : (i = 9 ∧ 1 < b.toNat) ∨ (i = 9 ∧ b.toNat = 0) ∨ (i = 9 ∧ b.toNat = 1) ∨ (i ≠ 9 ∧ b.toNat = 0 ∧ 0 < i) ∨ (i ≠ 9 ∧ b.toNat = 0 ∧ i = 0) ∨ (i ≠ 9 ∧ 0 < b.toNat ∧ b.toNat < 128) ∨ (i ≠ 9 ∧ ¬ b.toNat < 128) := by omega
  rcases hcase with h9 | h9 | h9 | h9 | h9 | h9 | h9
  · have hbad := hi.bad hb h9
    rw [hq] at hbad
    have q9 : decide ((i : Int) = 9) = true := decide_eq_true (by omega)
    have qb : decide ((1 : Int) < (b.toNat : Int)) = true := decide_eq_true (by omega)
    repeat' (first 
    | (refine is_call ?_; refine KJ_call xE cl xP rfl (fun _ => ?_))
    | (refine ek_load ?_; refine EK_ev (Ev_loadOld rfl e2) ?_)
    | (refine ek_conv ?_; refine EK_ev (Ev_convI_v rfl c1) ?_)
    | (refine ek_index ?_; refine EK_ev (Ev_indexStr rfl rfl (by omega) hbs) ?_)
    | (refine ek_add ?_; first | refine EK_ev (Ev_addI_v (r := ((a + i : Nat) : Int)) rfl rfl (by omega) (by omega)) ?_ | refine EK_ev (Ev_addI_v (r := ((a + (i + 1) : Nat) : Int)) rfl rfl (by omega) (by omega)) ?_ | refine EK_ev (Ev_addI_v (r := ((i + 1 : Nat) : Int)) rfl rfl (by omega) (by omega)) ?_)
    | (refine ek_mul ?_; refine EK_ev (Ev_mulI_v (r := ((7 * i : Nat) : Int)) rfl rfl (by omega) (by omega)) ?_)
    | (refine ek_and ?_; refine EK_ev (Ev_and_s rfl rfl (and127 b)) ?_)
    | (refine ek_or ?_; refine EK_ev (Ev_or_s rfl rfl orr) ?_)
    | (refine ek_shl ?_; refine EK_ev (Ev_shl_t rfl rfl sh) ?_)
    | (refine ek_eql ?_; first | refine EK_ev (Ev_eqlI_q rfl rfl qe) ?_ | refine EK_ev (Ev_eqlI_q rfl rfl q9) ?_ | refine EK_ev (Ev_eqlI_q rfl rfl q0) ?_)
    | (refine ek_lss ?_; refine EK_ev (Ev_lssI_q rfl rfl ql) ?_)
    | (refine ek_gtr ?_; refine EK_ev (Ev_gtrI_q rfl rfl qb) ?_)
    | refine xst ?_
    | (refine xsa ?_; intro _)
    | (refine xsb ?_ ?_ <;> intro _ <;> first | (exfalso; omega) | skip)
    | refine xsc ?_
    | (refine KJ_draws (id := 5) (.op 0 (.op 1 (.op 2 .nil))) (by kernel_rfl) (by kernel_rfl) ?_)
    | (refine KJ_draws (id := 6) (.op 0 (.op 1 (.op 2 (.op 3 (.op 4 (.op 5 (.op 6 (.op 7 (.op 8 (.op 9 (.op 10 (.op 11 .nil)))))))))))) (by kernel_rfl) (by kernel_rfl) ?_)
    | (refine KJ_draws (id := 8) (.op 0 (.op 1 (.op 2 .nil))) (by kernel_rfl) (by kernel_rfl) ?_)
    | (refine KJ_draws (id := 12) (.op 0 (.op 1 (.op 2 .nil))) (by kernel_rfl) (by kernel_rfl) ?_)
    | refine FW_alt ?_ ?_
    | refine FW_efn rfl rfl rfl rfl rfl ?_ ?_
    | refine KJ_flow ?_ ?_
    | exact Rech.nil
    | fail)
    all_goals exact xdn () (hc := by rw [hbad]; rfl) (hE := by rw [show a + rdL q = a by rw [hbad]; rfl]; exact (xN))
  · have hbad := hi.nought hb (by omega) (by omega)
    rw [hq] at hbad
    have c1 : IntKind.u64.wrap ((b.toNat % 128 : Nat) : Int) = ((b.toNat % 128 : Nat) : Int) := u64_wrap _ (by omega)
    have hfit := hi.fit (b := b) (by omega)
    have sh := shl7 (b.toNat % 128) i i9 (by omega)
    have orr := or7 x (b.toNat % 128) i hi.x7 hfit
    have ql : decide ((b.toNat : Int) < 128) = true := decide_eq_true (by omega)
    have q9 : decide ((i : Int) = 9) = true := decide_eq_true (by omega)
    have qb : decide ((1 : Int) < (b.toNat : Int)) = false := decide_eq_false (by omega)
    have q0 : decide ((b.toNat : Int) = 0) = true := decide_eq_true (by omega)
    have q1 : decide ((0 : Int) < (i : Int)) = true := decide_eq_true (by omega)
    repeat' (first 
    | (refine is_call ?_; refine KJ_call xE cl xP rfl (fun _ => ?_))
    | (refine ek_load ?_; refine EK_ev (Ev_loadOld rfl e2) ?_)
    | (refine ek_conv ?_; refine EK_ev (Ev_convI_v rfl c1) ?_)
    | (refine ek_index ?_; refine EK_ev (Ev_indexStr rfl rfl (by omega) hbs) ?_)
    | (refine ek_add ?_; first | refine EK_ev (Ev_addI_v (r := ((a + i : Nat) : Int)) rfl rfl (by omega) (by omega)) ?_ | refine EK_ev (Ev_addI_v (r := ((a + (i + 1) : Nat) : Int)) rfl rfl (by omega) (by omega)) ?_ | refine EK_ev (Ev_addI_v (r := ((i + 1 : Nat) : Int)) rfl rfl (by omega) (by omega)) ?_)
    | (refine ek_mul ?_; refine EK_ev (Ev_mulI_v (r := ((7 * i : Nat) : Int)) rfl rfl (by omega) (by omega)) ?_)
    | (refine ek_and ?_; refine EK_ev (Ev_and_s rfl rfl (and127 b)) ?_)
    | (refine ek_or ?_; refine EK_ev (Ev_or_s rfl rfl orr) ?_)
    | (refine ek_shl ?_; refine EK_ev (Ev_shl_t rfl rfl sh) ?_)
    | (refine ek_eql ?_; first | refine EK_ev (Ev_eqlI_q rfl rfl qe) ?_ | refine EK_ev (Ev_eqlI_q rfl rfl q9) ?_ | refine EK_ev (Ev_eqlI_q rfl rfl q0) ?_)
    | (refine ek_lss ?_; refine EK_ev (Ev_lssI_q rfl rfl ql) ?_)
    | (refine ek_gtr ?_; first | refine EK_ev (Ev_gtrI_q rfl rfl q1) ?_ | refine EK_ev (Ev_gtrI_q rfl rfl qb) ?_)
    | refine xst ?_
    | (refine xsa ?_; intro _)
    | (refine xsb ?_ ?_ <;> intro _ <;> first | (exfalso; omega) | skip)
    | refine xsc ?_
    | (refine KJ_draws (id := 5) (.op 0 (.op 1 (.op 2 .nil))) (by kernel_rfl) (by kernel_rfl) ?_)
    | (refine KJ_draws (id := 6) (.op 0 (.op 1 (.op 2 (.op 3 (.op 4 (.op 5 (.op 6 (.op 7 (.op 8 (.op 9 (.op 10 (.op 11 .nil)))))))))))) (by kernel_rfl) (by kernel_rfl) ?_)
    | (refine KJ_draws (id := 8) (.op 0 (.op 1 (.op 2 .nil))) (by kernel_rfl) (by kernel_rfl) ?_)
    | (refine KJ_draws (id := 12) (.op 0 (.op 1 (.op 2 .nil))) (by kernel_rfl) (by kernel_rfl) ?_)
    | refine FW_alt ?_ ?_
    | refine FW_efn rfl rfl rfl rfl rfl ?_ ?_
    | refine KJ_flow ?_ ?_
    | exact Rech.nil
    | fail)
    all_goals exact xdn () (hc := by rw [hbad]; rfl) (hE := by rw [show a + rdL q = a by rw [hbad]; rfl]; exact (xN))
  · have hok := hi.done hb (by omega) (by omega) (by omega)
    have hlen := RuI.len hok (by omega)
    rw [hq] at hok
    have c1 : IntKind.u64.wrap ((b.toNat % 128 : Nat) : Int) = ((b.toNat % 128 : Nat) : Int) := u64_wrap _ (by omega)
    have hfit := hi.fit (b := b) (by omega)
    have sh := shl7 (b.toNat % 128) i i9 (by omega)
    have orr := or7 x (b.toNat % 128) i hi.x7 hfit
    have ql : decide ((b.toNat : Int) < 128) = true := decide_eq_true (by omega)
    have q9 : decide ((i : Int) = 9) = true := decide_eq_true (by omega)
    have qb : decide ((1 : Int) < (b.toNat : Int)) = false := decide_eq_false (by omega)
    have q0 : decide ((b.toNat : Int) = 0) = false := decide_eq_false (by omega)
    have hA : a + (i + 1) = a + rdL q := by rw [hok]; show _ = a + (vu _).length; rw [hlen]
    have hV : Value.tuple #[.int .u64 ((x + b.toNat % 128 * 2 ^ (7 * i) : Nat) : Int), .nilIface] = .tuple #[.int .u64 (rdN q : Nat), errV F (rdE q)] := by rw [hok]; rfl
    repeat' (first 
    | (refine is_call ?_; refine KJ_call xE cl xP rfl (fun _ => ?_))
    | (refine ek_load ?_; refine EK_ev (Ev_loadOld rfl e2) ?_)
    | (refine ek_conv ?_; refine EK_ev (Ev_convI_v rfl c1) ?_)
    | (refine ek_index ?_; refine EK_ev (Ev_indexStr rfl rfl (by omega) hbs) ?_)
    | (refine ek_add ?_; first | refine EK_ev (Ev_addI_v (r := ((a + i : Nat) : Int)) rfl rfl (by omega) (by omega)) ?_ | refine EK_ev (Ev_addI_v (r := ((a + (i + 1) : Nat) : Int)) rfl rfl (by omega) (by omega)) ?_ | refine EK_ev (Ev_addI_v (r := ((i + 1 : Nat) : Int)) rfl rfl (by omega) (by omega)) ?_)
    | (refine ek_mul ?_; refine EK_ev (Ev_mulI_v (r := ((7 * i : Nat) : Int)) rfl rfl (by omega) (by omega)) ?_)
    | (refine ek_and ?_; refine EK_ev (Ev_and_s rfl rfl (and127 b)) ?_)
    | (refine ek_or ?_; refine EK_ev (Ev_or_s rfl rfl orr) ?_)
    | (refine ek_shl ?_; refine EK_ev (Ev_shl_t rfl rfl sh) ?_)
    | (refine ek_eql ?_; first | refine EK_ev (Ev_eqlI_q rfl rfl qe) ?_ | refine EK_ev (Ev_eqlI_q rfl rfl q9) ?_ | refine EK_ev (Ev_eqlI_q rfl rfl q0) ?_)
    | (refine ek_lss ?_; refine EK_ev (Ev_lssI_q rfl rfl ql) ?_)
    | (refine ek_gtr ?_; refine EK_ev (Ev_gtrI_q rfl rfl qb) ?_)
    | refine xst ?_
    | (refine xsa ?_; intro _)
    | (refine xsb ?_ ?_ <;> intro _ <;> first | (exfalso; omega) | skip)
    | refine xsc ?_
    | (refine KJ_draws (id := 5) (.op 0 (.op 1 (.op 2 .nil))) (by kernel_rfl) (by kernel_rfl) ?_)
    | (refine KJ_draws (id := 6) (.op 0 (.op 1 (.op 2 (.op 3 (.op 4 (.op 5 (.op 6 (.op 7 (.op 8 (.op 9 (.op 10 (.op 11 .nil)))))))))))) (by kernel_rfl) (by kernel_rfl) ?_)
    | (refine KJ_draws (id := 8) (.op 0 (.op 1 (.op 2 .nil))) (by kernel_rfl) (by kernel_rfl) ?_)
    | (refine KJ_draws (id := 12) (.op 0 (.op 1 (.op 2 .nil))) (by kernel_rfl) (by kernel_rfl) ?_)
    | refine FW_alt ?_ ?_
    | refine FW_efn rfl rfl rfl rfl rfl ?_ ?_
    | refine KJ_flow ?_ ?_
    | exact Rech.nil
    | fail)
    all_goals rw [hA]
    all_goals exact xdn () (hc := by exact hV)
  · have hbad := hi.nought hb (by omega) (by omega)
    rw [hq] at hbad
    have c1 : IntKind.u64.wrap ((b.toNat % 128 : Nat) : Int) = ((b.toNat % 128 : Nat) : Int) := u64_wrap _ (by omega)
    have hfit := hi.fit (b := b) (by omega)
    have sh := shl7 (b.toNat % 128) i i9 (by omega)
    have orr := or7 x (b.toNat % 128) i hi.x7 hfit
    have ql : decide ((b.toNat : Int) < 128) = true := decide_eq_true (by omega)
    have q9 : decide ((i : Int) = 9) = false := decide_eq_false (by omega)
    have q0 : decide ((b.toNat : Int) = 0) = true := decide_eq_true (by omega)
    have q1 : decide ((0 : Int) < (i : Int)) = true := decide_eq_true (by omega)
    repeat' (first 
    | (refine is_call ?_; refine KJ_call xE cl xP rfl (fun _ => ?_))
    | (refine ek_load ?_; refine EK_ev (Ev_loadOld rfl e2) ?_)
    | (refine ek_conv ?_; refine EK_ev (Ev_convI_v rfl c1) ?_)
    | (refine ek_index ?_; refine EK_ev (Ev_indexStr rfl rfl (by omega) hbs) ?_)
    | (refine ek_add ?_; first | refine EK_ev (Ev_addI_v (r := ((a + i : Nat) : Int)) rfl rfl (by omega) (by omega)) ?_ | refine EK_ev (Ev_addI_v (r := ((a + (i + 1) : Nat) : Int)) rfl rfl (by omega) (by omega)) ?_ | refine EK_ev (Ev_addI_v (r := ((i + 1 : Nat) : Int)) rfl rfl (by omega) (by omega)) ?_)
    | (refine ek_mul ?_; refine EK_ev (Ev_mulI_v (r := ((7 * i : Nat) : Int)) rfl rfl (by omega) (by omega)) ?_)
    | (refine ek_and ?_; refine EK_ev (Ev_and_s rfl rfl (and127 b)) ?_)
    | (refine ek_or ?_; refine EK_ev (Ev_or_s rfl rfl orr) ?_)
    | (refine ek_shl ?_; refine EK_ev (Ev_shl_t rfl rfl sh) ?_)
    | (refine ek_eql ?_; first | refine EK_ev (Ev_eqlI_q rfl rfl qe) ?_ | refine EK_ev (Ev_eqlI_q rfl rfl q9) ?_ | refine EK_ev (Ev_eqlI_q rfl rfl q0) ?_)
    | (refine ek_lss ?_; refine EK_ev (Ev_lssI_q rfl rfl ql) ?_)
    | (refine ek_gtr ?_; first | refine EK_ev (Ev_gtrI_q rfl rfl q1) ?_ | refine EK_ev (Ev_gtrI_q rfl rfl qb) ?_)
    | refine xst ?_
    | (refine xsa ?_; intro _)
    | (refine xsb ?_ ?_ <;> intro _ <;> first | (exfalso; omega) | skip)
    | refine xsc ?_
    | (refine KJ_draws (id := 5) (.op 0 (.op 1 (.op 2 .nil))) (by kernel_rfl) (by kernel_rfl) ?_)
    | (refine KJ_draws (id := 6) (.op 0 (.op 1 (.op 2 (.op 3 (.op 4 (.op 5 (.op 6 (.op 7 (.op 8 (.op 9 (.op 10 (.op 11 .nil)))))))))))) (by kernel_rfl) (by kernel_rfl) ?_)
    | (refine KJ_draws (id := 8) (.op 0 (.op 1 (.op 2 .nil))) (by kernel_rfl) (by kernel_rfl) ?_)
    | (refine KJ_draws (id := 12) (.op 0 (.op 1 (.op 2 .nil))) (by kernel_rfl) (by kernel_rfl) ?_)
    | refine FW_alt ?_ ?_
    | refine FW_efn rfl rfl rfl rfl rfl ?_ ?_
    | refine KJ_flow ?_ ?_
    | exact Rech.nil
    | fail)
    all_goals exact xdn () (hc := by rw [hbad]; rfl) (hE := by rw [show a + rdL q = a by rw [hbad]; rfl]; exact (xN))
  · have hok := hi.done hb (by omega) (by omega) (by omega)
    have hlen := RuI.len hok (by omega)
    rw [hq] at hok
    have c1 : IntKind.u64.wrap ((b.toNat % 128 : Nat) : Int) = ((b.toNat % 128 : Nat) : Int) := u64_wrap _ (by omega)
    have hfit := hi.fit (b := b) (by omega)
    have sh := shl7 (b.toNat % 128) i i9 (by omega)
    have orr := or7 x (b.toNat % 128) i hi.x7 hfit
    have ql : decide ((b.toNat : Int) < 128) = true := decide_eq_true (by omega)
    have q9 : decide ((i : Int) = 9) = false := decide_eq_false (by omega)
    have q0 : decide ((b.toNat : Int) = 0) = true := decide_eq_true (by omega)
    have q1 : decide ((0 : Int) < (i : Int)) = false := decide_eq_false (by omega)
    have hA : a + (i + 1) = a + rdL q := by rw [hok]; show _ = a + (vu _).length; rw [hlen]
    have hV : Value.tuple #[.int .u64 ((x + b.toNat % 128 * 2 ^ (7 * i) : Nat) : Int), .nilIface] = .tuple #[.int .u64 (rdN q : Nat), errV F (rdE q)] := by rw [hok]; rfl
    repeat' (first 
    | (refine is_call ?_; refine KJ_call xE cl xP rfl (fun _ => ?_))
    | (refine ek_load ?_; refine EK_ev (Ev_loadOld rfl e2) ?_)
    | (refine ek_conv ?_; refine EK_ev (Ev_convI_v rfl c1) ?_)
    | (refine ek_index ?_; refine EK_ev (Ev_indexStr rfl rfl (by omega) hbs) ?_)
    | (refine ek_add ?_; first | refine EK_ev (Ev_addI_v (r := ((a + i : Nat) : Int)) rfl rfl (by omega) (by omega)) ?_ | refine EK_ev (Ev_addI_v (r := ((a + (i + 1) : Nat) : Int)) rfl rfl (by omega) (by omega)) ?_ | refine EK_ev (Ev_addI_v (r := ((i + 1 : Nat) : Int)) rfl rfl (by omega) (by omega)) ?_)
    | (refine ek_mul ?_; refine EK_ev (Ev_mulI_v (r := ((7 * i : Nat) : Int)) rfl rfl (by omega) (by omega)) ?_)
    | (refine ek_and ?_; refine EK_ev (Ev_and_s rfl rfl (and127 b)) ?_)
    | (refine ek_or ?_; refine EK_ev (Ev_or_s rfl rfl orr) ?_)
    | (refine ek_shl ?_; refine EK_ev (Ev_shl_t rfl rfl sh) ?_)
    | (refine ek_eql ?_; first | refine EK_ev (Ev_eqlI_q rfl rfl qe) ?_ | refine EK_ev (Ev_eqlI_q rfl rfl q9) ?_ | refine EK_ev (Ev_eqlI_q rfl rfl q0) ?_)
    | (refine ek_lss ?_; refine EK_ev (Ev_lssI_q rfl rfl ql) ?_)
    | (refine ek_gtr ?_; first | refine EK_ev (Ev_gtrI_q rfl rfl q1) ?_ | refine EK_ev (Ev_gtrI_q rfl rfl qb) ?_)
    | refine xst ?_
    | (refine xsa ?_; intro _)
    | (refine xsb ?_ ?_ <;> intro _ <;> first | (exfalso; omega) | skip)
    | refine xsc ?_
    | (refine KJ_draws (id := 5) (.op 0 (.op 1 (.op 2 .nil))) (by kernel_rfl) (by kernel_rfl) ?_)
    | (refine KJ_draws (id := 6) (.op 0 (.op 1 (.op 2 (.op 3 (.op 4 (.op 5 (.op 6 (.op 7 (.op 8 (.op 9 (.op 10 (.op 11 .nil)))))))))))) (by kernel_rfl) (by kernel_rfl) ?_)
    | (refine KJ_draws (id := 8) (.op 0 (.op 1 (.op 2 .nil))) (by kernel_rfl) (by kernel_rfl) ?_)
    | (refine KJ_draws (id := 12) (.op 0 (.op 1 (.op 2 .nil))) (by kernel_rfl) (by kernel_rfl) ?_)
    | refine FW_alt ?_ ?_
    | refine FW_efn rfl rfl rfl rfl rfl ?_ ?_
    | refine KJ_flow ?_ ?_
    | exact Rech.nil
    | fail)
    all_goals rw [hA]
    all_goals exact xdn () (hc := by exact hV)
  · have hok := hi.done hb (by omega) (by omega) (by omega)
    have hlen := RuI.len hok (by omega)
    rw [hq] at hok
    have c1 : IntKind.u64.wrap ((b.toNat % 128 : Nat) : Int) = ((b.toNat % 128 : Nat) : Int) := u64_wrap _ (by omega)
    have hfit := hi.fit (b := b) (by omega)
    have sh := shl7 (b.toNat % 128) i i9 (by omega)
    have orr := or7 x (b.toNat % 128) i hi.x7 hfit
    have ql : decide ((b.toNat : Int) < 128) = true := decide_eq_true (by omega)
    have q9 : decide ((i : Int) = 9) = false := decide_eq_false (by omega)
    have q0 : decide ((b.toNat : Int) = 0) = false := decide_eq_false (by omega)
    have hA : a + (i + 1) = a + rdL q := by rw [hok]; show _ = a + (vu _).length; rw [hlen]
    have hV : Value.tuple #[.int .u64 ((x + b.toNat % 128 * 2 ^ (7 * i) : Nat) : Int), .nilIface] = .tuple #[.int .u64 (rdN q : Nat), errV F (rdE q)] := by rw [hok]; rfl
    repeat' (first 
    | (refine is_call ?_; refine KJ_call xE cl xP rfl (fun _ => ?_))
    | (refine ek_load ?_; refine EK_ev (Ev_loadOld rfl e2) ?_)
    | (refine ek_conv ?_; refine EK_ev (Ev_convI_v rfl c1) ?_)
    | (refine ek_index ?_; refine EK_ev (Ev_indexStr rfl rfl (by omega) hbs) ?_)
    | (refine ek_add ?_; first | refine EK_ev (Ev_addI_v (r := ((a + i : Nat) : Int)) rfl rfl (by omega) (by omega)) ?_ | refine EK_ev (Ev_addI_v (r := ((a + (i + 1) : Nat) : Int)) rfl rfl (by omega) (by omega)) ?_ | refine EK_ev (Ev_addI_v (r := ((i + 1 : Nat) : Int)) rfl rfl (by omega) (by omega)) ?_)
    | (refine ek_mul ?_; refine EK_ev (Ev_mulI_v (r := ((7 * i : Nat) : Int)) rfl rfl (by omega) (by omega)) ?_)
    | (refine ek_and ?_; refine EK_ev (Ev_and_s rfl rfl (and127 b)) ?_)
    | (refine ek_or ?_; refine EK_ev (Ev_or_s rfl rfl orr) ?_)
    | (refine ek_shl ?_; refine EK_ev (Ev_shl_t rfl rfl sh) ?_)
    | (refine ek_eql ?_; first | refine EK_ev (Ev_eqlI_q rfl rfl qe) ?_ | refine EK_ev (Ev_eqlI_q rfl rfl q9) ?_ | refine EK_ev (Ev_eqlI_q rfl rfl q0) ?_)
    | (refine ek_lss ?_; refine EK_ev (Ev_lssI_q rfl rfl ql) ?_)
    | (refine ek_gtr ?_; refine EK_ev (Ev_gtrI_q rfl rfl qb) ?_)
    | refine xst ?_
    | (refine xsa ?_; intro _)
    | (refine xsb ?_ ?_ <;> intro _ <;> first | (exfalso; omega) | skip)
    | refine xsc ?_
    | (refine KJ_draws (id := 5) (.op 0 (.op 1 (.op 2 .nil))) (by kernel_rfl) (by kernel_rfl) ?_)
    | (refine KJ_draws (id := 6) (.op 0 (.op 1 (.op 2 (.op 3 (.op 4 (.op 5 (.op 6 (.op 7 (.op 8 (.op 9 (.op 10 (.op 11 .nil)))))))))))) (by kernel_rfl) (by kernel_rfl) ?_)
    | (refine KJ_draws (id := 8) (.op 0 (.op 1 (.op 2 .nil))) (by kernel_rfl) (by kernel_rfl) ?_)
    | (refine KJ_draws (id := 12) (.op 0 (.op 1 (.op 2 .nil))) (by kernel_rfl) (by kernel_rfl) ?_)
    | refine FW_alt ?_ ?_
    | refine FW_efn rfl rfl rfl rfl rfl ?_ ?_
    | refine KJ_flow ?_ ?_
    | exact Rech.nil
    | fail)
    all_goals rw [hA]
    all_goals exact xdn () (hc := by exact hV)
  · have hnx := hi.next hb (by omega) h9.2
    have c1 : IntKind.u64.wrap ((b.toNat % 128 : Nat) : Int) = ((b.toNat % 128 : Nat) : Int) := u64_wrap _ (by omega)
    have hfit := hi.fit (b := b) (by omega)
    have sh := shl7 (b.toNat % 128) i i9 (by omega)
    have orr := or7 x (b.toNat % 128) i hi.x7 hfit
    have ql : decide ((b.toNat : Int) < 128) = false := decide_eq_false (by omega)
    have q9 : decide ((i : Int) = 9) = false := decide_eq_false (by omega)
    repeat' (first 
    | (refine is_call ?_; refine KJ_call xE cl xP rfl (fun _ => ?_))
    | (refine ek_load ?_; refine EK_ev (Ev_loadOld rfl e2) ?_)
    | (refine ek_conv ?_; refine EK_ev (Ev_convI_v rfl c1) ?_)
    | (refine ek_index ?_; refine EK_ev (Ev_indexStr rfl rfl (by omega) hbs) ?_)
    | (refine ek_add ?_; first | refine EK_ev (Ev_addI_v (r := ((a + i : Nat) : Int)) rfl rfl (by omega) (by omega)) ?_ | refine EK_ev (Ev_addI_v (r := ((a + (i + 1) : Nat) : Int)) rfl rfl (by omega) (by omega)) ?_ | refine EK_ev (Ev_addI_v (r := ((i + 1 : Nat) : Int)) rfl rfl (by omega) (by omega)) ?_)
    | (refine ek_mul ?_; refine EK_ev (Ev_mulI_v (r := ((7 * i : Nat) : Int)) rfl rfl (by omega) (by omega)) ?_)
    | (refine ek_and ?_; refine EK_ev (Ev_and_s rfl rfl (and127 b)) ?_)
    | (refine ek_or ?_; refine EK_ev (Ev_or_s rfl rfl orr) ?_)
    | (refine ek_shl ?_; refine EK_ev (Ev_shl_t rfl rfl sh) ?_)
    | (refine ek_eql ?_; first | refine EK_ev (Ev_eqlI_q rfl rfl qe) ?_ | refine EK_ev (Ev_eqlI_q rfl rfl q9) ?_ | refine EK_ev (Ev_eqlI_q rfl rfl q0) ?_)
    | (refine ek_lss ?_; refine EK_ev (Ev_lssI_q rfl rfl ql) ?_)
    | (refine ek_gtr ?_; refine EK_ev (Ev_gtrI_q rfl rfl qb) ?_)
    | refine xst ?_
    | (refine xsa ?_; intro _)
    | (refine xsb ?_ ?_ <;> intro _ <;> first | (exfalso; omega) | skip)
    | refine xsc ?_
    | (refine KJ_draws (id := 5) (.op 0 (.op 1 (.op 2 .nil))) (by kernel_rfl) (by kernel_rfl) ?_)
    | (refine KJ_draws (id := 6) (.op 0 (.op 1 (.op 2 (.op 3 (.op 4 (.op 5 (.op 6 (.op 7 (.op 8 (.op 9 (.op 10 (.op 11 .nil)))))))))))) (by kernel_rfl) (by kernel_rfl) ?_)
    | (refine KJ_draws (id := 8) (.op 0 (.op 1 (.op 2 .nil))) (by kernel_rfl) (by kernel_rfl) ?_)
    | (refine KJ_draws (id := 12) (.op 0 (.op 1 (.op 2 .nil))) (by kernel_rfl) (by kernel_rfl) ?_)
    | refine FW_alt ?_ ?_
    | refine FW_efn rfl rfl rfl rfl rfl ?_ ?_
    | refine KJ_flow ?_ ?_
    | exact Rech.nil
    | fail)
    all_goals refine KJ_again ⟨(i + 1, x + b.toNat % 128 * 2 ^ (7 * i)), hnx⟩ (by show 10 - (i + 1) < 10 - i; omega) xB (xN)
end
end Go.Proofs.YtdbfemdpdpaffaaGreatDoor
/-
  The package wire: a reader's bytes, limits and texts.
-/
namespace Go.Proofs.YtdbfemdpdpaffaaGreatDoor
open Go Go.RowKit
theorem errNe {F : Nat → Addr} {e : Nat} (h : e ≠ 0) : eqOne (.interface #[("Error", 74)]) (errV F e) .nilIface = some false := by rw [errV_pos F e (by omega)]; rfl
/-- what of a number above the limit is told -/
def uptE (most : Nat) : Rd Nat → Nat
  | .bad e => e
  | .ok x _ => if most < x then 3 else 0
def uptN (most : Nat) : Rd Nat → Nat
  | .bad _ => 0
  | .ok x _ => if most < x then 0 else x
def uptL (most : Nat) : Rd Nat → Nat
  | .bad _ => 0
  | .ok x _ => if most < x then 0 else (vu x).length
section
variable {W : World} {F : Nat → Addr} {p : Nat} {s : List UInt8} {a : Nat}
theorem rdone_ct (ha : a ≤ s.length) (hs : s.length ≤ 9223372036854775807) (e5 : W.cell? ⟨8, 0, none⟩ = some (errV F 5)) :
    Ct Tryz.prog W 55 [.pointer (some ⟨p, 0, none⟩)] [rdP p s a] (fun _ : Unit => errV F (if a < s.length then 5 else 0)) (fun _ => [rdP p s a]) := by
  have cl := rleft_ct (W := W) (p := p) (s := s) (a := a) ha (by omega)
  by_cases h : a < s.length
  · have ql : decide ((0 : Int) < ((s.length - a : Nat) : Int)) = true := decide_eq_true (by omega)
    rw [if_pos h]
    refine Ct.enter Tryz.func55 rfl Tryz.ntmps55 (by simp) (fun R => ?_)
    repeat' (first 
    | (refine is_call ?_; refine KJ_call xE cl xP rfl (fun _ => ?_))
    | (refine ek_load ?_; refine EK_ev (Ev_loadOld rfl e5) ?_)
    | (refine ek_gtr ?_; refine EK_ev (Ev_gtrI_q rfl rfl ql) ?_)
    | refine xst ?_
    | (refine xsa ?_; intro _)
    | (refine xsb ?_ ?_ <;> intro _ <;> first | (exfalso; omega) | skip)
    | refine xsc ?_
    | fail)
    all_goals (exact xdn ())
  · have ql : decide ((0 : Int) < ((s.length - a : Nat) : Int)) = false := decide_eq_false (by omega)
    rw [if_neg h]
    refine Ct.enter Tryz.func55 rfl Tryz.ntmps55 (by simp) (fun R => ?_)
    repeat' (first 
    | (refine is_call ?_; refine KJ_call xE cl xP rfl (fun _ => ?_))
    | (refine ek_gtr ?_; refine EK_ev (Ev_gtrI_q rfl rfl ql) ?_)
    | refine xst ?_
    | (refine xsa ?_; intro _)
    | (refine xsb ?_ ?_ <;> intro _ <;> first | (exfalso; omega) | skip)
    | refine xsc ?_
    | fail)
    all_goals (exact xdn ())
set_option maxHeartbeats 2000000 in
theorem uptoC_ct (br bm most : Nat) (hm : most ≤ 9223372036854775807) (ha : a ≤ s.length) (hs : s.length ≤ 9223372036854775807) (e1 : W.cell? ⟨5, 0, none⟩ = some (errV F 1)) (e2 : W.cell? ⟨6, 0, none⟩ = some (errV F 2)) (e3 : W.cell? ⟨2, 0, none⟩ = some (errV F 3)) (q : Rd Nat) (hq : ru (s.drop a) = q) :
    Ct Tryz.prog W 90 [.pointer (some ⟨br, 0, none⟩), .pointer (some ⟨bm, 0, none⟩)] [rdP p s a, cellsP br [.pointer (some ⟨p, 0, none⟩)] 60, cellsP bm [.int .i64 (most : Nat)] 3] (fun _ : Unit => .tuple #[.int .i64 (IntKind.i64.wrap (rdN q : Nat)), errV F (uptE most q)])
      (fun _ => [rdP p s (a + rdL q), cellsP br [.pointer (some ⟨p, 0, none⟩)] 60, cellsP bm [.int .i64 (most : Nat)] 3]) := by
  have cu := ruint_ct (W := W) (F := F) (p := p) (s := s) (a := a) ha hs e1 e2 q hq
  have cm : IntKind.u64.wrap ((most : Nat) : Int) = ((most : Nat) : Int) := u64_wrap _ (by omega)
  have q0 : decide ((most : Int) < 0) = false := decide_eq_false (by omega)
  cases q with
  | bad e =>
    have hne : e ≠ 0 := by rcases ru_err hq with h | h <;> omega
    have hn := errNe (F := F) hne
    refine Ct.enter Tryz.func90 rfl Tryz.ntmps90 (by simp) (fun R => ?_)
    repeat' (first 
    | (refine is_call ?_; refine KJ_call xE cu xP rfl (fun _ => ?_))
    | (refine ek_eql ?_; refine EK_ev (Ev_eqlNil rfl hn) ?_)
    | refine xst ?_
    | (refine xsa ?_; intro _)
    | (refine xsb ?_ ?_ <;> intro _ <;> first | (exfalso; omega) | skip)
    | refine xsc ?_
    | fail)
    all_goals (exact xdn ())
  | ok x t =>
    have hx := (vu_ru hq).2
    by_cases hl : most < x
    · have qg : decide (((most : Nat) : Int) < ((x : Nat) : Int)) = true := decide_eq_true (by omega)
      have he : uptE most (.ok x t) = 3 := if_pos hl
      rw [he]
      refine Ct.enter Tryz.func90 rfl Tryz.ntmps90 (by simp) (fun R => ?_)
      repeat' (first 
    | (refine is_call ?_; refine KJ_call xE cu xP rfl (fun _ => ?_))
    | (refine ek_load ?_; refine EK_ev (Ev_loadOld rfl e3) ?_)
    | (refine ek_conv ?_; refine EK_ev (Ev_convI_v rfl cm) ?_)
    | (refine ek_lss ?_; refine EK_ev (Ev_lssI_q rfl rfl q0) ?_)
    | (refine ek_gtr ?_; refine EK_ev (Ev_gtrI_q rfl rfl qg) ?_)
    | refine xst ?_
    | (refine xsa ?_; intro _)
    | (refine xsb ?_ ?_ <;> intro _ <;> first | (exfalso; omega) | skip)
    | refine xsc ?_
    | fail)
      all_goals (exact xdn ())
    · have qg : decide (((most : Nat) : Int) < ((x : Nat) : Int)) = false := decide_eq_false (by omega)
      have he : uptE most (.ok x t) = 0 := if_neg hl
      rw [he]
      refine Ct.enter Tryz.func90 rfl Tryz.ntmps90 (by simp) (fun R => ?_)
      repeat' (first 
    | (refine is_call ?_; refine KJ_call xE cu xP rfl (fun _ => ?_))
    | (refine ek_conv ?_; refine EK_ev (Ev_convI_v rfl cm) ?_)
    | (refine ek_lss ?_; refine EK_ev (Ev_lssI_q rfl rfl q0) ?_)
    | (refine ek_gtr ?_; refine EK_ev (Ev_gtrI_q rfl rfl qg) ?_)
    | refine xst ?_
    | (refine xsa ?_; intro _)
    | (refine xsb ?_ ?_ <;> intro _ <;> first | (exfalso; omega) | skip)
    | refine xsc ?_
    | fail)
      all_goals (exact xdn ())
end
end Go.Proofs.YtdbfemdpdpaffaaGreatDoor
/-
  The package wire: a reader goes back where a read is refused; Upto, Text.
-/
namespace Go.Proofs.YtdbfemdpdpaffaaGreatDoor
open Go Go.RowKit
/-- how far Text's closure goes -/
def txA (most : Nat) (l : List UInt8) : Nat := match ru l with
  | .bad _ => 0
  | .ok n t => if most < n then 0 else if t.length < n then (vu n).length else (vu n).length + n
def rdS : Rd (List UInt8) → List UInt8
  | .bad _ => []
  | .ok y _ => y
def rdT : Rd (List UInt8) → Nat
  | .bad _ => 0
  | .ok y _ => (tx y).length
theorem txA_ok {most : Nat} {l y t : List UInt8} (h : rtx most l = .ok y t) : txA most l = (tx y).length := by
  unfold rtx at h
  unfold txA
  split at h
  · cases h
  rename_i n u hu
  rw [hu]
  dsimp only
  split at h
  · cases h
  rename_i h1
  split at h
  · cases h
  rename_i h2
  rw [if_neg h1, if_neg h2]
  cases h
  have e : (u.take n).length = n := by rw [List.length_take]; omega
  unfold tx
  rw [List.length_append, e]
theorem Ev_mkFunc2 {P : Program} {W : World} {n : Nat} {E : Env} {H : List SP} {f : FuncId} {x y : Operand} {u v : Value} (hx : Env.ev E x = some u) (hy : Env.ev E y = some v) : Ev P W n E H (.makeFunc (.func f) #[] #[x, y]) (.func (.func f) #[] #[u, v]) :=
  Ev_mkFunc (f := .func f) (xs := []) (ys := [x, y]) (us := []) (vs := [u, v]) Evs.nil (.cons hx (.cons hy Evs.nil)) rfl
theorem upt_ok {most x : Nat} {t : List UInt8} (h : ¬ most < x) : uptE most (.ok x t) = 0 ∧ uptN most (.ok x t) = x ∧ uptL most (.ok x t) = (vu x).length := ⟨if_neg h, if_neg h, if_neg h⟩
theorem upt_big {most x : Nat} {t : List UInt8} (h : most < x) : uptE most (.ok x t) = 3 ∧ uptN most (.ok x t) = 0 ∧ uptL most (.ok x t) = 0 := ⟨if_pos h, if_pos h, if_pos h⟩
theorem upt_good {most : Nat} {q : Rd Nat} {l : List UInt8} (hm : most ≤ 9223372036854775807) (hq : ru l = q) (he : uptE most q = 0) : uptL most q = rdL q ∧ IntKind.i64.wrap ((rdN q : Nat) : Int) = ((uptN most q : Nat) : Int) := by
  cases q with
  | bad e => exact absurd he (by show e ≠ 0; rcases ru_err hq with h | h <;> omega)
  | ok x t =>
    by_cases h : most < x
    · rw [(upt_big h).1] at he; cases he
    · obtain ⟨h1, h2, h3⟩ := upt_ok (t := t) h
      rw [h2, h3]
      refine ⟨rfl, ?_⟩
      show IntKind.i64.wrap ((x : Nat) : Int) = _
      simp only [IntKind.wrap, IntKind.signed, IntKind.bits]
      simp
      omega
theorem upt_bad {most : Nat} {q : Rd Nat} (he : uptE most q ≠ 0) : uptL most q = 0 ∧ uptN most q = 0 := by
  cases q with
  | bad e => exact ⟨rfl, rfl⟩
  | ok x t =>
    by_cases h : most < x
    · exact ⟨(upt_big h).2.2, (upt_big h).2.1⟩
    · exact absurd (upt_ok h).1 he
section
variable {W : World} {F : Nat → Addr} {p : Nat} {s : List UInt8} {a : Nat}
set_option maxHeartbeats 2000000 in
theorem rupto_ct (most : Nat) (hm : most ≤ 9223372036854775807) (ha : a ≤ s.length) (hs : s.length ≤ 9223372036854775807) (e1 : W.cell? ⟨5, 0, none⟩ = some (errV F 1)) (e2 : W.cell? ⟨6, 0, none⟩ = some (errV F 2)) (e3 : W.cell? ⟨2, 0, none⟩ = some (errV F 3)) (q : Rd Nat) (hq : ru (s.drop a) = q) :
    Ct Tryz.prog W 53 [.pointer (some ⟨p, 0, none⟩), .int .i64 (most : Nat)] [rdP p s a] (fun _ : Unit => .tuple #[.int .i64 (uptN most q : Nat), errV F (uptE most q)]) (fun _ => [rdP p s (a + uptL most q)]) := by
  have cu : ∀ br bm, Ct Tryz.prog W 89 [.pointer (some ⟨p, 0, none⟩), .func (.func 90) #[] #[.pointer (some ⟨br, 0, none⟩), .pointer (some ⟨bm, 0, none⟩)]] [rdP p s a, cellsP br [.pointer (some ⟨p, 0, none⟩)] 60, cellsP bm [.int .i64 (most : Nat)] 3] (fun _ : Unit => .tuple #[.int .i64 (uptN most q : Nat), errV F (uptE most q)])
      (fun _ => [rdP p s (a + uptL most q), cellsP br [.pointer (some ⟨p, 0, none⟩)] 60, cellsP bm [.int .i64 (most : Nat)] 3]) := fun br bm => by
    have cc := uptoC_ct (W := W) (F := F) (p := p) (s := s) (a := a) br bm most hm ha hs e1 e2 e3 q hq
    by_cases he : uptE most q = 0
    · obtain ⟨hl, hn⟩ := upt_good hm hq he
      rw [hn, he] at cc
      rw [he, hl]
      refine Ct.enter Tryz.func89 rfl Tryz.ntmps89 (by simp) (fun R => ?_)
      repeat' (first 
    | (refine is_callV ?_; refine KJ_callV rfl xE rfl cc xP rfl (fun _ => ?_))
    | refine xst ?_
    | (refine xsa ?_; intro _)
    | (refine xsb ?_ ?_ <;> intro _ <;> first | (exfalso; omega) | skip)
    | refine xsc ?_
    | fail)
      all_goals (exact xdn ())
    · obtain ⟨hl, hn⟩ := upt_bad he
      have hne := errNe (F := F) he
      rw [hl, hn]
      refine Ct.enter Tryz.func89 rfl Tryz.ntmps89 (by simp) (fun R => ?_)
      repeat' (first 
    | (refine is_callV ?_; refine KJ_callV rfl xE rfl cc xP rfl (fun _ => ?_))
    | (refine ek_neq ?_; refine EK_ev (Ev_neqNil rfl hne) ?_)
    | refine xst ?_
    | (refine xsa ?_; intro _)
    | (refine xsb ?_ ?_ <;> intro _ <;> first | (exfalso; omega) | skip)
    | refine xsc ?_
    | fail)
      all_goals (exact xdn ())
  refine Ct.enter Tryz.func53 rfl Tryz.ntmps53 (by simp) (fun R => ?_)
  repeat' (first 
    | (refine is_box ?_; refine KJ_box rfl xF rfl (fun g => ?_))
    | (refine is_call ?_; refine KJ_call xE (cu _ _) xP rfl (fun _ => ?_))
    | (refine ek_mkFunc ?_; refine EK_ev (Ev_mkFunc2 rfl rfl) ?_)
    | refine xst ?_
    | (refine xsa ?_; intro _)
    | (refine xsb ?_ ?_ <;> intro _ <;> first | (exfalso; omega) | skip)
    | refine xsc ?_
    | fail)
  all_goals (exact xdn ())
end
end Go.Proofs.YtdbfemdpdpaffaaGreatDoor
/-
  The package wire: a text read.
-/
namespace Go.Proofs.YtdbfemdpdpaffaaGreatDoor
open Go Go.RowKit
theorem Ev_sliceStr_t {P : Program} {W : World} {n : Nat} {E : Env} {H : List SP} {t : TypeId} {x y z : Operand} {l r : List UInt8} {i j : Int} {ki kj : IntKind} (hx : Env.ev E x = some (strV l)) (hy : Env.ev E y = some (.int ki i)) (hz : Env.ev E z = some (.int kj j)) [hu : UIs P t .string] (hb : 0 ≤ i ∧ i ≤ j ∧ j ≤ l.length) (h : (l.take j.toNat).drop i.toNat = r) : Ev P W n E H (.slice t x (some y) (some z) none) (strV r) := by
  subst h; exact Ev_sliceStr hx hy hz hb
theorem rtx_cases (most : Nat) (l : List UInt8) : (∃ e, ru l = .bad e ∧ rtx most l = .bad e ∧ txA most l = 0) ∨ (∃ n t, ru l = .ok n t ∧ most < n ∧ rtx most l = .bad 3 ∧ txA most l = 0) ∨ (∃ n t, ru l = .ok n t ∧ ¬ most < n ∧ t.length < n ∧ rtx most l = .bad 1 ∧ txA most l = (vu n).length) ∨ (∃ n t, ru l = .ok n t ∧ ¬ most < n ∧ ¬ t.length < n ∧ rtx most l = .ok (t.take n) (t.drop n) ∧ txA most l = (vu n).length + n) := by
  unfold rtx txA
  cases h : ru l with
  | bad e => exact .inl ⟨e, rfl, rfl, rfl⟩
  | ok n t =>
    dsimp only
    by_cases h1 : most < n
    · rw [if_pos h1, if_pos h1]; exact .inr (.inl ⟨n, t, rfl, h1, rfl, rfl⟩)
    · rw [if_neg h1, if_neg h1]
      by_cases h2 : t.length < n
      · rw [if_pos h2, if_pos h2]; exact .inr (.inr (.inl ⟨n, t, rfl, h1, h2, rfl, rfl⟩))
      · rw [if_neg h2, if_neg h2]; exact .inr (.inr (.inr ⟨n, t, rfl, h1, h2, rfl, rfl⟩))
section
variable {W : World} {F : Nat → Addr} {p : Nat} {s : List UInt8} {a : Nat}
set_option maxHeartbeats 4000000 in
theorem textC_ct (br bm most : Nat) (hm : most ≤ 9223372036854775807) (ha : a ≤ s.length) (hs : s.length ≤ 9223372036854775807) (e1 : W.cell? ⟨5, 0, none⟩ = some (errV F 1)) (e2 : W.cell? ⟨6, 0, none⟩ = some (errV F 2)) (e3 : W.cell? ⟨2, 0, none⟩ = some (errV F 3)) :
    Ct Tryz.prog W 87 [.pointer (some ⟨br, 0, none⟩), .pointer (some ⟨bm, 0, none⟩)] [rdP p s a, cellsP br [.pointer (some ⟨p, 0, none⟩)] 60, cellsP bm [.int .i64 (most : Nat)] 3] (fun _ : Unit => .tuple #[strV (rdS (rtx most (s.drop a))), errV F (rdE (rtx most (s.drop a)))])
      (fun _ => [rdP p s (a + txA most (s.drop a)), cellsP br [.pointer (some ⟨p, 0, none⟩)] 60, cellsP bm [.int .i64 (most : Nat)] 3]) := by
  have cu0 := fun q hq => rupto_ct (W := W) (F := F) (p := p) (s := s) (a := a) most hm ha hs e1 e2 e3 q hq
  rcases rtx_cases most (s.drop a) with ⟨e, h1, h2, h3⟩ | ⟨n, t, h1, h4, h2, h3⟩ | ⟨n, t, h1, h4, h5, h2, h3⟩ | ⟨n, t, h1, h4, h5, h2, h3⟩
  · have cu := cu0 _ h1
    have hne := errNe (F := F) (e := e) (by rcases ru_err h1 with h | h <;> omega)
    rw [show uptL most (.bad e) = 0 from rfl, show uptE most (.bad e) = e from rfl, show uptN most (.bad e) = 0 from rfl, Nat.add_zero] at cu
    rw [h2, h3, Nat.add_zero]
    refine Ct.enter Tryz.func87 rfl Tryz.ntmps87 (by simp) (fun R => ?_)
    repeat' (first 
    | (refine is_call ?_; refine KJ_call xE cu xP rfl (fun _ => ?_))
    | (refine ek_neq ?_; refine EK_ev (Ev_neqNil rfl hne) ?_)
    | refine xst ?_
    | (refine xsa ?_; intro _)
    | (refine xsb ?_ ?_ <;> intro _ <;> first | (exfalso; omega) | skip)
    | refine xsc ?_
    | (refine KJ_draws (id := 5) (.op 0 (.op 1 (.op 2 .nil))) (by kernel_rfl) (by kernel_rfl) ?_)
    | (refine KJ_draws (id := 7) (.op 0 (.op 1 (.op 2 (.op 3 (.op 4 (.op 5 (.op 6 (.op 7 (.op 8 (.op 9 (.op 10 (.op 11 (.op 12 (.op 13 (.op 14 (.op 15 (.op 16 .nil))))))))))))))))) (by kernel_rfl) (by kernel_rfl) ?_)
    | refine FW_alt ?_ ?_
    | refine FW_efn rfl rfl rfl rfl rfl ?_ ?_
    | refine KJ_flow ?_ ?_
    | exact Rech.nil
    | fail)
    all_goals (exact xdn ())
  · have cu := cu0 _ h1
    obtain ⟨k1, k2, k3⟩ := upt_big (t := t) h4
    rw [k1, k2, k3, Nat.add_zero] at cu
    rw [h2, h3, Nat.add_zero]
    refine Ct.enter Tryz.func87 rfl Tryz.ntmps87 (by simp) (fun R => ?_)
    repeat' (first 
    | (refine is_call ?_; refine KJ_call xE cu xP rfl (fun _ => ?_))
    | refine xst ?_
    | (refine xsa ?_; intro _)
    | (refine xsb ?_ ?_ <;> intro _ <;> first | (exfalso; omega) | skip)
    | refine xsc ?_
    | (refine KJ_draws (id := 5) (.op 0 (.op 1 (.op 2 .nil))) (by kernel_rfl) (by kernel_rfl) ?_)
    | (refine KJ_draws (id := 7) (.op 0 (.op 1 (.op 2 (.op 3 (.op 4 (.op 5 (.op 6 (.op 7 (.op 8 (.op 9 (.op 10 (.op 11 (.op 12 (.op 13 (.op 14 (.op 15 (.op 16 .nil))))))))))))))))) (by kernel_rfl) (by kernel_rfl) ?_)
    | refine FW_alt ?_ ?_
    | refine FW_efn rfl rfl rfl rfl rfl ?_ ?_
    | refine KJ_flow ?_ ?_
    | exact Rech.nil
    | fail)
    all_goals (exact xdn ())
  · have cu := cu0 _ h1
    obtain ⟨k1, k2, k3⟩ := upt_ok (t := t) h4
    rw [k1, k2, k3] at cu
    rw [h2, h3]
    have hf := ru_fit h1
    have ht := congrArg List.length (ru_drop h1)
    rw [List.length_drop] at ht
    obtain ⟨a1, ha1⟩ : ∃ a1, a1 = a + (vu n).length := ⟨_, rfl⟩
    rw [← ha1] at cu hf ht ⊢
    have cl := rleft_ct (W := W) (p := p) (s := s) (a := a1) hf (by omega)
    have ql : decide (((s.length - a1 : Nat) : Int) < ((n : Nat) : Int)) = true := decide_eq_true (by omega)
    refine Ct.enter Tryz.func87 rfl Tryz.ntmps87 (by simp) (fun R => ?_)
    repeat' (first 
    | (refine is_call ?_; first | (refine KJ_call xE cl xP rfl (fun _ => ?_)) | (refine KJ_call xE cu xP rfl (fun _ => ?_)))
    | (refine ek_load ?_; refine EK_ev (Ev_loadOld rfl e1) ?_)
    | (refine ek_lss ?_; refine EK_ev (Ev_lssI_q rfl rfl ql) ?_)
    | refine xst ?_
    | (refine xsa ?_; intro _)
    | (refine xsb ?_ ?_ <;> intro _ <;> first | (exfalso; omega) | skip)
    | refine xsc ?_
    | (refine KJ_draws (id := 5) (.op 0 (.op 1 (.op 2 .nil))) (by kernel_rfl) (by kernel_rfl) ?_)
    | (refine KJ_draws (id := 7) (.op 0 (.op 1 (.op 2 (.op 3 (.op 4 (.op 5 (.op 6 (.op 7 (.op 8 (.op 9 (.op 10 (.op 11 (.op 12 (.op 13 (.op 14 (.op 15 (.op 16 .nil))))))))))))))))) (by kernel_rfl) (by kernel_rfl) ?_)
    | refine FW_alt ?_ ?_
    | refine FW_efn rfl rfl rfl rfl rfl ?_ ?_
    | refine KJ_flow ?_ ?_
    | exact Rech.nil
    | fail)
    all_goals (exact xdn ())
  · have cu := cu0 _ h1
    obtain ⟨k1, k2, k3⟩ := upt_ok (t := t) h4
    rw [k1, k2, k3] at cu
    rw [h2, h3, ← Nat.add_assoc]
    have hf := ru_fit h1
    have htd := ru_drop h1
    have ht := congrArg List.length htd
    rw [List.length_drop] at ht
    obtain ⟨a1, ha1⟩ : ∃ a1, a1 = a + (vu n).length := ⟨_, rfl⟩
    rw [← ha1] at cu hf ht htd ⊢
    have cl := rleft_ct (W := W) (p := p) (s := s) (a := a1) hf (by omega)
    have ql : decide (((s.length - a1 : Nat) : Int) < ((n : Nat) : Int)) = false := decide_eq_false (by omega)
    have hsl : (s.take (Int.toNat ((a1 + n : Nat) : Int))).drop (Int.toNat ((a1 : Nat) : Int)) = t.take n := by
      rw [Int.toNat_natCast, Int.toNat_natCast, htd, List.drop_take]
      congr 1; omega
    refine Ct.enter Tryz.func87 rfl Tryz.ntmps87 (by simp) (fun R => ?_)
    repeat' (first 
    | (refine is_call ?_; first | (refine KJ_call xE cl xP rfl (fun _ => ?_)) | (refine KJ_call xE cu xP rfl (fun _ => ?_)))
    | (refine ek_slice ?_; refine EK_ev (Ev_sliceStr_t rfl rfl rfl (by omega) hsl) ?_)
    | (refine ek_add ?_; refine EK_ev (Ev_addI_v (r := ((a1 + n : Nat) : Int)) rfl rfl (by omega) (by omega)) ?_)
    | (refine ek_sub ?_; refine EK_ev (Ev_subI_v (r := ((a1 : Nat) : Int)) rfl rfl (by omega) (by omega)) ?_)
    | (refine ek_lss ?_; refine EK_ev (Ev_lssI_q rfl rfl ql) ?_)
    | refine xst ?_
    | (refine xsa ?_; intro _)
    | (refine xsb ?_ ?_ <;> intro _ <;> first | (exfalso; omega) | skip)
    | refine xsc ?_
    | (refine KJ_draws (id := 5) (.op 0 (.op 1 (.op 2 .nil))) (by kernel_rfl) (by kernel_rfl) ?_)
    | (refine KJ_draws (id := 7) (.op 0 (.op 1 (.op 2 (.op 3 (.op 4 (.op 5 (.op 6 (.op 7 (.op 8 (.op 9 (.op 10 (.op 11 (.op 12 (.op 13 (.op 14 (.op 15 (.op 16 .nil))))))))))))))))) (by kernel_rfl) (by kernel_rfl) ?_)
    | refine FW_alt ?_ ?_
    | refine FW_efn rfl rfl rfl rfl rfl ?_ ?_
    | refine KJ_flow ?_ ?_
    | exact Rech.nil
    | fail)
    all_goals (exact xdn ())
set_option maxHeartbeats 4000000 in
theorem rtext_ct (most : Nat) (hm : most ≤ 9223372036854775807) (ha : a ≤ s.length) (hs : s.length ≤ 9223372036854775807) (e1 : W.cell? ⟨5, 0, none⟩ = some (errV F 1)) (e2 : W.cell? ⟨6, 0, none⟩ = some (errV F 2)) (e3 : W.cell? ⟨2, 0, none⟩ = some (errV F 3)) (q : Rd (List UInt8)) (hq : rtx most (s.drop a) = q) :
    Ct Tryz.prog W 52 [.pointer (some ⟨p, 0, none⟩), .int .i64 (most : Nat)] [rdP p s a] (fun _ : Unit => .tuple #[strV (rdS q), errV F (rdE q)]) (fun _ => [rdP p s (a + rdT q)]) := by
  have cu : ∀ br bm, Ct Tryz.prog W 86 [.pointer (some ⟨p, 0, none⟩), .func (.func 87) #[] #[.pointer (some ⟨br, 0, none⟩), .pointer (some ⟨bm, 0, none⟩)]] [rdP p s a, cellsP br [.pointer (some ⟨p, 0, none⟩)] 60, cellsP bm [.int .i64 (most : Nat)] 3] (fun _ : Unit => .tuple #[strV (rdS q), errV F (rdE q)])
      (fun _ => [rdP p s (a + rdT q), cellsP br [.pointer (some ⟨p, 0, none⟩)] 60, cellsP bm [.int .i64 (most : Nat)] 3]) := fun br bm => by
    have cc := textC_ct (W := W) (F := F) (p := p) (s := s) (a := a) br bm most hm ha hs e1 e2 e3
    cases q with
    | bad e =>
      have hne := errNe (F := F) (e := e) (by rcases rtx_err hq with h | h | h <;> omega)
      rw [hq] at cc
      rw [show rdT (.bad e) = 0 from rfl, Nat.add_zero]
      refine Ct.enter Tryz.func86 rfl Tryz.ntmps86 (by simp) (fun R => ?_)
      repeat' (first 
    | (refine is_callV ?_; refine KJ_callV rfl xE rfl cc xP rfl (fun _ => ?_))
    | (refine ek_neq ?_; refine EK_ev (Ev_neqNil rfl hne) ?_)
    | refine xst ?_
    | (refine xsa ?_; intro _)
    | (refine xsb ?_ ?_ <;> intro _ <;> first | (exfalso; omega) | skip)
    | refine xsc ?_
    | fail)
      all_goals (exact xdn ())
    | ok y t =>
      rw [hq, txA_ok hq] at cc
      refine Ct.enter Tryz.func86 rfl Tryz.ntmps86 (by simp) (fun R => ?_)
      repeat' (first 
    | (refine is_callV ?_; refine KJ_callV rfl xE rfl cc xP rfl (fun _ => ?_))
    | refine xst ?_
    | (refine xsa ?_; intro _)
    | (refine xsb ?_ ?_ <;> intro _ <;> first | (exfalso; omega) | skip)
    | refine xsc ?_
    | fail)
      all_goals (exact xdn ())
  refine Ct.enter Tryz.func52 rfl Tryz.ntmps52 (by simp) (fun R => ?_)
  repeat' (first 
    | (refine is_box ?_; refine KJ_box rfl xF rfl (fun g => ?_))
    | (refine is_call ?_; refine KJ_call xE (cu _ _) xP rfl (fun _ => ?_))
    | (refine ek_mkFunc ?_; refine EK_ev (Ev_mkFunc2 rfl rfl) ?_)
    | refine xst ?_
    | (refine xsa ?_; intro _)
    | (refine xsb ?_ ?_ <;> intro _ <;> first | (exfalso; omega) | skip)
    | refine xsc ?_
    | fail)
  all_goals (exact xdn ())
end
end Go.Proofs.YtdbfemdpdpaffaaGreatDoor
