/-
  BaW2, BaW3.
-/
import Derived.Test.YtdbfemdpdpaffaaGreatDoorPBD
import Derived.Test.YtdbfemdpdpaffaaGreatDoorPBG
import Derived.Test.YtdbfemdpdpaffaaGreatDoorPAX
import Derived.Test.YtdbfemdpdpaffaaGreatDoorPAR
/-
  The package wire: a writer; the document's numbers.
-/
namespace Go.Proofs.YtdbfemdpdpaffaaGreatDoor
open Go Go.RowKit
def byC (b : UInt8) : List Value := [bv b]
theorem byC_ok : EncOk byC 1 := ⟨fun _ => rfl, fun b => by unfold byC bv; exact xO, by omega⟩
theorem flat_by (l : List UInt8) : l.flatMap byC = bvs l := by
  induction l with
  | nil => rfl
  | cons b l ih => rw [List.flatMap_cons, ih]; rfl
abbrev byP (v : Value) (l : List UInt8) : SP := lsP byC 5 1 v l
def wrF (p : Nat) (l : List UInt8) (x : Option Addr × Nat) : List SP := [cellsP p [.slice x.1 l.length x.2] 120, byP (.slice x.1 l.length x.2) l]
/-- a writer that holds l -/
def WrP (p : Nat) (l : List UInt8) : SP := packP 41 p (wrF p l)
structure ShrF (kd : IntKind) (i s y : Int) : Prop where
  h0 : 0 ≤ s
  h : i.fdiv (2 ^ (min s.toNat kd.bits)) = y
theorem Ev_shr_s {P : Program} {W : World} {n : Nat} {E : Env} {H : List SP} {t u : TypeId} {x y : Operand} {kd yk : IntKind} {i j r : Int} (hx : Env.ev E x = some (.int kd i)) (hy : Env.ev E y = some (.int yk j)) (h : ShrF kd i j r) : Ev P W n E H (.binOp .shr t x y u) (.int kd r) := by
  have q := h.h
  subst q
  exact Ev_shr hx hy h.h0
structure OrF (kd : IntKind) (i j y : Int) : Prop where
  h : bits .or kd i j = y
theorem Ev_or_s {P : Program} {W : World} {n : Nat} {E : Env} {H : List SP} {t u : TypeId} {x y : Operand} {kd : IntKind} {i j r : Int} (hx : Env.ev E x = some (.int kd i)) (hy : Env.ev E y = some (.int kd j)) (h : OrF kd i j r) : Ev P W n E H (.binOp .or t x y u) (.int kd r) := by
  have q := h.h
  subst q
  exact Ev_or hx hy
theorem or128 (x : Nat) : OrF .u8 ((x % 256 : Nat) : Int) 128 ((UInt8.ofNat (x % 128 + 128)).toNat : Int) := by
  refine ⟨?_⟩
  have key : ∀ y : Fin 256, bits .or .u8 ((y.val : Nat) : Int) 128 = ((UInt8.ofNat (y.val % 128 + 128)).toNat : Int) := by decide +kernel
  have := key ⟨x % 256, by omega⟩
  rw [this]
  have e : x % 256 % 128 = x % 128 := by omega
  show ((UInt8.ofNat (x % 256 % 128 + 128)).toNat : Int) = _
  rw [e]
theorem KJ.wrOpen {W : World} {n : Nat} {k : KK} {E : Env} {H R : List SP} {p : Nat} {l : List UInt8} (q : Sel (WrP p l) H R) (h : ∀ a c, KJ W n k E (cellsP p [.slice a l.length c] 120 :: byP (.slice a l.length c) l :: R)) : KJ W n k E H := KJ.unpack_at q fun x => h x.1 x.2
theorem u8_wrap (x : Nat) : IntKind.u8.wrap (x : Int) = ((x % 256 : Nat) : Int) := by
  simp [IntKind.wrap, IntKind.signed, IntKind.bits]
theorem u8_nat (x : Nat) : ((x % 256 : Nat) : Int) = ((UInt8.ofNat x).toNat : Int) := by rw [UInt8.toNat_ofNat']
theorem shr7 (x : Nat) : ShrF .u64 (x : Int) 7 ((x / 128 : Nat) : Int) := by
  refine ⟨by omega, ?_⟩
  show (x : Int).fdiv 128 = _
  rw [Int.fdiv_eq_ediv_of_nonneg _ (by omega)]
  omega
theorem vuF_small {f x : Nat} (h : x < 128) : vuF (f + 1) x = [UInt8.ofNat x] := by unfold vuF; rw [if_pos h]
theorem vuF_big {f x : Nat} (h : ¬ x < 128) : vuF (f + 1) x = UInt8.ofNat (x % 128 + 128) :: vuF f (x / 128) := by rw [vuF, if_neg h]
/-- a number under way -/
def VuI (l0 : List UInt8) (x0 : Nat) (i : List UInt8 × Nat × Nat) : Prop := i.1 ++ vuF (i.2.2 + 1) i.2.1 = l0 ++ vu x0 ∧ i.2.1 < 128 ^ (i.2.2 + 1) ∧ i.2.1 ≤ x0 ∧ l0.length ≤ i.1.length
theorem VuI.start (l : List UInt8) {x : Nat} (hx : x < 18446744073709551616) : VuI l x (l, x, 9) := ⟨rfl, by show x < 128 ^ 10; omega, Nat.le_refl _, Nat.le_refl _⟩
theorem VuI.next {l0 l : List UInt8} {x0 x f : Nat} (h : VuI l0 x0 (l, x, f)) (hx : ¬ x < 128) : ∃ f', f = f' + 1 ∧ VuI l0 x0 (l ++ [UInt8.ofNat (x % 128 + 128)], x / 128, f') := by
  obtain ⟨h1, h2, h3, h4⟩ := h
  dsimp only at h1 h2 h3 h4
  cases f with
  | zero => simp at h2; omega
  | succ f =>
    refine ⟨f, rfl, ?_, ?_, ?_, ?_⟩
    · dsimp only
      rw [vuF_big hx] at h1
      rw [List.append_assoc]; exact h1
    · dsimp only
      rw [Nat.pow_succ] at h2
      exact Nat.div_lt_of_lt_mul (by rw [Nat.mul_comm]; exact h2)
    · dsimp only; omega
    · dsimp only; rw [List.length_append]; omega
theorem VuI.last {l0 l : List UInt8} {x0 x f : Nat} (h : VuI l0 x0 (l, x, f)) (hx : x < 128) : l ++ [UInt8.ofNat x] = l0 ++ vu x0 := by
  have h1 := h.1
  dsimp only at h1
  rw [vuF_small hx] at h1; exact h1
theorem VuI.len {l0 : List UInt8} {x0 : Nat} {i : List UInt8 × Nat × Nat} (h : VuI l0 x0 i) : i.1.length + 1 ≤ l0.length + (vu x0).length := by
  have := congrArg List.length h.1
  rw [List.length_append, List.length_append] at this
  have := vuF_pos i.2.2 i.2.1
  omega
theorem vu_len (x : Nat) : (vu x).length ≤ 10 := vuF_le 10 x
theorem vu_pos (x : Nat) : 1 ≤ (vu x).length := vuF_pos 9 x
section
variable {W : World} {p : Nat} {l : List UInt8}
theorem wnew_ct : Ct Tryz.prog W 38 [] [] (fun p : Nat => .pointer (some ⟨p, 0, none⟩)) (fun p => [WrP p []]) := by
  refine Ct_packs (fun _ => ((none : Option Addr), (0 : Nat))) ?_
  refine Ct.enter Tryz.func38 rfl Tryz.ntmps38 (by simp) (fun R => ?_)
  repeat' (first 
    | (refine is_box ?_; refine KJ_box rfl xF rfl (fun g => ?_))
    | (refine ek_build ?_; refine EK_ev (Ev_build xV xW) ?_)
    | refine xst ?_
    | (refine xsa ?_; intro _)
    | (refine xsb ?_ ?_ <;> intro _ <;> first | (exfalso; omega) | skip)
    | refine xsc ?_
    | fail)
  all_goals refine KJ.nilrow 5 1 ?_
  all_goals (exact xdn g)
set_option maxHeartbeats 1000000 in
theorem wuint_ct (x : Nat) (hx : x < 18446744073709551616) (hl : l.length + 10 ≤ 140737488355328) : Ct Tryz.prog W 40 [.pointer (some ⟨p, 0, none⟩), .int .u64 (x : Nat)] [WrP p l] (fun _ : Unit => .tuple #[]) (fun _ => [WrP p (l ++ vu x)]) := by
  refine Ct.enter Tryz.func40 rfl Tryz.ntmps40 (by simp) (fun R => ?_)
  repeat' (first 
    | refine xst ?_
    | (refine xsa ?_; intro _)
    | (refine xsb ?_ ?_ <;> intro _ <;> first | (exfalso; omega) | skip)
    | refine xsc ?_
    | fail)
  refine KJ_loop (fun i : {i : List UInt8 × Nat × Nat // VuI l x i} => [(0, .pointer (some ⟨p, 0, none⟩)), (1, .int .u64 (i.1.2.1 : Nat))])
    (fun i => [WrP p i.1.1] ++ R) (fun i => i.1.2.2) ⟨(l, x, 9), VuI.start l hx⟩ xB (xN) (fun ⟨(l', y, f), hi⟩ => ?_)
  dsimp only
  have hlen := hi.len
  have hv := vu_len x
  dsimp only at hlen
  refine KJ.wrOpen xS (fun a c => ?_)
  have b1 : (l'.length + 1) * 1 ≤ 140737488355328 := by omega
  have b2 : l'.length + 1 ≤ 9223372036854775807 := by omega
  by_cases hlt : y < 128
  · have ql : decide ((128 : Int) ≤ (y : Nat)) = false := decide_eq_false (by omega)
    have e1 : IntKind.u8.wrap ((y : Nat) : Int) = ((UInt8.ofNat y).toNat : Int) := by rw [u8_wrap, u8_nat]
    repeat' (first 
    | (refine is_append ?_; refine KJ_appOne (a := UInt8.ofNat y) byC_ok rfl rfl rfl xS xS b1 b2 rfl (fun g' c' => ?_))
    | (refine is_bslice ?_; refine KJ_bslice1 rfl xF (by rfl) (by omega) rfl (fun gb => ?_))
    | (refine ek_conv ?_; refine EK_ev (Ev_convI_v rfl e1) ?_)
    | (refine ek_geq ?_; refine EK_ev (Ev_geqI_q rfl rfl ql) ?_)
    | refine xst ?_
    | (refine xsa ?_; intro _)
    | (refine xsb ?_ ?_ <;> intro _ <;> first | (exfalso; omega) | skip)
    | refine xsc ?_
    | fail)
    all_goals rw [hi.last hlt]
    all_goals refine KJ.packs (tag := 41) (key := p) (F := wrF p (l ++ vu x)) (some ⟨g', 0, none⟩, c') xP ?_
    all_goals (exact xdn ())
  · have ql : decide ((128 : Int) ≤ (y : Nat)) = true := decide_eq_true (by omega)
    obtain ⟨f', rfl, hn⟩ := hi.next hlt
    repeat' (first 
    | (refine is_append ?_; refine KJ_appOne (a := UInt8.ofNat (y % 128 + 128)) byC_ok rfl rfl rfl xS xS b1 b2 rfl (fun g' c' => ?_))
    | (refine is_bslice ?_; refine KJ_bslice1 rfl xF (by rfl) (by omega) rfl (fun gb => ?_))
    | (refine ek_conv ?_; refine EK_ev (Ev_convI_v rfl (u8_wrap y)) ?_)
    | (refine ek_or ?_; refine EK_ev (Ev_or_s rfl rfl (or128 y)) ?_)
    | (refine ek_shr ?_; refine EK_ev (Ev_shr_s rfl rfl (shr7 y)) ?_)
    | (refine ek_geq ?_; refine EK_ev (Ev_geqI_q rfl rfl ql) ?_)
    | refine xst ?_
    | (refine xsa ?_; intro _)
    | (refine xsb ?_ ?_ <;> intro _ <;> first | (exfalso; omega) | skip)
    | refine xsc ?_
    | fail)
    all_goals refine KJ.packs (tag := 41) (key := p) (F := wrF p (l' ++ [UInt8.ofNat (y % 128 + 128)])) (some ⟨g', 0, none⟩, c') xP ?_
    all_goals refine KJ_again ⟨(l' ++ [UInt8.ofNat (y % 128 + 128)], y / 128, f'), hn⟩ (by show f' < f' + 1; omega) xB (xN)
end
end Go.Proofs.YtdbfemdpdpaffaaGreatDoor
/-
  The package wire: texts and the end; batch.Encode; the document's number and place.
-/
namespace Go.Proofs.YtdbfemdpdpaffaaGreatDoor
open Go Go.RowKit
theorem u64_wrap (x : Nat) (h : x < 18446744073709551616) : IntKind.u64.wrap (x : Int) = (x : Int) := by
  simp only [IntKind.wrap, IntKind.signed, IntKind.bits]
  simp
  omega
/-- the first i keys rise -/
def AdjTo (ops : List BOp) (i : Nat) : Prop := ∀ j a b, j + 1 < i → ops[j]? = some a → ops[j + 1]? = some b → Op.bytesLess a.key b.key = true
theorem AdjTo.one (ops : List BOp) : AdjTo ops 1 := fun j a b h => absurd h (by omega)
theorem AdjTo.next {ops : List BOp} {i : Nat} (h : AdjTo ops (i + 1)) {a b : BOp} (ha : ops[i]? = some a) (hb : ops[i + 1]? = some b) (hl : Op.bytesLess a.key b.key = true) : AdjTo ops (i + 1 + 1) := fun j x y hj hx hy => by
  by_cases e : j = i
  · subst e
    rw [ha] at hx; rw [hb] at hy; cases hx; cases hy; exact hl
  · exact h j x y (by omega) hx hy
theorem AdjTo.rises : ∀ {ops : List BOp}, AdjTo ops ops.length → risesB ops = true
  | [], _ => rfl
  | [_], _ => rfl
  | a :: b :: r, h => by
    unfold risesB
    rw [h 0 a b (by simp) rfl rfl, Bool.true_and]
    exact AdjTo.rises (ops := b :: r) fun j x y hj hx hy => h (j + 1) x y (by simp at hj ⊢; omega) hx hy
theorem tx_len (s : List UInt8) : s.length + 1 ≤ (tx s).length := by have := vu_pos s.length; unfold tx; rw [List.length_append]; omega
section
variable {P : Program} {W : World} {n d : Nat} {E : Env} {H H' R R' : List SP} {k : KK} {t u e : TypeId} {x y z : Operand} {b off c : Nat}
theorem KJ_appStrB {v : Value} {l m : List UInt8} (hx : Env.ev E x = some v) (hy : Env.ev E y = some (strV m)) [hu : UIs P t (.slice e)] [hstr : UIs P u .string] [hs : SzIs P e 1] [hb : ByIs P e 1] [hz : ZcIs P e [.int .u8 0]] (hsel : Sel (lsP byC e 1 v l) H R)
    (hne : m ≠ [] ∨ v.ownBlock.isSome = true) (hbd : l.length + m.length ≤ 140737488355328) (hn : Nat.blt d n = true)
    (h : ∀ g c, KJ W n k ((d, .slice (some ⟨g, 0, none⟩) (l ++ m).length c) :: E) (lsP byC e 1 (.slice (some ⟨g, 0, none⟩) (l ++ m).length c) (l ++ m) :: R)) : KJ W n (.oper P (.call { callee := .builtin .append, args := #[x, y], argTypes := #[t, u] }) (some d) k) E H := by
  refine KJ_appendStr (hu := hu) (hstr := hstr) (hs := hs) (hb := hb) (hz := hz) hx hy hsel hne hbd hn (fun g c => ?_)
  have := h g c
  unfold lsP at this
  rw [flat_by, List.length_append] at this
  rw [flat_by]
  have e : bvs (l ++ m) = bvs l ++ bvs m := by simp [bvs]
  rw [e] at this
  exact this
theorem Ev_bytesB {s u : TypeId} {g m : Nat} {l : List UInt8} (hx : Env.ev E x = some (.slice (some ⟨g, 0, none⟩) m c)) [hs : UIs P s (.slice e)] [he : UIs P e (.int .u8)] [hd : UIs P u .string] (hsel : Sel (lsP byC e 1 (.slice (some ⟨g, 0, none⟩) m c) l) H R) (hm : m = l.length) : Ev P W n E H (.convert s u x) (strV l) := by
  subst hm
  unfold lsP at hsel
  rw [flat_by] at hsel
  exact Ev_bytesRow (hs := hs) (he := he) (hd := hd) hx hsel
end
section
variable {W : World} {p : Nat} {l : List UInt8}
set_option maxHeartbeats 1000000 in
theorem wtext_ct (m : List UInt8) (hl : l.length + m.length + 10 ≤ 140737488355328) : Ct Tryz.prog W 39 [.pointer (some ⟨p, 0, none⟩), strV m] [WrP p l] (fun _ : Unit => .tuple #[]) (fun _ => [WrP p (l ++ tx m)]) := by
  have cu := wuint_ct (W := W) (p := p) (l := l) m.length (by omega) (by omega)
  have e1 : IntKind.u64.wrap ((m.length : Nat) : Int) = ((m.length : Nat) : Int) := u64_wrap _ (by omega)
  have hv := vu_len m.length
  have hp := vu_pos m.length
  have hbd : (l ++ vu m.length).length + m.length ≤ 140737488355328 := by rw [List.length_append]; omega
  refine Ct.enter Tryz.func39 rfl Tryz.ntmps39 (by simp) (fun R => ?_)
  repeat' (first 
    | (refine is_call ?_; refine KJ_call xE cu xP rfl (fun _ => ?_); refine KJ.wrOpen xS (fun a c => ?_); refine KJ.lsSome xS (by rw [List.length_append]; omega) (fun g hg => ?_); subst hg)
    | (refine is_append ?_; refine KJ_appStrB rfl rfl xS (.inr rfl) hbd rfl (fun g' c' => ?_))
    | (refine ek_conv ?_; refine EK_ev (Ev_convI_v rfl e1) ?_)
    | refine xst ?_
    | (refine xsa ?_; intro _)
    | (refine xsb ?_ ?_ <;> intro _ <;> first | (exfalso; omega) | skip)
    | refine xsc ?_
    | fail)
  all_goals rw [List.append_assoc]
  all_goals refine KJ.packs (tag := 41) (key := p) (F := wrF p (l ++ tx m)) (some ⟨g', 0, none⟩, c') xP ?_
  all_goals (exact xdn ())
theorem wout_ct (hl : 0 < l.length) : Ct Tryz.prog W 42 [.pointer (some ⟨p, 0, none⟩)] [WrP p l] (fun _ : Unit => strV l) (fun _ => [WrP p l]) := by
  refine Ct.enter Tryz.func42 rfl Tryz.ntmps42 (by simp) (fun R => ?_)
  refine KJ.wrOpen xS (fun a c => ?_)
  refine KJ.lsSome xS hl (fun g hg => ?_)
  subst hg
  repeat' (first 
    | (refine ek_conv ?_; refine EK_ev (Ev_bytesB rfl xS rfl) ?_)
    | refine xst ?_
    | (refine xsa ?_; intro _)
    | (refine xsb ?_ ?_ <;> intro _ <;> first | (exfalso; omega) | skip)
    | refine xsc ?_
    | fail)
  all_goals refine KJ.packs (tag := 41) (key := p) (F := wrF p l) (some ⟨g, 0, none⟩, c) xP ?_
  all_goals (exact xdn ())
end
end Go.Proofs.YtdbfemdpdpaffaaGreatDoor
