/-
  BaW3.
-/
import Derived.Test.YtdbfemdpdpaffaaDoorPAQ
import Derived.Test.YtdbfemdpdpaffaaDoorPBC
import Derived.Test.YtdbfemdpdpaffaaDoorPBG
/-
  The package wire: texts and the end; batch.Encode; the document's number and place.
-/
namespace Go.Proofs.YtdbfemdpdpaffaaDoor
open Go Go.RowKit
theorem u64_wrap (x : Nat) (h : x < 18446744073709551616) : IntKind.u64.wrap (x : Int) = (x : Int) := by
  simp only [IntKind.wrap, IntKind.signed, IntKind.bits]
  simp
  omega
/-- the first i keys rise -/
def AdjTo (ops : List BOp) (i : Nat) : Prop := ∀ j a b, j + 1 < i → ops[j]? = some a → ops[j + 1]? = some b → Op.bytesLess a.key b.key = true
theorem AdjTo.one (ops : List BOp) : AdjTo ops 1 := fun j a b h => absurd h (by omega)
theorem AdjTo.next {ops : List BOp} {i : Nat} (h : AdjTo ops (i + 1)) {a b : BOp} (ha : ops[i]? = some a) (hb : ops[i + 1]? = some b) (hl : Op.bytesLess a.key b.key = true) : AdjTo ops (i + 1 + 1) := fun j x y hj hx hy => by
  by_cases e : j = i
  · subst e
    rw [ha] at hx; rw [hb] at hy; cases hx; cases hy; exact hl
  · exact h j x y (by omega) hx hy
theorem tx_len (s : List UInt8) : s.length + 1 ≤ (tx s).length := by have := vu_pos s.length; unfold tx; rw [List.length_append]; omega
section
variable {P : Program} {W : World} {n d : Nat} {E : Env} {H H' R R' : List SP} {k : KK} {t u e : TypeId} {x y z : Operand} {b off c : Nat}
theorem KJ_appStrB {v : Value} {l m : List UInt8} (hx : Env.ev E x = some v) (hy : Env.ev E y = some (strV m)) [hu : UIs P t (.slice e)] [hstr : UIs P u .string] [hs : SzIs P e 1] [hb : ByIs P e 1] [hz : ZcIs P e [.int .u8 0]] (hsel : Sel (lsP byC e 1 v l) H R)
    (hne : m ≠ [] ∨ v.ownBlock.isSome = true) (hbd : l.length + m.length ≤ 140737488355328) (hn : Nat.blt d n = true)
    (h : ∀ g c, KJ W n k ((d, .slice (some ⟨g, 0, none⟩) (l ++ m).length c) :: E) (lsP byC e 1 (.slice (some ⟨g, 0, none⟩) (l ++ m).length c) (l ++ m) :: R)) : KJ W n (.oper P (.call { callee := .builtin .append, args := #[x, y], argTypes := #[t, u] }) (some d) k) E H := by
  refine KJ_appendStr (hu := hu) (hstr := hstr) (hs := hs) (hb := hb) (hz := hz) hx hy hsel hne hbd hn (fun g c => ?_)
  have := h g c
  unfold lsP at this
  rw [flat_by, List.length_append] at this
  rw [flat_by]
  have e : bvs (l ++ m) = bvs l ++ bvs m := by simp [bvs]
  rw [e] at this
  exact this
theorem Ev_bytesB {s u : TypeId} {g m : Nat} {l : List UInt8} (hx : Env.ev E x = some (.slice (some ⟨g, 0, none⟩) m c)) [hs : UIs P s (.slice e)] [he : UIs P e (.int .u8)] [hd : UIs P u .string] (hsel : Sel (lsP byC e 1 (.slice (some ⟨g, 0, none⟩) m c) l) H R) (hm : m = l.length) : Ev P W n E H (.convert s u x) (strV l) := by
  subst hm
  unfold lsP at hsel
  rw [flat_by] at hsel
  exact Ev_bytesRow (hs := hs) (he := he) (hd := hd) hx hsel
end
section
variable {W : World} {p : Nat} {l : List UInt8}
set_option maxHeartbeats 1000000 in
theorem wtext_ct (m : List UInt8) (hl : l.length + m.length + 10 ≤ 140737488355328) : Ct Tryd.prog W 18 [.pointer (some ⟨p, 0, none⟩), strV m] [WrP p l] (fun _ : Unit => .tuple #[]) (fun _ => [WrP p (l ++ tx m)]) := by
  have cu := wuint_ct (W := W) (p := p) (l := l) m.length (by omega) (by omega)
  have e1 : IntKind.u64.wrap ((m.length : Nat) : Int) = ((m.length : Nat) : Int) := u64_wrap _ (by omega)
  have hv := vu_len m.length
  have hp := vu_pos m.length
  have hbd : (l ++ vu m.length).length + m.length ≤ 140737488355328 := by rw [List.length_append]; omega
  refine Ct.enter Tryd.func18 rfl Tryd.ntmps18 (by simp) (fun R => ?_)
  repeat' (first 
    | (refine is_call ?_; refine KJ_call xE cu xP rfl (fun _ => ?_); refine KJ.wrOpen xS (fun a c => ?_); refine KJ.lsSome xS (by rw [List.length_append]; omega) (fun g hg => ?_); subst hg)
    | (refine is_append ?_; refine KJ_appStrB rfl rfl xS (.inr rfl) hbd rfl (fun g' c' => ?_))
    | (refine ek_conv ?_; refine EK_ev (Ev_convI_v rfl e1) ?_)
    | refine xst ?_
    | (refine xsa ?_; intro _)
    | (refine xsb ?_ ?_ <;> intro _ <;> first | (exfalso; omega) | skip)
    | refine xsc ?_
    | fail)
  all_goals rw [List.append_assoc]
  all_goals refine KJ.packs (tag := 41) (key := p) (F := wrF p (l ++ tx m)) (some ⟨g', 0, none⟩, c') xP ?_
  all_goals (exact xdn ())
theorem wout_ct (hl : 0 < l.length) : Ct Tryd.prog W 21 [.pointer (some ⟨p, 0, none⟩)] [WrP p l] (fun _ : Unit => strV l) (fun _ => [WrP p l]) := by
  refine Ct.enter Tryd.func21 rfl Tryd.ntmps21 (by simp) (fun R => ?_)
  refine KJ.wrOpen xS (fun a c => ?_)
  refine KJ.lsSome xS hl (fun g hg => ?_)
  subst hg
  repeat' (first 
    | (refine ek_conv ?_; refine EK_ev (Ev_bytesB rfl xS rfl) ?_)
    | refine xst ?_
    | (refine xsa ?_; intro _)
    | (refine xsb ?_ ?_ <;> intro _ <;> first | (exfalso; omega) | skip)
    | refine xsc ?_
    | fail)
  all_goals refine KJ.packs (tag := 41) (key := p) (F := wrF p l) (some ⟨g, 0, none⟩, c) xP ?_
  all_goals (exact xdn ())
end
end Go.Proofs.YtdbfemdpdpaffaaDoor
