/-
  Mp3.
-/
import Derived.Test.YtdbfemdpdpaffaaGreatDoorPAZ
/-
  More on maps: a look while an entry is held, keys of two cells, forms of the operations on maps.
-/
namespace Go.Proofs.YtdbfemdpdpaffaaGreatDoor
open Go Go.RowKit Go.MapKept
section
variable {P : Program} {W w : World} {n d : Nat} {E : Env} {H H' R : List SP} {k : KK} {t kt e : TypeId} {x y z : Operand} {dd : Option Tmp}
theorem is_mapEntry (h : KJ W n (.oper P (.mapEntry t x y) dd k) E H) : KJ W n (.oper P (.mapEntry t x y) dd k) E H := h
theorem is_entryStore (h : KJ W n (.oper P (.entryStore t x y z) dd k) E H) : KJ W n (.oper P (.entryStore t x y z) dd k) E H := h
theorem is_callV {t : Nat} {xs : Array Operand} {ts : Array TypeId} (h : KJ W n (.oper P (.call { callee := .value (.tmp t), args := xs, argTypes := ts }) dd k) E H) : KJ W n (.oper P (.call { callee := .value (.tmp t), args := xs, argTypes := ts }) dd k) E H := h
variable {α β : Type} {kf : α → Value} {vf : β → Value} {b : Nat} {m : List (α × β)} 
theorem St.ment {a : α} {st : Nat} (s : St W H w) (p : Sel (mentP kf vf b m a st) H R) : ∃ es clock, w.heap[b]? = some (.map es clock) ∧ Stamped es clock ∧ kvs es.toList = encs kf vf m := by
  obtain ⟨h, ⟨es, c, q, r1, r2, _⟩, ls⟩ := s.sel p mentP_up
  exact ⟨es, c, (ls _ _ q).2, r1, r2⟩
variable [DecidableEq α]
/-- m[k] while an entry of m is held -/
theorem Ev_lookupE {zv v : Value} {a a' : α} {st : Nat} (K : KyOk P kt kf) (hx : Env.ev E x = some (.map (some b))) (hy : Env.ev E y = some (kf a)) [hu : UIs P t (.map kt e)] [hz : ZvIs P e zv] (hs : Sel (mentP kf vf b m a' st) H R) (hv : (lk m a).elim zv vf = v) : Ev P W n E H (.lookup t x y false) v :=
  Ev.mk fun o ho a' w p q => by
    obtain ⟨es, c, hb, h1, h2⟩ := q.ment hs
    have := run_lookup_lk (P := P) (w := w) K hu.h (ZvIs.run w) hb h1 h2 a false
    subst hv
    simp [execOp, ho, p.ev hx, p.ev hy, this]
end
section
variable {P : Program}
/-- a key of a text and a number -/
theorem ky_pair {k ts ti : TypeId} {f0 f1 : Field} {q : IntKind} (hu : P.underlying k = some (.struct #[f0, f1])) (hst : P.stoodInHeld k = false) (h0 : f0.type = ts) (h1 : f1.type = ti) (o0 : f0.offset = 0) (o1 : f1.offset = 1) (n0 : f0.name ≠ "_") (n1 : f1.name ≠ "_")
    (hs : P.underlying ts = some .string) (hi : P.underlying ti = some (.int q)) : KyOk P k (fun a : List UInt8 × Int => .agg #[strV a.1, .int q a.2]) where
  inj := fun a b h => by
    simp only [Value.agg.injEq, Array.mk.injEq, List.cons.injEq, Value.string.injEq, ByteArray.mk.injEq, Value.int.injEq, and_true, true_and] at h
    exact Prod.ext h.1 h.2
  check := fun w em a => by
    have p0 : (part ts #[strV a.1, .int q a.2] 0).run P w = .ok (strV a.1) w := by simp [part, run_isAgg_of hs, isAggD, Result.andThen]
    have p1 : (part ti #[strV a.1, .int q a.2] 1).run P w = .ok (.int q a.2) w := by simp [part, run_isAgg_of hi, isAggD, Result.andThen]
    have c0 : (Instr.checkKey em 9999 ts (strV a.1)).run P w = .ok () w := run_checkKey (k := strV a.1) hs trivial em 9998
    have c1 : (Instr.checkKey em 9999 ti (.int q a.2)).run P w = .ok () w := run_checkKey (k := .int q a.2) hi rfl em 9998
    show (Instr.checkKey em (9999 + 1) k _).run P w = _
    unfold Instr.checkKey
    simp [run_underlying hu, h0, h1, o0, o1, n0, n1, p0, p1, c0, c1, Result.andThen]
  find := fun w a es hes => by
    have eq : ∀ b : List UInt8 × Int, (Op.equal k (.agg #[strV a.1, .int q a.2]) (.agg #[strV b.1, .int q b.2])).run P w = .ok (decide (a = b)) w := fun b => by
      have hE : EqF P [strV a.1, .int q a.2] [strV b.1, .int q b.2] [f0, f1] (decide (a = b)) := by
        have e : decide (a = b) = (decide (a.1 = b.1) && (decide (a.2 = b.2) && true)) := by
          rw [Bool.eq_iff_iff]; simp [Prod.ext_iff]
        rw [e]
        have i0 : UIs P f0.type .string := ⟨by rw [h0]; exact hs⟩
        have i1 : UIs P f1.type (.int q) := ⟨by rw [h1]; exact hi⟩
        refine EqF.cons (by simpa using n0) i0 (by rw [o0]; rfl) (by rw [o0]; rfl) (b := decide (a.1 = b.1)) (by simp [cellEq]) (EqF.cons (by simpa using n1) i1 (by rw [o1]; rfl) (by rw [o1]; rfl) (b := decide (a.2 = b.2)) (by simp [cellEq]) EqF.nil)
      exact run_eqlStruct hu hst hE 9998 w
    have ask : ∀ (es : List MapEntry) (i : Nat), (∀ e ∈ es, ∃ b : List UInt8 × Int, e.key = .agg #[strV b.1, .int q b.2]) → ((Instr.findAsking k (.agg #[strV a.1, .int q a.2]) es i).run P w = .ok none w ∧ ∀ e ∈ es, e.key ≠ .agg #[strV a.1, .int q a.2]) ∨
        ∃ j e, (Instr.findAsking k (.agg #[strV a.1, .int q a.2]) es i).run P w = .ok (some (i + j, e.val)) w ∧ es[j]? = some e ∧ e.key = .agg #[strV a.1, .int q a.2] := by
      intro es
      induction es with
      | nil => intro i _; exact .inl ⟨rfl, by simp⟩
      | cons e es ih =>
        intro i hes
        obtain ⟨b, hb⟩ := hes e (by simp)
        have he := eq b
        by_cases hab : a = b
        · subst hab
          rw [decide_eq_true rfl] at he
          exact .inr ⟨0, e, by simp [Instr.findAsking, hb, he, Result.andThen], rfl, hb⟩
        · rw [decide_eq_false hab] at he
          have hne : e.key ≠ .agg #[strV a.1, .int q a.2] := by
            rw [hb]; intro h
            simp only [Value.agg.injEq, Array.mk.injEq, List.cons.injEq, Value.string.injEq, ByteArray.mk.injEq, Value.int.injEq, and_true, true_and] at h
            exact hab (Prod.ext h.1.symm h.2.symm)
          rcases ih (i + 1) (fun x hx => hes x (by simp [hx])) with ⟨q1, q2⟩ | ⟨j, e', q1, q2, q3⟩
          · exact .inl ⟨by simp [Instr.findAsking, hb, he, q1, Result.andThen], fun x hx => (List.mem_cons.1 hx).elim (fun h => by subst h; exact hne) (fun h => q2 x h)⟩
          · exact .inr ⟨j + 1, e', by rw [show i + (j + 1) = i + 1 + j by omega]; simp [Instr.findAsking, hb, he, q1, Result.andThen], by simpa using q2, q3⟩
    cases es with
    | nil => exact .inl ⟨by simp [Instr.findKey, run_underlying hu, Instr.findNow, Result.andThen], by simp⟩
    | cons e es =>
      have hn : Instr.findNow (.struct #[f0, f1]) (.agg #[strV a.1, .int q a.2]) (e :: es) 0 = none := by
        simp [Instr.findNow, Instr.sameNow]
      rcases ask (e :: es) 0 hes with ⟨q1, q2⟩ | ⟨j, e', q1, q2, q3⟩
      · exact .inl ⟨by simp [Instr.findKey, run_underlying hu, hn, q1, Result.andThen], q2⟩
      · exact .inr ⟨j, e', by simp [Instr.findKey, run_underlying hu, hn, q1, Result.andThen], q2, q3⟩
  stays := fun w a => by
    unfold Instr.keyThatStays
    have : Instr.sameBits 10000 (.agg #[strV a.1, .int q a.2]) (.agg #[strV a.1, .int q a.2]) = true := by
      show Instr.sameBits (9999 + 1) _ _ = true
      simp [Instr.sameBits, (bytes_beq (⟨a.1.toArray⟩ : ByteArray) _).2 rfl]
    rw [if_pos this]; rfl
end
end Go.Proofs.YtdbfemdpdpaffaaGreatDoor
