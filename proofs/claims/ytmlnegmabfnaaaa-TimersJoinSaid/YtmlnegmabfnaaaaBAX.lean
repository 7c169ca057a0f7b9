/-
  Seq.
-/
import Derived.Test.YtmlnegmabfnaaaaBAW
import Derived.Laws.StructEq
import Derived.DeepKeys4
/-
  Structs of plain fields compared.
-/
namespace Go.Proofs.Ytmlnegmabfnaaaa
open Go Go.RowKit Go.MapKept
/-- two cells of a plain type: are they the same? -/
def cellEq : TypeDesc → Value → Value → Option Bool
  | .int k, .int k1 a, .int k2 b => if k1 = k ∧ k2 = k then some (decide (a = b)) else none
  | .string, .string a, .string b => some (decide (a.data.toList = b.data.toList))
  | .bool, .bool a, .bool b => some (decide (a = b))
  | _, _, _ => none
/-- nothing stands for a value of the type; two of them may be compared -/
class StIs (P : Program) (t : TypeId) : Prop where h : P.stoodInHeld t = false ∧ P.eqGuardType P.depth t = false
inductive EqF (P : Program) (xs ys : List Value) : List Field → Bool → Prop
  | nil : EqF P xs ys [] true
  | cons {f : Field} {fs : List Field} {d : TypeDesc} {x y : Value} {b b' : Bool} : (f.name == "_") = false → UIs P f.type d → xs[f.offset]? = some x → ys[f.offset]? = some y → cellEq d x y = some b → EqF P xs ys fs b' → EqF P xs ys (f :: fs) (b && b')
section
variable {P : Program} {W : World} {n : Nat} {E : Env} {H : List SP} {t u : TypeId} {x y : Operand} {xs ys : List Value} {fs : Array Field} {b c : Bool}
theorem cellEq_run {d : TypeDesc} {t : TypeId} {v w' : Value} {b : Bool} (hu : P.underlying t = some d) (h : cellEq d v w' = some b) (m : Nat) (w : World) : (Op.equalIn (m + 1) t v w').run P w = .ok b w := by
  unfold cellEq at h
  split at h
  · split at h
    · rename_i k k1 a k2 b' hk
      obtain ⟨rfl, rfl⟩ := hk
      cases h
      rw [run_equalIn_int (w := w) m t _ _ _ _ hu]
      by_cases e : a = b' <;> simp [e]
    · cases h
  · cases h
    rw [run_equalIn_string w m t _ _ hu]
    rename_i a b'
    rw [ByteArray.toList_eq, ByteArray.toList_eq]
    have e : (a.data.toList == b'.data.toList) = decide (a.data.toList = b'.data.toList) := Bool.eq_iff_iff.2 (by simp)
    rw [e]
  · cases h
    rename_i a b'
    rw [run_equalIn_bool' w m t _ _ hu]
    by_cases e : a = b' <;> simp [e]
  · cases h
theorem cellEq_sc {d : TypeDesc} {v w' : Value} {b : Bool} (h : cellEq d v w' = some b) : isAggD d = false := by
  unfold cellEq at h
  split at h <;> first | rfl | cases h
theorem EqF.run {fs : List Field} (h : EqF P xs ys fs b) (m : Nat) (w : World) : (Op.eqFields (m + 1) xs.toArray ys.toArray fs).run P w = .ok b w := by
  induction h with
  | nil => simp [Op.eqFields]
  | cons hn hu hx hy he _ ih =>
    rename_i f fs d v1 v2 b1 b2 _
    have hn' : f.name ≠ "_" := by simpa using hn
    have hag := run_isAgg_of (P := P) hu.h w
    rw [cellEq_sc he] at hag
    have p1 : (Go.part f.type xs.toArray f.offset).run P w = .ok v1 w := by simp [Go.part, hag, hx, Result.andThen]
    have p2 : (Go.part f.type ys.toArray f.offset).run P w = .ok v2 w := by simp [Go.part, hag, hy, Result.andThen]
    have p3 := cellEq_run hu.h he m w
    unfold Op.eqFields
    rw [if_pos hn']
    simp only [Sem.run_bind, p1, p2, p3, Result.andThen_ok]
    cases b1
    · simp
    · simp [ih]
theorem run_eqlStruct (hu : P.underlying t = some (.struct fs)) (hst : P.stoodInHeld t = false) (h : EqF P xs ys fs.toList b) (m : Nat) (w : World) : (Op.equalIn (m + 2) t (.agg xs.toArray) (.agg ys.toArray)).run P w = .ok b w := by
  have hf : P.fieldsOf t = fs := by simp [Program.fieldsOf, hu]
  rw [run_equalIn_struct w (m + 1) t _ _ (by rw [hf]; exact hu) hst, hf]
  exact h.run m w
theorem Ev_eqlSt (hx : Env.ev E x = some (.agg xs.toArray)) (hy : Env.ev E y = some (.agg ys.toArray)) [hu : UIs P t (.struct fs)] [hs : StIs P t] (h : EqF P xs ys fs.toList b) (hc : b = c) : Ev P W n E H (.binOp .eql t x y u) (.bool c) := by
  subst hc
  refine Ev_bin hx hy (fun w => run_eqGuard_agg w .eql t x y _ _ hs.h.2) (fun w => ?_)
  rw [run_eql_struct, run_eqlStruct hu.h hs.h.1 h 9998 w]; rfl
theorem Ev_neqSt (hx : Env.ev E x = some (.agg xs.toArray)) (hy : Env.ev E y = some (.agg ys.toArray)) [hu : UIs P t (.struct fs)] [hs : StIs P t] (h : EqF P xs ys fs.toList b) (hc : (!b) = c) : Ev P W n E H (.binOp .neq t x y u) (.bool c) := by
  subst hc
  refine Ev_bin hx hy (fun w => run_eqGuard_agg w .neq t x y _ _ hs.h.2) (fun w => ?_)
  rw [run_neq_struct, run_eqlStruct hu.h hs.h.1 h 9998 w]; rfl
end
end Go.Proofs.Ytmlnegmabfnaaaa
