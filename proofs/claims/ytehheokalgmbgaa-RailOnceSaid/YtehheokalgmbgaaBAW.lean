/-
  RlP.
-/
import Derived.Test.YtehheokalgmbgaaBAR
/-
  Chapter 24 (rail) as plain data: what is handled, what it makes, what it is answered; the table by rising token.
-/
namespace Go.Proofs.Ytehheokalgmbgaa
open Go Go.RowKit
structure RMsg where
  rail : Int
  kind : Int
  token : List UInt8
  attempt : Int
  amount : Int
  currency : List UInt8
  payee : List UInt8
structure REff where
  token : List UInt8
  kind : Int
  amount : Int
  payee : List UInt8
deriving DecidableEq
/-- the effect that a message makes of a token that is not known -/
def effOf (m : RMsg) (v : Int) : Option REff :=
  if m.kind = 3 then some ⟨m.token, 6, 0, []⟩ else if m.kind = 1 ∧ v = 0 then some ⟨m.token, 4, m.amount, m.payee⟩ else if m.kind = 1 ∧ v = 1 then some ⟨m.token, 5, m.amount, m.payee⟩ else none
/-- what is told of a token, of all that was handled -/
def effect (hs : List (RMsg × Int)) (tok : List UInt8) : Option REff := hs.findSome? fun h => if h.1.token = tok then effOf h.1 h.2 else none
def asked (hs : List (RMsg × Int)) (tok : List UInt8) (kind : Int) : Nat := (hs.filter fun h => decide (h.1.token = tok ∧ h.1.kind = kind)).length
/-- is a message handled? -/
def handled (N : Int) (m : RMsg) : Bool := decide (m.rail = N ∧ 1 ≤ m.kind ∧ m.kind ≤ 3)
def hear (N : Int) (hs : List (RMsg × Int)) (m : RMsg) (v : Int) : List (RMsg × Int) := if handled N m then hs ++ [(m, v)] else hs
/-- the kind of the answer, 0 for none -/
def answer (N : Int) (hs : List (RMsg × Int)) (m : RMsg) (v : Int) : Int :=
  if handled N m = false then 0 else match effect (hs ++ [(m, v)]) m.token with
    | some x => x.kind
    | none => if m.kind = 2 then 7 else if v = 2 then 8 else 0
theorem effOf_token {m : RMsg} {v : Int} {x : REff} (h : effOf m v = some x) : x.token = m.token := by
  unfold effOf at h
  split at h
  · cases h; rfl
  split at h
  · cases h; rfl
  split at h
  · cases h; rfl
  · cases h
theorem effOf_kind {m : RMsg} {v : Int} {x : REff} (h : effOf m v = some x) : x.kind = 4 ∨ x.kind = 5 ∨ x.kind = 6 := by
  unfold effOf at h
  split at h
  · cases h; exact .inr (.inr rfl)
  split at h
  · cases h; exact .inl rfl
  split at h
  · cases h; exact .inr (.inl rfl)
  · cases h
theorem effect_append (hs : List (RMsg × Int)) (m : RMsg) (v : Int) (tok : List UInt8) : effect (hs ++ [(m, v)]) tok = (effect hs tok).or (if m.token = tok then effOf m v else none) := by
  unfold effect
  rw [List.findSome?_append]
  congr 1
  simp [List.findSome?]
  split <;> simp_all
theorem effect_some {hs : List (RMsg × Int)} {tok : List UInt8} {x : REff} (h : effect hs tok = some x) : x.token = tok ∧ (x.kind = 4 ∨ x.kind = 5 ∨ x.kind = 6) := by
  unfold effect at h
  obtain ⟨a, ha, h⟩ := List.exists_of_findSome?_eq_some h
  split at h
  · rename_i e; exact ⟨(effOf_token h).trans e, effOf_kind h⟩
  · cases h
theorem asked_append (hs : List (RMsg × Int)) (m : RMsg) (v : Int) (tok : List UInt8) (kind : Int) : asked (hs ++ [(m, v)]) tok kind = asked hs tok kind + (if m.token = tok ∧ m.kind = kind then 1 else 0) := by
  unfold asked
  rw [List.filter_append, List.length_append]
  congr 1
  by_cases h : m.token = tok ∧ m.kind = kind
  · simp [h]
  · rw [if_neg h]
    simp only [List.filter_cons, List.filter_nil]
    rw [if_neg (by simpa using h)]; rfl
/-- the program's table of effects is what is told -/
def TabOk (hs : List (RMsg × Int)) (tab : List (List UInt8 × REff)) : Prop := (tab.map (·.1)).Nodup ∧ ∀ tok, lk tab tok = effect hs tok
def CntOk (hs : List (RMsg × Int)) (cnt : List ((List UInt8 × Int) × Int)) : Prop := (cnt.map (·.1)).Nodup ∧ ∀ tok kind, (lk cnt (tok, kind)).getD 0 = (asked hs tok kind : Int)
theorem TabOk.nil : TabOk [] [] := ⟨List.nodup_nil, fun _ => rfl⟩
theorem CntOk.nil : CntOk [] [] := ⟨List.nodup_nil, fun _ _ => rfl⟩
theorem CntOk.up {hs : List (RMsg × Int)} {cnt : List ((List UInt8 × Int) × Int)} (h : CntOk hs cnt) (m : RMsg) (v : Int) : CntOk (hs ++ [(m, v)]) (mput (mput cnt (m.token, m.kind) ((lk cnt (m.token, m.kind)).getD 0)) (m.token, m.kind) ((lk cnt (m.token, m.kind)).getD 0 + 1)) := by
  refine ⟨mput_nodup (mput_nodup h.1 _ _) _ _, fun tok kind => ?_⟩
  rw [lk_put, lk_put, asked_append]
  by_cases e : (tok, kind) = (m.token, m.kind)
  · simp only [Prod.mk.injEq] at e
    obtain ⟨rfl, rfl⟩ := e
    simp [h.2]
  · rw [if_neg e, if_neg e, h.2, if_neg (by intro q; exact e (by rw [q.1, q.2]))]
    simp
theorem TabOk.known {hs : List (RMsg × Int)} {tab : List (List UInt8 × REff)} (h : TabOk hs tab) {m : RMsg} {v : Int} (hk : (lk tab m.token).isSome ∨ effOf m v = none) : TabOk (hs ++ [(m, v)]) tab := by
  refine ⟨h.1, fun tok => ?_⟩
  rw [effect_append, h.2]
  cases he : effect hs tok with
  | some x => rfl
  | none =>
    by_cases e : m.token = tok
    · subst e
      rcases hk with hk | hk
      · rw [h.2, he] at hk; cases hk
      · simp [hk]
    · simp [e]
theorem TabOk.put {hs : List (RMsg × Int)} {tab : List (List UInt8 × REff)} (h : TabOk hs tab) {m : RMsg} {v : Int} {x : REff} (hk : lk tab m.token = none) (hx : effOf m v = some x) : TabOk (hs ++ [(m, v)]) (mput tab m.token x) := by
  refine ⟨mput_nodup h.1 _ _, fun tok => ?_⟩
  rw [effect_append, lk_put, h.2]
  by_cases e : tok = m.token
  · subst e
    rw [h.2] at hk
    simp [hk, hx]
  · have : ¬ m.token = tok := fun q => e q.symm
    simp [e, this]
end Go.Proofs.Ytehheokalgmbgaa
