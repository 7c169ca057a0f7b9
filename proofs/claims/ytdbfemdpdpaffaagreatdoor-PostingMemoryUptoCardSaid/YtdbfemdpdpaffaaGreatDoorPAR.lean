/-
  Dyn.
-/
import Derived.Test.YtdbfemdpdpaffaaGreatDoorPAQ
/-
  Calls of function values and of an interface's methods, by contract.
-/
namespace Go.Proofs.YtdbfemdpdpaffaaGreatDoor
open Go Go.RowKit
section
variable {P : Program} {W : World} {n d : Nat} {E : Env} {H R : List SP} {k : KK} {dd : Option Tmp} {X : Type}
/-- a call of a function's value -/
theorem run_callV {o : Oper} {f : FuncId} {x : Operand} {xs : List Operand} {ts : Array TypeId} {vs : List Value} {fs cs : Array Value} (ho : o.op = .call { callee := .value x, args := xs.toArray, argTypes := ts }) (h0 : Env.ev E x = some (.func (.func f) fs cs)) (hx : Evs E xs vs) [hf : FnIs P f] {a : Act} (p : Hd n E a) (w : World) : (execOp a.eval o).run P w = .ok (.enter f (fs ++ vs.toArray ++ cs)) w := by
  have hf := hf.h
  cases hq : P.funcs[f]? with
  | none => simp [hq] at hf
  | some fn =>
    simp [hq] at hf
    obtain ⟨h1, h2⟩ := hf
    have e : a.eval x = .func (.func f) fs cs := p.ev h0
    have hb : ¬ fn.body = none := by cases h : fn.body <;> simp_all
    have hv := p.evs hx
    simp [execOp, ho, resolve, e, Deferred.ofValue, invoke, callFunc, Go.program, Sem.run, hq, h2, hb, hv, Result.andThen]
theorem KJ_callV' {f : FuncId} {x : Operand} {xs : List Operand} {ts : Array TypeId} {vs us : List Value} {fs cs : Array Value} {Hpre : List SP} {r : X → Value} {Hp : X → List SP} (h0 : Env.ev E x = some (.func (.func f) fs cs)) (hx : Evs E xs vs) (hu : us = fs.toList ++ vs ++ cs.toList) [hf : FnIs P f]
    (hc : Ct P W f us Hpre r Hp) (hp : Pick Hpre H R) (hn : dstOk n dd = true) (h : ∀ c, KJ W n k (Env.put E dd (r c)) (Hp c ++ R)) : KJ W n (.oper P (.call { callee := .value x, args := xs.toArray, argTypes := ts }) dd k) E H := by
  refine ⟨fun a w p s o ho hd => ?_⟩
  subst hd
  show uponP P o a _ ((execOp a.eval o).run P w)
  rw [run_callV ho h0 hx p w]
  have e : fs ++ vs.toArray ++ cs = us.toArray := by rw [hu]; apply Array.ext'; simp
  rw [e]
  refine (hc.go (R ++ dm a.defers) w (s.perm ((hp.perm.append_right _).trans (by rw [List.append_assoc])))).mono ?_
  rintro e w' ⟨c, rfl, s⟩
  refine ⟨_, rfl, (h c).go _ w' (p.put hn _) ?_⟩
  show St W (_ ++ dm (a.put o.dst _).defers) w'
  rw [put_defers, List.append_assoc]; exact s
theorem KJ_callV {f : FuncId} {x : Operand} {xs : List Operand} {ts : Array TypeId} {vs us : List Value} {fs cs : Array Value} {Hpre : List SP} {r : X → Value} {Hp : X → List SP} (h0 : Env.ev E x = some (.func (.func f) fs cs)) (hx : Evs E xs vs) (hu : us = fs.toList ++ vs ++ cs.toList) [hf : FnIs P f]
    (hc : Ct P W f us Hpre r Hp) (hp : Pick Hpre H R) (hn : Nat.blt d n = true) (h : ∀ c, KJ W n k ((d, r c) :: E) (Hp c ++ R)) : KJ W n (.oper P (.call { callee := .value x, args := xs.toArray, argTypes := ts }) (some d) k) E H :=
  KJ_callV' h0 hx hu hc hp hn h
/-- a call of a function's value that has nothing bound -/
theorem KJ_callF {f : FuncId} {x : Operand} {xs : List Operand} {ts : Array TypeId} {vs : List Value} {Hpre : List SP} {r : X → Value} {Hp : X → List SP} (h0 : Env.ev E x = some (.func (.func f) #[] #[])) (hx : Evs E xs vs) [hf : FnIs P f]
    (hc : Ct P W f vs Hpre r Hp) (hp : Pick Hpre H R) (hn : Nat.blt d n = true) (h : ∀ c, KJ W n k ((d, r c) :: E) (Hp c ++ R)) : KJ W n (.oper P (.call { callee := .value x, args := xs.toArray, argTypes := ts }) (some d) k) E H :=
  KJ_callV' h0 hx (by simp) hc hp hn h
end
end Go.Proofs.YtdbfemdpdpaffaaGreatDoor
