/-
  Dyn.
-/
import Derived.Test.YtmlnegmabfnaaaaBAM
/-
  Calls of function values and of an interface's methods, by contract.
-/
namespace Go.Proofs.Ytmlnegmabfnaaaa
open Go Go.RowKit
section
variable {P : Program} {W : World} {n d : Nat} {E : Env} {H R : List SP} {k : KK} {dd : Option Tmp} {X : Type}
/-- a call of a function's value -/
theorem run_callV {o : Oper} {f : FuncId} {x : Operand} {xs : List Operand} {ts : Array TypeId} {vs : List Value} {fs cs : Array Value} (ho : o.op = .call { callee := .value x, args := xs.toArray, argTypes := ts }) (h0 : Env.ev E x = some (.func (.func f) fs cs)) (hx : Evs E xs vs) [hf : FnIs P f] {a : Act} (p : Hd n E a) (w : World) : (execOp a.eval o).run P w = .ok (.enter f (fs ++ vs.toArray ++ cs)) w := by
  have hf := hf.h
  cases hq : P.funcs[f]? with
  | none => simp [hq] at hf
  | some fn =>
    simp [hq] at hf
    obtain ⟨h1, h2⟩ := hf
    have e : a.eval x = .func (.func f) fs cs := p.ev h0
    have hb : ¬ fn.body = none := by cases h : fn.body <;> simp_all
    have hv := p.evs hx
    simp [execOp, ho, resolve, e, Deferred.ofValue, invoke, callFunc, Go.program, Sem.run, hq, h2, hb, hv, Result.andThen]
theorem KJ_callV' {f : FuncId} {x : Operand} {xs : List Operand} {ts : Array TypeId} {vs us : List Value} {fs cs : Array Value} {Hpre : List SP} {r : X → Value} {Hp : X → List SP} (h0 : Env.ev E x = some (.func (.func f) fs cs)) (hx : Evs E xs vs) (hu : us = fs.toList ++ vs ++ cs.toList) [hf : FnIs P f]
    (hc : Ct P W f us Hpre r Hp) (hp : Pick Hpre H R) (hn : dstOk n dd = true) (h : ∀ c, KJ W n k (Env.put E dd (r c)) (Hp c ++ R)) : KJ W n (.oper P (.call { callee := .value x, args := xs.toArray, argTypes := ts }) dd k) E H := by
  refine ⟨fun a w p s o ho hd => ?_⟩
  subst hd
  show uponP P o a _ ((execOp a.eval o).run P w)
  rw [run_callV ho h0 hx p w]
  have e : fs ++ vs.toArray ++ cs = us.toArray := by rw [hu]; apply Array.ext'; simp
  rw [e]
  refine (hc.go (R ++ dm a.defers) w (s.perm ((hp.perm.append_right _).trans (by rw [List.append_assoc])))).mono ?_
  rintro e w' ⟨c, rfl, s⟩
  refine ⟨_, rfl, (h c).go _ w' (p.put hn _) ?_⟩
  show St W (_ ++ dm (a.put o.dst _).defers) w'
  rw [put_defers, List.append_assoc]; exact s
theorem KJ_callV {f : FuncId} {x : Operand} {xs : List Operand} {ts : Array TypeId} {vs us : List Value} {fs cs : Array Value} {Hpre : List SP} {r : X → Value} {Hp : X → List SP} (h0 : Env.ev E x = some (.func (.func f) fs cs)) (hx : Evs E xs vs) (hu : us = fs.toList ++ vs ++ cs.toList) [hf : FnIs P f]
    (hc : Ct P W f us Hpre r Hp) (hp : Pick Hpre H R) (hn : Nat.blt d n = true) (h : ∀ c, KJ W n k ((d, r c) :: E) (Hp c ++ R)) : KJ W n (.oper P (.call { callee := .value x, args := xs.toArray, argTypes := ts }) (some d) k) E H :=
  KJ_callV' h0 hx hu hc hp hn h
/-- a type's method with a pointer's receiver -/
class MtIs (P : Program) (t : TypeId) (name : String) (f : outParam FuncId) : Prop where
  h : ∀ (v : Value) (w : World), (∃ ad, v = .pointer (some ad)) → (method (P.types.size + Made.depth) t v name).run P w = .ok (f, v) w
theorem run_callM {o : Oper} {f : FuncId} {x : Operand} {name : String} {t : TypeId} {ad : Addr} {xs : List Operand} {ts : Array TypeId} {vs : List Value} (ho : o.op = .call { callee := .invoke x name, args := xs.toArray, argTypes := ts }) (h0 : Env.ev E x = some (.iface t (.pointer (some ad)))) (hx : Evs E xs vs) [hm : MtIs P t name f] [hf : FnIs P f] {a : Act} (p : Hd n E a) (w : World) : (execOp a.eval o).run P w = .ok (.enter f ((Value.pointer (some ad)) :: vs).toArray) w := by
  have hf := hf.h
  have hm := hm.h (.pointer (some ad)) w ⟨_, rfl⟩
  cases hq : P.funcs[f]? with
  | none => simp [hq] at hf
  | some fn =>
    simp [hq] at hf
    obtain ⟨h1, h2⟩ := hf
    have e : a.eval x = .iface t (.pointer (some ad)) := p.ev h0
    have hb : ¬ fn.body = none := by cases h : fn.body <;> simp_all
    have hv := p.evs hx
    have ex : (#[a.eval x] ++ xs.toArray.map a.eval) = ((Value.iface t (.pointer (some ad))) :: vs).toArray := by rw [e, ← hv]; simp
    have hp : ∀ w, (Go.program).run P w = .ok P w := fun _ => rfl
    have hc : ∀ (args : Array Value) (w : World), (callFunc f args).run P w = .ok (.enter f args) w := fun args w => by simp [callFunc, Go.program, Sem.run, hq, h2, hb]
    have ex0 : ((Value.iface t (.pointer (some ad))) :: vs).toArray[0]? = some (Value.iface t (.pointer (some ad))) := by simp
    have ex1 : ((Value.iface t (.pointer (some ad))) :: vs).toArray.extract 1 ((Value.iface t (.pointer (some ad))) :: vs).toArray.size = vs.toArray := by apply Array.ext'; simp
    simp only [execOp, ho, resolve, Sem.run_bind, Sem.run_pure, Result.andThen_ok, ex, invoke, ex0, ex1, callMethod, hp, hm, hc]
    congr 2
    apply Array.ext'; simp
theorem KJ_callM' {f : FuncId} {x : Operand} {name : String} {t : TypeId} {ad : Addr} {xs : List Operand} {ts : Array TypeId} {vs : List Value} {Hpre : List SP} {r : X → Value} {Hp : X → List SP} (h0 : Env.ev E x = some (.iface t (.pointer (some ad)))) (hx : Evs E xs vs) [hm : MtIs P t name f] [hf : FnIs P f]
    (hc : Ct P W f (.pointer (some ad) :: vs) Hpre r Hp) (hp : Pick Hpre H R) (hn : dstOk n dd = true) (h : ∀ c, KJ W n k (Env.put E dd (r c)) (Hp c ++ R)) : KJ W n (.oper P (.call { callee := .invoke x name, args := xs.toArray, argTypes := ts }) dd k) E H := by
  refine ⟨fun a w p s o ho hd => ?_⟩
  subst hd
  show uponP P o a _ ((execOp a.eval o).run P w)
  rw [run_callM ho h0 hx p w]
  refine (hc.go (R ++ dm a.defers) w (s.perm ((hp.perm.append_right _).trans (by rw [List.append_assoc])))).mono ?_
  rintro e w' ⟨c, rfl, s⟩
  refine ⟨_, rfl, (h c).go _ w' (p.put hn _) ?_⟩
  show St W (_ ++ dm (a.put o.dst _).defers) w'
  rw [put_defers, List.append_assoc]; exact s
theorem KJ_callM {f : FuncId} {x : Operand} {name : String} {t : TypeId} {ad : Addr} {xs : List Operand} {ts : Array TypeId} {vs : List Value} {Hpre : List SP} {r : X → Value} {Hp : X → List SP} (h0 : Env.ev E x = some (.iface t (.pointer (some ad)))) (hx : Evs E xs vs) [hm : MtIs P t name f] [hf : FnIs P f]
    (hc : Ct P W f (.pointer (some ad) :: vs) Hpre r Hp) (hp : Pick Hpre H R) (hn : Nat.blt d n = true) (h : ∀ c, KJ W n k ((d, r c) :: E) (Hp c ++ R)) : KJ W n (.oper P (.call { callee := .invoke x name, args := xs.toArray, argTypes := ts }) (some d) k) E H :=
  KJ_callM' h0 hx hc hp hn h
end
end Go.Proofs.Ytmlnegmabfnaaaa
