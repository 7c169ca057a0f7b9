/-
  Sx.
-/
import Derived.Test.YtmlnegmabfnaaaaBAB
import Derived.OrdersIn
import Derived.TacticsIn
import Derived.RangeFuncRecord
/-
  The walk over code by slots that are known and parts that are owned: one rule a form of code, one rule an operation.
-/
namespace Go.Proofs.Ytmlnegmabfnaaaa
open Go Go.RowKit
/-- what the program says of its types and functions, found by their numbers -/
class UIs (P : Program) (t : TypeId) (d : outParam TypeDesc) : Prop where h : P.underlying t = some d
class SzIs (P : Program) (t : TypeId) (m : outParam Nat) : Prop where h : (P.info? t).map (·.size) = some m
class ByIs (P : Program) (t : TypeId) (m : outParam Nat) : Prop where h : (P.info? t).map (·.bytes) = some m
class ZcIs (P : Program) (t : TypeId) (zs : outParam (List Value)) : Prop where h : (P.info? t).map (fun i => i.zero.map (·.cells)) = some (some zs.toArray)
class FnIs (P : Program) (f : FuncId) : Prop where h : (P.funcs[f]?).map (fun fn => fn.body.isSome && fn.name != "runtime.NumGoroutine") = some true
def isAggD : TypeDesc → Bool
  | .struct _ => true
  | .array _ _ => true
  | _ => false
/-- of one cell | of several -/
class ScIs (P : Program) (t : TypeId) : Prop where h : ∃ d, P.underlying t = some d ∧ isAggD d = false
class AgIs (P : Program) (t : TypeId) : Prop where h : ∃ d, P.underlying t = some d ∧ isAggD d = true
/-- a field: its type and its first cell -/
class FldIs (P : Program) (t : TypeId) (f : Nat) (ft off : outParam Nat) : Prop where h : ∃ fs fd, P.underlying t = some (.struct fs) ∧ fs[f]? = some fd ∧ fd.type = ft ∧ fd.offset = off

abbrev Env := List (Nat × Value)
def Env.at : Env → Nat → Option Value
  | [], _ => none
  | (k, v) :: E, t => bif Nat.beq k t then some v else Env.at E t
def Env.ev (E : Env) : Operand → Option Value
  | .tmp t => Env.at E t
  | .const v => some v
  | .global g => some (.pointer (some ⟨g, 0, none⟩))
  | .func f => some (.func (.func f) #[] #[])
def Env.put (E : Env) : Option Tmp → Value → Env
  | some d, v => (d, v) :: E
  | none, _ => E
inductive Evs (E : Env) : List Operand → List Value → Prop
  | nil : Evs E [] []
  | cons {x : Operand} {v : Value} {xs : List Operand} {vs : List Value} : Env.ev E x = some v → Evs E xs vs → Evs E (x :: xs) (v :: vs)
inductive Subs (E : Env) : Env → Prop
  | nil : Subs E []
  | cons {t : Nat} {v : Value} {E' : Env} : Env.at E t = some v → Subs E E' → Subs E ((t, v) :: E')

theorem xE {E : Env} {xs : List Operand} {vs : List Value} (h : Evs E xs vs := by (repeat' (first | exact Evs.nil | refine Evs.cons rfl ?_)); first | done | fail) : Evs E xs vs := h
theorem xB {E E' : Env} (h : Subs E E' := by (repeat' (first | exact Subs.nil | refine Subs.cons rfl ?_)); first | done | fail) : Subs E E' := h
structure Hd (n : Nat) (E : Env) (a : Act) : Prop where
  size : a.tmps.size = n
  at_ : ∀ t v, Env.at E t = some v → a.tmps[t]? = some v
def dstOk (n : Nat) : Option Tmp → Bool
  | some d => Nat.blt d n
  | none => true

section
variable {n : Nat} {E : Env} {a : Act}
theorem Hd.ev (h : Hd n E a) {x : Operand} {v : Value} (q : Env.ev E x = some v) : a.eval x = v := by
  cases x with
  | tmp t => have := h.at_ t v q; simp [Act.eval, this]
  | const u => cases q; rfl
  | global g => cases q; rfl
  | func f => cases q; rfl
theorem Hd.evs (h : Hd n E a) {xs : List Operand} {vs : List Value} (q : Evs E xs vs) : xs.map a.eval = vs := by
  induction q with
  | nil => rfl
  | cons e _ ih => rw [List.map_cons, ih, h.ev e]
theorem Env.at_cons (k : Nat) (v : Value) (E : Env) (t : Nat) : Env.at ((k, v) :: E) t = if k = t then some v else Env.at E t := by
  show (bif Nat.beq k t then some v else Env.at E t) = _
  by_cases h : k = t
  · subst h; simp
  · have : Nat.beq k t = false := by cases q : Nat.beq k t with
      | false => rfl
      | true => exact absurd (Nat.eq_of_beq_eq_true q) h
    simp [this, h]
theorem Env.at_self (t : Nat) (v : Value) (E : Env) : Env.at ((t, v) :: E) t = some v := by rw [Env.at_cons, if_pos rfl]
theorem Hd.put (h : Hd n E a) {d : Option Tmp} (hd : dstOk n d = true) (v : Value) : Hd n (Env.put E d v) (a.put d v) := by
  cases d with
  | none => exact h
  | some d =>
    have hd : d < n := Nat.le_of_ble_eq_true hd
    refine ⟨by simp [Act.put, h.size], fun t u q => ?_⟩
    have q : (if d = t then some v else Env.at E t) = some u := by rw [← Env.at_cons]; exact q
    by_cases e : d = t
    · subst e
      simp at q; subst q
      simp [Act.put, h.size, hd]
    · rw [if_neg e] at q
      show (a.tmps.setIfInBounds d v)[t]? = _
      rw [Array.getElem?_setIfInBounds_ne e]
      exact h.at_ t u q
theorem Subs.at (E E' : Env) (s : Subs E E') : ∀ t v, Env.at E' t = some v → Env.at E t = some v := by
  induction s with
  | nil => intro t v q; cases q
  | cons e _ ih =>
    intro t v q
    rw [Env.at_cons] at q
    split at q
    · rename_i h; subst h; cases q; exact e
    · exact ih t v q
theorem Hd.subs (h : Hd n E a) {E' : Env} (s : Subs E E') : Hd n E' a := ⟨h.size, fun t v q => h.at_ t v (Subs.at _ _ s t v q)⟩
end
/-- the frames of which the walk speaks: all; ro: the round that the frame is of -/
abbrev fen (ro : Option Nat) : Fence := { fn := fun _ => True, depth := none, alive := false, round := ro }
/-- what an operation's run must come to; no deferred call, no panic -/
def uponP (P : Program) (o : Oper) (a : Act) (next : Act → World → Prop) : Result Next → Prop
  | .ok (.value v) w' => next (a.put o.dst v) w'
  | .ok .skip w' => next (a.put o.dst undef) w'
  | .ok (.enter f args) w' => Calls P f args w' fun e w'' => ∃ v, e = .returned v ∧ next (a.put o.dst v) w''
  | .ok (.round l f tmps assign body) w' => RoundIn Fence.wide 0 P l f tmps assign body w' fun e w'' => ∃ v, e = .returned v ∧ next (a.put o.dst v) w''
  | _ => False
theorem semAt_of {P : Program} {o : Oper} {a : Act} {w : World} {next : Act → World → Prop} (ro : Option Nat) (h : uponP P o a next ((execOp a.eval o).run P w)) : o.semAt ro a.eval = execOp a.eval o := by
  unfold Oper.semAt
  cases ro with
  | none => rfl
  | some l =>
    cases ho : o.op with
    | defer c =>
      exfalso
      simp only [execOp, ho, Sem.run_bind, Sem.run_pure] at h
      cases hr : (resolve a.eval c o.type).run P w <;> simp [hr, Result.andThen, uponP] at h
    | _ => rfl
theorem uponP.mono {P : Program} {o : Oper} {a : Act} {next next' : Act → World → Prop} {r : Result Next} (h : uponP P o a next r) (f : ∀ a w, next a w → next' a w) : uponP P o a next' r := by
  unfold uponP at h ⊢
  split
  · exact f _ _ h
  · exact f _ _ h
  · exact h.mono fun e w ⟨v, he, hn⟩ => ⟨v, he, f _ _ hn⟩
  · exact h.mono fun e w ⟨v, he, hn⟩ => ⟨v, he, f _ _ hn⟩
  · simp_all
theorem uponP.wpIn {P : Program} {o : Oper} {a : Act} {w : World} {next : Act → World → Prop} (ro : Option Nat) (Q : Exit → Act → World → Prop) (h : uponP P o a next ((execOp a.eval o).run P w)) : o.wpIn (fen ro) 0 P a w next Q := by
  refine ⟨fun _ _ => trivial, ?_⟩
  show o.uponIn (fen ro) 0 P a next Q ((o.semAt ro a.eval).run P w)
  rw [semAt_of ro h]
  generalize (execOp a.eval o).run P w = r at h
  unfold uponP at h
  split at h
  · exact h
  · exact h
  · refine ⟨fun e => by simp at e, ?_⟩
    exact (callsIn_wide (n := 0)).2 (h.mono fun e w ⟨v, he, hn⟩ => by subst he; exact hn)
  · refine ⟨fun e => by simp at e, ?_⟩
    exact RoundIn.mono (F := Fence.wide) h fun e w ⟨v, he, hn⟩ => by subst he; exact hn
  · exact h.elim
/-- what is to be done at an exit: spelled, so that the rules find it by its form -/
inductive QQ where
  | top (Q : Exit → Act → World → Prop)
  | rnd (l : Nat) (Q : Exit → Act → World → Prop)
  | seq (P : Program) (y : Code) (q : QQ)
  | thn (K : Act → World → Prop) (q : QQ)
  | blk (id : Nat) (q : QQ)
def QQ.ro : QQ → Option Nat
  | .top _ => none
  | .rnd l _ => some l
  | .seq _ _ q => q.ro
  | .thn _ q => q.ro
  | .blk _ q => q.ro
def QQ.den : QQ → Exit → Act → World → Prop
  | .top Q => Q
  | .rnd _ Q => Q
  | .seq P y q => Exit.then (y.wpIn (fen q.ro) 0 P q.den) q.den
  | .thn K q => Exit.then K q.den
  | .blk id q => Exit.inBlock id q.den
inductive KK where
  | code (P : Program) (c : Code) (q : QQ)
  | list (P : Program) (ops : Array Oper) (q : QQ) (l : List Oper)
  | oper (P : Program) (op : Op) (d : Option Tmp) (k : KK)
  | ex (q : QQ) (e : Exit)
  | raw (K : Act → World → Prop)
def KK.den : KK → Act → World → Prop
  | .code P c q => c.wpIn (fen q.ro) 0 P q.den
  | .list P ops q l => wpListIn (fen q.ro) 0 P ops q.den l
  | .oper P op d k => fun a w => ∀ o : Oper, o.op = op → o.dst = d → uponP P o a k.den ((execOp a.eval o).run P w)
  | .ex q e => q.den e
  | .raw K => K
/-- what a frame's marks claim: the blocks for the rounds' deferred calls, of which there are none -/
def dm : List Deferred → List SP
  | [] => []
  | d :: ds => (match d.target with
    | .collected r => objP r (.deferred (some []))
    | _ => factP False) :: dm ds
/-- H is owned, and what the frame's marks claim -/
abbrev Sta (W : World) (H : List SP) (a : Act) (w : World) : Prop := St W (H ++ dm a.defers) w
theorem put_defers (a : Act) (d : Option Tmp) (v : Value) : (a.put d v).defers = a.defers := by cases d <;> rfl
theorem Sel.app {A : SP} {H R : List SP} (s : Sel A H R) (M : List SP) : Sel A (H ++ M) (R ++ M) := by
  induction s with
  | here => exact .here
  | there _ ih => exact .there ih
theorem Rep.app {A B : SP} {H R : List SP} (s : Rep A B H R) (M : List SP) : Rep A B (H ++ M) (R ++ M) := by
  induction s with
  | here => exact .here
  | there _ ih => exact .there ih
theorem star_app {H H' : List SP} (f : ∀ g, starL H g → starL H' g) (M : List SP) : ∀ g, starL (H ++ M) g → starL (H' ++ M) g := fun g q => by
  obtain ⟨h1, h2, a, b, c, d, e⟩ := (starL_append g).1 q
  exact (starL_append g).2 ⟨h1, h2, a, b, c, f _ d, e⟩
/-- what is to be done comes to its end wherever the slots are as E says and H is owned -/
structure KJ (W : World) (n : Nat) (k : KK) (E : Env) (H : List SP) : Prop where
  go : ∀ a w, Hd n E a → Sta W H a w → k.den a w

section
variable {P : Program} {W : World} {n : Nat} {k : KK} {q : QQ} {E : Env} {H : List SP} {ops : Array Oper} {l : List Oper}
theorem KJ.weak {E' : Env} {H' : List SP} (h : KJ W n k E' H') (s : Subs E E') (f : ∀ g, starL H g → starL H' g) : KJ W n k E H := ⟨fun a w p q => h.go a w (p.subs s) (q.mono (star_app f _))⟩
theorem KJ.perm {H' : List SP} (h : KJ W n k E H') (p : H.Perm H') : KJ W n k E H := ⟨fun a w q s => h.go a w q (s.perm (p.append_right _))⟩
theorem KJ_seq {x y : Code} (h : KJ W n (.code P x (.seq P y q)) E H) : KJ W n (.code P (Code.seq x y) q) E H := ⟨fun a w p s => wpIn_seq (h.go a w p s)⟩
theorem KJ_skip (h : KJ W n (.ex q .normal) E H) : KJ W n (.code P Code.skip q) E H := ⟨fun a w p s => wpIn_skip (h.go a w p s)⟩
theorem KJ_ret (h : KJ W n (.ex q .ret) E H) : KJ W n (.code P Code.ret q) E H := ⟨fun a w p s => wpIn_ret (h.go a w p s)⟩
theorem KJ_exit {id : Nat} (h : KJ W n (.ex q (.exit id)) E H) : KJ W n (.code P (Code.exit id) q) E H := ⟨fun a w p s => wpIn_exit (h.go a w p s)⟩
theorem KJ_block {id : Nat} {c : Code} (h : KJ W n (.code P c (.blk id q)) E H) : KJ W n (.code P (Code.block id c) q) E H := ⟨fun a w p s => wpIn_block (h.go a w p s)⟩
theorem KJ_cond {c : Operand} {x y : Code} {t : Bool} (hc : Env.ev E c = some (.bool t)) (ht : t = true → KJ W n (.code P x q) E H) (hf : t = false → KJ W n (.code P y q) E H) : KJ W n (.code P (Code.cond c x y) q) E H :=
  KJ.mk fun a w p s => wpIn_cond_split (p.ev hc) (fun e => (ht e).go a w p s) (fun e => (hf e).go a w p s)
theorem KJ_cond_dec {c : Operand} {x y : Code} {p : Prop} [Decidable p] (hc : Env.ev E c = some (.bool (decide p))) (ht : p → KJ W n (.code P x q) E H) (hf : ¬ p → KJ W n (.code P y q) E H) : KJ W n (.code P (Code.cond c x y) q) E H :=
  KJ_cond hc (fun e => ht (by simpa using e)) (fun e => hf (by simpa using e))
theorem KJ_cond_t {c : Operand} {x y : Code} (hc : Env.ev E c = some (.bool true)) (h : KJ W n (.code P x q) E H) : KJ W n (.code P (Code.cond c x y) q) E H := KJ_cond hc (fun _ => h) (fun e => by cases e)
theorem KJ_cond_f {c : Operand} {x y : Code} (hc : Env.ev E c = some (.bool false)) (h : KJ W n (.code P y q) E H) : KJ W n (.code P (Code.cond c x y) q) E H := KJ_cond hc (fun e => by cases e) (fun _ => h)

theorem KJ_seq_normal {y : Code} (h : KJ W n (.code P y q) E H) : KJ W n (.ex (.seq P y q) .normal) E H := ⟨h.go⟩
theorem KJ_seq_ret {y : Code} (h : KJ W n (.ex q .ret) E H) : KJ W n (.ex (.seq P y q) .ret) E H := ⟨h.go⟩
theorem KJ_seq_exit {id : Nat} {y : Code} (h : KJ W n (.ex q (.exit id)) E H) : KJ W n (.ex (.seq P y q) (.exit id)) E H := ⟨h.go⟩
theorem KJ_thn_normal {K : Act → World → Prop} (h : KJ W n (.raw K) E H) : KJ W n (.ex (.thn K q) .normal) E H := ⟨h.go⟩
theorem KJ_thn_ret {K : Act → World → Prop} (h : KJ W n (.ex q .ret) E H) : KJ W n (.ex (.thn K q) .ret) E H := ⟨h.go⟩
theorem KJ_thn_exit {id : Nat} {K : Act → World → Prop} (h : KJ W n (.ex q (.exit id)) E H) : KJ W n (.ex (.thn K q) (.exit id)) E H := ⟨h.go⟩
theorem KJ_blk_normal {id : Nat} (h : KJ W n (.ex q .normal) E H) : KJ W n (.ex (.blk id q) .normal) E H := ⟨h.go⟩
theorem KJ_blk_ret {id : Nat} (h : KJ W n (.ex q .ret) E H) : KJ W n (.ex (.blk id q) .ret) E H := ⟨h.go⟩
theorem KJ_blk_exit {id : Nat} (h : KJ W n (.ex q .normal) E H) : KJ W n (.ex (.blk id q) (.exit id)) E H := KJ.mk fun a w p s => by
  show (if id = id then q.den .normal a w else q.den (.exit id) a w)
  rw [if_pos rfl]; exact h.go a w p s
theorem KJ_blk_exit' {id id' : Nat} (hne : Nat.beq id' id = false) (h : KJ W n (.ex q (.exit id')) E H) : KJ W n (.ex (.blk id q) (.exit id')) E H := KJ.mk fun a w p s => by
  show (if id' = id then q.den .normal a w else q.den (.exit id') a w)
  rw [if_neg (Nat.ne_of_beq_eq_false hne)]; exact h.go a w p s

/-- behind a round: the slots and the claims are those of some j with a lower measure -/
def Again {ι : Type} (W : World) (n : Nat) (Ei : ι → Env) (Hi : ι → List SP) (μ : ι → Nat) (i : ι) : Act → World → Prop := fun a w => ∃ j, μ j < μ i ∧ Hd n (Ei j) a ∧ Sta W (Hi j) a w
/-- A loop: in each round the slots and the claims are those of some i; the measure falls. -/
theorem KJ_loop {ι : Type} (Ei : ι → Env) (Hi : ι → List SP) (μ : ι → Nat) (i0 : ι) {c : Code} (hE : Subs E (Ei i0)) (hH : ∀ g, starL H g → starL (Hi i0) g)
    (round : ∀ i, KJ W n (.code P c (.thn (Again W n Ei Hi μ i) q)) (Ei i) (Hi i)) : KJ W n (.code P (Code.loop c) q) E H := by
  have key : ∀ m i, μ i = m → ∀ a w, Hd n (Ei i) a → Sta W (Hi i) a w → ∀ (b : Frame) (k : List Item) (cs : List Frame), b.roundOf = q.ro →
      ∃ e a' w', q.den e a' w' ∧ ArrivesIn (Machine.fenced P (fen q.ro)) P (lone (b.atR a (.code c :: .inLoop c :: k)) cs w) b k cs e a' w' := by
    intro m
    induction m using Nat.strongRecOn with
    | _ m ih =>
      intro i hi a w p s b k cs hro
      have hroom : (fen q.ro).room (cs.length + 1 + 0) := fun _ h => by simp at h
      obtain ⟨e, a₁, w₁, hq, harr⟩ := (round i).go a w p s b (.inLoop c :: k) cs hro trivial hroom
      cases e with
      | normal =>
        obtain ⟨j, hlt, p1, q1⟩ := hq
        obtain ⟨e₂, a₂, w₂, hq₂, harr₂⟩ := ih (μ j) (hi ▸ hlt) j rfl a₁ w₁ p1 q1 b k cs hro
        exact ⟨e₂, a₂, w₂, hq₂, .of_steps (StepsIn.trans harr (.one (fenced_calm (n := 0) trivial hroom rfl) stepR_inLoop)) harr₂⟩
      | exit id => exact ⟨_, a₁, w₁, hq, .pass (x := .inLoop c) rfl (fun _ _ => .inl (by simp)) harr⟩
      | goto l => exact ⟨_, a₁, w₁, hq, .pass (x := .inLoop c) rfl (fun _ _ => .inl (by simp)) harr⟩
      | ret => exact ⟨_, a₁, w₁, hq, .pass (x := .inLoop c) rfl (fun _ _ => .inl (by simp)) harr⟩
      | panic ch => exact ⟨_, a₁, w₁, hq, .pass (x := .inLoop c) rfl (fun _ _ => .inl (by simp)) harr⟩
      | outgrown => exact ⟨_, a₁, w₁, hq, .pass (x := .inLoop c) rfl (fun _ _ => .inl (by simp)) harr⟩
  refine KJ.weak (E' := Ei i0) (H' := Hi i0) ?_ hE hH
  refine ⟨fun a w p s b k cs hro hb hr => ?_⟩
  obtain ⟨e, a', w', hq, harr⟩ := key _ i0 rfl a w p s b k cs hro
  exact ⟨e, a', w', hq, .of_steps (.one (fenced_calm (n := 0) hb hr rfl) stepR_loop) harr⟩
theorem KJ_again {ι : Type} {Ei : ι → Env} {Hi : ι → List SP} {μ : ι → Nat} {i : ι} (j : ι) (hlt : μ j < μ i) (hE : Subs E (Ei j)) (hH : ∀ g, starL H g → starL (Hi j) g) : KJ W n (.raw (Again W n Ei Hi μ i)) E H :=
  ⟨fun _ _ p s => ⟨j, hlt, p.subs hE, s.mono (star_app hH _)⟩⟩

/-- a region in the text's order -/
theorem KJ_region {id : Nat} (h : KJ W n (.list P l.toArray q l) E H) : KJ W n (.code P (Code.region id l.toArray false) q) E H := ⟨fun a w p s => wpIn_region_lit (h.go a w p s)⟩
theorem KJ_nil (h : KJ W n (.ex q .normal) E H) : KJ W n (.list P ops q []) E H := ⟨h.go⟩
section
variable {op : Op} {d : Option Tmp} {ty : TypeId} {pos : String} {af : Array Edge}
theorem KJ_plain (h : KJ W n (.oper P op d (.list P ops q l)) E H) : KJ W n (.list P ops q (⟨d, op, ty, pos, af, none⟩ :: l)) E H :=
  KJ.mk fun a w p s => wpListIn_step fun _ hK => by
    rw [if_pos (by simp [Region.wanted])]
    exact ((h.go a w p s _ rfl rfl).mono hK).wpIn _ _
theorem wanted_of {o : Oper} {j : Nat} {b : Bool} {t : Nat} {v : Value} {a : Act} (hg : o.guard = some (j, b)) (hj : (ops[j]?).bind (·.dst) = some t) (p : Hd n E a) (ht : Env.at E t = some v) : Region.wanted o (yielded ops a.tmps) = match v with | .bool c => c == b | _ => false := by
  have h1 := p.at_ t v ht
  unfold Region.wanted yielded
  rw [hg]
  simp only [hj, Option.bind_some, h1]
  cases v <;> simp
theorem KJ_guard_yes {j : Nat} {b : Bool} {t : Nat} (hj : (ops[j]?).bind (·.dst) = some t) (ht : Env.at E t = some (.bool b)) (h : KJ W n (.oper P op d (.list P ops q l)) E H) : KJ W n (.list P ops q (⟨d, op, ty, pos, af, some (j, b)⟩ :: l)) E H :=
  KJ.mk fun a w p s => wpListIn_step fun K hK => by
    rw [if_pos (by rw [wanted_of rfl hj p ht]; simp)]
    exact ((h.go a w p s _ rfl rfl).mono hK).wpIn _ _
def notB (b : Bool) : Value → Bool
  | .bool c => c != b
  | _ => true
theorem KJ_guard_no {j : Nat} {b : Bool} {t : Nat} {v : Value} (hj : (ops[j]?).bind (·.dst) = some t) (ht : Env.at E t = some v) (hv : notB b v = true) (hd : dstOk n d = true) (h : KJ W n (.list P ops q l) (Env.put E d undef) H) : KJ W n (.list P ops q (⟨d, op, ty, pos, af, some (j, b)⟩ :: l)) E H :=
  KJ.mk fun a w p s => wpListIn_step fun K hK => by
    have hw : Region.wanted (⟨d, op, ty, pos, af, some (j, b)⟩ : Oper) (yielded ops a.tmps) = false := by
      rw [wanted_of rfl hj p ht]
      cases v <;> simp_all [notB]
    rw [if_neg (by rw [hw]; simp)]
    refine ⟨fun _ _ => trivial, hK _ _ (h.go _ w (p.put hd undef) ?_)⟩
    show St W (H ++ dm (a.put d undef).defers) w
    rw [put_defers]; exact s
theorem Hd.also {a : Act} (h : Hd n E a) {t : Nat} {v : Value} (q : Env.at E t = some v) : Hd n ((t, v) :: E) a := ⟨h.size, fun u x e => by
  rw [Env.at_cons] at e
  split at e
  · rename_i ht; subst ht; cases e; exact h.at_ _ _ q
  · exact h.at_ u x e⟩
theorem KJ.also (t : Nat) {v : Value} (q : Env.at E t = some v) (h : KJ W n k ((t, v) :: E) H) : KJ W n k E H := ⟨fun a w p s => h.go a w (p.also q) s⟩
/-- a guard that is not known: both ways -/
theorem KJ_guard_split {j : Nat} {b c : Bool} {t : Nat} (hj : (ops[j]?).bind (·.dst) = some t) (ht : Env.at E t = some (.bool c)) (hd : dstOk n d = true)
    (hy : c = b → KJ W n (.oper P op d (.list P ops q l)) ((t, .bool b) :: E) H) (hn : c = !b → KJ W n (.list P ops q l) (Env.put ((t, .bool !b) :: E) d undef) H) : KJ W n (.list P ops q (⟨d, op, ty, pos, af, some (j, b)⟩ :: l)) E H := by
  by_cases h : c = b
  · subst h
    exact (KJ_guard_yes hj (Env.at_self t _ E) (hy rfl)).also t ht
  · have h : c = !b := by cases c <;> cases b <;> simp_all
    subst h
    exact (KJ_guard_no hj (Env.at_self t _ E) (by cases b <;> rfl) hd (hn rfl)).also t ht
theorem KJ_guard_dec_t {j : Nat} {t : Nat} {p : Prop} [Decidable p] (hj : (ops[j]?).bind (·.dst) = some t) (ht : Env.at E t = some (.bool (decide p))) (hd : dstOk n d = true)
    (hy : p → KJ W n (.oper P op d (.list P ops q l)) ((t, .bool true) :: E) H) (hn : ¬ p → KJ W n (.list P ops q l) (Env.put ((t, .bool false) :: E) d undef) H) : KJ W n (.list P ops q (⟨d, op, ty, pos, af, some (j, true)⟩ :: l)) E H :=
  KJ_guard_split hj ht hd (fun e => hy (by simpa using e)) (fun e => hn (by simpa using e))
theorem KJ_guard_dec_f {j : Nat} {t : Nat} {p : Prop} [Decidable p] (hj : (ops[j]?).bind (·.dst) = some t) (ht : Env.at E t = some (.bool (decide p))) (hd : dstOk n d = true)
    (hy : ¬ p → KJ W n (.oper P op d (.list P ops q l)) ((t, .bool false) :: E) H) (hn : p → KJ W n (.list P ops q l) (Env.put ((t, .bool true) :: E) d undef) H) : KJ W n (.list P ops q (⟨d, op, ty, pos, af, some (j, false)⟩ :: l)) E H :=
  KJ_guard_split hj ht hd (fun e => hy (by simpa using e)) (fun e => hn (by simpa using e))

/-- a step that the text alone tells -/
inductive Stp : KK → KK → Prop
  | seq {P : Program} {x y : Code} {q : QQ} : Stp (.code P (Code.seq x y) q) (.code P x (.seq P y q))
  | region {P : Program} {id : Nat} {l : List Oper} {q : QQ} : Stp (.code P (Code.region id l.toArray false) q) (.list P l.toArray q l)
  | plain {P : Program} {ops : Array Oper} {q : QQ} {l : List Oper} {op : Op} {d : Option Tmp} {ty : TypeId} {pos : String} {af : Array Edge} : Stp (.list P ops q (⟨d, op, ty, pos, af, none⟩ :: l)) (.oper P op d (.list P ops q l))
  | nil {P : Program} {ops : Array Oper} {q : QQ} : Stp (.list P ops q []) (.ex q .normal)
  | skip {P : Program} {q : QQ} : Stp (.code P Code.skip q) (.ex q .normal)
  | ret {P : Program} {q : QQ} : Stp (.code P Code.ret q) (.ex q .ret)
  | exit {P : Program} {q : QQ} {id : Nat} : Stp (.code P (Code.exit id) q) (.ex q (.exit id))
  | block {P : Program} {q : QQ} {id : Nat} {c : Code} : Stp (.code P (Code.block id c) q) (.code P c (.blk id q))
  | seq_normal {P : Program} {q : QQ} {y : Code} : Stp (.ex (.seq P y q) .normal) (.code P y q)
  | seq_ret {P : Program} {q : QQ} {y : Code} : Stp (.ex (.seq P y q) .ret) (.ex q .ret)
  | seq_exit {P : Program} {q : QQ} {y : Code} {id : Nat} : Stp (.ex (.seq P y q) (.exit id)) (.ex q (.exit id))
  | thn_normal {q : QQ} {K : Act → World → Prop} : Stp (.ex (.thn K q) .normal) (.raw K)
  | thn_ret {q : QQ} {K : Act → World → Prop} : Stp (.ex (.thn K q) .ret) (.ex q .ret)
  | thn_exit {q : QQ} {K : Act → World → Prop} {id : Nat} : Stp (.ex (.thn K q) (.exit id)) (.ex q (.exit id))
  | blk_normal {q : QQ} {id : Nat} : Stp (.ex (.blk id q) .normal) (.ex q .normal)
  | blk_ret {q : QQ} {id : Nat} : Stp (.ex (.blk id q) .ret) (.ex q .ret)
  | blk_exit {q : QQ} {id : Nat} : Stp (.ex (.blk id q) (.exit id)) (.ex q .normal)
theorem KJ_stp {W : World} {n : Nat} {E : Env} {H : List SP} {k k' : KK} (s : Stp k k') (h : KJ W n k' E H) : KJ W n k E H := by
  cases s
  · exact KJ_seq h
  · exact KJ_region h
  · exact KJ_plain h
  · exact KJ_nil h
  · exact KJ_skip h
  · exact KJ_ret h
  · exact KJ_exit h
  · exact KJ_block h
  · exact KJ_seq_normal h
  · exact KJ_seq_ret h
  · exact KJ_seq_exit h
  · exact KJ_thn_normal h
  · exact KJ_thn_ret h
  · exact KJ_thn_exit h
  · exact KJ_blk_normal h
  · exact KJ_blk_ret h
  · exact KJ_blk_exit h

/-- the operation only yields a value -/
structure Ev (P : Program) (W : World) (n : Nat) (E : Env) (H : List SP) (op : Op) (v : Value) : Prop where
  go : ∀ o : Oper, o.op = op → ∀ a w, Hd n E a → St W H w → (execOp a.eval o).run P w = .ok (.value v) w
theorem KJ_ev {v : Value} {d : Nat} (he : Ev P W n E H op v) (hn : Nat.blt d n = true) (h : KJ W n k ((d, v) :: E) H) : KJ W n (.oper P op (some d) k) E H := by
  refine ⟨fun a w p s o ho hd => ?_⟩
  show uponP P o a _ ((execOp a.eval o).run P w)
  rw [he.go o ho a w p s.left]
  have := h.go _ w (p.put (d := some d) hn v) s
  rw [← hd] at this
  exact this
theorem KJ_ev0 {v : Value} (he : Ev P W n E H op v) (h : KJ W n k E H) : KJ W n (.oper P op none k) E H := by
  refine ⟨fun a w p s o ho hd => ?_⟩
  show uponP P o a _ ((execOp a.eval o).run P w)
  rw [he.go o ho a w p s.left]
  have := h.go _ w (p.put (d := none) rfl v) s
  rw [← hd] at this
  exact this
end
theorem Ev_move {x : Operand} {v : Value} (hx : Env.ev E x = some v) : Ev P W n E H (.move x) v := Ev.mk fun o ho a w p _ => by simp [execOp, ho, p.ev hx, Sem.run_pure]
theorem Ev_assign {x : Operand} {v : Value} (hx : Env.ev E x = some v) : Ev P W n E H (.assign x) v := Ev.mk fun o ho a w p _ => by simp [execOp, ho, p.ev hx, Sem.run_pure]
theorem Ev_pick_t {c x y : Operand} {v : Value} (hc : Env.ev E c = some (.bool true)) (hx : Env.ev E x = some v) : Ev P W n E H (.pick c x y) v := Ev.mk fun o ho a w p _ => by simp [execOp, ho, p.ev hx, p.ev hc, asBool, Sem.run_pure]
theorem Ev_pick_f {c x y : Operand} {v : Value} (hc : Env.ev E c = some (.bool false)) (hy : Env.ev E y = some v) : Ev P W n E H (.pick c x y) v := Ev.mk fun o ho a w p _ => by simp [execOp, ho, p.ev hy, p.ev hc, asBool, Sem.run_pure]
theorem Ev_nilCheck {x : Operand} {ad : Addr} (hx : Env.ev E x = some (.pointer (some ad))) : Ev P W n E H (.nilCheck x) (.pointer (some ad)) := Ev.mk fun o ho a w p _ => by simp [execOp, ho, p.ev hx, Sem.run_pure]
theorem Ev_add {t u : TypeId} {x y : Operand} {k : IntKind} {i j : Int} (hx : Env.ev E x = some (.int k i)) (hy : Env.ev E y = some (.int k j)) : Ev P W n E H (.binOp .add t x y u) (.int k (k.wrap (i + j))) :=
  Ev.mk fun o ho a w p _ => by simp [execOp, ho, p.ev hx, p.ev hy, eqGuard, binOp, Op.intArith]
end
end Go.Proofs.Ytmlnegmabfnaaaa
