/-
  Acts, Flow, Kinds.
-/
import Derived.Test.YtdbfemdpdpaffaaGreatDoorPAG
import Derived.Test.YtdbfemdpdpaffaaGreatDoorPAI
/-
  The operations' rules: stores, new memory, calls; and a function's contract.
-/
namespace Go.Proofs.YtdbfemdpdpaffaaGreatDoor
open Go Go.RowKit
/-- A contract: called where Hpre is owned, f returns r x for some x and leaves H' x; all else of one's own stays. -/
structure Ct (P : Program) (W : World) (f : FuncId) (args : List Value) (Hpre : List SP) {X : Type} (r : X → Value) (H' : X → List SP) : Prop where
  go : ∀ R w, St W (Hpre ++ R) w → Calls P f args.toArray w fun e w' => ∃ x, e = .returned (r x) ∧ St W (H' x ++ R) w'
/-- what a call's end must show -/
def Post (W : World) {X : Type} (r : X → Value) (H' : X → List SP) (R : List SP) : Ending → World → Prop := fun e w => ∃ x, e = .returned (r x) ∧ St W (H' x ++ R) w

def Env.ofArgs : List Value → Nat → Env
  | [], _ => []
  | v :: vs, k => (k, v) :: Env.ofArgs vs (k + 1)
theorem Env.ofArgs_at (vs : List Value) : ∀ k t v, Env.at (Env.ofArgs vs k) t = some v → k ≤ t ∧ vs[t - k]? = some v := by
  induction vs with
  | nil => intro k t v h; cases h
  | cons u vs ih =>
    intro k t v h
    simp only [Env.ofArgs] at h
    rw [Env.at_cons] at h
    split at h
    · rename_i e; subst e; cases h; exact ⟨Nat.le_refl _, by simp⟩
    · obtain ⟨h1, h2⟩ := ih (k + 1) t v h
      refine ⟨by omega, ?_⟩
      rw [show t - k = (t - (k + 1)) + 1 by omega]
      simpa using h2
section
variable {P : Program} {W : World} {n : Nat} {q : QQ} {k : KK} {op : Op} {E : Env} {H H' R : List SP} {ops : Array Oper} {l : List Oper} {x y z : Operand} {t u T : TypeId} {b off : Nat} {d : Nat} {dd : Option Tmp} {X : Type}
theorem Ct.enter {f : FuncId} {args : List Value} {Hpre : List SP} {r : X → Value} {Hp : X → List SP} {fn : Func} {c : Code} (hf : P.funcs[f]? = some fn) (hb : fn.body = some c) (hn : fn.ntmps = n) (hk : args.length ≤ n)
    (h : ∀ R, KJ W n (.code P c (.top (bodyPostM Fence.wide 0 P fn (Post W r Hp R)))) (Env.ofArgs args 0) (Hpre ++ R)) : Ct P W f args Hpre r Hp := by
  refine ⟨fun R w s => ?_⟩
  refine callsIn_wide.1 (callsIn_of_wp_marks (F := Fence.wide) (n := 0) hf hb trivial ((h R).go _ w ⟨?_, fun t v e => ?_⟩ (s.perm (by show (Hpre ++ R).Perm ((Hpre ++ R) ++ []); rw [List.append_nil]))))
  · simp [hn]; omega
  · obtain ⟨_, h2⟩ := Env.ofArgs_at args 0 t v e
    have hl := (List.getElem?_eq_some_iff.1 h2).1
    simp only [Nat.sub_zero] at h2 hl
    show (args.toArray ++ _)[t]? = _
    rw [Array.getElem?_append_left (by simpa using hl)]
    simpa using h2
theorem Ct.val {f : FuncId} {args : List Value} {Hpre : List SP} {r r' : X → Value} {Hp : X → List SP} (h : Ct P W f args Hpre r Hp) (e : ∀ x, r x = r' x) : Ct P W f args Hpre r' Hp := by
  have : r = r' := funext e
  subst this; exact h
/-- results -/
inductive Rvs (P : Program) (E : Env) (H : List SP) : List ResultVar → List Value → Prop
  | nil : Rvs P E H [] []
  | tmp {t : Nat} {v : Value} {rs : List ResultVar} {vs : List Value} : Env.at E t = some v → Rvs P E H rs vs → Rvs P E H (.tmp t :: rs) (v :: vs)
  | cell {a b T t : Nat} {v : Value} {cs : List Value} {R : List SP} {rs : List ResultVar} {vs : List Value} : Env.at E a = some (.pointer (some ⟨b, 0, none⟩)) → ScIs P t → Sel (cellsP b cs T) H R → cs[0]? = some v → Rvs P E H rs vs → Rvs P E H (.cell a t :: rs) (v :: vs)
  | agg {a b T t m : Nat} {ws cs : List Value} {R : List SP} {rs : List ResultVar} {vs : List Value} : Env.at E a = some (.pointer (some ⟨b, 0, none⟩)) → AgIs P t → SzIs P t m → Sel (cellsP b cs T) H R → Cut cs 0 m ws → Rvs P E H rs vs → Rvs P E H (.cell a t :: rs) (.agg ws.toArray :: vs)
def tupleV : List Value → Value
  | [v] => v
  | vs => .tuple vs.toArray
theorem run_loadVar_one (w : World) {v : Value} (hc : w.cell? ⟨b, off, none⟩ = some v) [hu : ScIs P t] : (loadVar t ⟨b, off, none⟩).run P w = .ok v w := by
  obtain ⟨d, hu, hd⟩ := hu.h
  have := run_loadAt_one w hc hu hd
  simpa [Instr.loadAt, Instr.sureAddr] using this
theorem run_loadVar_agg (w : World) {vs : List Value} {m : Nat} (hc : w.rangeAt b off vs) (hl : vs.length = m) [hu : AgIs P t] [hi : SzIs P t m] : (loadVar t ⟨b, off, none⟩).run P w = .ok (.agg vs.toArray) w := by
  obtain ⟨d, hu, hd⟩ := hu.h
  have := run_loadAt_mid (P := P) w b off t vs d hc hu (isRow_of hd) (by rw [hl]; exact hi.h)
  simpa [Instr.loadAt, Instr.sureAddr] using this
def resOf (tmps : Array Value) : ResultVar → Sem Value
  | .tmp t => pure (tmps.getD t undef)
  | .cell b t => do loadVar t (← asAddr (tmps.getD b undef))
theorem Rvs.run {rs : List ResultVar} {vs : List Value} (h : Rvs P E H rs vs) {a : Act} {w : World} (p : Hd n E a) (q : St W H w) :
    (rs.mapM (resOf a.tmps)).run P w = .ok vs w := by
  induction h with
  | nil => rfl
  | tmp e _ ih =>
    have h1 := p.at_ _ _ e
    rw [List.mapM_cons]
    simp [resOf, h1, ih, Result.andThen]
  | cell e sc s hv _ ih =>
    have h1 := p.at_ _ _ e
    have hc := (q.blk s).2.cell 0
    rw [hv] at hc
    have h2 := run_loadVar_one (P := P) w hc (hu := sc)
    rw [List.mapM_cons]
    simp [resOf, h1, ih, h2, asAddr, Result.andThen]
  | agg e ag si s hv _ ih =>
    have h1 := p.at_ _ _ e
    have hc : w.rangeAt _ 0 _ := fun j v hj => by rw [(q.blk s).2.cell]; exact hv.spec.2 j v hj
    have h2 := run_loadVar_agg (P := P) w hc hv.spec.1 (hu := ag) (hi := si)
    rw [List.mapM_cons]
    simp [resOf, h1, ih, h2, asAddr, Result.andThen]
theorem Rvs.results_run {fn : Func} {rs : List ResultVar} {vs : List Value} (hr : fn.results = rs.toArray) (h : Rvs P E H rs vs) {a : Act} {w : World} (p : Hd n E a) (q : St W H w) : (Go.results fn a.tmps).run P w = .ok (tupleV vs) w := by
  have h1 := h.run p q
  unfold Go.results
  rw [hr]
  have e : (rs.toArray.mapM (resOf a.tmps)) = (List.toArray <$> rs.mapM (resOf a.tmps)) := by simp
  show (do let vs ← rs.toArray.mapM (resOf a.tmps); pure (if h : vs.size = 1 then vs[0] else .tuple vs) : Sem Value).run P w = _
  rw [e]
  simp [h1, Result.andThen]
  cases vs with
  | nil => rfl
  | cons v vs => cases vs <;> simp [tupleV]
inductive DropTo (R : List SP) : List SP → Prop
  | refl : DropTo R R
  | there {A : SP} {H : List SP} : DropTo R H → DropTo R (A :: H)
theorem DropTo.star {H : List SP} (d : DropTo R H) : ∀ g, starL H g → starL R g := by
  induction d with
  | refl => exact fun _ q => q
  | there _ ih => exact fun g ⟨h1, h2, _, _, c, _, e⟩ => ih g (starL_le c e)
theorem Ent.of {As H1 : List SP} (p : Pick As H H1) (d : DropTo R H1) : ∀ g, starL H g → starL (As ++ R) g := by
  intro g q
  have := starL_perm p.perm g q
  obtain ⟨h1, h2, a, b, c, e, f⟩ := (starL_append g).1 this
  exact (starL_append g).2 ⟨h1, h2, a, b, c, e, d.star _ f⟩
theorem xN {As H1 : List SP} (p : Pick As H H1 := by (repeat' (first | exact Pick.nil | apply Pick.cons | exact Sel.here | apply Sel.there)); first | done | fail) (d : DropTo R H1 := by (repeat' (first | exact DropTo.refl | apply DropTo.there)); first | done | fail) : ∀ g, starL H g → starL (As ++ R) g := Ent.of p d
theorem leaves_marks {fn : Func} {tmps : Array Value} {v : Value} {r : X → Value} {Hp : X → List SP} (c : X) (hv : v = r c) (hE : ∀ g, starL H g → starL (Hp c ++ R) g) (hr : ∀ w, St W H w → (Go.results fn tmps).run P w = .ok v w) :
    ∀ (ds : List Deferred) (w : World), St W (H ++ dm ds) w → LeavesInM Fence.wide 0 P fn tmps (Post W r Hp R) ds .returning w := by
  intro ds
  induction ds with
  | nil =>
    intro w s
    have s : St W H w := s.left
    exact ⟨v, hr w s, c, by rw [hv], s.mono hE⟩
  | cons e ds ih =>
    intro w s
    refine ⟨by simp, .inl ?_⟩
    cases ht : e.target with
    | collected b =>
      have e1 : dm (e :: ds) = objP b (.deferred (some [])) :: dm ds := by simp [dm, ht]
      rw [e1] at s
      have s := s.perm List.perm_middle
      have hb := (s.obj .here).2
      refine ⟨b, _, rfl, run_takeDeferred hb, ih _ ?_⟩
      have s2 : St W (objP b (.deferred none) :: (H ++ dm ds)) (w.putObj b (.deferred none)) := s.turn .here (fun h q => q) (Hl.one_self _ _) rfl rfl rfl (by simp) (World.putObj_heap_same (Array.getElem?_eq_some_iff.1 hb).1) (fun k hk => World.putObj_heap_other hk)
      exact s2.right (A := [_])
    | _ =>
      exfalso
      have e1 : dm (e :: ds) = factP False :: dm ds := by simp [dm, ht]
      rw [e1] at s
      exact (s.perm List.perm_middle).fact .here
/-- the end of a call: hE: the claims that are owed are among those that are held -/
theorem KJ_done {r : X → Value} {Hp : X → List SP} {fn : Func} {rs : List ResultVar} {vs : List Value} {ex : Exit} (hex : ex = .ret ∨ ex = .normal) (hr : fn.results = rs.toArray) (hv : Rvs P E H rs vs) (c : X) (hc : tupleV vs = r c) (hE : ∀ g, starL H g → starL (Hp c ++ R) g) : KJ W n (.ex (.top (bodyPostM Fence.wide 0 P fn (Post W r Hp R))) ex) E H := by
  refine ⟨fun a w p q => ?_⟩
  have h1 := leaves_marks (P := P) (fn := fn) (tmps := a.tmps) (R := R) c hc hE (fun w s => hv.results_run hr p s) a.defers w q
  rcases hex with rfl | rfl
  · exact h1
  · exact h1

theorem xdn {r : X → Value} {Hp : X → List SP} {fn : Func} {rs : List ResultVar} {vs : List Value} {ex : Exit} (c : X) (hr : fn.results = rs.toArray := by rfl) (hex : ex = .ret ∨ ex = .normal := by first | exact Or.inl rfl | exact Or.inr rfl) (hv : Rvs P E H rs vs := by (repeat' (first | exact Rvs.nil | (apply Rvs.tmp; exact rfl))); first | done | fail) (hc : tupleV vs = r c := by rfl) (hE : ∀ g, starL H g → starL (Hp c ++ R) g := by exact xN) : KJ W n (.ex (.top (bodyPostM Fence.wide 0 P fn (Post W r Hp R))) ex) E H := KJ_done hex hr hv c hc hE
/-- a store -/
theorem KJ_store {v : Value} {vs cs cs' : List Value} {m : Nat} (hx : Env.ev E x = some (.pointer (some ⟨b, off, none⟩))) (hy : Env.ev E y = some v) [hi : SzIs P t m] (hs : Sel (cellsP b cs T) H R) (hv : CellsOf v vs) (hl : vs.length = m) (h1 : Ones vs) (hL : Laid cs off vs cs') (hr : Rep (cellsP b cs T) (cellsP b cs' T) H H')
    (h : KJ W n k E H') : KJ W n (.oper P (.store t x y) none k) E H := by
  obtain ⟨hfit, rfl⟩ := hL.spec
  refine ⟨fun a w p s o ho hd => ?_⟩
  have hrun := run_store_lay (P := P) w b off t cs vs T (s.left.blk hs).2 hfit (by rw [hl]; exact hi.h) h1.all
  have e : (Instr.storeAt t (.pointer (some ⟨b, off, none⟩)) v).run P w = (Instr.storeAt t (.pointer (some ⟨b, off, none⟩)) (.agg vs.toArray)).run P w := by
    simp only [Instr.storeAt, storeVar, hv.spec]
    rfl
  show uponP P o a _ ((execOp a.eval o).run P w)
  have e2 : (execOp a.eval o).run P w = .ok .skip (w.setRow b (lay cs off vs).toArray) := by
    simp [execOp, ho, p.ev hx, p.ev hy, e, hrun, Result.andThen]
  rw [e2]
  have := h.go _ _ (p.put (d := none) rfl undef) (s.setRow (hr.app _))
  rw [← hd] at this
  exact this
/-- a new block -/
theorem KJ_new {cs : List Value} (hr : ∀ o : Oper, o.op = op → ∀ a w, Hd n E a → St W H w → (execOp a.eval o).run P w = .ok (.value (.pointer (some ⟨w.heap.size, 0, none⟩))) (w.alloc (.cells cs.toArray T))) (hn : Nat.blt d n = true)
    (h : ∀ g, KJ W n k ((d, .pointer (some ⟨g, 0, none⟩)) :: E) (cellsP g cs T :: H)) : KJ W n (.oper P op (some d) k) E H := by
  refine ⟨fun a w p s o ho hd => ?_⟩
  show uponP P o a _ ((execOp a.eval o).run P w)
  rw [hr o ho a w p s.left]
  have := (h _).go _ _ (p.put (d := some d) hn _) s.new
  rw [← hd] at this
  exact this
theorem KJ_alloc {zs : List Value} [hz : ZcIs P t zs] (hn : Nat.blt d n = true) (h : ∀ g, KJ W n k ((d, .pointer (some ⟨g, 0, none⟩)) :: E) (cellsP g zs t :: H)) : KJ W n (.oper P (.alloc t) (some d) k) E H :=
  KJ_new (fun o ho a w p s => by
    have hz := hz.h
    cases hq : P.info? t with
    | none => simp [hq] at hz
    | some i =>
      simp [hq] at hz
      obtain ⟨z, hz1, hz2⟩ := hz
      simp [execOp, ho, Instr.alloc, zeroValue, typeInfo, hq, hz1, newVar, newRow, hz2, Go.newObj, Sem.run, Result.andThen]) hn h
theorem KJ_box {v : Value} {vs : List Value} (hy : Env.ev E y = some v) (hv : CellsOf v vs) (hn : Nat.blt d n = true) (h : ∀ g, KJ W n k ((d, .pointer (some ⟨g, 0, none⟩)) :: E) (cellsP g vs t :: H)) : KJ W n (.oper P (.box t y) (some d) k) E H :=
  KJ_new (fun o ho a w p s => by
    simp [execOp, ho, p.ev hy, Instr.box, newVar, newRow, hv.spec, Go.newObj, Sem.run, Result.andThen]) hn h
/-- a call of a function by its contract -/
theorem run_call {o : Oper} {f : FuncId} {xs : List Operand} {ts : Array TypeId} {vs : List Value} (ho : o.op = .call { callee := .value (.func f), args := xs.toArray, argTypes := ts }) (hx : Evs E xs vs) [hf : FnIs P f] {a : Act} (p : Hd n E a) (w : World) : (execOp a.eval o).run P w = .ok (.enter f vs.toArray) w := by
  have hf := hf.h
  cases hq : P.funcs[f]? with
  | none => simp [hq] at hf
  | some fn =>
    simp [hq] at hf
    obtain ⟨h1, h2⟩ := hf
    have e : a.eval (.func f) = .func (.func f) #[] #[] := rfl
    have hb : ¬ fn.body = none := by cases h : fn.body <;> simp_all
    have hv := p.evs hx
    simp [execOp, ho, resolve, e, Deferred.ofValue, invoke, callFunc, Go.program, Sem.run, hq, h2, hb, hv, Result.andThen]
theorem KJ_call' {f : FuncId} {xs : List Operand} {ts : Array TypeId} {vs : List Value} {Hpre : List SP} {r : X → Value} {Hp : X → List SP} (hx : Evs E xs vs) [hf : FnIs P f]
    (hc : Ct P W f vs Hpre r Hp) (hp : Pick Hpre H R) (hn : dstOk n dd = true) (h : ∀ c, KJ W n k (Env.put E dd (r c)) (Hp c ++ R)) : KJ W n (.oper P (.call { callee := .value (.func f), args := xs.toArray, argTypes := ts }) dd k) E H := by
  refine ⟨fun a w p s o ho hd => ?_⟩
  subst hd
  show uponP P o a _ ((execOp a.eval o).run P w)
  rw [run_call ho hx p w]
  refine (hc.go (R ++ dm a.defers) w (s.perm ((hp.perm.append_right _).trans (by rw [List.append_assoc])))).mono ?_
  rintro e w' ⟨c, rfl, s⟩
  refine ⟨_, rfl, (h c).go _ w' (p.put hn _) ?_⟩
  show St W (_ ++ dm (a.put o.dst _).defers) w'
  rw [put_defers, List.append_assoc]; exact s
theorem KJ_call {f : FuncId} {xs : List Operand} {ts : Array TypeId} {vs : List Value} {Hpre : List SP} {r : X → Value} {Hp : X → List SP} (hx : Evs E xs vs) [hf : FnIs P f]
    (hc : Ct P W f vs Hpre r Hp) (hp : Pick Hpre H R) (hn : Nat.blt d n = true) (h : ∀ c, KJ W n k ((d, r c) :: E) (Hp c ++ R)) : KJ W n (.oper P (.call { callee := .value (.func f), args := xs.toArray, argTypes := ts }) (some d) k) E H :=
  KJ_call' hx hc hp hn h
end
end Go.Proofs.YtdbfemdpdpaffaaGreatDoor
/-
  A region that draws its order, walked once: operations that only yield a value (and leave what is owned as it is) may be done at any time that their edges allow; the others come one behind the other (or, where they are free of each other, in each order: alt).
-/
namespace Go.Proofs.YtdbfemdpdpaffaaGreatDoor
open Go Go.RowKit
/-- the order in which the operations are walked: op: one that only yields; ef: one that turns something, and those that may still come behind it; alt: either may be the next -/
inductive Pl where
  | nil
  | op (i : Nat) (p : Pl)
  | ef (i : Nat) (U : List Nat) (p : Pl)
  | alt (a b : Pl)
def Pl.heads : Pl → List Nat
  | .nil => []
  | .op _ _ => []
  | .ef i _ _ => [i]
  | .alt a b => a.heads ++ b.heads

/-- j waits for i, at one remove or more -/
inductive Path (ops : Array Oper) : Nat → Nat → Prop
  | edge {j : Nat} {o : Oper} {e : Edge} : ops[j]? = some o → e ∈ o.after → Region.binds .any e = true → Path ops j e.on
  | step {j i : Nat} {o : Oper} {e : Edge} : ops[j]? = some o → e ∈ o.after → Region.binds .any e = true → Path ops e.on i → Path ops j i
theorem Path.listed {ops : Array Oper} {j i : Nat} (p : Path ops j i) {listed : Array Bool} (hc : Closed .any ops listed) (hj : j ∈ Region.ready .any ops listed ∨ listed.getD j false = true) : listed.getD i false = true := by
  have one : ∀ {j : Nat} {o : Oper} {e : Edge}, ops[j]? = some o → e ∈ o.after → Region.binds .any e = true → (j ∈ Region.ready .any ops listed ∨ listed.getD j false = true) → listed.getD e.on false = true := by
    intro j o e ho he hb hj
    rcases hj with hj | hj
    · obtain ⟨_, o', ho', hall⟩ := mem_ready.1 hj
      rw [ho] at ho'; cases ho'
      exact hall _ he hb
    · exact hc j o ho hj _ he hb
  induction p with
  | edge ho he hb => exact one ho he hb hj
  | step ho he hb _ ih => exact ih (.inr (one ho he hb hj))
/-- all that each operation waits for, as bits -/
def waitBits (ops : List Oper) : Array Nat := ops.foldl (fun acc o => acc.push (o.after.toList.foldl (fun s e => bif Region.binds .any e then s ||| 2 ^ e.on ||| acc.getD e.on 0 else s) 0)) #[]
def BitsOk (ops : Array Oper) (acc : Array Nat) : Prop := ∀ j i, (acc.getD j 0).testBit i = true → Path ops j i
theorem waitBits_ok (l : List Oper) : BitsOk l.toArray (waitBits l) := by
  have key : ∀ (r d : List Oper) (acc : Array Nat), d ++ r = l → acc.size = d.length → BitsOk l.toArray acc → BitsOk l.toArray (r.foldl (fun acc o => acc.push (o.after.toList.foldl (fun s e => bif Region.binds .any e then s ||| 2 ^ e.on ||| acc.getD e.on 0 else s) 0)) acc) := by
    intro r
    induction r with
    | nil => intro d acc _ _ h; exact h
    | cons o r ih =>
      intro d acc hd hs h
      refine ih (d ++ [o]) _ (by simp [hd]) (by simp [hs]) ?_
      have ho : l.toArray[d.length]? = some o := by subst hd; simp
      have inner : ∀ (es : List Edge) (s : Nat), (∀ e ∈ es, e ∈ o.after) → (∀ i, s.testBit i = true → Path l.toArray d.length i) → ∀ i, (es.foldl (fun s e => bif Region.binds .any e then s ||| 2 ^ e.on ||| acc.getD e.on 0 else s) s).testBit i = true → Path l.toArray d.length i := by
        intro es
        induction es with
        | nil => intro s _ hs i hi; exact hs i hi
        | cons e es ih2 =>
          intro s hes hs2
          refine ih2 _ (fun x hx => hes x (by simp [hx])) ?_
          intro i hi
          dsimp only at hi
          cases hb : Region.binds .any e with
          | false => rw [hb] at hi; exact hs2 i hi
          | true =>
            rw [hb] at hi
            simp only [cond_true, Nat.testBit_or, Bool.or_eq_true, Nat.testBit_two_pow, decide_eq_true_eq] at hi
            rcases hi with (hi | hi) | hi
            · exact hs2 i hi
            · subst hi; exact .edge ho (hes e (by simp)) hb
            · exact .step ho (hes e (by simp)) hb (h e.on i hi)
      intro j i hj
      by_cases hjl : j = d.length
      · subst hjl
        have e1 : (acc.push (o.after.toList.foldl (fun s e => bif Region.binds .any e then s ||| 2 ^ e.on ||| acc.getD e.on 0 else s) 0)).getD d.length 0 = o.after.toList.foldl (fun s e => bif Region.binds .any e then s ||| 2 ^ e.on ||| acc.getD e.on 0 else s) 0 := by
          rw [← hs]; simp
        rw [e1] at hj
        exact inner o.after.toList 0 (fun e he => by simpa using he) (fun i hi => by simp at hi) i hj
      · have e1 : (acc.push (o.after.toList.foldl (fun s e => bif Region.binds .any e then s ||| 2 ^ e.on ||| acc.getD e.on 0 else s) 0)).getD j 0 = acc.getD j 0 := by
          rw [Array.getD_eq_getD_getElem?, Array.getD_eq_getD_getElem?, Array.getElem?_push, if_neg (by omega)]
        rw [e1] at hj
        exact h j i hj
  exact key l [] #[] rfl rfl (fun j i h => by simp at h)

/-- i's slot is i's own, and whoever looks at it waits for i -/
def ownB (b : Array Nat) (ops : Array Oper) (i : Nat) : Bool := match ops[i]? with
  | none => false
  | some o => match o.dst with
    | none => true
    | some d => (List.range ops.size).all fun j => match ops[j]? with
      | none => true
      | some oj => (Nat.beq i j || !(oj.dst == some d)) && (!(oj.looksAt ops).contains d || (b.getD j 0).testBit i)
/-- what i waits for is among wk, and i is not -/
def depsB (ops : Array Oper) (wk : List Nat) (i : Nat) : Bool := match ops[i]? with
  | none => false
  | some o => !wk.contains i && o.after.all fun e => !Region.binds .any e || wk.contains e.on
/-- whoever is not among wk is one of hs or waits for one of them -/
def coverB (b : Array Nat) (ops : Array Oper) (wk hs : List Nat) : Bool := (List.range ops.size).all fun j => wk.contains j || hs.contains j || hs.any fun e => (b.getD j 0).testBit e
/-- all edges go back -/
def backB (ops : Array Oper) : Bool := Region.noSelect ops && (List.range ops.size).all fun k => match ops[k]? with
  | none => true
  | some o => o.after.all fun e => !Region.binds .any e || decide (e.on < k)
/-- the order is one that the edges bear out -/
def planB (b : Array Nat) (ops : Array Oper) : Pl → Bool → List Nat → List Nat → Bool
  | .nil, _, wk, _ => coverB b ops wk []
  | .op i p, t, wk, U => !t && depsB ops wk i && ownB b ops i && planB b ops p false (i :: wk) (i :: U)
  | .ef i U' p, t, wk, U => (t || coverB b ops wk [i]) && depsB ops wk i && (U.all fun u => U'.contains u || (b.getD i 0).testBit u) && (U'.all fun u => U.contains u) && planB b ops p false (i :: wk) U'
  | .alt x y, t, wk, U => !(x.heads ++ y.heads).isEmpty && (t || coverB b ops wk (x.heads ++ y.heads)) && planB b ops x true wk U && planB b ops y true wk U

section
variable (P : Program) (W : World) (n : Nat) (ops : Array Oper) (k : KK)
/-- the operation yields v, now or later, and leaves what is owned as it is -/
structure QR (E : Env) (H : List SP) (o : Oper) (v : Value) : Prop where
  go : ∀ M a w, Hd n E a → St W (H ++ M) w → (execOp a.eval o).run P w = .ok (.value v) w ∨ ∃ f args, (execOp a.eval o).run P w = .ok (.enter f args) w ∧ Calls P f args w fun e w' => e = .returned v ∧ St W (H ++ M) w'
structure QV (E : Env) (H : List SP) (o : Oper) (v : Value) : Prop where
  go : (∀ a, Hd n E a → Region.wanted o (yielded ops a.tmps) = true) ∧ QR P W n E H o v ∨ (∀ a, Hd n E a → Region.wanted o (yielded ops a.tmps) = false) ∧ v = undef
/-- those of U that may still come yield what they did -/
inductive Rech (E : Env) (H : List SP) : List Nat → Prop
  | nil : Rech E H []
  | cons {u : Nat} {U : List Nat} {o : Oper} {v : Value} : ops[u]? = some o → (∀ d, o.dst = some d → Env.at E d = some v) → QV P W n ops E H o v → Rech E H U → Rech E H (u :: U)

/-- the walk along an order -/
def FJ : Pl → Env → List SP → Prop
  | .nil, E, H => KJ W n k E H
  | .op i p, E, H => ∃ o v, ops[i]? = some o ∧ dstOk n o.dst = true ∧ QV P W n ops E H o v ∧ FJ p (Env.put E o.dst v) H
  | .ef i U' p, E, H => (∃ o, ops[i]? = some o ∧ (∀ a, Hd n E a → Region.wanted o (yielded ops a.tmps) = true) ∧
      KJ W n (.oper P o.op o.dst (.raw fun a w => ∃ E' H', Hd n E' a ∧ Sta W H' a w ∧ Rech P W n ops E' H' U' ∧ FJ p E' H')) E H) ∨
      (∃ o, ops[i]? = some o ∧ (∀ a, Hd n E a → Region.wanted o (yielded ops a.tmps) = false) ∧ dstOk n o.dst = true ∧ Rech P W n ops (Env.put E o.dst undef) H U' ∧ FJ p (Env.put E o.dst undef) H)
  | .alt x y, E, H => FJ x E H ∧ FJ y E H
def FlowK (p : Pl) (U : List Nat) : Act → World → Prop := fun a w => ∃ E' H', Hd n E' a ∧ Sta W H' a w ∧ Rech P W n ops E' H' U ∧ FJ P W n ops k p E' H'
end
section
variable {P : Program} {W : World} {n : Nat} {ops : Array Oper} {q : QQ} {k : KK} {g : List Deferred → List Deferred}
/-- the frame a is the frame a' but for slots of operations of U that are not done -/
def Vir (g : List Deferred → List Deferred) (ops : Array Oper) (U : List Nat) (listed : Array Bool) (a a' : Act) : Prop :=
  a.defers = g a'.defers ∧ a.tmps.size = a'.tmps.size ∧ ∀ t, a.tmps[t]? = a'.tmps[t]? ∨ ∃ u ∈ U, listed.getD u false = false ∧ ∃ o, ops[u]? = some o ∧ o.dst = some t

theorem Vir.eval {U : List Nat} {listed : Array Bool} {a a' : Act} (h : Vir g ops U listed a a') {x : Operand} (hx : ∀ t, x = .tmp t → ∀ u ∈ U, listed.getD u false = false → ∀ o, ops[u]? = some o → o.dst ≠ some t) : a.eval x = a'.eval x := by
  cases x with
  | tmp t =>
    rcases h.2.2 t with e | ⟨u, hu, hl, o, ho, hd⟩
    · simp [Act.eval, e]
    · exact absurd hd (hx t rfl u hu hl o ho)
  | _ => rfl

theorem own_spec {bb : Array Nat} (hb : BitsOk ops bb) {i : Nat} (h : ownB bb ops i = true) {o : Oper} (ho : ops[i]? = some o) {d : Tmp} (hd : o.dst = some d) {j : Nat} {oj : Oper} (hj : ops[j]? = some oj) : (i = j ∨ oj.dst ≠ some d) ∧ (d ∉ oj.looksAt ops ∨ Path ops j i) := by
  unfold ownB at h
  simp only [ho, hd] at h
  have h2 := List.all_eq_true.1 h j (List.mem_range.2 (Array.getElem?_eq_some_iff.1 hj).1)
  simp only [hj, Bool.and_eq_true, Bool.or_eq_true, Bool.not_eq_true', beq_eq_false_iff_ne] at h2
  refine ⟨h2.1.imp (fun q => Nat.eq_of_beq_eq_true q) id, h2.2.imp (fun q => ?_) (hb j i)⟩
  intro hm
  have : (oj.looksAt ops).contains d = true := by simpa using hm
  rw [this] at q; cases q
/-- an operation whose deps are done looks at no slot that is not done -/
theorem Vir.sees {U : List Nat} {listed : Array Bool} {a a' : Act} (h : Vir g ops U listed a a') (hc : Closed .any ops listed) {bb : Array Nat} (hb : BitsOk ops bb) (hU : ∀ u ∈ U, ownB bb ops u = true) {i : Nat} {o : Oper} (ho : ops[i]? = some o) (hr : i ∈ Region.ready .any ops listed) (hsel : ∀ cs b, o.op ≠ .select cs b) :
    execOp a.eval o = execOp a'.eval o ∧ Region.wanted o (yielded ops a.tmps) = Region.wanted o (yielded ops a'.tmps) := by
  have key : ∀ t ∈ o.looksAt ops, ∀ u ∈ U, listed.getD u false = false → ∀ ou, ops[u]? = some ou → ou.dst ≠ some t := by
    intro t ht u hu hl ou hou hd
    rcases (own_spec hb (hU u hu) hou hd ho).2 with h3 | h3
    · exact h3 ht
    · have := h3.listed hc (.inl hr)
      rw [hl] at this; cases this
  refine ⟨execOp_congr o hsel fun x hx => h.eval fun t e u hu hl ou hou => ?_, ?_⟩
  · subst e
    exact key t (List.mem_append_left _ (List.mem_filterMap.2 ⟨.tmp t, by simpa using hx, rfl⟩)) u hu hl ou hou
  · unfold Region.wanted
    cases hg : o.guard with
    | none => rfl
    | some gw =>
      obtain ⟨g, want⟩ := gw
      have hy : yielded ops a.tmps g = yielded ops a'.tmps g := by
        unfold yielded
        cases ht : (ops[g]?).bind (·.dst) with
        | none => rfl
        | some t =>
          have hm : t ∈ o.looksAt ops := by simp [Oper.looksAt, hg, ht]
          have : a.tmps[t]? = a'.tmps[t]? := by
            rcases h.2.2 t with e | ⟨u, hu, hl, ou, hou, hd⟩
            · exact e
            · exact absurd hd (key t hm u hu hl ou hou)
          simp [this]
      simp only [hy]

def cnt (l : List Bool) : Nat := (l.filter (!·)).length
theorem cnt_set : ∀ (l : List Bool) (i : Nat), (l[i]? : Option Bool) = some false → cnt (l.set i true) + 1 = cnt l
  | [], i, h => by simp at h
  | b :: l, 0, h => by simp at h; subst h; simp [cnt]
  | b :: l, i + 1, h => by
    have := cnt_set l i (by simpa using h)
    unfold cnt at this ⊢
    simp only [List.set_cons_succ, List.filter_cons]
    cases b <;> simp <;> omega
theorem cnt_zero (l : List Bool) (h : cnt l = 0) : ∀ i : Nat, (l[i]? : Option Bool) ≠ some false := by
  intro i hi
  have := cnt_set l i hi
  omega

structure FInv (g : List Deferred → List Deferred) (bb : Array Nat) (P : Program) (W : World) (n : Nat) (ops : Array Oper) (wk U : List Nat) (E : Env) (H : List SP) (fuel : Nat) (listed : Array Bool) (a a' : Act) (w : World) : Prop where
  size : listed.size = ops.size
  closed : Closed .any ops listed
  cnt : cnt listed.toList ≤ fuel
  sub : ∀ k, listed.getD k false = true → k ∈ wk
  cov : ∀ k ∈ wk, listed.getD k false = true ∨ k ∈ U
  uwk : ∀ u ∈ U, u ∈ wk
  own : ∀ u ∈ U, ownB bb ops u = true
  hd : Hd n E a'
  rech : Rech P W n ops E H U
  st : Sta W H a' w
  vir : Vir g ops U listed a a'

theorem back_spec (h : backB ops = true) : (∀ (j : Nat) (o : Oper) cs b, ops[j]? = some o → o.op ≠ .select cs b) ∧ ∀ (k : Nat) (o : Oper), ops[k]? = some o → ∀ e ∈ o.after, Region.binds .any e = true → e.on < k := by
  unfold backB at h
  simp only [Bool.and_eq_true] at h
  refine ⟨Region.noSelect_spec h.1, fun k o hk e he hb => ?_⟩
  have h2 := List.all_eq_true.1 h.2 k (List.mem_range.2 (Array.getElem?_eq_some_iff.1 hk).1)
  simp only [hk] at h2
  have h3 := (Array.all_eq_true_iff_forall_mem.1 h2) e he
  simpa [hb] using h3
/-- where none is ready, all are listed -/
theorem all_listed (hB : backB ops = true) {listed : Array Bool} (hs : listed.size = ops.size) (h : Region.ready .any ops listed = []) : ∀ k, k < ops.size → listed.getD k false = true := by
  intro k
  induction k using Nat.strongRecOn with
  | _ k ih =>
    intro hk
    cases hl : listed.getD k false with
    | true => rfl
    | false =>
      exfalso
      have : k ∈ Region.ready .any ops listed := by
        refine mem_ready.2 ⟨?_, ops[k], by simp [hk], fun e he hb => ?_⟩
        · have hk' : k < listed.size := by omega
          simp [hk'] at hl ⊢; exact hl
        · have hlt := (back_spec hB).2 k ops[k] (by simp [hk]) e he hb
          exact ih e.on hlt (by omega)
      rw [h] at this; cases this

theorem listed_set {listed : Array Bool} {i k : Nat} (h : (listed.setIfInBounds i true).getD k false = true) : k = i ∨ listed.getD k false = true := by
  by_cases e : i = k
  · exact .inl e.symm
  · right; rwa [getD_set_ne false e] at h

/-- one of those that may come at any time is done now -/
theorem FInv.quiet {wk U : List Nat} {E : Env} {H : List SP} {fuel : Nat} {listed : Array Bool} {a a' : Act} {w w' : World} {bb : Array Nat} (I : FInv g bb P W n ops wk U E H (fuel + 1) listed a a' w) {i : Nat} (hr : i ∈ Region.ready .any ops listed) (hi : i ∈ wk) {o : Oper} (ho : ops[i]? = some o) {v : Value} (hv : ∀ d, o.dst = some d → Env.at E d = some v) (hw : Sta W H a' w') :
    FInv g bb P W n ops wk U E H fuel (listed.setIfInBounds i true) (a.put o.dst v) a' w' := by
  obtain ⟨h0, _⟩ := mem_ready.1 hr
  have hlt : i < listed.size := by
    rcases Nat.lt_or_ge i listed.size with h | h
    · exact h
    · simp [Array.getElem?_eq_none h] at h0
  have h1 : listed.toList[i]? = some false := by simp [hlt] at h0 ⊢; exact h0
  refine ⟨by simp [I.size], I.closed.set hr, ?_, fun k hk => ?_, fun k hk => (I.cov k hk).imp getD_set_true id, I.uwk, I.own, I.hd, I.rech, hw, ?_⟩
  · have := cnt_set listed.toList i h1
    have h2 := I.cnt
    simp only [Array.toList_setIfInBounds]; omega
  · rcases listed_set hk with e | e
    · rw [e]; exact hi
    · exact I.sub k e
  · obtain ⟨v1, v2, v3⟩ := I.vir
    refine ⟨by cases hd : o.dst <;> simpa [Act.put, hd] using v1, by cases hd : o.dst <;> simpa [Act.put, hd] using v2, fun t => ?_⟩
    by_cases ht : o.dst = some t
    · left
      have h3 := I.hd.at_ t v (hv t ht)
      have h4 : t < a.tmps.size := by rw [v2]; exact (Array.getElem?_eq_some_iff.1 h3).1
      rw [h3]; simp [Act.put, ht, h4]
    · have he : (a.put o.dst v).tmps[t]? = a.tmps[t]? := by
        cases hd : o.dst with
        | none => rfl
        | some d =>
          have : d ≠ t := fun e => ht (by rw [hd, e])
          simp [Act.put, Array.getElem?_setIfInBounds_ne this]
      rw [he]
      rcases v3 t with e | ⟨u, hu, hl, ou, hou, hd⟩
      · exact .inl e
      · refine .inr ⟨u, hu, ?_, ou, hou, hd⟩
        have : i ≠ u := by
          intro e; subst e
          rw [ho] at hou; cases hou; exact ht hd
        rwa [getD_set_ne false this]

theorem wp_vir {o : Oper} {a a' : Act} {w : World} {K : Act → World → Prop} (h : uponP P o a' K ((execOp a'.eval o).run P w)) (he : execOp a.eval o = execOp a'.eval o) : uponP P o a (fun a1 w1 => ∃ v, a1 = a.put o.dst v ∧ K (a'.put o.dst v) w1) ((execOp a.eval o).run P w) := by
  rw [he]
  generalize (execOp a'.eval o).run P w = r at *
  unfold uponP at h ⊢
  split
  · exact ⟨_, rfl, h⟩
  · exact ⟨_, rfl, h⟩
  · exact h.mono fun e w ⟨v, he, hn⟩ => ⟨v, he, _, rfl, hn⟩
  · exact h.mono fun e w ⟨v, he, hn⟩ => ⟨v, he, _, rfl, hn⟩
  · simp_all

theorem Rech.get {E : Env} {H : List SP} {U : List Nat} (h : Rech P W n ops E H U) : ∀ u ∈ U, ∃ o, ops[u]? = some o ∧ ∃ v, (∀ d, o.dst = some d → Env.at E d = some v) ∧ QV P W n ops E H o v := by
  induction h with
  | nil => intro u hu; cases hu
  | cons ho hv hq _ ih =>
    intro u hu
    rcases List.mem_cons.1 hu with e | e
    · subst e; exact ⟨_, ho, _, hv, hq⟩
    · exact ih u e
theorem Rech.of {E : Env} {H : List SP} {U : List Nat} (h : ∀ u ∈ U, ∃ o, ops[u]? = some o ∧ ∃ v, (∀ d, o.dst = some d → Env.at E d = some v) ∧ QV P W n ops E H o v) : Rech P W n ops E H U := by
  induction U with
  | nil => exact .nil
  | cons u U ih =>
    obtain ⟨o, ho, v, hv, hq⟩ := h u (by simp)
    exact .cons ho hv hq (ih fun x hx => h x (by simp [hx]))

/-- at a place where one of hs comes next -/
theorem stage {wk U : List Nat} {E : Env} {H : List SP} (hB : backB ops = true) {bb : Array Nat} (hbb : BitsOk ops bb) (hs : List Nat) (hcov : coverB bb ops wk hs = true) (hne : ∀ e ∈ hs, e ∉ wk ∧ e < ops.size)
    (heff : ∀ e ∈ hs, ∀ fuel listed a a' w, FInv g bb P W n ops wk U E H (fuel + 1) listed a a' w → e ∈ Region.ready .any ops listed → wpOpIn (fen q.ro) 0 P ops q.den e (fun a1 w1 => wpAnyIn (fen q.ro) 0 P .any ops q.den fuel (listed.setIfInBounds e true) a1 w1) a w)
    (hend : hs = [] → KJ W n k E H) (hk : ∀ a w, k.den a w → q.den .normal { a with defers := g a.defers } w) : ∀ fuel listed a a' w, FInv g bb P W n ops wk U E H fuel listed a a' w → wpAnyIn (fen q.ro) 0 P .any ops q.den fuel listed a w := by
  intro fuel
  have fin : ∀ (fuel : Nat) listed a a' w, FInv g bb P W n ops wk U E H fuel listed a a' w → (∀ k, k < ops.size → listed.getD k false = true) → q.den .normal a w := by
    intro fuel listed a a' w I hall
    have hs0 : hs = [] := by
      cases hs with
      | nil => rfl
      | cons e hs =>
        have := hne e (by simp)
        exact absurd (I.sub e (hall e this.2)) this.1
    have ha : a = { a' with defers := g a'.defers } := by
      obtain ⟨v1, v2, v3⟩ := I.vir
      have : a.tmps = a'.tmps := by
        apply Array.ext_getElem?
        intro t
        rcases v3 t with e | ⟨u, hu, hl, ou, hou, _⟩
        · exact e
        · have := hall u (Array.getElem?_eq_some_iff.1 hou).1
          rw [hl] at this; cases this
      cases a; cases a'; simp_all
    subst ha
    exact hk a' w ((hend hs0).go a' w I.hd I.st)
  induction fuel with
  | zero =>
    intro listed a a' w I
    have hc : cnt listed.toList = 0 := by have := I.cnt; omega
    have hall : ∀ k, k < ops.size → listed.getD k false = true := by
      intro k hk
      have h1 := cnt_zero _ hc k
      have h2 : k < listed.size := by rw [I.size]; exact hk
      simp [h2] at h1 ⊢; exact h1
    refine ⟨?_, fin 0 listed a a' w I hall⟩
    cases hr : Region.ready .any ops listed with
    | nil => rfl
    | cons x xs =>
      have hx : x ∈ Region.ready .any ops listed := by rw [hr]; simp
      obtain ⟨h0, ox, hox, _⟩ := mem_ready.1 hx
      have h1 := hall x (Array.getElem?_eq_some_iff.1 hox).1
      exact (not_both h0 h1).elim
  | succ fuel ih =>
    intro listed a a' w I
    refine ⟨fun h0 => fin _ listed a a' w I (all_listed hB I.size h0), fun i hr => ?_⟩
    obtain ⟨h0, o, ho, _⟩ := mem_ready.1 hr
    have hilt := (Array.getElem?_eq_some_iff.1 ho).1
    by_cases hi : i ∈ wk
    · have hU : i ∈ U := by
        rcases I.cov i hi with h | h
        · exact (not_both h0 h).elim
        · exact h
      obtain ⟨o', ho', v, hv, hq⟩ := I.rech.get i hU
      rw [ho] at ho'
      cases ho'
      obtain ⟨hex, hwn⟩ := I.vir.sees I.closed hbb I.own ho hr ((back_spec hB).1 i o · · ho)
      unfold wpOpIn
      simp only [ho]
      rcases hq.go with ⟨hw, hqr⟩ | ⟨hw, rfl⟩
      · rw [if_pos (by rw [hwn]; exact hw a' I.hd)]
        refine uponP.wpIn _ _ ?_
        rw [hex]
        rcases hqr.go _ a' w I.hd I.st with hrun | ⟨f, args, hrun, hcall⟩
        · rw [hrun]
          exact ih _ _ _ _ (I.quiet hr hi ho hv I.st)
        · rw [hrun]
          refine hcall.mono ?_
          rintro e w' ⟨rfl, hst⟩
          exact ⟨_, rfl, ih _ _ _ _ (I.quiet hr hi ho hv hst)⟩
      · rw [if_neg (by rw [hwn, hw a' I.hd]; simp)]
        exact ⟨fun _ _ => trivial, ih _ _ _ _ (I.quiet hr hi ho hv I.st)⟩
    · have h2 := List.all_eq_true.1 hcov i (List.mem_range.2 hilt)
      simp only [Bool.or_eq_true, List.contains_iff_mem, List.any_eq_true] at h2
      rcases h2 with (h2 | h2) | ⟨e, he, hw⟩
      · exact absurd h2 hi
      · exact heff i h2 fuel listed a a' w I hr
      · have hl := (hbb i e hw).listed I.closed (.inl hr)
        exact absurd (I.sub e hl) (hne e he).1

theorem deps_spec {wk : List Nat} {i : Nat} (h : depsB ops wk i = true) : i ∉ wk ∧ i < ops.size := by
  unfold depsB at h
  cases ho : ops[i]? with
  | none => simp [ho] at h
  | some o =>
    simp only [ho, Bool.and_eq_true, Bool.not_eq_true'] at h
    refine ⟨fun hm => ?_, (Array.getElem?_eq_some_iff.1 ho).1⟩
    have : wk.contains i = true := by simpa using hm
    rw [this] at h; cases h.1
theorem heads_spec {bb : Array Nat} : ∀ (p : Pl) (t : Bool) (wk U : List Nat), planB bb ops p t wk U = true → ∀ e ∈ p.heads, e ∉ wk ∧ e < ops.size
  | .nil, _, _, _, _, e, he => by cases he
  | .op i p, _, _, _, _, e, he => by cases he
  | .ef i U' p, t, wk, U, h, e, he => by
    have he : e = i := by simpa [Pl.heads] using he
    subst he
    simp only [planB, Bool.and_eq_true] at h
    exact deps_spec h.1.1.1.2
  | .alt x y, t, wk, U, h, e, he => by
    simp only [planB, Bool.and_eq_true] at h
    rcases List.mem_append.1 he with he | he
    · exact heads_spec x true wk U h.1.2 e he
    · exact heads_spec y true wk U h.2 e he

/-- what does not look at a slot yields the same whatever lies there -/
theorem QV.put {E : Env} {H : List SP} {o : Oper} {v x : Value} {d : Option Tmp} (h : QV P W n ops E H o v) (hd : ∀ t, d = some t → t ∉ o.looksAt ops) (hsel : ∀ cs b, o.op ≠ .select cs b) : QV P W n ops (Env.put E d x) H o v := by
  cases d with
  | none => exact h
  | some d =>
    have key : ∀ a, Hd n ((d, x) :: E) a → ∃ u, Hd n E (a.put (some d) u) := by
      intro a p
      cases he : Env.at E d with
      | none =>
        refine ⟨a.tmps.getD d undef, ?_, fun t u q => ?_⟩
        · simpa [Act.put] using p.size
        · have hne : d ≠ t := fun e => by subst e; rw [he] at q; cases q
          have := p.at_ t u (by rw [Env.at_cons, if_neg hne]; exact q)
          simpa [Act.put, Array.getElem?_setIfInBounds_ne hne] using this
      | some u =>
        refine ⟨u, ?_, fun t u' q => ?_⟩
        · simpa [Act.put] using p.size
        · by_cases hne : d = t
          · subst hne
            rw [he] at q; cases q
            have := p.at_ d x (Env.at_self _ _ _)
            have hl := (Array.getElem?_eq_some_iff.1 this).1
            simp [Act.put, hl]
          · have := p.at_ t u' (by rw [Env.at_cons, if_neg hne]; exact q)
            simpa [Act.put, Array.getElem?_setIfInBounds_ne hne] using this
    have hd' := hd d rfl
    refine ⟨?_⟩
    rcases h.go with ⟨hw, hq⟩ | ⟨hw, rfl⟩
    · refine .inl ⟨fun a p => ?_, ⟨fun M a w p s => ?_⟩⟩
      · obtain ⟨u, pu⟩ := key a p
        rw [← hw _ pu, wanted_put o a (some d) u (fun t e => by cases e; exact hd')]
      · obtain ⟨u, pu⟩ := key a p
        have := hq.go M _ w pu s
        rwa [execOp_put o hsel a (some d) u (fun t e => by cases e; exact hd')] at this
    · refine .inr ⟨fun a p => ?_, rfl⟩
      obtain ⟨u, pu⟩ := key a p
      rw [← hw _ pu, wanted_put o a (some d) u (fun t e => by cases e; exact hd')]

theorem getD_false_of {listed : Array Bool} {i : Nat} (h : ¬ listed.getD i false = true) : listed.getD i false = false := by
  cases q : listed.getD i false with
  | false => rfl
  | true => exact absurd q h

theorem path_lt (hB : backB ops = true) {j i : Nat} (p : Path ops j i) : i < j := by
  induction p with
  | edge ho he hb => exact (back_spec hB).2 _ _ ho _ he hb
  | step ho he hb _ ih => have := (back_spec hB).2 _ _ ho _ he hb; omega
/-- with each operation of wk all that it waits for is in wk -/
def WkOk (ops : Array Oper) (wk : List Nat) : Prop := ∀ k ∈ wk, ∀ o, ops[k]? = some o → ∀ e ∈ o.after, Region.binds .any e = true → e.on ∈ wk
theorem WkOk.path {wk : List Nat} (h : WkOk ops wk) {j i : Nat} (p : Path ops j i) (hj : j ∈ wk) : i ∈ wk := by
  induction p with
  | edge ho he hb => exact h _ hj _ ho _ he hb
  | step ho he hb _ ih => exact ih (h _ hj _ ho _ he hb)
theorem WkOk.cons {wk : List Nat} (h : WkOk ops wk) {i : Nat} (hd : depsB ops wk i = true) : WkOk ops (i :: wk) := by
  intro k hk o ho e he hb
  rcases List.mem_cons.1 hk with q | q
  · subst q
    unfold depsB at hd
    simp only [ho, Bool.and_eq_true] at hd
    have := (Array.all_eq_true_iff_forall_mem.1 hd.2) e he
    simp only [hb, Bool.not_true, Bool.false_or] at this
    simp [show e.on ∈ wk by simpa using this]
  · simp [h k q o ho e he hb]
theorem set_self {listed : Array Bool} {i : Nat} (hr : i ∈ Region.ready .any ops listed) : (listed.setIfInBounds i true).getD i false = true := by
  obtain ⟨h0, _⟩ := mem_ready.1 hr
  have hlt : i < listed.size := by
    rcases Nat.lt_or_ge i listed.size with h | h
    · exact h
    · simp [Array.getElem?_eq_none h] at h0
  simp [hlt]

/-- ████ a walk along an order that the edges bear out serves for every order ████ -/
theorem FJ.sound (hk : ∀ a w, k.den a w → q.den .normal { a with defers := g a.defers } w) (hB : backB ops = true) {bb : Array Nat} (hbb : BitsOk ops bb) : ∀ (p : Pl) (t : Bool) (wk U : List Nat) (E : Env) (H : List SP), planB bb ops p t wk U = true → WkOk ops wk → FJ P W n ops k p E H →
    (t = false → ∀ fuel listed a a' w, FInv g bb P W n ops wk U E H fuel listed a a' w → wpAnyIn (fen q.ro) 0 P .any ops q.den fuel listed a w) ∧
    (∀ e ∈ p.heads, ∀ fuel listed a a' w, FInv g bb P W n ops wk U E H (fuel + 1) listed a a' w → e ∈ Region.ready .any ops listed → wpOpIn (fen q.ro) 0 P ops q.den e (fun a1 w1 => wpAnyIn (fen q.ro) 0 P .any ops q.den fuel (listed.setIfInBounds e true) a1 w1) a w) := by
  intro p
  induction p with
  | nil =>
    intro t wk U E H hp _ h
    refine ⟨fun _ => stage hB hbb [] hp (fun e he => by cases he) (fun e he => by cases he) (fun _ => h) hk, fun e he => by cases he⟩
  | op i p ih =>
    intro t wk U E H hp hwk h
    simp only [planB, Bool.and_eq_true, Bool.not_eq_true'] at hp
    obtain ⟨⟨⟨ht, hdeps⟩, hown⟩, hp⟩ := hp
    refine ⟨fun _ => ?_, fun e he => by cases he⟩
    obtain ⟨o, v, ho, hdst, hq, hF⟩ := h
    intro fuel listed a a' w I
    have hni := deps_spec hdeps
    have hnl : ¬ listed.getD i false = true := fun hl => hni.1 (I.sub i hl)
    refine (ih false (i :: wk) (i :: U) (Env.put E o.dst v) H hp (hwk.cons hdeps) hF).1 rfl fuel listed a (a'.put o.dst v) w ⟨I.size, I.closed, I.cnt, fun k hk => by simp [I.sub k hk], fun k hk => ?_, fun u hu => ?_, fun u hu => ?_, I.hd.put hdst v, ?_, (by show St W (H ++ dm (a'.put o.dst v).defers) w; rw [put_defers]; exact I.st), ?_⟩
    · rcases List.mem_cons.1 hk with e | e
      · right; simp [e]
      · exact (I.cov k e).imp id (fun q => by simp [q])
    · rcases List.mem_cons.1 hu with e | e
      · simp [e]
      · simp [I.uwk u e]
    · rcases List.mem_cons.1 hu with e | e
      · rw [e]; exact hown
      · exact I.own u e
    · refine Rech.of fun u hu => ?_
      have hlook : ∀ ou, ops[u]? = some ou → ∀ tt, o.dst = some tt → tt ∉ ou.looksAt ops := by
        intro ou hou tt htt hm
        rcases (own_spec hbb hown ho htt hou).2 with h1 | h1
        · exact h1 hm
        · rcases List.mem_cons.1 hu with e | e
          · subst e
            have := path_lt hB h1
            omega
          · exact hni.1 (hwk.path h1 (I.uwk u e))
      rcases List.mem_cons.1 hu with e | e
      · subst e
        refine ⟨o, ho, v, fun d hd => by rw [hd]; exact Env.at_self _ _ _, hq.put (hlook o ho) ((back_spec hB).1 _ o · · ho)⟩
      · obtain ⟨ou, hou, vu, hvu, hqu⟩ := I.rech.get u e
        refine ⟨ou, hou, vu, fun d hd => ?_, hqu.put (hlook ou hou) ((back_spec hB).1 _ ou · · hou)⟩
        have hne : o.dst ≠ some d := by
          rcases (own_spec hbb (I.own u e) hou hd ho).1 with h1 | h1
          · subst h1; exact absurd (I.uwk u e) hni.1
          · exact h1
        cases hod : o.dst with
        | none => exact hvu d hd
        | some d' =>
          show Env.at ((d', v) :: E) d = _
          rw [Env.at_cons, if_neg (fun h => hne (by rw [hod, h]))]
          exact hvu d hd
    · obtain ⟨v1, v2, v3⟩ := I.vir
      refine ⟨by cases hd : o.dst <;> simpa [Act.put, hd] using v1, by cases hd : o.dst <;> simpa [Act.put, hd] using v2, fun tt => ?_⟩
      by_cases htt : o.dst = some tt
      · exact .inr ⟨i, by simp, getD_false_of hnl, o, ho, htt⟩
      · have he : (a'.put o.dst v).tmps[tt]? = a'.tmps[tt]? := by
          cases hd : o.dst with
          | none => rfl
          | some d =>
            have : d ≠ tt := fun e => htt (by rw [hd, e])
            simp [Act.put, Array.getElem?_setIfInBounds_ne this]
        rw [he]
        exact (v3 tt).imp id fun ⟨u, hu, r⟩ => ⟨u, by simp [hu], r⟩
  | ef i U' p ih =>
    intro t wk U E H hp hwk h
    have hp0 := hp
    simp only [planB, Bool.and_eq_true, Bool.or_eq_true] at hp
    obtain ⟨⟨⟨⟨hcov, hdeps⟩, hU⟩, hU'⟩, hp⟩ := hp
    have hni := deps_spec hdeps
    have hsub : ∀ u ∈ U', u ∈ U := fun u hu => by simpa using List.all_eq_true.1 hU' u hu
    have heff : ∀ e ∈ (Pl.ef i U' p).heads, ∀ fuel listed a a' w, FInv g bb P W n ops wk U E H (fuel + 1) listed a a' w → e ∈ Region.ready .any ops listed → wpOpIn (fen q.ro) 0 P ops q.den e (fun a1 w1 => wpAnyIn (fen q.ro) 0 P .any ops q.den fuel (listed.setIfInBounds e true) a1 w1) a w := by
      intro e he fuel listed a a' w I hr
      have he : e = i := by simpa [Pl.heads] using he
      subst he
      have build : ∀ (o : Oper), ops[e]? = some o → ∀ (v : Value) (w1 : World) (E' : Env) (H' : List SP), Hd n E' (a'.put o.dst v) → Sta W H' (a'.put o.dst v) w1 → Rech P W n ops E' H' U' → FInv g bb P W n ops (e :: wk) U' E' H' fuel (listed.setIfInBounds e true) (a.put o.dst v) (a'.put o.dst v) w1 := by
        intro o ho v w1 E' H' hd' st' re'
        obtain ⟨h0, _⟩ := mem_ready.1 hr
        have hlt : e < listed.size := by
          rcases Nat.lt_or_ge e listed.size with h | h
          · exact h
          · simp [Array.getElem?_eq_none h] at h0
        have h1 : (listed.toList[e]? : Option Bool) = some false := by simp [hlt] at h0 ⊢; exact h0
        refine ⟨by simp [I.size], I.closed.set hr, ?_, fun k hk => ?_, fun k hk => ?_, fun u hu => ?_, fun u hu => I.own u (hsub u hu), hd', re', st', ?_⟩
        · have := cnt_set listed.toList e h1
          have h2 := I.cnt
          simp only [Array.toList_setIfInBounds]; omega
        · rcases listed_set hk with q | q
          · simp [q]
          · simp [I.sub k q]
        · rcases List.mem_cons.1 hk with q | q
          · subst q; exact .inl (set_self hr)
          · rcases I.cov k q with c | c
            · exact .inl (getD_set_true c)
            · have h3 := List.all_eq_true.1 hU k c
              simp only [Bool.or_eq_true, List.contains_iff_mem] at h3
              rcases h3 with h3 | h3
              · exact .inr h3
              · exact .inl (getD_set_true ((hbb e k h3).listed I.closed (.inl hr)))
        · simp [I.uwk u (hsub u hu)]
        · obtain ⟨v1, v2, v3⟩ := I.vir
          refine ⟨by cases hd : o.dst <;> simpa [Act.put, hd] using v1, by cases hd : o.dst <;> simpa [Act.put, hd] using v2, fun tt => ?_⟩
          by_cases htt : o.dst = some tt
          · left
            simp only [Act.put, htt, Array.getElem?_setIfInBounds, v2]
            simp
          · have hpt : ∀ b : Act, (b.put o.dst v).tmps[tt]? = b.tmps[tt]? := by
              intro b
              cases hd : o.dst with
              | none => rfl
              | some d =>
                have : d ≠ tt := fun e => htt (by rw [hd, e])
                simp [Act.put, Array.getElem?_setIfInBounds_ne this]
            rw [hpt, hpt]
            rcases v3 tt with c | ⟨u, hu, hl, ou, hou, hdu⟩
            · exact .inl c
            · have hne : e ≠ u := fun h => by subst h; exact hni.1 (I.uwk _ hu)
              refine .inr ⟨u, ?_, by rwa [getD_set_ne false hne], ou, hou, hdu⟩
              have h3 := List.all_eq_true.1 hU u hu
              simp only [Bool.or_eq_true, List.contains_iff_mem] at h3
              rcases h3 with h3 | h3
              · exact h3
              · have := (hbb e u h3).listed I.closed (.inl hr)
                rw [hl] at this; cases this
      rcases h with ⟨o, ho, hwant, hk⟩ | ⟨o, ho, hwant, hdst, hre, hF⟩
      · obtain ⟨hex, hwn⟩ := I.vir.sees I.closed hbb I.own ho hr ((back_spec hB).1 _ o · · ho)
        unfold wpOpIn
        simp only [ho]
        rw [if_pos (by rw [hwn]; exact hwant a' I.hd)]
        refine uponP.wpIn _ _ ((wp_vir (hk.go a' w I.hd I.st o rfl rfl) hex).mono ?_)
        rintro a1 w1 ⟨v, rfl, E', H', hd', st', re', fj'⟩
        exact (ih false (e :: wk) U' E' H' hp (hwk.cons hdeps) fj').1 rfl fuel _ _ _ w1 (build o ho v w1 E' H' hd' st' re')
      · obtain ⟨hex, hwn⟩ := I.vir.sees I.closed hbb I.own ho hr ((back_spec hB).1 _ o · · ho)
        unfold wpOpIn
        simp only [ho]
        rw [if_neg (by rw [hwn, hwant a' I.hd]; simp)]
        exact ⟨fun _ _ => trivial, (ih false (e :: wk) U' _ H hp (hwk.cons hdeps) hF).1 rfl fuel _ _ _ w (build o ho undef w _ H (I.hd.put hdst undef) (by show St W (H ++ dm (a'.put o.dst undef).defers) w; rw [put_defers]; exact I.st) hre)⟩
    refine ⟨fun htf => ?_, heff⟩
    subst htf
    exact stage hB hbb [i] (by simpa using hcov) (heads_spec (.ef i U' p) false wk U hp0) heff (fun h => by cases h) hk
  | alt x y ihx ihy =>
    intro t wk U E H hp hwk h
    have hp0 := hp
    simp only [planB, Bool.and_eq_true, Bool.or_eq_true] at hp
    obtain ⟨⟨⟨hnil, hcov⟩, hx⟩, hy⟩ := hp
    have heff : ∀ e ∈ (Pl.alt x y).heads, ∀ fuel listed a a' w, FInv g bb P W n ops wk U E H (fuel + 1) listed a a' w → e ∈ Region.ready .any ops listed → wpOpIn (fen q.ro) 0 P ops q.den e (fun a1 w1 => wpAnyIn (fen q.ro) 0 P .any ops q.den fuel (listed.setIfInBounds e true) a1 w1) a w := by
      intro e he
      rcases List.mem_append.1 he with he | he
      · exact (ihx true wk U E H hx hwk h.1).2 e he
      · exact (ihy true wk U E H hy hwk h.2).2 e he
    refine ⟨fun htf => ?_, heff⟩
    subst htf
    exact stage hB hbb (x.heads ++ y.heads) (by simpa using hcov) (heads_spec (.alt x y) false wk U hp0) heff (fun h => by rw [h] at hnil; cases hnil) hk
end
section
variable {P : Program} {W : World} {n : Nat} {ops : Array Oper} {q : QQ} {k : KK} {E : Env} {H : List SP} {l : List Oper} {op : Op} {d : Nat} {dd : Option Tmp} {ty : TypeId} {pos : String} {af : Array Edge} {p : Pl} {i : Nat}
def drawB (ops : List Oper) (p : Pl) : Bool := backB ops.toArray && planB (waitBits ops) ops.toArray p false [] []
theorem cnt_replicate (m : Nat) : cnt (List.replicate m false) = m := by
  unfold cnt
  induction m with
  | zero => rfl
  | succ m ih => simp [List.replicate_succ] at ih ⊢
/-- a region that draws its order, in a frame whose deferred calls may be other ones -/
theorem drawn_any {id : Nat} {g : List Deferred → List Deferred} (hk : ∀ a w, k.den a w → q.den .normal { a with defers := g a.defers } w) (p : Pl) (hm : P.follows .mixedOrders = true) (hB : drawB l p = true) (h : FJ P W n l.toArray k p E H) {a : Act} {w : World} (hd : Hd n E a) (st : Sta W H a w) : (Code.region id l.toArray true).wpIn (fen q.ro) 0 P q.den { a with defers := g a.defers } w := by
  simp only [drawB, Bool.and_eq_true] at hB
  refine wpIn_region_any hm ?_
  refine (FJ.sound hk hB.1 (waitBits_ok l) p false [] [] E H hB.2 (fun k hk => by cases hk) h).1 rfl _ _ _ a _ ⟨by simp, fun k o _ hl => (by rw [getD_replicate_false] at hl; cases hl), ?_, fun k hk => (by rw [getD_replicate_false] at hk; cases hk), fun k hk => (by cases hk), fun u hu => (by cases hu), fun u hu => (by cases hu), hd, .nil, st.drawn _, rfl, rfl, fun t => .inl rfl⟩
  rw [Array.toList_replicate, cnt_replicate]
  exact Nat.le_refl _
theorem KJ_drawn {id : Nat} (p : Pl) (hm : P.follows .mixedOrders = true) (hB : drawB l p = true) (h : FJ P W n l.toArray (.ex q .normal) p E H) : KJ W n (.code P (Code.region id l.toArray true) q) E H :=
  ⟨fun _ _ hd st => drawn_any (g := fun l => l) (k := .ex q .normal) (fun _ _ h => h) p hm hB h hd st⟩

theorem QV.ev {v : Value} {o : Oper} (hg : o.guard = none) (h : Ev P W n E H o.op v) : QV P W n ops E H o v :=
  ⟨.inl ⟨fun a _ => by simp [Region.wanted, hg], ⟨fun _ a w p s => .inl (h.go o rfl a w p s.left)⟩⟩⟩
theorem QV.evg {v : Value} {o : Oper} {j t : Nat} {b : Bool} (hg : o.guard = some (j, b)) (hj : (ops[j]?).bind (·.dst) = some t) (ht : Env.at E t = some (.bool b)) (h : Ev P W n E H o.op v) : QV P W n ops E H o v :=
  ⟨.inl ⟨fun a p => by rw [wanted_of hg hj p ht]; simp, ⟨fun _ a w p s => .inl (h.go o rfl a w p s.left)⟩⟩⟩
theorem QV.no {o : Oper} {j t : Nat} {b : Bool} {v : Value} (hg : o.guard = some (j, b)) (hj : (ops[j]?).bind (·.dst) = some t) (ht : Env.at E t = some v) (hv : notB b v = true) : QV P W n ops E H o undef :=
  ⟨.inr ⟨fun a p => by rw [wanted_of hg hj p ht]; cases v <;> simp_all [notB], rfl⟩⟩
/-- a call that leaves what is owned as it is -/
theorem QR.call {o : Oper} {f : FuncId} {xs : List Operand} {ts : Array TypeId} {vs : List Value} {Hpre R : List SP} {v : Value} {X : Type} (ho : o.op = .call { callee := .value (.func f), args := xs.toArray, argTypes := ts }) (hx : Evs E xs vs) [hf : FnIs P f]
    (hc : Ct P W f vs Hpre (fun _ : X => v) (fun _ => Hpre)) (hp : Pick Hpre H R) : QR P W n E H o v :=
  ⟨fun M _ w p s => .inr ⟨f, _, run_call ho hx p w, (hc.go (R ++ M) w (s.perm ((hp.perm.append_right _).trans (by rw [List.append_assoc])))).mono fun _ _ ⟨_, he, hs⟩ => ⟨he, hs.perm ((show (Hpre ++ (R ++ M)).Perm ((Hpre ++ R) ++ M) by rw [List.append_assoc]).trans (hp.perm.symm.append_right _))⟩⟩⟩
theorem QV.call {f : FuncId} {xs : List Operand} {ts : Array TypeId} {vs : List Value} {Hpre R : List SP} {v : Value} {X : Type} {o : Oper} (hg : o.guard = none) (ho : o.op = .call { callee := .value (.func f), args := xs.toArray, argTypes := ts }) (hx : Evs E xs vs) [hf : FnIs P f]
    (hc : Ct P W f vs Hpre (fun _ : X => v) (fun _ => Hpre)) (hp : Pick Hpre H R) : QV P W n ops E H o v :=
  ⟨.inl ⟨fun a _ => by simp [Region.wanted, hg], QR.call ho hx hc hp⟩⟩
/-- the walk along an order, as a form of its own -/
structure FW (P : Program) (W : World) (n : Nat) (ops : Array Oper) (k : KK) (p : Pl) (E : Env) (H : List SP) : Prop where
  go : FJ P W n ops k p E H
/-- the next operation laid open -/
structure FO (P : Program) (W : World) (n : Nat) (ops : Array Oper) (k : KK) (o : Oper) (p : Pl) (E : Env) (H : List SP) : Prop where
  go : ∃ v, dstOk n o.dst = true ∧ QV P W n ops E H o v ∧ FJ P W n ops k p (Env.put E o.dst v) H
structure RO (P : Program) (W : World) (n : Nat) (ops : Array Oper) (o : Oper) (U : List Nat) (E : Env) (H : List SP) : Prop where
  go : ∃ v, (∀ d, o.dst = some d → Env.at E d = some v) ∧ QV P W n ops E H o v ∧ Rech P W n ops E H U
theorem KJ_draws {id : Nat} (p : Pl) (hm : P.follows .mixedOrders = true) (hB : drawB l p = true) (h : FW P W n l.toArray (.ex q .normal) p E H) : KJ W n (.code P (Code.region id l.toArray true) q) E H := KJ_drawn p hm hB h.go
theorem FW_nil (h : KJ W n k E H) : FW P W n ops k .nil E H := ⟨h⟩
theorem FW_open {o : Oper} (ho : ops[i]? = some o) (h : FO P W n ops k o p E H) : FW P W n ops k (.op i p) E H := by
  obtain ⟨v, h1, h2, h3⟩ := h.go
  exact ⟨⟨o, v, ho, h1, h2, h3⟩⟩
theorem FO_op {v : Value} (hv : Ev P W n E H op v) (hn : Nat.blt d n = true) (h : FW P W n ops k p ((d, v) :: E) H) : FO P W n ops k ⟨some d, op, ty, pos, af, none⟩ p E H := ⟨⟨v, hn, QV.ev rfl hv, h.go⟩⟩
theorem FO_yes {j t : Nat} {b : Bool} {v : Value} (hj : (ops[j]?).bind (·.dst) = some t) (ht : Env.at E t = some (.bool b)) (hv : Ev P W n E H op v) (hn : Nat.blt d n = true) (h : FW P W n ops k p ((d, v) :: E) H) : FO P W n ops k ⟨some d, op, ty, pos, af, some (j, b)⟩ p E H := ⟨⟨v, hn, QV.evg rfl hj ht hv, h.go⟩⟩
theorem FO_no {j t : Nat} {b : Bool} {v : Value} (hj : (ops[j]?).bind (·.dst) = some t) (ht : Env.at E t = some v) (hv : notB b v = true) (hn : dstOk n dd = true) (h : FW P W n ops k p (Env.put E dd undef) H) : FO P W n ops k ⟨dd, op, ty, pos, af, some (j, b)⟩ p E H := ⟨⟨undef, hn, QV.no rfl hj ht hv, h.go⟩⟩
theorem FW_ef {U : List Nat} (ho : ops[i]? = some ⟨dd, op, ty, pos, af, none⟩) (h : KJ W n (.oper P op dd (.raw (FlowK P W n ops k p U))) E H) : FW P W n ops k (.ef i U p) E H := ⟨.inl ⟨_, ho, fun a _ => by simp [Region.wanted], h⟩⟩
theorem FW_efg {U : List Nat} {j t : Nat} {b : Bool} (ho : ops[i]? = some ⟨dd, op, ty, pos, af, some (j, b)⟩) (hj : (ops[j]?).bind (·.dst) = some t) (ht : Env.at E t = some (.bool b)) (h : KJ W n (.oper P op dd (.raw (FlowK P W n ops k p U))) E H) : FW P W n ops k (.ef i U p) E H := ⟨.inl ⟨_, ho, fun a p => by rw [wanted_of rfl hj p ht]; simp, h⟩⟩
/-- an effect that is not wanted -/
theorem FW_efn {U : List Nat} {j t : Nat} {b : Bool} {v : Value} (ho : ops[i]? = some ⟨dd, op, ty, pos, af, some (j, b)⟩) (hj : (ops[j]?).bind (·.dst) = some t) (ht : Env.at E t = some v) (hv : notB b v = true) (hn : dstOk n dd = true) (hr : Rech P W n ops (Env.put E dd undef) H U) (h : FW P W n ops k p (Env.put E dd undef) H) : FW P W n ops k (.ef i U p) E H := by
  exact ⟨.inr ⟨_, ho, fun a p => by rw [wanted_of rfl hj p ht]; cases v <;> simp_all [notB], hn, hr, h.go⟩⟩
theorem FW_alt {x y : Pl} (hx : FW P W n ops k x E H) (hy : FW P W n ops k y E H) : FW P W n ops k (.alt x y) E H := ⟨⟨hx.go, hy.go⟩⟩
theorem KJ_flow {U : List Nat} (hr : Rech P W n ops E H U) (h : FW P W n ops k p E H) : KJ W n (.raw (FlowK P W n ops k p U)) E H := ⟨fun _ _ hd st => ⟨E, H, hd, st, hr, h.go⟩⟩
theorem Rech_open {u : Nat} {U : List Nat} {o : Oper} (ho : ops[u]? = some o) (h : RO P W n ops o U E H) : Rech P W n ops E H (u :: U) := by
  obtain ⟨v, h1, h2, h3⟩ := h.go
  exact .cons ho h1 h2 h3
theorem RO_op {U : List Nat} {v : Value} (hd : Env.at E d = some v) (hv : Ev P W n E H op v) (h : Rech P W n ops E H U) : RO P W n ops ⟨some d, op, ty, pos, af, none⟩ U E H := ⟨⟨v, fun _ e => by cases e; exact hd, QV.ev rfl hv, h⟩⟩
theorem RO_yes {U : List Nat} {j t : Nat} {b : Bool} {v : Value} (hd : Env.at E d = some v) (hj : (ops[j]?).bind (·.dst) = some t) (ht : Env.at E t = some (.bool b)) (hv : Ev P W n E H op v) (h : Rech P W n ops E H U) : RO P W n ops ⟨some d, op, ty, pos, af, some (j, b)⟩ U E H := ⟨⟨v, fun _ e => by cases e; exact hd, QV.evg rfl hj ht hv, h⟩⟩
theorem RO_no {U : List Nat} {j t : Nat} {b : Bool} {v : Value} (hd : Env.at E d = some undef) (hj : (ops[j]?).bind (·.dst) = some t) (ht : Env.at E t = some v) (hv : notB b v = true) (h : Rech P W n ops E H U) : RO P W n ops ⟨some d, op, ty, pos, af, some (j, b)⟩ U E H := ⟨⟨undef, fun _ e => by cases e; exact hd, QV.no rfl hj ht hv, h⟩⟩
/-- a guard that is not known: both ways -/
theorem QV.congr {E1 : Env} {o : Oper} {v : Value} (he : ∀ t, Env.at E t = Env.at E1 t) (h : QV P W n ops E1 H o v) : QV P W n ops E H o v := by
  have k : ∀ a, Hd n E a → Hd n E1 a := fun a p => ⟨p.size, fun t u q => p.at_ t u (by rw [he]; exact q)⟩
  exact ⟨h.go.imp (fun ⟨a, b⟩ => ⟨fun x p => a x (k x p), ⟨fun M x w p s => b.go M x w (k x p) s⟩⟩) (fun ⟨a, b⟩ => ⟨fun x p => a x (k x p), b⟩)⟩
theorem FJ_congr : ∀ (p : Pl) {E E1 : Env}, (∀ t, Env.at E t = Env.at E1 t) → FJ P W n ops k p E1 H → FJ P W n ops k p E H
  | .nil, E, E1, he, h => by
    have k : ∀ a, Hd n E a → Hd n E1 a := fun a p => ⟨p.size, fun t u q => p.at_ t u (by rw [he]; exact q)⟩
    exact KJ.mk fun a w p s => KJ.go h a w (k a p) s
  | .op i p, E, E1, he, ⟨o, v, ho, hd, hq, hF⟩ => ⟨o, v, ho, hd, hq.congr he, FJ_congr p (fun t => by
      cases hod : o.dst with
      | none => exact he t
      | some d => show Env.at ((d, v) :: E) t = Env.at ((d, v) :: E1) t; rw [Env.at_cons, Env.at_cons, he]) hF⟩
  | .ef i U p, E, E1, he, .inl ⟨o, ho, hw, hk⟩ => by
    have k : ∀ a, Hd n E a → Hd n E1 a := fun a p => ⟨p.size, fun t u q => p.at_ t u (by rw [he]; exact q)⟩
    exact .inl ⟨o, ho, fun a p => hw a (k a p), ⟨fun a w p s => hk.go a w (k a p) s⟩⟩
  | .ef i U p, E, E1, he, .inr ⟨o, ho, hw, hd, hr, hF⟩ => by
    have k : ∀ a, Hd n E a → Hd n E1 a := fun a p => ⟨p.size, fun t u q => p.at_ t u (by rw [he]; exact q)⟩
    have he2 : ∀ t, Env.at (Env.put E o.dst undef) t = Env.at (Env.put E1 o.dst undef) t := fun t => by
      cases hod : o.dst with
      | none => exact he t
      | some d => show Env.at ((d, undef) :: E) t = Env.at ((d, undef) :: E1) t; rw [Env.at_cons, Env.at_cons, he]
    exact .inr ⟨o, ho, fun a p => hw a (k a p), hd, Rech.of fun u hu => by
      obtain ⟨o', h1, v, h2, h3⟩ := hr.get u hu
      exact ⟨o', h1, v, fun d hd => by rw [he2]; exact h2 d hd, h3.congr he2⟩, FJ_congr p he2 hF⟩
  | .alt x y, E, E1, he, h => ⟨FJ_congr x he h.1, FJ_congr y he h.2⟩
theorem FO_congr {o : Oper} {E1 : Env} (he : ∀ t, Env.at E t = Env.at E1 t) (h : FO P W n ops k o p E1 H) : FO P W n ops k o p E H := by
  obtain ⟨v, h1, h2, h3⟩ := h.go
  refine ⟨⟨v, h1, h2.congr he, FJ_congr p (fun t => ?_) h3⟩⟩
  cases hod : o.dst with
  | none => exact he t
  | some d => show Env.at ((d, v) :: E) t = Env.at ((d, v) :: E1) t; rw [Env.at_cons, Env.at_cons, he]
theorem FO_also {o : Oper} {t : Nat} {v : Value} (ht : Env.at E t = some v) (h : FO P W n ops k o p ((t, v) :: E) H) : FO P W n ops k o p E H := FO_congr (fun u => by
  rw [Env.at_cons]
  split
  · rename_i e; subst e; exact ht
  · rfl) h
theorem FO_split {t j : Nat} {b c : Bool} (hj : (ops[j]?).bind (·.dst) = some t) (ht : Env.at E t = some (.bool c)) (hy : c = b → FO P W n ops k ⟨dd, op, ty, pos, af, some (j, b)⟩ p ((t, .bool b) :: E) H) (hn : c = !b → FO P W n ops k ⟨dd, op, ty, pos, af, some (j, b)⟩ p ((t, .bool !b) :: E) H) : FO P W n ops k ⟨dd, op, ty, pos, af, some (j, b)⟩ p E H := by
  have _ := hj
  by_cases h : c = b
  · subst h; exact FO_also ht (hy rfl)
  · have h : c = !b := by cases c <;> cases b <;> simp_all
    subst h; exact FO_also ht (hn rfl)
theorem FO_dec_t {t j : Nat} {pr : Prop} [Decidable pr] (hj : (ops[j]?).bind (·.dst) = some t) (ht : Env.at E t = some (.bool (decide pr))) (hy : pr → FO P W n ops k ⟨dd, op, ty, pos, af, some (j, true)⟩ p ((t, .bool true) :: E) H) (hn : ¬ pr → FO P W n ops k ⟨dd, op, ty, pos, af, some (j, true)⟩ p ((t, .bool false) :: E) H) : FO P W n ops k ⟨dd, op, ty, pos, af, some (j, true)⟩ p E H :=
  FO_split hj ht (fun e => hy (by simpa using e)) (fun e => hn (by simpa using e))
theorem FO_dec_f {t j : Nat} {pr : Prop} [Decidable pr] (hj : (ops[j]?).bind (·.dst) = some t) (ht : Env.at E t = some (.bool (decide pr))) (hy : ¬ pr → FO P W n ops k ⟨dd, op, ty, pos, af, some (j, false)⟩ p ((t, .bool false) :: E) H) (hn : pr → FO P W n ops k ⟨dd, op, ty, pos, af, some (j, false)⟩ p ((t, .bool true) :: E) H) : FO P W n ops k ⟨dd, op, ty, pos, af, some (j, false)⟩ p E H :=
  FO_split hj ht (fun e => hy (by simpa using e)) (fun e => hn (by simpa using e))
end
end Go.Proofs.YtdbfemdpdpaffaaGreatDoor
/-
  Guards of the walk: each lets by just one form of goal.
-/
namespace Go.Proofs.YtdbfemdpdpaffaaGreatDoor
open Go Go.RowKit
section
variable {P : Program} {W : World} {n : Nat} {ops : Array Oper} {q : QQ} {E : Env} {H R : List SP} {l : List Oper} {k : KK} {d : Option Tmp} {v : Value}
theorem is_list (h : KJ W n (.list P ops q l) E H) : KJ W n (.list P ops q l) E H := h
theorem is_oper {op : Op} (h : KJ W n (.oper P op d k) E H) : KJ W n (.oper P op d k) E H := h
theorem is_code {c : Code} (h : KJ W n (.code P c q) E H) : KJ W n (.code P c q) E H := h
theorem is_ex {e : Exit} (h : KJ W n (.ex q e) E H) : KJ W n (.ex q e) E H := h
theorem is_fw {p : Pl} (h : FW P W n ops k p E H) : FW P W n ops k p E H := h
theorem is_fo {o : Oper} {p : Pl} (h : FO P W n ops k o p E H) : FO P W n ops k o p E H := h
theorem is_ro {o : Oper} {U : List Nat} (h : RO P W n ops o U E H) : RO P W n ops o U E H := h
/-- the operation yields a value of which C holds -/
structure EK (P : Program) (W : World) (n : Nat) (E : Env) (H : List SP) (op : Op) (C : Value → Prop) : Prop where
  go : ∃ v, Ev P W n E H op v ∧ C v
theorem EK_ev {op : Op} {C : Value → Prop} {v : Value} (he : Ev P W n E H op v) (h : C v) : EK P W n E H op C := ⟨⟨v, he, h⟩⟩
theorem KJ_ek {op : Op} {d : Nat} (hn : Nat.blt d n = true) (h : EK P W n E H op fun v => KJ W n k ((d, v) :: E) H) : KJ W n (.oper P op (some d) k) E H := by
  obtain ⟨v, he, h⟩ := h.go
  exact KJ_ev he hn h
theorem KJ_ek0 {op : Op} (h : EK P W n E H op fun _ => KJ W n k E H) : KJ W n (.oper P op none k) E H := by
  obtain ⟨v, he, h⟩ := h.go
  exact KJ_ev0 he h
section
variable {op : Op} {d : Nat} {ty : TypeId} {pos : String} {af : Array Edge} {p : Pl} {U : List Nat} {j t : Nat} {b : Bool}
theorem FO_ek (hn : Nat.blt d n = true) (h : EK P W n E H op fun v => FW P W n ops k p ((d, v) :: E) H) : FO P W n ops k ⟨some d, op, ty, pos, af, none⟩ p E H := by
  obtain ⟨v, he, h⟩ := h.go
  exact FO_op he hn h
theorem FO_ekg (hj : (ops[j]?).bind (·.dst) = some t) (ht : Env.at E t = some (.bool b)) (hn : Nat.blt d n = true) (h : EK P W n E H op fun v => FW P W n ops k p ((d, v) :: E) H) : FO P W n ops k ⟨some d, op, ty, pos, af, some (j, b)⟩ p E H := by
  obtain ⟨v, he, h⟩ := h.go
  exact FO_yes hj ht he hn h
/-- the value found again in the slots -/
def AtR (P : Program) (W : World) (n : Nat) (ops : Array Oper) (E : Env) (H : List SP) (U : List Nat) (d : Nat) (v : Value) : Prop := Env.at E d = some v ∧ Rech P W n ops E H U
theorem AtR_mk {v : Value} (h1 : Env.at E d = some v) (h2 : Rech P W n ops E H U) : AtR P W n ops E H U d v := ⟨h1, h2⟩
theorem RO_ek (h : EK P W n E H op (AtR P W n ops E H U d)) : RO P W n ops ⟨some d, op, ty, pos, af, none⟩ U E H := by
  obtain ⟨v, he, h⟩ := h.go
  exact RO_op h.1 he h.2
theorem RO_ekg (hj : (ops[j]?).bind (·.dst) = some t) (ht : Env.at E t = some (.bool b)) (h : EK P W n E H op (AtR P W n ops E H U d)) : RO P W n ops ⟨some d, op, ty, pos, af, some (j, b)⟩ U E H := by
  obtain ⟨v, he, h⟩ := h.go
  exact RO_yes h.1 hj ht he h.2
end
theorem is_ek {op : Op} {C : Value → Prop} (h : EK P W n E H op C) : EK P W n E H op C := h
theorem ek_move {x : Operand} {C : Value → Prop} (h : EK P W n E H (.move x) C) : EK P W n E H (.move x) C := h
theorem ek_assign {x : Operand} {C : Value → Prop} (h : EK P W n E H (.assign x) C) : EK P W n E H (.assign x) C := h
theorem ek_pick {c x y : Operand} {C : Value → Prop} (h : EK P W n E H (.pick c x y) C) : EK P W n E H (.pick c x y) C := h
theorem ek_nilCheck {x : Operand} {C : Value → Prop} (h : EK P W n E H (.nilCheck x) C) : EK P W n E H (.nilCheck x) C := h
theorem ek_fieldAddr {t : TypeId} {x : Operand} {f : Nat} {C : Value → Prop} (h : EK P W n E H (.fieldAddr t x f) C) : EK P W n E H (.fieldAddr t x f) C := h
theorem ek_load {t : TypeId} {x : Operand} {C : Value → Prop} (h : EK P W n E H (.load t x) C) : EK P W n E H (.load t x) C := h
theorem ek_un {o : UnOp} {t : TypeId} {x : Operand} {C : Value → Prop} (h : EK P W n E H (.unOp o t x) C) : EK P W n E H (.unOp o t x) C := h
theorem ek_conv {s d : TypeId} {x : Operand} {C : Value → Prop} (h : EK P W n E H (.convert s d x) C) : EK P W n E H (.convert s d x) C := h
theorem ek_extract {x : Operand} {i : Nat} {C : Value → Prop} (h : EK P W n E H (.extract x i) C) : EK P W n E H (.extract x i) C := h
theorem ek_indexAddr {t : TypeId} {x y : Operand} {C : Value → Prop} (h : EK P W n E H (.indexAddr t x y) C) : EK P W n E H (.indexAddr t x y) C := h
theorem ek_index {t : TypeId} {x y : Operand} {C : Value → Prop} (h : EK P W n E H (.index t x y) C) : EK P W n E H (.index t x y) C := h
theorem ek_slice {t : TypeId} {x : Operand} {a b c : Option Operand} {C : Value → Prop} (h : EK P W n E H (.slice t x a b c) C) : EK P W n E H (.slice t x a b c) C := h
theorem ek_field {t : TypeId} {x : Operand} {f : Nat} {C : Value → Prop} (h : EK P W n E H (.field t x f) C) : EK P W n E H (.field t x f) C := h
theorem ek_lookup {t : TypeId} {x y : Operand} {c : Bool} {C : Value → Prop} (h : EK P W n E H (.lookup t x y c) C) : EK P W n E H (.lookup t x y c) C := h
theorem ek_mkIface {t : TypeId} {x : Operand} {C : Value → Prop} (h : EK P W n E H (.makeInterface t x) C) : EK P W n E H (.makeInterface t x) C := h
theorem ek_mkFunc {f : Fn} {a b : Array Operand} {C : Value → Prop} (h : EK P W n E H (.makeFunc f a b) C) : EK P W n E H (.makeFunc f a b) C := h
theorem ek_build {t : TypeId} {ps : Array (Nat × Operand)} {C : Value → Prop} (h : EK P W n E H (.build t ps) C) : EK P W n E H (.build t ps) C := h
theorem ek_len {xs : Array Operand} {ts : Array TypeId} {C : Value → Prop} (h : EK P W n E H (.call { callee := .builtin .len, args := xs, argTypes := ts }) C) : EK P W n E H (.call { callee := .builtin .len, args := xs, argTypes := ts }) C := h
theorem ek_cap {xs : Array Operand} {ts : Array TypeId} {C : Value → Prop} (h : EK P W n E H (.call { callee := .builtin .cap, args := xs, argTypes := ts }) C) : EK P W n E H (.call { callee := .builtin .cap, args := xs, argTypes := ts }) C := h
theorem ek_min {xs : Array Operand} {ts : Array TypeId} {C : Value → Prop} (h : EK P W n E H (.call { callee := .builtin .min, args := xs, argTypes := ts }) C) : EK P W n E H (.call { callee := .builtin .min, args := xs, argTypes := ts }) C := h
theorem ek_max {xs : Array Operand} {ts : Array TypeId} {C : Value → Prop} (h : EK P W n E H (.call { callee := .builtin .max, args := xs, argTypes := ts }) C) : EK P W n E H (.call { callee := .builtin .max, args := xs, argTypes := ts }) C := h
theorem ek_add {t u : TypeId} {x y : Operand} {C : Value → Prop} (h : EK P W n E H (.binOp .add t x y u) C) : EK P W n E H (.binOp .add t x y u) C := h
theorem ek_sub {t u : TypeId} {x y : Operand} {C : Value → Prop} (h : EK P W n E H (.binOp .sub t x y u) C) : EK P W n E H (.binOp .sub t x y u) C := h
theorem ek_mul {t u : TypeId} {x y : Operand} {C : Value → Prop} (h : EK P W n E H (.binOp .mul t x y u) C) : EK P W n E H (.binOp .mul t x y u) C := h
theorem ek_quo {t u : TypeId} {x y : Operand} {C : Value → Prop} (h : EK P W n E H (.binOp .quo t x y u) C) : EK P W n E H (.binOp .quo t x y u) C := h
theorem ek_rem {t u : TypeId} {x y : Operand} {C : Value → Prop} (h : EK P W n E H (.binOp .rem t x y u) C) : EK P W n E H (.binOp .rem t x y u) C := h
theorem ek_and {t u : TypeId} {x y : Operand} {C : Value → Prop} (h : EK P W n E H (.binOp .and t x y u) C) : EK P W n E H (.binOp .and t x y u) C := h
theorem ek_or {t u : TypeId} {x y : Operand} {C : Value → Prop} (h : EK P W n E H (.binOp .or t x y u) C) : EK P W n E H (.binOp .or t x y u) C := h
theorem ek_xor {t u : TypeId} {x y : Operand} {C : Value → Prop} (h : EK P W n E H (.binOp .xor t x y u) C) : EK P W n E H (.binOp .xor t x y u) C := h
theorem ek_shl {t u : TypeId} {x y : Operand} {C : Value → Prop} (h : EK P W n E H (.binOp .shl t x y u) C) : EK P W n E H (.binOp .shl t x y u) C := h
theorem ek_shr {t u : TypeId} {x y : Operand} {C : Value → Prop} (h : EK P W n E H (.binOp .shr t x y u) C) : EK P W n E H (.binOp .shr t x y u) C := h
theorem ek_eql {t u : TypeId} {x y : Operand} {C : Value → Prop} (h : EK P W n E H (.binOp .eql t x y u) C) : EK P W n E H (.binOp .eql t x y u) C := h
theorem ek_neq {t u : TypeId} {x y : Operand} {C : Value → Prop} (h : EK P W n E H (.binOp .neq t x y u) C) : EK P W n E H (.binOp .neq t x y u) C := h
theorem ek_lss {t u : TypeId} {x y : Operand} {C : Value → Prop} (h : EK P W n E H (.binOp .lss t x y u) C) : EK P W n E H (.binOp .lss t x y u) C := h
theorem ek_leq {t u : TypeId} {x y : Operand} {C : Value → Prop} (h : EK P W n E H (.binOp .leq t x y u) C) : EK P W n E H (.binOp .leq t x y u) C := h
theorem ek_gtr {t u : TypeId} {x y : Operand} {C : Value → Prop} (h : EK P W n E H (.binOp .gtr t x y u) C) : EK P W n E H (.binOp .gtr t x y u) C := h
theorem ek_geq {t u : TypeId} {x y : Operand} {C : Value → Prop} (h : EK P W n E H (.binOp .geq t x y u) C) : EK P W n E H (.binOp .geq t x y u) C := h
theorem is_store {t : TypeId} {x y : Operand} {dd : Option Tmp} (h : KJ W n (.oper P (.store t x y) dd k) E H) : KJ W n (.oper P (.store t x y) dd k) E H := h
theorem is_alloc {t : TypeId} {dd : Option Tmp} (h : KJ W n (.oper P (.alloc t) dd k) E H) : KJ W n (.oper P (.alloc t) dd k) E H := h
theorem is_box {t : TypeId} {x : Operand} {dd : Option Tmp} (h : KJ W n (.oper P (.box t x) dd k) E H) : KJ W n (.oper P (.box t x) dd k) E H := h
theorem is_call {f : FuncId} {xs : Array Operand} {ts : Array TypeId} {dd : Option Tmp} (h : KJ W n (.oper P (.call { callee := .value (.func f), args := xs, argTypes := ts }) dd k) E H) : KJ W n (.oper P (.call { callee := .value (.func f), args := xs, argTypes := ts }) dd k) E H := h
theorem is_append {xs : Array Operand} {ts : Array TypeId} {dd : Option Tmp} (h : KJ W n (.oper P (.call { callee := .builtin .append, args := xs, argTypes := ts }) dd k) E H) : KJ W n (.oper P (.call { callee := .builtin .append, args := xs, argTypes := ts }) dd k) E H := h
theorem is_copy {xs : Array Operand} {ts : Array TypeId} {dd : Option Tmp} (h : KJ W n (.oper P (.call { callee := .builtin .copy, args := xs, argTypes := ts }) dd k) E H) : KJ W n (.oper P (.call { callee := .builtin .copy, args := xs, argTypes := ts }) dd k) E H := h
theorem is_mkSlice {t : TypeId} {x y : Operand} {dd : Option Tmp} (h : KJ W n (.oper P (.makeSlice t x y) dd k) E H) : KJ W n (.oper P (.makeSlice t x y) dd k) E H := h
theorem is_mkMap {t : TypeId} {x : Option Operand} {dd : Option Tmp} (h : KJ W n (.oper P (.makeMap t x) dd k) E H) : KJ W n (.oper P (.makeMap t x) dd k) E H := h
theorem is_bslice {t : TypeId} {m : Nat} {ps : Array (Nat × Operand)} {dd : Option Tmp} (h : KJ W n (.oper P (.buildSlice t m ps) dd k) E H) : KJ W n (.oper P (.buildSlice t m ps) dd k) E H := h
theorem is_mapUpdate {t : TypeId} {x y z : Operand} {dd : Option Tmp} (h : KJ W n (.oper P (.mapUpdate t x y z) dd k) E H) : KJ W n (.oper P (.mapUpdate t x y z) dd k) E H := h
end
end Go.Proofs.YtdbfemdpdpaffaaGreatDoor
