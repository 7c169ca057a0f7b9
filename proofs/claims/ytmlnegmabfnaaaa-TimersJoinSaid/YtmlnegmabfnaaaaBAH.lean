/-
  Acts.
-/
import Derived.Test.YtmlnegmabfnaaaaBAG
/-
  The operations' rules: stores, new memory, calls; and a function's contract.
-/
namespace Go.Proofs.Ytmlnegmabfnaaaa
open Go Go.RowKit
/-- A contract: called where Hpre is owned, f returns r x for some x and leaves H' x; all else of one's own stays. -/
structure Ct (P : Program) (W : World) (f : FuncId) (args : List Value) (Hpre : List SP) {X : Type} (r : X → Value) (H' : X → List SP) : Prop where
  go : ∀ R w, St W (Hpre ++ R) w → Calls P f args.toArray w fun e w' => ∃ x, e = .returned (r x) ∧ St W (H' x ++ R) w'
/-- what a call's end must show -/
def Post (W : World) {X : Type} (r : X → Value) (H' : X → List SP) (R : List SP) : Ending → World → Prop := fun e w => ∃ x, e = .returned (r x) ∧ St W (H' x ++ R) w

def Env.ofArgs : List Value → Nat → Env
  | [], _ => []
  | v :: vs, k => (k, v) :: Env.ofArgs vs (k + 1)
theorem Env.ofArgs_at (vs : List Value) : ∀ k t v, Env.at (Env.ofArgs vs k) t = some v → k ≤ t ∧ vs[t - k]? = some v := by
  induction vs with
  | nil => intro k t v h; cases h
  | cons u vs ih =>
    intro k t v h
    simp only [Env.ofArgs] at h
    rw [Env.at_cons] at h
    split at h
    · rename_i e; subst e; cases h; exact ⟨Nat.le_refl _, by simp⟩
    · obtain ⟨h1, h2⟩ := ih (k + 1) t v h
      refine ⟨by omega, ?_⟩
      rw [show t - k = (t - (k + 1)) + 1 by omega]
      simpa using h2
section
variable {P : Program} {W : World} {n : Nat} {q : QQ} {k : KK} {op : Op} {E : Env} {H H' R : List SP} {ops : Array Oper} {l : List Oper} {x y z : Operand} {t u T : TypeId} {b off : Nat} {d : Nat} {dd : Option Tmp} {X : Type}
theorem Ct.enter {f : FuncId} {args : List Value} {Hpre : List SP} {r : X → Value} {Hp : X → List SP} {fn : Func} {c : Code} (hf : P.funcs[f]? = some fn) (hb : fn.body = some c) (hn : fn.ntmps = n) (hk : args.length ≤ n)
    (h : ∀ R, KJ W n (.code P c (.top (bodyPostM Fence.wide 0 P fn (Post W r Hp R)))) (Env.ofArgs args 0) (Hpre ++ R)) : Ct P W f args Hpre r Hp := by
  refine ⟨fun R w s => ?_⟩
  refine callsIn_wide.1 (callsIn_of_wp_marks (F := Fence.wide) (n := 0) hf hb trivial ((h R).go _ w ⟨?_, fun t v e => ?_⟩ (s.perm (by show (Hpre ++ R).Perm ((Hpre ++ R) ++ []); rw [List.append_nil]))))
  · simp [hn]; omega
  · obtain ⟨_, h2⟩ := Env.ofArgs_at args 0 t v e
    have hl := (List.getElem?_eq_some_iff.1 h2).1
    simp only [Nat.sub_zero] at h2 hl
    show (args.toArray ++ _)[t]? = _
    rw [Array.getElem?_append_left (by simpa using hl)]
    simpa using h2
theorem Ct.val {f : FuncId} {args : List Value} {Hpre : List SP} {r r' : X → Value} {Hp : X → List SP} (h : Ct P W f args Hpre r Hp) (e : ∀ x, r x = r' x) : Ct P W f args Hpre r' Hp := by
  have : r = r' := funext e
  subst this; exact h
/-- results -/
inductive Rvs (P : Program) (E : Env) (H : List SP) : List ResultVar → List Value → Prop
  | nil : Rvs P E H [] []
  | tmp {t : Nat} {v : Value} {rs : List ResultVar} {vs : List Value} : Env.at E t = some v → Rvs P E H rs vs → Rvs P E H (.tmp t :: rs) (v :: vs)
  | cell {a b T t : Nat} {v : Value} {cs : List Value} {R : List SP} {rs : List ResultVar} {vs : List Value} : Env.at E a = some (.pointer (some ⟨b, 0, none⟩)) → ScIs P t → Sel (cellsP b cs T) H R → cs[0]? = some v → Rvs P E H rs vs → Rvs P E H (.cell a t :: rs) (v :: vs)
  | agg {a b T t m : Nat} {ws cs : List Value} {R : List SP} {rs : List ResultVar} {vs : List Value} : Env.at E a = some (.pointer (some ⟨b, 0, none⟩)) → AgIs P t → SzIs P t m → Sel (cellsP b cs T) H R → Cut cs 0 m ws → Rvs P E H rs vs → Rvs P E H (.cell a t :: rs) (.agg ws.toArray :: vs)
def tupleV : List Value → Value
  | [v] => v
  | vs => .tuple vs.toArray
theorem run_loadVar_one (w : World) {v : Value} (hc : w.cell? ⟨b, off, none⟩ = some v) [hu : ScIs P t] : (loadVar t ⟨b, off, none⟩).run P w = .ok v w := by
  obtain ⟨d, hu, hd⟩ := hu.h
  have := run_loadAt_one w hc hu hd
  simpa [Instr.loadAt, Instr.sureAddr] using this
theorem run_loadVar_agg (w : World) {vs : List Value} {m : Nat} (hc : w.rangeAt b off vs) (hl : vs.length = m) [hu : AgIs P t] [hi : SzIs P t m] : (loadVar t ⟨b, off, none⟩).run P w = .ok (.agg vs.toArray) w := by
  obtain ⟨d, hu, hd⟩ := hu.h
  have := run_loadAt_mid (P := P) w b off t vs d hc hu (isRow_of hd) (by rw [hl]; exact hi.h)
  simpa [Instr.loadAt, Instr.sureAddr] using this
def resOf (tmps : Array Value) : ResultVar → Sem Value
  | .tmp t => pure (tmps.getD t undef)
  | .cell b t => do loadVar t (← asAddr (tmps.getD b undef))
theorem Rvs.run {rs : List ResultVar} {vs : List Value} (h : Rvs P E H rs vs) {a : Act} {w : World} (p : Hd n E a) (q : St W H w) :
    (rs.mapM (resOf a.tmps)).run P w = .ok vs w := by
  induction h with
  | nil => rfl
  | tmp e _ ih =>
    have h1 := p.at_ _ _ e
    rw [List.mapM_cons]
    simp [resOf, h1, ih, Result.andThen]
  | cell e sc s hv _ ih =>
    have h1 := p.at_ _ _ e
    have hc := (q.blk s).2.cell 0
    rw [hv] at hc
    have h2 := run_loadVar_one (P := P) w hc (hu := sc)
    rw [List.mapM_cons]
    simp [resOf, h1, ih, h2, asAddr, Result.andThen]
  | agg e ag si s hv _ ih =>
    have h1 := p.at_ _ _ e
    have hc : w.rangeAt _ 0 _ := fun j v hj => by rw [(q.blk s).2.cell]; exact hv.spec.2 j v hj
    have h2 := run_loadVar_agg (P := P) w hc hv.spec.1 (hu := ag) (hi := si)
    rw [List.mapM_cons]
    simp [resOf, h1, ih, h2, asAddr, Result.andThen]
theorem Rvs.results_run {fn : Func} {rs : List ResultVar} {vs : List Value} (hr : fn.results = rs.toArray) (h : Rvs P E H rs vs) {a : Act} {w : World} (p : Hd n E a) (q : St W H w) : (Go.results fn a.tmps).run P w = .ok (tupleV vs) w := by
  have h1 := h.run p q
  unfold Go.results
  rw [hr]
  have e : (rs.toArray.mapM (resOf a.tmps)) = (List.toArray <$> rs.mapM (resOf a.tmps)) := by simp
  show (do let vs ← rs.toArray.mapM (resOf a.tmps); pure (if h : vs.size = 1 then vs[0] else .tuple vs) : Sem Value).run P w = _
  rw [e]
  simp [h1, Result.andThen]
  cases vs with
  | nil => rfl
  | cons v vs => cases vs <;> simp [tupleV]
inductive DropTo (R : List SP) : List SP → Prop
  | refl : DropTo R R
  | there {A : SP} {H : List SP} : DropTo R H → DropTo R (A :: H)
theorem DropTo.star {H : List SP} (d : DropTo R H) : ∀ g, starL H g → starL R g := by
  induction d with
  | refl => exact fun _ q => q
  | there _ ih => exact fun g ⟨h1, h2, _, _, c, _, e⟩ => ih g (starL_le c e)
theorem Ent.of {As H1 : List SP} (p : Pick As H H1) (d : DropTo R H1) : ∀ g, starL H g → starL (As ++ R) g := by
  intro g q
  have := starL_perm p.perm g q
  obtain ⟨h1, h2, a, b, c, e, f⟩ := (starL_append g).1 this
  exact (starL_append g).2 ⟨h1, h2, a, b, c, e, d.star _ f⟩
theorem xN {As H1 : List SP} (p : Pick As H H1 := by (repeat' (first | exact Pick.nil | apply Pick.cons | exact Sel.here | apply Sel.there)); first | done | fail) (d : DropTo R H1 := by (repeat' (first | exact DropTo.refl | apply DropTo.there)); first | done | fail) : ∀ g, starL H g → starL (As ++ R) g := Ent.of p d
theorem leaves_marks {fn : Func} {tmps : Array Value} {v : Value} {r : X → Value} {Hp : X → List SP} (c : X) (hv : v = r c) (hE : ∀ g, starL H g → starL (Hp c ++ R) g) (hr : ∀ w, St W H w → (Go.results fn tmps).run P w = .ok v w) :
    ∀ (ds : List Deferred) (w : World), St W (H ++ dm ds) w → LeavesInM Fence.wide 0 P fn tmps (Post W r Hp R) ds .returning w := by
  intro ds
  induction ds with
  | nil =>
    intro w s
    have s : St W H w := s.left
    exact ⟨v, hr w s, c, by rw [hv], s.mono hE⟩
  | cons e ds ih =>
    intro w s
    refine ⟨by simp, .inl ?_⟩
    cases ht : e.target with
    | collected b =>
      have e1 : dm (e :: ds) = objP b (.deferred (some [])) :: dm ds := by simp [dm, ht]
      rw [e1] at s
      have s := s.perm List.perm_middle
      have hb := (s.obj .here).2
      refine ⟨b, _, rfl, run_takeDeferred hb, ih _ ?_⟩
      have s2 : St W (objP b (.deferred none) :: (H ++ dm ds)) (w.putObj b (.deferred none)) := s.turn .here (fun h q => q) (Hl.one_self _ _) rfl rfl rfl (by simp) (World.putObj_heap_same (Array.getElem?_eq_some_iff.1 hb).1) (fun k hk => World.putObj_heap_other hk)
      exact s2.right (A := [_])
    | _ =>
      exfalso
      have e1 : dm (e :: ds) = factP False :: dm ds := by simp [dm, ht]
      rw [e1] at s
      exact (s.perm List.perm_middle).fact .here
/-- the end of a call: hE: the claims that are owed are among those that are held -/
theorem KJ_done {r : X → Value} {Hp : X → List SP} {fn : Func} {rs : List ResultVar} {vs : List Value} {ex : Exit} (hex : ex = .ret ∨ ex = .normal) (hr : fn.results = rs.toArray) (hv : Rvs P E H rs vs) (c : X) (hc : tupleV vs = r c) (hE : ∀ g, starL H g → starL (Hp c ++ R) g) : KJ W n (.ex (.top (bodyPostM Fence.wide 0 P fn (Post W r Hp R))) ex) E H := by
  refine ⟨fun a w p q => ?_⟩
  have h1 := leaves_marks (P := P) (fn := fn) (tmps := a.tmps) (R := R) c hc hE (fun w s => hv.results_run hr p s) a.defers w q
  rcases hex with rfl | rfl
  · exact h1
  · exact h1

theorem xdn {r : X → Value} {Hp : X → List SP} {fn : Func} {rs : List ResultVar} {vs : List Value} {ex : Exit} (c : X) (hr : fn.results = rs.toArray := by rfl) (hex : ex = .ret ∨ ex = .normal := by first | exact Or.inl rfl | exact Or.inr rfl) (hv : Rvs P E H rs vs := by (repeat' (first | exact Rvs.nil | (apply Rvs.tmp; exact rfl))); first | done | fail) (hc : tupleV vs = r c := by rfl) (hE : ∀ g, starL H g → starL (Hp c ++ R) g := by exact xN) : KJ W n (.ex (.top (bodyPostM Fence.wide 0 P fn (Post W r Hp R))) ex) E H := KJ_done hex hr hv c hc hE
/-- a store -/
theorem KJ_store {v : Value} {vs cs cs' : List Value} {m : Nat} (hx : Env.ev E x = some (.pointer (some ⟨b, off, none⟩))) (hy : Env.ev E y = some v) [hi : SzIs P t m] (hs : Sel (cellsP b cs T) H R) (hv : CellsOf v vs) (hl : vs.length = m) (h1 : Ones vs) (hL : Laid cs off vs cs') (hr : Rep (cellsP b cs T) (cellsP b cs' T) H H')
    (h : KJ W n k E H') : KJ W n (.oper P (.store t x y) none k) E H := by
  obtain ⟨hfit, rfl⟩ := hL.spec
  refine ⟨fun a w p s o ho hd => ?_⟩
  have hrun := run_store_lay (P := P) w b off t cs vs T (s.left.blk hs).2 hfit (by rw [hl]; exact hi.h) h1.all
  have e : (Instr.storeAt t (.pointer (some ⟨b, off, none⟩)) v).run P w = (Instr.storeAt t (.pointer (some ⟨b, off, none⟩)) (.agg vs.toArray)).run P w := by
    simp only [Instr.storeAt, storeVar, hv.spec]
    rfl
  show uponP P o a _ ((execOp a.eval o).run P w)
  have e2 : (execOp a.eval o).run P w = .ok .skip (w.setRow b (lay cs off vs).toArray) := by
    simp [execOp, ho, p.ev hx, p.ev hy, e, hrun, Result.andThen]
  rw [e2]
  have := h.go _ _ (p.put (d := none) rfl undef) (s.setRow (hr.app _))
  rw [← hd] at this
  exact this
/-- a new block -/
theorem KJ_new {cs : List Value} (hr : ∀ o : Oper, o.op = op → ∀ a w, Hd n E a → St W H w → (execOp a.eval o).run P w = .ok (.value (.pointer (some ⟨w.heap.size, 0, none⟩))) (w.alloc (.cells cs.toArray T))) (hn : Nat.blt d n = true)
    (h : ∀ g, KJ W n k ((d, .pointer (some ⟨g, 0, none⟩)) :: E) (cellsP g cs T :: H)) : KJ W n (.oper P op (some d) k) E H := by
  refine ⟨fun a w p s o ho hd => ?_⟩
  show uponP P o a _ ((execOp a.eval o).run P w)
  rw [hr o ho a w p s.left]
  have := (h _).go _ _ (p.put (d := some d) hn _) s.new
  rw [← hd] at this
  exact this
theorem KJ_alloc {zs : List Value} [hz : ZcIs P t zs] (hn : Nat.blt d n = true) (h : ∀ g, KJ W n k ((d, .pointer (some ⟨g, 0, none⟩)) :: E) (cellsP g zs t :: H)) : KJ W n (.oper P (.alloc t) (some d) k) E H :=
  KJ_new (fun o ho a w p s => by
    have hz := hz.h
    cases hq : P.info? t with
    | none => simp [hq] at hz
    | some i =>
      simp [hq] at hz
      obtain ⟨z, hz1, hz2⟩ := hz
      simp [execOp, ho, Instr.alloc, zeroValue, typeInfo, hq, hz1, newVar, newRow, hz2, Go.newObj, Sem.run, Result.andThen]) hn h
theorem KJ_box {v : Value} {vs : List Value} (hy : Env.ev E y = some v) (hv : CellsOf v vs) (hn : Nat.blt d n = true) (h : ∀ g, KJ W n k ((d, .pointer (some ⟨g, 0, none⟩)) :: E) (cellsP g vs t :: H)) : KJ W n (.oper P (.box t y) (some d) k) E H :=
  KJ_new (fun o ho a w p s => by
    simp [execOp, ho, p.ev hy, Instr.box, newVar, newRow, hv.spec, Go.newObj, Sem.run, Result.andThen]) hn h
/-- a call of a function by its contract -/
theorem run_call {o : Oper} {f : FuncId} {xs : List Operand} {ts : Array TypeId} {vs : List Value} (ho : o.op = .call { callee := .value (.func f), args := xs.toArray, argTypes := ts }) (hx : Evs E xs vs) [hf : FnIs P f] {a : Act} (p : Hd n E a) (w : World) : (execOp a.eval o).run P w = .ok (.enter f vs.toArray) w := by
  have hf := hf.h
  cases hq : P.funcs[f]? with
  | none => simp [hq] at hf
  | some fn =>
    simp [hq] at hf
    obtain ⟨h1, h2⟩ := hf
    have e : a.eval (.func f) = .func (.func f) #[] #[] := rfl
    have hb : ¬ fn.body = none := by cases h : fn.body <;> simp_all
    have hv := p.evs hx
    simp [execOp, ho, resolve, e, Deferred.ofValue, invoke, callFunc, Go.program, Sem.run, hq, h2, hb, hv, Result.andThen]
theorem KJ_call' {f : FuncId} {xs : List Operand} {ts : Array TypeId} {vs : List Value} {Hpre : List SP} {r : X → Value} {Hp : X → List SP} (hx : Evs E xs vs) [hf : FnIs P f]
    (hc : Ct P W f vs Hpre r Hp) (hp : Pick Hpre H R) (hn : dstOk n dd = true) (h : ∀ c, KJ W n k (Env.put E dd (r c)) (Hp c ++ R)) : KJ W n (.oper P (.call { callee := .value (.func f), args := xs.toArray, argTypes := ts }) dd k) E H := by
  refine ⟨fun a w p s o ho hd => ?_⟩
  subst hd
  show uponP P o a _ ((execOp a.eval o).run P w)
  rw [run_call ho hx p w]
  refine (hc.go (R ++ dm a.defers) w (s.perm ((hp.perm.append_right _).trans (by rw [List.append_assoc])))).mono ?_
  rintro e w' ⟨c, rfl, s⟩
  refine ⟨_, rfl, (h c).go _ w' (p.put hn _) ?_⟩
  show St W (_ ++ dm (a.put o.dst _).defers) w'
  rw [put_defers, List.append_assoc]; exact s
theorem KJ_call {f : FuncId} {xs : List Operand} {ts : Array TypeId} {vs : List Value} {Hpre : List SP} {r : X → Value} {Hp : X → List SP} (hx : Evs E xs vs) [hf : FnIs P f]
    (hc : Ct P W f vs Hpre r Hp) (hp : Pick Hpre H R) (hn : Nat.blt d n = true) (h : ∀ c, KJ W n k ((d, r c) :: E) (Hp c ++ R)) : KJ W n (.oper P (.call { callee := .value (.func f), args := xs.toArray, argTypes := ts }) (some d) k) E H :=
  KJ_call' hx hc hp hn h
end
end Go.Proofs.Ytmlnegmabfnaaaa
