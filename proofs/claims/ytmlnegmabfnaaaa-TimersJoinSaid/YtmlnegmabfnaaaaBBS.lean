/-
  Rng.
-/
import Derived.Test.YtmlnegmabfnaaaaBAJ
import Derived.RangeFuncIn
/-
  Range over a function: the rounds' contract, the statement, the rounds' own walk.
-/
namespace Go.Proofs.Ytmlnegmabfnaaaa
open Go Go.RowKit
/-- the value of yield -/
abbrev yv (l : Nat) : Value := .func (.yield l) #[] #[]
/-- the loop's record: in what state, with what jump; the slots asg E says -/
def recP (l : Nat) (st : LoopState) (pe : Option Code) (n : Nat) (E : Env) (ps : Array Tmp) (asg bd : Code) : SP :=
  ⟨4, l, fun h => ∃ fn tmps D, h l = some (.loop { state := st, pending := pe, fn, tmps, params := ps, assign := asg, body := bd, defers := D }) ∧ tmps.size = n ∧ ∀ t v, Env.at E t = some v → tmps[t]? = some v⟩
theorem recP_up {l : Nat} {st : LoopState} {pe : Option Code} {n : Nat} {E : Env} {ps : Array Tmp} {asg bd : Code} : ∀ h g, Hl.le h g → (recP l st pe n E ps asg bd).ok h → (recP l st pe n E ps asg bd).ok g :=
  fun _ _ le ⟨fn, tmps, D, a, b, c⟩ => ⟨fn, tmps, D, le _ _ a, b, c⟩
section
variable {P : Program} {W w : World} {n : Nat} {q : QQ} {k : KK} {E : Env} {H H' R : List SP} {l : Nat} {st : LoopState} {pe : Option Code} {ps : Array Tmp} {asg bd : Code} {X : Type}
theorem St.recd (s : St W H w) (p : Sel (recP l st pe n E ps asg bd) H R) : ∃ fn tmps D, w.heap[l]? = some (.loop { state := st, pending := pe, fn, tmps, params := ps, assign := asg, body := bd, defers := D }) ∧ tmps.size = n ∧ ∀ t v, Env.at E t = some v → tmps[t]? = some v := by
  obtain ⟨h, ⟨fn, tmps, D, a, b⟩, lies⟩ := s.sel p recP_up
  exact ⟨fn, tmps, D, (lies l _ a).2, b⟩
/-- the record turns -/
theorem St.recTurn {st' : LoopState} {pe' : Option Code} {fn : FuncId} {tmps : Array Value} {D : Nat} (s : St W H w) (p : Sel (recP l st pe n E ps asg bd) H R) (hh : w.heap[l]? = some (.loop { state := st, pending := pe, fn, tmps, params := ps, assign := asg, body := bd, defers := D })) :
    St W (recP l st' pe' n E ps asg bd :: R) (w.putObj l (.loop { state := st', pending := pe', fn, tmps, params := ps, assign := asg, body := bd, defers := D })) := by
  have hlt := (Array.getElem?_eq_some_iff.1 hh).1
  refine St.act (A := [recP l st pe n E ps asg bd]) (B := [recP l st' pe' n E ps asg bd]) (H := R) (s.perm p.perm) rfl rfl rfl (by simp) ?_
  intro h1 ⟨h, _, _, le, _, ⟨fn', tmps', D', a, b⟩, _⟩ lies
  have ha := (lies l _ (le _ _ a)).2
  rw [hh] at ha; cases ha
  refine ⟨Hl.one l _, starL_one ⟨fn, tmps, D, Hl.one_self _ _, b⟩, fun k x hx => ?_, fun k x hx => ?_, fun k _ hn => World.putObj_heap_other ?_⟩
  · obtain ⟨rfl, rfl⟩ := Hl.one_some hx; exact World.putObj_heap_same hlt
  · obtain ⟨rfl, rfl⟩ := Hl.one_some hx; exact .inl ⟨_, le _ _ a⟩
  · intro e; subst e; rw [le _ _ a] at hn; cases hn

/-- what a round's end must show -/
def RPost (W : World) {X : Type} (r : X → Bool) (H' : X → List SP) (R : List SP) : Ending → World → Prop := fun e w => ∃ x, e = .returned (.bool (r x)) ∧ St W (H' x ++ R) w
/-- a round's contract: yield, called with args where Hpre is owned -/
structure Yt (P : Program) (W : World) (l : Nat) (args : List Value) (Hpre : List SP) {X : Type} (r : X → Bool) (H' : X → List SP) : Prop where
  go : ∀ R w, St W (Hpre ++ R) w → ∃ f tmps asg bd, (Instr.yield l args.toArray).run P w = .ok (.round l f tmps asg bd) w ∧ RoundIn Fence.wide 0 P l f tmps asg bd w (RPost W r H' R)
/-- yield is called -/
theorem KJ_yield {x : Operand} {xs : List Operand} {ts : Array TypeId} {vs : List Value} {dd : Option Tmp} {Hpre : List SP} {r : X → Bool} {Hp : X → List SP} (hf : Env.ev E x = some (yv l)) (hx : Evs E xs vs) (hc : Yt P W l vs Hpre r Hp) (hp : Pick Hpre H R) (hn : dstOk n dd = true)
    (h : ∀ c, KJ W n k (Env.put E dd (.bool (r c))) (Hp c ++ R)) : KJ W n (.oper P (.call { callee := .value x, args := xs.toArray, argTypes := ts }) dd k) E H := by
  refine ⟨fun a w p s o ho hd => ?_⟩
  subst hd
  show uponP P o a _ ((execOp a.eval o).run P w)
  obtain ⟨f, tmps, asg, bd, hy, hr⟩ := hc.go (R ++ dm a.defers) w (s.perm ((hp.perm.append_right _).trans (by rw [List.append_assoc])))
  have hv := p.evs hx
  have hrun : (execOp a.eval o).run P w = .ok (.round l f tmps asg bd) w := by
    have : (execOp a.eval o).run P w = (Instr.yield l vs.toArray).run P w := by
      simp [execOp, ho, resolve, p.ev hf, Deferred.ofValue, invoke, hv, callFunc]
    rw [this, hy]
  rw [hrun]
  refine RoundIn.mono hr ?_
  rintro e w' ⟨c, rfl, s⟩
  refine ⟨_, rfl, (h c).go _ w' (p.put hn _) ?_⟩
  show St W (_ ++ dm (a.put o.dst _).defers) w'
  rw [put_defers, List.append_assoc]; exact s
theorem Yt.frame {args : List Value} {Hpre : List SP} {r : X → Bool} {Hp : X → List SP} (h : Yt P W l args Hpre r Hp) (F : List SP) : Yt P W l args (Hpre ++ F) r (fun x => Hp x ++ F) :=
  ⟨fun R w s => by
    obtain ⟨f, tmps, asg, bd, h1, h2⟩ := h.go (F ++ R) w (by rw [← List.append_assoc]; exact s)
    exact ⟨f, tmps, asg, bd, h1, h2.mono fun e w' ⟨x, he, s⟩ => ⟨x, he, by rw [List.append_assoc]; exact s⟩⟩⟩
theorem Pick.all (H : List SP) : Pick H H [] := by
  induction H with
  | nil => exact .nil
  | cons A H ih => exact .cons .here ih
/-- yield is called with all that is owned -/
theorem KJ_yield_all {x : Operand} {xs : List Operand} {ts : Array TypeId} {vs : List Value} {dd : Option Tmp} {H0 : List SP} {r : X → Bool} {Hp : X → List SP} (hf : Env.ev E x = some (yv l)) (hx : Evs E xs vs) (hc : Yt P W l vs H0 r Hp) (hp : H.Perm H0) (hn : dstOk n dd = true)
    (h : ∀ c, KJ W n k (Env.put E dd (.bool (r c))) (Hp c)) : KJ W n (.oper P (.call { callee := .value x, args := xs.toArray, argTypes := ts }) dd k) E H :=
  KJ.perm (KJ_yield hf hx hc (Pick.all H0) hn (fun c => by rw [List.append_nil]; exact h c)) hp
theorem KJ_cond_b {c : Operand} {x y : Code} {t : Bool} (hc : Env.ev E c = some (.bool t)) (ht : t = true → KJ W n (.code P x q) E H) (hf : t = false → KJ W n (.code P y q) E H) : KJ W n (.code P (Code.cond c x y) q) E H := KJ_cond hc ht hf

/-- the slots of a round: yield's arguments in the parameters -/
def Env.ofPs : List Tmp → List Value → Env → Env
  | p :: ps, v :: vs, E => Env.ofPs ps vs ((p, v) :: E)
  | _, _, E => E
theorem Hd.ofPs : ∀ (ps : List Tmp) (vs : List Value) (E : Env) (tmps : Array Value), (∀ p ∈ ps, p < n) → tmps.size = n → (∀ t v, Env.at E t = some v → tmps[t]? = some v) →
    Hd n (Env.ofPs ps vs E) { tmps := (ps.zip vs).foldl (fun t (p, v) => t.setIfInBounds p v) tmps, defers := [] }
  | [], vs, E, tmps, _, h1, h2 => ⟨by simpa using h1, fun t v q => by simpa using h2 t v (by simpa [Env.ofPs] using q)⟩
  | p :: ps, [], E, tmps, _, h1, h2 => ⟨by simpa using h1, fun t v q => by simpa using h2 t v (by simpa [Env.ofPs] using q)⟩
  | p :: ps, v :: vs, E, tmps, hp, h1, h2 => by
    have := Hd.ofPs ps vs ((p, v) :: E) (tmps.setIfInBounds p v) (fun x hx => hp x (by simp [hx])) (by simpa using h1) (fun t u q => by
      rw [Env.at_cons] at q
      split at q
      · rename_i e; subst e; cases q
        have : p < tmps.size := by rw [h1]; exact hp p (by simp)
        simp [this]
      · rename_i e
        rw [Array.getElem?_setIfInBounds_ne e]
        exact h2 t u q)
    simpa [Env.ofPs] using this

/-- behind the assignment: the round begins; the body is walked in the round's frame -/
def BeginK (P : Program) (l : Nat) (bd : Code) (Q : Exit → Act → World → Prop) : Act → World → Prop := fun a₁ w₁ => ∃ w₂, (Instr.beginRound l).run P w₁ = .ok () w₂ ∧ bd.wpIn (fen (some l)) 0 P Q a₁ w₂
abbrev asgQ (P : Program) (l : Nat) (bd : Code) (Q : Exit → Act → World → Prop) : QQ := .thn (BeginK P l bd Q) (.rnd l fun _ _ _ => False)
theorem is_begin {bd : Code} {Q : Exit → Act → World → Prop} (h : KJ W n (.raw (BeginK P l bd Q)) E H) : KJ W n (.raw (BeginK P l bd Q)) E H := h
theorem KJ_begin {Q : Exit → Act → World → Prop} {E' : Env} {bd' : Code} (hs : Sel (recP l .ready pe n E' ps asg bd') H R) (h : KJ W n (.code P bd (.rnd l Q)) E (recP l .busy pe n E' ps asg bd' :: R)) : KJ W n (.raw (BeginK P l bd Q)) E H :=
  ⟨fun a w p s => by
    obtain ⟨fn, tmps, D, hh, _⟩ := s.left.recd hs
    exact ⟨_, run_beginRound hh rfl, h.go a _ p (St.recTurn s (hs.app _) hh)⟩⟩
/-- a round is over: jump: how it is left -/
theorem KJ_round {r : X → Bool} {Hp : X → List SP} {ex : Exit} {jump : Option Code} {E' : Env} (hj : ex = .normal ∧ jump = none ∨ ex = .ret ∧ jump = some .ret ∨ ∃ id, ex = .exit id ∧ jump = some (.exit id)) (hs : Sel (recP l .busy pe n E' ps asg bd) H H') (c : X) (hc : jump.isNone = r c)
    (hE : ∀ g, starL (recP l (if jump.isNone then .ready else .done) jump n E' ps asg bd :: H') g → starL (Hp c ++ R) g) : KJ W n (.ex (.rnd l (roundPost P l (RPost W r Hp R))) ex) E H :=
  ⟨fun a w p s => by
    obtain ⟨fn, tmps, D, hh, _⟩ := s.left.recd hs
    have hrun := run_endRound (P := P) jump hh
    have st : St W (recP l (if jump.isNone then .ready else .done) jump n E' ps asg bd :: H') _ := (St.recTurn (st' := if jump.isNone then .ready else .done) (pe' := jump) s (hs.app _) hh).left (B := dm a.defers)
    have fin : ∃ v w', (Instr.endRound l jump).run P w = .ok v w' ∧ RPost W r Hp R (.returned v) w' := ⟨_, _, hrun, c, by rw [hc], st.mono hE⟩
    rcases hj with ⟨rfl, rfl⟩ | ⟨rfl, rfl⟩ | ⟨id, rfl, rfl⟩
    · exact fin
    · exact fin
    · exact fin⟩
theorem KJ_round_t {A B : List SP} {E' : Env} (hs : Sel (recP l .busy pe n E' ps asg bd) H H') (hE : ∀ g, starL (recP l .ready none n E' ps asg bd :: H') g → starL (A ++ R) g) : KJ W n (.ex (.rnd l (roundPost P l (RPost W (fun b : Bool => b) (fun b => if b then A else B) R))) .normal) E H :=
  KJ_round (.inl ⟨rfl, rfl⟩) hs true rfl hE
theorem KJ_round_f {A B : List SP} {E' : Env} {id : Nat} (hs : Sel (recP l .busy pe n E' ps asg bd) H H') (hE : ∀ g, starL (recP l .done (some (.exit id)) n E' ps asg bd :: H') g → starL (B ++ R) g) : KJ W n (.ex (.rnd l (roundPost P l (RPost W (fun b : Bool => b) (fun b => if b then A else B) R))) (.exit id)) E H :=
  KJ_round (.inr (.inr ⟨id, rfl, rfl⟩)) hs false rfl hE
/-- a round's contract from its walk -/
theorem Yt.of {args : List Value} {psl : List Tmp} {Hpre : List SP} {r : X → Bool} {Hp : X → List SP} (hl : args.length = psl.length) (hp : ∀ p ∈ psl, p < n)
    (h : ∀ R, KJ W n (.code P asg (asgQ P l bd (roundPost P l (RPost W r Hp R)))) (Env.ofPs psl args E) (recP l .ready pe n E psl.toArray asg bd :: Hpre ++ R)) : Yt P W l args (recP l .ready pe n E psl.toArray asg bd :: Hpre) r Hp :=
  ⟨fun R w s => by
    obtain ⟨fn, tmps, D, hh, h1, h2⟩ := s.recd .here
    refine ⟨_, _, _, _, run_yield hh (by simpa using hl), ?_⟩
    refine roundIn_of_wpIn (F := Fence.wide) (n := 0) trivial ?_
    have hd := Hd.ofPs psl args E tmps hp h1 h2
    have := (h R).go _ w hd (s.perm (by show _; simp [dm]))
    simp only [List.zip_toArray, List.foldl_toArray', List.size_toArray]
    exact this⟩
/-- the statement -/
theorem KJ_range {g : Operand} {gf : FuncId} {lb : List Value} {Hpre : List SP} {pe : X → Option Code} {Hp : X → List SP} {v : X → Value} (hro : q.ro = none) (hg : Env.ev E g = some (.func (.func gf) #[] lb.toArray)) [hf : FnIs P gf]
    (hc : ∀ l, Ct P W gf (yv l :: lb) (recP l .ready none n E ps asg bd :: Hpre) v (fun x => recP l (if (pe x).isNone then .ready else .done) (pe x) n E ps asg bd :: Hp x)) (hp : Pick Hpre H R)
    (h0 : ∀ x, pe x = none → KJ W n (.ex q .normal) E (Hp x ++ R)) (h1 : ∀ x c, pe x = some c → KJ W n (.code P c q) E (Hp x ++ R)) : KJ W n (.code P (Code.rangeFunc g ps asg bd) q) E H := by
  refine ⟨fun a w p s => ?_⟩
  show (Code.rangeFunc g ps asg bd).wpIn (fen q.ro) 0 P q.den a w
  rw [hro]
  refine wpIn_rangeFunc fun fn _ => ?_
  obtain ⟨W1, hW1⟩ : ∃ W1, ((w.alloc (.deferred (some []))).alloc (.loop { state := .ready, pending := none, fn, tmps := a.tmps, params := ps, assign := asg, body := bd, defers := w.heap.size })) = W1 := ⟨_, rfl⟩
  have hev := p.ev hg
  have hb : FnIs P gf := hf
  refine ⟨w.heap.size + 1, [{ target := .collected w.heap.size, args := #[] }], W1, { target := .fn (.func gf) lb.toArray, args := #[yv (w.heap.size + 1)] }, W1, gf, (yv (w.heap.size + 1) :: lb).toArray, W1, ?_, ?_, fun _ _ => trivial, ?_, fun e => by simp at e, ?_⟩
  · rw [← hW1]; exact run_enterLoop_outer _ _ _ _ _
  · simp only [resolve, hev]
    simp [go_sem]
  · have hf := hf.h
    cases hq : P.funcs[gf]? with
    | none => simp [hq] at hf
    | some fnn =>
      simp [hq] at hf
      obtain ⟨h1, h2⟩ := hf
      have hb : ¬ fnn.body = none := by cases h : fnn.body <;> simp_all
      simp [invoke, callFunc, Go.program, Sem.run, hq, h2, hb, Result.andThen]
  · have s1 : St W (recP (w.heap.size + 1) .ready none n E ps asg bd :: objP w.heap.size (.deferred (some [])) :: (H ++ dm a.defers)) W1 := by
      rw [← hW1]
      have := (St.alloc (A := objP w.heap.size (.deferred (some []))) (o := .deferred (some [])) s (Hl.one_self _ _))
      refine this.alloc (A := recP (w.heap.size + 1) .ready none n E ps asg bd) ?_
      rw [World.size_alloc]
      exact ⟨fn, a.tmps, w.heap.size, Hl.one_self _ _, p.size, p.at_⟩
    have hpm : (recP (w.heap.size + 1) .ready none n E ps asg bd :: objP w.heap.size (.deferred (some [])) :: (H ++ dm a.defers)).Perm ((recP (w.heap.size + 1) .ready none n E ps asg bd :: Hpre) ++ (R ++ (objP w.heap.size (.deferred (some [])) :: dm a.defers))) := by
      refine List.Perm.cons _ ?_
      refine (List.perm_middle (l₁ := H)).symm.trans ?_
      refine List.Perm.trans (hp.perm.append_right _) ?_
      show ((Hpre ++ R) ++ _).Perm (Hpre ++ (R ++ _))
      rw [List.append_assoc]
    refine (callsIn_wide (n := 0)).2 (((hc (w.heap.size + 1)).go _ W1 (s1.perm hpm)).mono ?_)
    rintro e w2 ⟨x, rfl, s2⟩
    obtain ⟨fn', tmps', D', hh, _⟩ := s2.recd .here
    have hne : (if (pe x).isNone then LoopState.ready else LoopState.done) ≠ .busy := by split <;> simp
    have s3 := St.recTurn (st' := .exhausted) (pe' := pe x) s2 .here hh
    have s4 : St W ((Hp x ++ R) ++ (objP w.heap.size (.deferred (some [])) :: dm a.defers)) (w2.putObj (w.heap.size + 1) (.loop { state := .exhausted, pending := pe x, fn := fn', tmps := tmps', params := ps, assign := asg, body := bd, defers := D' })) := by
      have := s3.right (A := [recP (w.heap.size + 1) .exhausted (pe x) n E ps asg bd])
      rw [List.append_assoc]; exact this
    refine ⟨pe x, _, run_endLoop hh hne, ?_⟩
    have p2 : Hd n E { a with defers := [{ target := .collected w.heap.size, args := #[] }] ++ a.defers } := ⟨p.size, p.at_⟩
    cases hpe : pe x with
    | none =>
      rw [hpe] at s4
      exact (h0 x hpe).go _ _ p2 s4
    | some c =>
      rw [hpe] at s4
      have := (h1 x c hpe).go _ _ p2 s4
      have e2 : KK.den (.code P c q) = c.wpIn (fen q.ro) 0 P q.den := rfl
      rw [e2, hro] at this
      exact this
end
end Go.Proofs.Ytmlnegmabfnaaaa
