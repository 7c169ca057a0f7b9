/-
  Flow, Kinds, More, Tab.
-/
import Derived.Test.YteklldbfdmaafaaDoorProg
import Derived.Test.YteklldbfdmaafaaDoorGA
/-
  A region that draws its order, walked once: operations that only yield a value (and leave what is owned as it is) may be done at any time that their edges allow; the others come one behind the other (or, where they are free of each other, in each order: alt).
-/
namespace Go.Proofs.YteklldbfdmaafaaDoor
open Go Go.RowKit

/-- the order in which the operations are walked: op: one that only yields; ef: one that turns something, and those that may still come behind it; alt: either may be the next -/
inductive Pl where
  | nil
  | op (i : Nat) (p : Pl)
  | ef (i : Nat) (U : List Nat) (p : Pl)
  | alt (a b : Pl)
def Pl.heads : Pl → List Nat
  | .nil => []
  | .op _ _ => []
  | .ef i _ _ => [i]
  | .alt a b => a.heads ++ b.heads

/-- j waits for i, at one remove or more -/
inductive Path (ops : Array Oper) : Nat → Nat → Prop
  | edge {j : Nat} {o : Oper} {e : Edge} : ops[j]? = some o → e ∈ o.after → Region.binds .any e = true → Path ops j e.on
  | step {j i : Nat} {o : Oper} {e : Edge} : ops[j]? = some o → e ∈ o.after → Region.binds .any e = true → Path ops e.on i → Path ops j i
theorem Path.listed {ops : Array Oper} {j i : Nat} (p : Path ops j i) {listed : Array Bool} (hc : Closed .any ops listed) (hj : j ∈ Region.ready .any ops listed ∨ listed.getD j false = true) : listed.getD i false = true := by
  have one : ∀ {j : Nat} {o : Oper} {e : Edge}, ops[j]? = some o → e ∈ o.after → Region.binds .any e = true → (j ∈ Region.ready .any ops listed ∨ listed.getD j false = true) → listed.getD e.on false = true := by
    intro j o e ho he hb hj
    rcases hj with hj | hj
    · obtain ⟨_, o', ho', hall⟩ := mem_ready.1 hj
      rw [ho] at ho'; cases ho'
      exact hall _ he hb
    · exact hc j o ho hj _ he hb
  induction p with
  | edge ho he hb => exact one ho he hb hj
  | step ho he hb _ ih => exact ih (.inr (one ho he hb hj))
/-- all that each operation waits for, as bits -/
def waitBits (ops : List Oper) : Array Nat := ops.foldl (fun acc o => acc.push (o.after.toList.foldl (fun s e => bif Region.binds .any e then s ||| 2 ^ e.on ||| acc.getD e.on 0 else s) 0)) #[]
def BitsOk (ops : Array Oper) (acc : Array Nat) : Prop := ∀ j i, (acc.getD j 0).testBit i = true → Path ops j i
theorem waitBits_ok (l : List Oper) : BitsOk l.toArray (waitBits l) := by
  have key : ∀ (r d : List Oper) (acc : Array Nat), d ++ r = l → acc.size = d.length → BitsOk l.toArray acc → BitsOk l.toArray (r.foldl (fun acc o => acc.push (o.after.toList.foldl (fun s e => bif Region.binds .any e then s ||| 2 ^ e.on ||| acc.getD e.on 0 else s) 0)) acc) := by
    intro r
    induction r with
    | nil => intro d acc _ _ h; exact h
    | cons o r ih =>
      intro d acc hd hs h
      refine ih (d ++ [o]) _ (by simp [hd]) (by simp [hs]) ?_
      have ho : l.toArray[d.length]? = some o := by subst hd; simp
      have inner : ∀ (es : List Edge) (s : Nat), (∀ e ∈ es, e ∈ o.after) → (∀ i, s.testBit i = true → Path l.toArray d.length i) → ∀ i, (es.foldl (fun s e => bif Region.binds .any e then s ||| 2 ^ e.on ||| acc.getD e.on 0 else s) s).testBit i = true → Path l.toArray d.length i := by
        intro es
        induction es with
        | nil => intro s _ hs i hi; exact hs i hi
        | cons e es ih2 =>
          intro s hes hs2
          refine ih2 _ (fun x hx => hes x (by simp [hx])) ?_
          intro i hi
          dsimp only at hi
          cases hb : Region.binds .any e with
          | false => rw [hb] at hi; exact hs2 i hi
          | true =>
            rw [hb] at hi
            simp only [cond_true, Nat.testBit_or, Bool.or_eq_true, Nat.testBit_two_pow, decide_eq_true_eq] at hi
            rcases hi with (hi | hi) | hi
            · exact hs2 i hi
            · subst hi; exact .edge ho (hes e (by simp)) hb
            · exact .step ho (hes e (by simp)) hb (h e.on i hi)
      intro j i hj
      by_cases hjl : j = d.length
      · subst hjl
        have e1 : (acc.push (o.after.toList.foldl (fun s e => bif Region.binds .any e then s ||| 2 ^ e.on ||| acc.getD e.on 0 else s) 0)).getD d.length 0 = o.after.toList.foldl (fun s e => bif Region.binds .any e then s ||| 2 ^ e.on ||| acc.getD e.on 0 else s) 0 := by
          rw [← hs]; simp
        rw [e1] at hj
        exact inner o.after.toList 0 (fun e he => by simpa using he) (fun i hi => by simp at hi) i hj
      · have e1 : (acc.push (o.after.toList.foldl (fun s e => bif Region.binds .any e then s ||| 2 ^ e.on ||| acc.getD e.on 0 else s) 0)).getD j 0 = acc.getD j 0 := by
          rw [Array.getD_eq_getD_getElem?, Array.getD_eq_getD_getElem?, Array.getElem?_push, if_neg (by omega)]
        rw [e1] at hj
        exact h j i hj
  exact key l [] #[] rfl rfl (fun j i h => by simp at h)

/-- i's slot is i's own, and whoever looks at it waits for i -/
def ownB (b : Array Nat) (ops : Array Oper) (i : Nat) : Bool := match ops[i]? with
  | none => false
  | some o => match o.dst with
    | none => true
    | some d => (List.range ops.size).all fun j => match ops[j]? with
      | none => true
      | some oj => (Nat.beq i j || !(oj.dst == some d)) && (!(oj.looksAt ops).contains d || (b.getD j 0).testBit i)
/-- what i waits for is among wk, and i is not -/
def depsB (ops : Array Oper) (wk : List Nat) (i : Nat) : Bool := match ops[i]? with
  | none => false
  | some o => !wk.contains i && o.after.all fun e => !Region.binds .any e || wk.contains e.on
/-- whoever is not among wk is one of hs or waits for one of them -/
def coverB (b : Array Nat) (ops : Array Oper) (wk hs : List Nat) : Bool := (List.range ops.size).all fun j => wk.contains j || hs.contains j || hs.any fun e => (b.getD j 0).testBit e
/-- all edges go back -/
def backB (ops : Array Oper) : Bool := Region.noSelect ops && (List.range ops.size).all fun k => match ops[k]? with
  | none => true
  | some o => o.after.all fun e => !Region.binds .any e || decide (e.on < k)
/-- the order is one that the edges bear out -/
def planB (b : Array Nat) (ops : Array Oper) : Pl → Bool → List Nat → List Nat → Bool
  | .nil, _, wk, _ => coverB b ops wk []
  | .op i p, t, wk, U => !t && depsB ops wk i && ownB b ops i && planB b ops p false (i :: wk) (i :: U)
  | .ef i U' p, t, wk, U => (t || coverB b ops wk [i]) && depsB ops wk i && (U.all fun u => U'.contains u || (b.getD i 0).testBit u) && (U'.all fun u => U.contains u) && planB b ops p false (i :: wk) U'
  | .alt x y, t, wk, U => !(x.heads ++ y.heads).isEmpty && (t || coverB b ops wk (x.heads ++ y.heads)) && planB b ops x true wk U && planB b ops y true wk U

section
variable (P : Program) (W : World) (n : Nat) (ops : Array Oper) (q : QQ)

/-- the operation yields v, now or later, and leaves what is owned as it is -/
structure QR (E : Env) (H : List SP) (o : Oper) (v : Value) : Prop where
  go : ∀ a w, Hd n E a → St W H w → (execOp a.eval o).run P w = .ok (.value v) w ∨ ∃ f args, (execOp a.eval o).run P w = .ok (.enter f args) w ∧ Calls P f args w fun e w' => e = .returned v ∧ St W H w'
structure QV (E : Env) (H : List SP) (o : Oper) (v : Value) : Prop where
  go : (∀ a, Hd n E a → Region.wanted o (yielded ops a.tmps) = true) ∧ QR P W n E H o v ∨ (∀ a, Hd n E a → Region.wanted o (yielded ops a.tmps) = false) ∧ v = undef
/-- those of U that may still come yield what they did -/
inductive Rech (E : Env) (H : List SP) : List Nat → Prop
  | nil : Rech E H []
  | cons {u : Nat} {U : List Nat} {o : Oper} {v : Value} : ops[u]? = some o → (∀ d, o.dst = some d → Env.at E d = some v) → QV P W n ops E H o v → Rech E H U → Rech E H (u :: U)

/-- the walk along an order -/
def FJ : Pl → Env → List SP → Prop
  | .nil, E, H => KJ W n (.ex q .normal) E H
  | .op i p, E, H => ∃ o v, ops[i]? = some o ∧ dstOk n o.dst = true ∧ QV P W n ops E H o v ∧ FJ p (Env.put E o.dst v) H
  | .ef i U' p, E, H => ∃ o, ops[i]? = some o ∧ (∀ a, Hd n E a → Region.wanted o (yielded ops a.tmps) = true) ∧
      KJ W n (.oper P o.op o.dst (.raw fun a w => ∃ E' H', Hd n E' a ∧ St W H' w ∧ Rech P W n ops E' H' U' ∧ FJ p E' H')) E H
  | .alt x y, E, H => FJ x E H ∧ FJ y E H
def FlowK (p : Pl) (U : List Nat) : Act → World → Prop := fun a w => ∃ E' H', Hd n E' a ∧ St W H' w ∧ Rech P W n ops E' H' U ∧ FJ P W n ops q p E' H'
end

section
variable {P : Program} {W : World} {n : Nat} {ops : Array Oper} {q : QQ}

/-- the frame a is the frame a' but for slots of operations of U that are not done -/
def Vir (ops : Array Oper) (U : List Nat) (listed : Array Bool) (a a' : Act) : Prop :=
  a.defers = a'.defers ∧ a.tmps.size = a'.tmps.size ∧ ∀ t, a.tmps[t]? = a'.tmps[t]? ∨ ∃ u ∈ U, listed.getD u false = false ∧ ∃ o, ops[u]? = some o ∧ o.dst = some t

theorem Vir.eval {U : List Nat} {listed : Array Bool} {a a' : Act} (h : Vir ops U listed a a') {x : Operand} (hx : ∀ t, x = .tmp t → ∀ u ∈ U, listed.getD u false = false → ∀ o, ops[u]? = some o → o.dst ≠ some t) : a.eval x = a'.eval x := by
  cases x with
  | tmp t =>
    rcases h.2.2 t with e | ⟨u, hu, hl, o, ho, hd⟩
    · simp [Act.eval, e]
    · exact absurd hd (hx t rfl u hu hl o ho)
  | _ => rfl

theorem own_spec {bb : Array Nat} (hb : BitsOk ops bb) {i : Nat} (h : ownB bb ops i = true) {o : Oper} (ho : ops[i]? = some o) {d : Tmp} (hd : o.dst = some d) {j : Nat} {oj : Oper} (hj : ops[j]? = some oj) : (i = j ∨ oj.dst ≠ some d) ∧ (d ∉ oj.looksAt ops ∨ Path ops j i) := by
  unfold ownB at h
  simp only [ho, hd] at h
  have h2 := List.all_eq_true.1 h j (List.mem_range.2 (Array.getElem?_eq_some_iff.1 hj).1)
  simp only [hj, Bool.and_eq_true, Bool.or_eq_true, Bool.not_eq_true', beq_eq_false_iff_ne] at h2
  refine ⟨h2.1.imp (fun q => Nat.eq_of_beq_eq_true q) id, h2.2.imp (fun q => ?_) (hb j i)⟩
  intro hm
  have : (oj.looksAt ops).contains d = true := by simpa using hm
  rw [this] at q; cases q
/-- an operation whose deps are done looks at no slot that is not done -/
theorem Vir.sees {U : List Nat} {listed : Array Bool} {a a' : Act} (h : Vir ops U listed a a') (hc : Closed .any ops listed) {bb : Array Nat} (hb : BitsOk ops bb) (hU : ∀ u ∈ U, ownB bb ops u = true) {i : Nat} {o : Oper} (ho : ops[i]? = some o) (hr : i ∈ Region.ready .any ops listed) (hsel : ∀ cs b, o.op ≠ .select cs b) :
    execOp a.eval o = execOp a'.eval o ∧ Region.wanted o (yielded ops a.tmps) = Region.wanted o (yielded ops a'.tmps) := by
  have key : ∀ t ∈ o.looksAt ops, ∀ u ∈ U, listed.getD u false = false → ∀ ou, ops[u]? = some ou → ou.dst ≠ some t := by
    intro t ht u hu hl ou hou hd
    rcases (own_spec hb (hU u hu) hou hd ho).2 with h3 | h3
    · exact h3 ht
    · have := h3.listed hc (.inl hr)
      rw [hl] at this; cases this
  refine ⟨execOp_congr o hsel fun x hx => h.eval fun t e u hu hl ou hou => ?_, ?_⟩
  · subst e
    exact key t (List.mem_append_left _ (List.mem_filterMap.2 ⟨.tmp t, by simpa using hx, rfl⟩)) u hu hl ou hou
  · unfold Region.wanted
    cases hg : o.guard with
    | none => rfl
    | some gw =>
      obtain ⟨g, want⟩ := gw
      have hy : yielded ops a.tmps g = yielded ops a'.tmps g := by
        unfold yielded
        cases ht : (ops[g]?).bind (·.dst) with
        | none => rfl
        | some t =>
          have hm : t ∈ o.looksAt ops := by simp [Oper.looksAt, hg, ht]
          have : a.tmps[t]? = a'.tmps[t]? := by
            rcases h.2.2 t with e | ⟨u, hu, hl, ou, hou, hd⟩
            · exact e
            · exact absurd hd (key t hm u hu hl ou hou)
          simp [this]
      simp only [hy]

def cnt (l : List Bool) : Nat := (l.filter (!·)).length
theorem cnt_set : ∀ (l : List Bool) (i : Nat), (l[i]? : Option Bool) = some false → cnt (l.set i true) + 1 = cnt l
  | [], i, h => by simp at h
  | b :: l, 0, h => by simp at h; subst h; simp [cnt]
  | b :: l, i + 1, h => by
    have := cnt_set l i (by simpa using h)
    unfold cnt at this ⊢
    simp only [List.set_cons_succ, List.filter_cons]
    cases b <;> simp <;> omega
theorem cnt_zero (l : List Bool) (h : cnt l = 0) : ∀ i : Nat, (l[i]? : Option Bool) ≠ some false := by
  intro i hi
  have := cnt_set l i hi
  omega

structure FInv (bb : Array Nat) (P : Program) (W : World) (n : Nat) (ops : Array Oper) (wk U : List Nat) (E : Env) (H : List SP) (fuel : Nat) (listed : Array Bool) (a a' : Act) (w : World) : Prop where
  size : listed.size = ops.size
  closed : Closed .any ops listed
  cnt : cnt listed.toList ≤ fuel
  sub : ∀ k, listed.getD k false = true → k ∈ wk
  cov : ∀ k ∈ wk, listed.getD k false = true ∨ k ∈ U
  uwk : ∀ u ∈ U, u ∈ wk
  own : ∀ u ∈ U, ownB bb ops u = true
  hd : Hd n E a'
  rech : Rech P W n ops E H U
  st : St W H w
  vir : Vir ops U listed a a'

theorem back_spec (h : backB ops = true) : (∀ (j : Nat) (o : Oper) cs b, ops[j]? = some o → o.op ≠ .select cs b) ∧ ∀ (k : Nat) (o : Oper), ops[k]? = some o → ∀ e ∈ o.after, Region.binds .any e = true → e.on < k := by
  unfold backB at h
  simp only [Bool.and_eq_true] at h
  refine ⟨Region.noSelect_spec h.1, fun k o hk e he hb => ?_⟩
  have h2 := List.all_eq_true.1 h.2 k (List.mem_range.2 (Array.getElem?_eq_some_iff.1 hk).1)
  simp only [hk] at h2
  have h3 := (Array.all_eq_true_iff_forall_mem.1 h2) e he
  simpa [hb] using h3
/-- where none is ready, all are listed -/
theorem all_listed (hB : backB ops = true) {listed : Array Bool} (hs : listed.size = ops.size) (h : Region.ready .any ops listed = []) : ∀ k, k < ops.size → listed.getD k false = true := by
  intro k
  induction k using Nat.strongRecOn with
  | _ k ih =>
    intro hk
    cases hl : listed.getD k false with
    | true => rfl
    | false =>
      exfalso
      have : k ∈ Region.ready .any ops listed := by
        refine mem_ready.2 ⟨?_, ops[k], by simp [hk], fun e he hb => ?_⟩
        · have hk' : k < listed.size := by omega
          simp [hk'] at hl ⊢; exact hl
        · have hlt := (back_spec hB).2 k ops[k] (by simp [hk]) e he hb
          exact ih e.on hlt (by omega)
      rw [h] at this; cases this

theorem listed_set {listed : Array Bool} {i k : Nat} (h : (listed.setIfInBounds i true).getD k false = true) : k = i ∨ listed.getD k false = true := by
  by_cases e : i = k
  · exact .inl e.symm
  · right; rwa [getD_set_ne false e] at h

/-- one of those that may come at any time is done now -/
theorem FInv.quiet {wk U : List Nat} {E : Env} {H : List SP} {fuel : Nat} {listed : Array Bool} {a a' : Act} {w w' : World} {bb : Array Nat} (I : FInv bb P W n ops wk U E H (fuel + 1) listed a a' w) {i : Nat} (hr : i ∈ Region.ready .any ops listed) (hi : i ∈ wk) {o : Oper} (ho : ops[i]? = some o) {v : Value} (hv : ∀ d, o.dst = some d → Env.at E d = some v) (hw : St W H w') :
    FInv bb P W n ops wk U E H fuel (listed.setIfInBounds i true) (a.put o.dst v) a' w' := by
  obtain ⟨h0, _⟩ := mem_ready.1 hr
  have hlt : i < listed.size := by
    rcases Nat.lt_or_ge i listed.size with h | h
    · exact h
    · simp [Array.getElem?_eq_none h] at h0
  have h1 : listed.toList[i]? = some false := by simp [hlt] at h0 ⊢; exact h0
  refine ⟨by simp [I.size], I.closed.set hr, ?_, fun k hk => ?_, fun k hk => (I.cov k hk).imp getD_set_true id, I.uwk, I.own, I.hd, I.rech, hw, ?_⟩
  · have := cnt_set listed.toList i h1
    have h2 := I.cnt
    simp only [Array.toList_setIfInBounds]; omega
  · rcases listed_set hk with e | e
    · rw [e]; exact hi
    · exact I.sub k e
  · obtain ⟨v1, v2, v3⟩ := I.vir
    refine ⟨by cases hd : o.dst <;> simpa [Act.put, hd] using v1, by cases hd : o.dst <;> simpa [Act.put, hd] using v2, fun t => ?_⟩
    by_cases ht : o.dst = some t
    · left
      have h3 := I.hd.at_ t v (hv t ht)
      have h4 : t < a.tmps.size := by rw [v2]; exact (Array.getElem?_eq_some_iff.1 h3).1
      rw [h3]; simp [Act.put, ht, h4]
    · have he : (a.put o.dst v).tmps[t]? = a.tmps[t]? := by
        cases hd : o.dst with
        | none => rfl
        | some d =>
          have : d ≠ t := fun e => ht (by rw [hd, e])
          simp [Act.put, Array.getElem?_setIfInBounds_ne this]
      rw [he]
      rcases v3 t with e | ⟨u, hu, hl, ou, hou, hd⟩
      · exact .inl e
      · refine .inr ⟨u, hu, ?_, ou, hou, hd⟩
        have : i ≠ u := by
          intro e; subst e
          rw [ho] at hou; cases hou; exact ht hd
        rwa [getD_set_ne false this]

theorem wp_vir {o : Oper} {a a' : Act} {w : World} (he : execOp a.eval o = execOp a'.eval o) {K : Act → World → Prop} (hK : ∀ a w, K a w → a.defers = []) (h : ∀ Q, o.wp P a' w K Q) (Q : Exit → Act → World → Prop) : o.wp P a w (fun a1 w1 => ∃ v, a1 = a.put o.dst v ∧ K (a'.put o.dst v) w1) Q := by
  replace h := h fun _ _ _ => False
  unfold Oper.wp at *
  rw [he]
  generalize (execOp a'.eval o).run P w = r at *
  cases r with
  | ok x w' =>
    cases x <;> simp only [Oper.upon] at h ⊢
    case value v => exact ⟨v, rfl, h⟩
    case skip => exact ⟨undef, rfl, h⟩
    case defer d =>
      have := hK _ _ h
      cases hd : o.dst <;> simp [Act.put, hd] at this
    case enter f args =>
      refine Calls.mono h fun e w'' he => ?_
      cases e with
      | returned v => exact ⟨v, rfl, he⟩
      | panicked c => exact he.elim
      | outgrown => obtain ⟨_, _, q⟩ := he; exact q.elim
    case row row args => exact Rows.mono h fun v w'' he => ⟨v, rfl, he⟩
  | halt x w' =>
    cases x <;> simp only [Oper.upon] at h ⊢

theorem Rech.get {E : Env} {H : List SP} {U : List Nat} (h : Rech P W n ops E H U) : ∀ u ∈ U, ∃ o, ops[u]? = some o ∧ ∃ v, (∀ d, o.dst = some d → Env.at E d = some v) ∧ QV P W n ops E H o v := by
  induction h with
  | nil => intro u hu; cases hu
  | cons ho hv hq _ ih =>
    intro u hu
    rcases List.mem_cons.1 hu with e | e
    · subst e; exact ⟨_, ho, _, hv, hq⟩
    · exact ih u e
theorem Rech.of {E : Env} {H : List SP} {U : List Nat} (h : ∀ u ∈ U, ∃ o, ops[u]? = some o ∧ ∃ v, (∀ d, o.dst = some d → Env.at E d = some v) ∧ QV P W n ops E H o v) : Rech P W n ops E H U := by
  induction U with
  | nil => exact .nil
  | cons u U ih =>
    obtain ⟨o, ho, v, hv, hq⟩ := h u (by simp)
    exact .cons ho hv hq (ih fun x hx => h x (by simp [hx]))

/-- at a place where one of hs comes next -/
theorem stage {wk U : List Nat} {E : Env} {H : List SP} (hB : backB ops = true) {bb : Array Nat} (hbb : BitsOk ops bb) (hs : List Nat) (hcov : coverB bb ops wk hs = true) (hne : ∀ e ∈ hs, e ∉ wk ∧ e < ops.size)
    (heff : ∀ e ∈ hs, ∀ fuel listed a a' w, FInv bb P W n ops wk U E H (fuel + 1) listed a a' w → e ∈ Region.ready .any ops listed → wpOp P ops q.den e (fun a1 w1 => wpAny P .any ops q.den fuel (listed.setIfInBounds e true) a1 w1) a w)
    (hend : hs = [] → KJ W n (.ex q .normal) E H) : ∀ fuel listed a a' w, FInv bb P W n ops wk U E H fuel listed a a' w → wpAny P .any ops q.den fuel listed a w := by
  intro fuel
  have fin : ∀ (fuel : Nat) listed a a' w, FInv bb P W n ops wk U E H fuel listed a a' w → (∀ k, k < ops.size → listed.getD k false = true) → q.den .normal a w := by
    intro fuel listed a a' w I hall
    have hs0 : hs = [] := by
      cases hs with
      | nil => rfl
      | cons e hs =>
        have := hne e (by simp)
        exact absurd (I.sub e (hall e this.2)) this.1
    have ha : a = a' := by
      obtain ⟨v1, v2, v3⟩ := I.vir
      have : a.tmps = a'.tmps := by
        apply Array.ext_getElem?
        intro t
        rcases v3 t with e | ⟨u, hu, hl, ou, hou, _⟩
        · exact e
        · have := hall u (Array.getElem?_eq_some_iff.1 hou).1
          rw [hl] at this; cases this
      cases a; cases a'; simp_all
    subst ha
    exact (hend hs0).go a w I.hd I.st
  induction fuel with
  | zero =>
    intro listed a a' w I
    have hc : cnt listed.toList = 0 := by have := I.cnt; omega
    have hall : ∀ k, k < ops.size → listed.getD k false = true := by
      intro k hk
      have h1 := cnt_zero _ hc k
      have h2 : k < listed.size := by rw [I.size]; exact hk
      simp [h2] at h1 ⊢; exact h1
    refine ⟨?_, fin 0 listed a a' w I hall⟩
    cases hr : Region.ready .any ops listed with
    | nil => rfl
    | cons x xs =>
      have hx : x ∈ Region.ready .any ops listed := by rw [hr]; simp
      obtain ⟨h0, ox, hox, _⟩ := mem_ready.1 hx
      have h1 := hall x (Array.getElem?_eq_some_iff.1 hox).1
      exact (not_both h0 h1).elim
  | succ fuel ih =>
    intro listed a a' w I
    refine ⟨fun h0 => fin _ listed a a' w I (all_listed hB I.size h0), fun i hr => ?_⟩
    obtain ⟨h0, o, ho, _⟩ := mem_ready.1 hr
    have hilt := (Array.getElem?_eq_some_iff.1 ho).1
    by_cases hi : i ∈ wk
    · have hU : i ∈ U := by
        rcases I.cov i hi with h | h
        · exact (not_both h0 h).elim
        · exact h
      obtain ⟨o', ho', v, hv, hq⟩ := I.rech.get i hU
      rw [ho] at ho'
      cases ho'
      obtain ⟨hex, hwn⟩ := I.vir.sees I.closed hbb I.own ho hr ((back_spec hB).1 i o · · ho)
      unfold wpOp
      simp only [ho]
      rcases hq.go with ⟨hw, hqr⟩ | ⟨hw, rfl⟩
      · rw [if_pos (by rw [hwn]; exact hw a' I.hd)]
        left
        unfold Oper.wp
        rw [hex]
        rcases hqr.go a' w I.hd I.st with hrun | ⟨f, args, hrun, hcall⟩
        · rw [hrun]
          exact ih _ _ _ _ (I.quiet hr hi ho hv I.st)
        · rw [hrun, Oper.upon_enter]
          refine hcall.mono ?_
          rintro e w' ⟨rfl, hst⟩
          exact ih _ _ _ _ (I.quiet hr hi ho hv hst)
      · rw [if_neg (by rw [hwn, hw a' I.hd]; simp)]
        exact ih _ _ _ _ (I.quiet hr hi ho hv I.st)
    · have h2 := List.all_eq_true.1 hcov i (List.mem_range.2 hilt)
      simp only [Bool.or_eq_true, List.contains_iff_mem, List.any_eq_true] at h2
      rcases h2 with (h2 | h2) | ⟨e, he, hw⟩
      · exact absurd h2 hi
      · exact heff i h2 fuel listed a a' w I hr
      · have hl := (hbb i e hw).listed I.closed (.inl hr)
        exact absurd (I.sub e hl) (hne e he).1

theorem deps_spec {wk : List Nat} {i : Nat} (h : depsB ops wk i = true) : i ∉ wk ∧ i < ops.size := by
  unfold depsB at h
  cases ho : ops[i]? with
  | none => simp [ho] at h
  | some o =>
    simp only [ho, Bool.and_eq_true, Bool.not_eq_true'] at h
    refine ⟨fun hm => ?_, (Array.getElem?_eq_some_iff.1 ho).1⟩
    have : wk.contains i = true := by simpa using hm
    rw [this] at h; cases h.1
theorem heads_spec {bb : Array Nat} : ∀ (p : Pl) (t : Bool) (wk U : List Nat), planB bb ops p t wk U = true → ∀ e ∈ p.heads, e ∉ wk ∧ e < ops.size
  | .nil, _, _, _, _, e, he => by cases he
  | .op i p, _, _, _, _, e, he => by cases he
  | .ef i U' p, t, wk, U, h, e, he => by
    have he : e = i := by simpa [Pl.heads] using he
    subst he
    simp only [planB, Bool.and_eq_true] at h
    exact deps_spec h.1.1.1.2
  | .alt x y, t, wk, U, h, e, he => by
    simp only [planB, Bool.and_eq_true] at h
    rcases List.mem_append.1 he with he | he
    · exact heads_spec x true wk U h.1.2 e he
    · exact heads_spec y true wk U h.2 e he

/-- what does not look at a slot yields the same whatever lies there -/
theorem QV.put {E : Env} {H : List SP} {o : Oper} {v x : Value} {d : Option Tmp} (h : QV P W n ops E H o v) (hd : ∀ t, d = some t → t ∉ o.looksAt ops) (hsel : ∀ cs b, o.op ≠ .select cs b) : QV P W n ops (Env.put E d x) H o v := by
  cases d with
  | none => exact h
  | some d =>
    have key : ∀ a, Hd n ((d, x) :: E) a → ∃ u, Hd n E (a.put (some d) u) := by
      intro a p
      cases he : Env.at E d with
      | none =>
        refine ⟨a.tmps.getD d undef, ?_, p.defers, fun t u q => ?_⟩
        · simpa [Act.put] using p.size
        · have hne : d ≠ t := fun e => by subst e; rw [he] at q; cases q
          have := p.at_ t u (by rw [Env.at_cons, if_neg hne]; exact q)
          simpa [Act.put, Array.getElem?_setIfInBounds_ne hne] using this
      | some u =>
        refine ⟨u, ?_, p.defers, fun t u' q => ?_⟩
        · simpa [Act.put] using p.size
        · by_cases hne : d = t
          · subst hne
            rw [he] at q; cases q
            have := p.at_ d x (Env.at_self _ _ _)
            have hl := (Array.getElem?_eq_some_iff.1 this).1
            simp [Act.put, hl]
          · have := p.at_ t u' (by rw [Env.at_cons, if_neg hne]; exact q)
            simpa [Act.put, Array.getElem?_setIfInBounds_ne hne] using this
    have hd' := hd d rfl
    refine ⟨?_⟩
    rcases h.go with ⟨hw, hq⟩ | ⟨hw, rfl⟩
    · refine .inl ⟨fun a p => ?_, ⟨fun a w p s => ?_⟩⟩
      · obtain ⟨u, pu⟩ := key a p
        rw [← hw _ pu, wanted_put o a (some d) u (fun t e => by cases e; exact hd')]
      · obtain ⟨u, pu⟩ := key a p
        have := hq.go _ w pu s
        rwa [execOp_put o hsel a (some d) u (fun t e => by cases e; exact hd')] at this
    · refine .inr ⟨fun a p => ?_, rfl⟩
      obtain ⟨u, pu⟩ := key a p
      rw [← hw _ pu, wanted_put o a (some d) u (fun t e => by cases e; exact hd')]

theorem getD_false_of {listed : Array Bool} {i : Nat} (h : ¬ listed.getD i false = true) : listed.getD i false = false := by
  cases q : listed.getD i false with
  | false => rfl
  | true => exact absurd q h

theorem path_lt (hB : backB ops = true) {j i : Nat} (p : Path ops j i) : i < j := by
  induction p with
  | edge ho he hb => exact (back_spec hB).2 _ _ ho _ he hb
  | step ho he hb _ ih => have := (back_spec hB).2 _ _ ho _ he hb; omega
/-- with each operation of wk all that it waits for is in wk -/
def WkOk (ops : Array Oper) (wk : List Nat) : Prop := ∀ k ∈ wk, ∀ o, ops[k]? = some o → ∀ e ∈ o.after, Region.binds .any e = true → e.on ∈ wk
theorem WkOk.path {wk : List Nat} (h : WkOk ops wk) {j i : Nat} (p : Path ops j i) (hj : j ∈ wk) : i ∈ wk := by
  induction p with
  | edge ho he hb => exact h _ hj _ ho _ he hb
  | step ho he hb _ ih => exact ih (h _ hj _ ho _ he hb)
theorem WkOk.cons {wk : List Nat} (h : WkOk ops wk) {i : Nat} (hd : depsB ops wk i = true) : WkOk ops (i :: wk) := by
  intro k hk o ho e he hb
  rcases List.mem_cons.1 hk with q | q
  · subst q
    unfold depsB at hd
    simp only [ho, Bool.and_eq_true] at hd
    have := (Array.all_eq_true_iff_forall_mem.1 hd.2) e he
    simp only [hb, Bool.not_true, Bool.false_or] at this
    simp [show e.on ∈ wk by simpa using this]
  · simp [h k q o ho e he hb]
theorem set_self {listed : Array Bool} {i : Nat} (hr : i ∈ Region.ready .any ops listed) : (listed.setIfInBounds i true).getD i false = true := by
  obtain ⟨h0, _⟩ := mem_ready.1 hr
  have hlt : i < listed.size := by
    rcases Nat.lt_or_ge i listed.size with h | h
    · exact h
    · simp [Array.getElem?_eq_none h] at h0
  simp [hlt]

/-- ████ a walk along an order that the edges bear out serves for every order ████ -/
theorem FJ.sound (hB : backB ops = true) {bb : Array Nat} (hbb : BitsOk ops bb) : ∀ (p : Pl) (t : Bool) (wk U : List Nat) (E : Env) (H : List SP), planB bb ops p t wk U = true → WkOk ops wk → FJ P W n ops q p E H →
    (t = false → ∀ fuel listed a a' w, FInv bb P W n ops wk U E H fuel listed a a' w → wpAny P .any ops q.den fuel listed a w) ∧
    (∀ e ∈ p.heads, ∀ fuel listed a a' w, FInv bb P W n ops wk U E H (fuel + 1) listed a a' w → e ∈ Region.ready .any ops listed → wpOp P ops q.den e (fun a1 w1 => wpAny P .any ops q.den fuel (listed.setIfInBounds e true) a1 w1) a w) := by
  intro p
  induction p with
  | nil =>
    intro t wk U E H hp _ h
    refine ⟨fun _ => stage hB hbb [] hp (fun e he => by cases he) (fun e he => by cases he) (fun _ => h), fun e he => by cases he⟩
  | op i p ih =>
    intro t wk U E H hp hwk h
    simp only [planB, Bool.and_eq_true, Bool.not_eq_true'] at hp
    obtain ⟨⟨⟨ht, hdeps⟩, hown⟩, hp⟩ := hp
    refine ⟨fun _ => ?_, fun e he => by cases he⟩
    obtain ⟨o, v, ho, hdst, hq, hF⟩ := h
    intro fuel listed a a' w I
    have hni := deps_spec hdeps
    have hnl : ¬ listed.getD i false = true := fun hl => hni.1 (I.sub i hl)
    refine (ih false (i :: wk) (i :: U) (Env.put E o.dst v) H hp (hwk.cons hdeps) hF).1 rfl fuel listed a (a'.put o.dst v) w ⟨I.size, I.closed, I.cnt, fun k hk => by simp [I.sub k hk], fun k hk => ?_, fun u hu => ?_, fun u hu => ?_, I.hd.put hdst v, ?_, I.st, ?_⟩
    · rcases List.mem_cons.1 hk with e | e
      · right; simp [e]
      · exact (I.cov k e).imp id (fun q => by simp [q])
    · rcases List.mem_cons.1 hu with e | e
      · simp [e]
      · simp [I.uwk u e]
    · rcases List.mem_cons.1 hu with e | e
      · rw [e]; exact hown
      · exact I.own u e
    · refine Rech.of fun u hu => ?_
      have hlook : ∀ ou, ops[u]? = some ou → ∀ tt, o.dst = some tt → tt ∉ ou.looksAt ops := by
        intro ou hou tt htt hm
        rcases (own_spec hbb hown ho htt hou).2 with h1 | h1
        · exact h1 hm
        · rcases List.mem_cons.1 hu with e | e
          · subst e
            have := path_lt hB h1
            omega
          · exact hni.1 (hwk.path h1 (I.uwk u e))
      rcases List.mem_cons.1 hu with e | e
      · subst e
        refine ⟨o, ho, v, fun d hd => by rw [hd]; exact Env.at_self _ _ _, hq.put (hlook o ho) ((back_spec hB).1 _ o · · ho)⟩
      · obtain ⟨ou, hou, vu, hvu, hqu⟩ := I.rech.get u e
        refine ⟨ou, hou, vu, fun d hd => ?_, hqu.put (hlook ou hou) ((back_spec hB).1 _ ou · · hou)⟩
        have hne : o.dst ≠ some d := by
          rcases (own_spec hbb (I.own u e) hou hd ho).1 with h1 | h1
          · subst h1; exact absurd (I.uwk u e) hni.1
          · exact h1
        cases hod : o.dst with
        | none => exact hvu d hd
        | some d' =>
          show Env.at ((d', v) :: E) d = _
          rw [Env.at_cons, if_neg (fun h => hne (by rw [hod, h]))]
          exact hvu d hd
    · obtain ⟨v1, v2, v3⟩ := I.vir
      refine ⟨by cases hd : o.dst <;> simpa [Act.put, hd] using v1, by cases hd : o.dst <;> simpa [Act.put, hd] using v2, fun tt => ?_⟩
      by_cases htt : o.dst = some tt
      · exact .inr ⟨i, by simp, getD_false_of hnl, o, ho, htt⟩
      · have he : (a'.put o.dst v).tmps[tt]? = a'.tmps[tt]? := by
          cases hd : o.dst with
          | none => rfl
          | some d =>
            have : d ≠ tt := fun e => htt (by rw [hd, e])
            simp [Act.put, Array.getElem?_setIfInBounds_ne this]
        rw [he]
        exact (v3 tt).imp id fun ⟨u, hu, r⟩ => ⟨u, by simp [hu], r⟩
  | ef i U' p ih =>
    intro t wk U E H hp hwk h
    have hp0 := hp
    simp only [planB, Bool.and_eq_true, Bool.or_eq_true] at hp
    obtain ⟨⟨⟨⟨hcov, hdeps⟩, hU⟩, hU'⟩, hp⟩ := hp
    obtain ⟨o, ho, hwant, hk⟩ := h
    have hni := deps_spec hdeps
    have hsub : ∀ u ∈ U', u ∈ U := fun u hu => by simpa using List.all_eq_true.1 hU' u hu
    have heff : ∀ e ∈ (Pl.ef i U' p).heads, ∀ fuel listed a a' w, FInv bb P W n ops wk U E H (fuel + 1) listed a a' w → e ∈ Region.ready .any ops listed → wpOp P ops q.den e (fun a1 w1 => wpAny P .any ops q.den fuel (listed.setIfInBounds e true) a1 w1) a w := by
      intro e he fuel listed a a' w I hr
      have he : e = i := by simpa [Pl.heads] using he
      subst he
      obtain ⟨hex, hwn⟩ := I.vir.sees I.closed hbb I.own ho hr ((back_spec hB).1 _ o · · ho)
      unfold wpOp
      simp only [ho]
      rw [if_pos (by rw [hwn]; exact hwant a' I.hd)]
      left
      refine Oper.wp_mono ?_ (wp_vir hex (fun a w ⟨_, _, hd, _⟩ => hd.defers) (hk.go a' w I.hd I.st o rfl rfl) q.den)
      rintro a1 w1 ⟨v, rfl, E', H', hd', st', re', fj'⟩
      obtain ⟨h0, _⟩ := mem_ready.1 hr
      have hlt : e < listed.size := by
        rcases Nat.lt_or_ge e listed.size with h | h
        · exact h
        · simp [Array.getElem?_eq_none h] at h0
      have h1 : (listed.toList[e]? : Option Bool) = some false := by simp [hlt] at h0 ⊢; exact h0
      refine (ih false (e :: wk) U' E' H' hp (hwk.cons hdeps) fj').1 rfl fuel _ _ _ w1 ⟨by simp [I.size], I.closed.set hr, ?_, fun k hk => ?_, fun k hk => ?_, fun u hu => ?_, fun u hu => I.own u (hsub u hu), hd', re', st', ?_⟩
      · have := cnt_set listed.toList e h1
        have h2 := I.cnt
        simp only [Array.toList_setIfInBounds]; omega
      · rcases listed_set hk with q | q
        · simp [q]
        · simp [I.sub k q]
      · rcases List.mem_cons.1 hk with q | q
        · subst q; exact .inl (set_self hr)
        · rcases I.cov k q with c | c
          · exact .inl (getD_set_true c)
          · have h3 := List.all_eq_true.1 hU k c
            simp only [Bool.or_eq_true, List.contains_iff_mem] at h3
            rcases h3 with h3 | h3
            · exact .inr h3
            · exact .inl (getD_set_true ((hbb e k h3).listed I.closed (.inl hr)))
      · simp [I.uwk u (hsub u hu)]
      · obtain ⟨v1, v2, v3⟩ := I.vir
        refine ⟨by cases hd : o.dst <;> simpa [Act.put, hd] using v1, by cases hd : o.dst <;> simpa [Act.put, hd] using v2, fun tt => ?_⟩
        by_cases htt : o.dst = some tt
        · left
          simp only [Act.put, htt, Array.getElem?_setIfInBounds, v2]
          simp
        · have hpt : ∀ b : Act, (b.put o.dst v).tmps[tt]? = b.tmps[tt]? := by
            intro b
            cases hd : o.dst with
            | none => rfl
            | some d =>
              have : d ≠ tt := fun e => htt (by rw [hd, e])
              simp [Act.put, Array.getElem?_setIfInBounds_ne this]
          rw [hpt, hpt]
          rcases v3 tt with c | ⟨u, hu, hl, ou, hou, hdu⟩
          · exact .inl c
          · have hne : e ≠ u := fun h => by subst h; exact hni.1 (I.uwk _ hu)
            refine .inr ⟨u, ?_, by rwa [getD_set_ne false hne], ou, hou, hdu⟩
            have h3 := List.all_eq_true.1 hU u hu
            simp only [Bool.or_eq_true, List.contains_iff_mem] at h3
            rcases h3 with h3 | h3
            · exact h3
            · have := (hbb e u h3).listed I.closed (.inl hr)
              rw [hl] at this; cases this
    refine ⟨fun htf => ?_, heff⟩
    subst htf
    exact stage hB hbb [i] (by simpa using hcov) (heads_spec (.ef i U' p) false wk U hp0) heff (fun h => by cases h)
  | alt x y ihx ihy =>
    intro t wk U E H hp hwk h
    have hp0 := hp
    simp only [planB, Bool.and_eq_true, Bool.or_eq_true] at hp
    obtain ⟨⟨⟨hnil, hcov⟩, hx⟩, hy⟩ := hp
    have heff : ∀ e ∈ (Pl.alt x y).heads, ∀ fuel listed a a' w, FInv bb P W n ops wk U E H (fuel + 1) listed a a' w → e ∈ Region.ready .any ops listed → wpOp P ops q.den e (fun a1 w1 => wpAny P .any ops q.den fuel (listed.setIfInBounds e true) a1 w1) a w := by
      intro e he
      rcases List.mem_append.1 he with he | he
      · exact (ihx true wk U E H hx hwk h.1).2 e he
      · exact (ihy true wk U E H hy hwk h.2).2 e he
    refine ⟨fun htf => ?_, heff⟩
    subst htf
    exact stage hB hbb (x.heads ++ y.heads) (by simpa using hcov) (heads_spec (.alt x y) false wk U hp0) heff (fun h => by rw [h] at hnil; cases hnil)
end

section
variable {P : Program} {W : World} {n : Nat} {ops : Array Oper} {q : QQ} {E : Env} {H : List SP} {l : List Oper} {op : Op} {d : Nat} {dd : Option Tmp} {ty : TypeId} {pos : String} {af : Array Edge} {p : Pl} {i : Nat}
def drawB (ops : List Oper) (p : Pl) : Bool := backB ops.toArray && planB (waitBits ops) ops.toArray p false [] []
theorem cnt_replicate (m : Nat) : cnt (List.replicate m false) = m := by
  unfold cnt
  induction m with
  | zero => rfl
  | succ m ih => simp [List.replicate_succ] at ih ⊢
/-- a region that draws its order -/
theorem KJ_drawn {id : Nat} (p : Pl) (hm : P.follows .mixedOrders = true) (hB : drawB l p = true) (h : FJ P W n l.toArray q p E H) : KJ W n (.code P (Code.region id l.toArray true) q) E H := by
  simp only [drawB, Bool.and_eq_true] at hB
  refine ⟨fun a w hd st => ?_⟩
  refine wp_region_any hm ?_
  refine (FJ.sound hB.1 (waitBits_ok l) p false [] [] E H hB.2 (fun k hk => by cases hk) h).1 rfl _ _ a a _ ⟨by simp, fun k o _ hl => (by rw [getD_replicate_false] at hl; cases hl), ?_, fun k hk => (by rw [getD_replicate_false] at hk; cases hk), fun k hk => (by cases hk), fun u hu => (by cases hu), fun u hu => (by cases hu), hd, .nil, st.drawn _, rfl, rfl, fun t => .inl rfl⟩
  rw [Array.toList_replicate, cnt_replicate]
  exact Nat.le_refl _

theorem QV.ev {v : Value} {o : Oper} (hg : o.guard = none) (h : Ev P W n E H o.op v) : QV P W n ops E H o v :=
  ⟨.inl ⟨fun a _ => by simp [Region.wanted, hg], ⟨fun a w p s => .inl (h.go o rfl a w p s)⟩⟩⟩
theorem QV.evg {v : Value} {o : Oper} {j t : Nat} {b : Bool} (hg : o.guard = some (j, b)) (hj : (ops[j]?).bind (·.dst) = some t) (ht : Env.at E t = some (.bool b)) (h : Ev P W n E H o.op v) : QV P W n ops E H o v :=
  ⟨.inl ⟨fun a p => by rw [wanted_of hg hj p ht]; simp, ⟨fun a w p s => .inl (h.go o rfl a w p s)⟩⟩⟩
theorem QV.no {o : Oper} {j t : Nat} {b : Bool} {v : Value} (hg : o.guard = some (j, b)) (hj : (ops[j]?).bind (·.dst) = some t) (ht : Env.at E t = some v) (hv : notB b v = true) : QV P W n ops E H o undef :=
  ⟨.inr ⟨fun a p => by rw [wanted_of hg hj p ht]; cases v <;> simp_all [notB], rfl⟩⟩
/-- a call that leaves what is owned as it is -/
theorem QR.call {o : Oper} {f : FuncId} {xs : List Operand} {ts : Array TypeId} {vs : List Value} {Hpre R : List SP} {v : Value} {X : Type} (ho : o.op = .call { callee := .value (.func f), args := xs.toArray, argTypes := ts }) (hx : Evs E xs vs) [hf : FnIs P f]
    (hc : Ct P W f vs Hpre (fun _ : X => v) (fun _ => Hpre)) (hp : Pick Hpre H R) : QR P W n E H o v :=
  ⟨fun _ w p s => .inr ⟨f, _, run_call ho hx p w, (hc.go R w (s.perm hp.perm)).mono fun _ _ ⟨_, he, hs⟩ => ⟨he, hs.perm hp.perm.symm⟩⟩⟩
theorem QV.call {f : FuncId} {xs : List Operand} {ts : Array TypeId} {vs : List Value} {Hpre R : List SP} {v : Value} {X : Type} {o : Oper} (hg : o.guard = none) (ho : o.op = .call { callee := .value (.func f), args := xs.toArray, argTypes := ts }) (hx : Evs E xs vs) [hf : FnIs P f]
    (hc : Ct P W f vs Hpre (fun _ : X => v) (fun _ => Hpre)) (hp : Pick Hpre H R) : QV P W n ops E H o v :=
  ⟨.inl ⟨fun a _ => by simp [Region.wanted, hg], QR.call ho hx hc hp⟩⟩
theorem QV.callg {f : FuncId} {xs : List Operand} {ts : Array TypeId} {vs : List Value} {Hpre R : List SP} {v : Value} {X : Type} {o : Oper} {j t : Nat} {b : Bool} (hg : o.guard = some (j, b)) (hj : (ops[j]?).bind (·.dst) = some t) (ht : Env.at E t = some (.bool b)) (ho : o.op = .call { callee := .value (.func f), args := xs.toArray, argTypes := ts }) (hx : Evs E xs vs) [hf : FnIs P f]
    (hc : Ct P W f vs Hpre (fun _ : X => v) (fun _ => Hpre)) (hp : Pick Hpre H R) : QV P W n ops E H o v :=
  ⟨.inl ⟨fun a p => by rw [wanted_of hg hj p ht]; simp, QR.call ho hx hc hp⟩⟩

/-- the walk along an order, as a form of its own -/
structure FW (P : Program) (W : World) (n : Nat) (ops : Array Oper) (q : QQ) (p : Pl) (E : Env) (H : List SP) : Prop where
  go : FJ P W n ops q p E H
/-- the next operation laid open -/
structure FO (P : Program) (W : World) (n : Nat) (ops : Array Oper) (q : QQ) (o : Oper) (p : Pl) (E : Env) (H : List SP) : Prop where
  go : ∃ v, dstOk n o.dst = true ∧ QV P W n ops E H o v ∧ FJ P W n ops q p (Env.put E o.dst v) H
structure RO (P : Program) (W : World) (n : Nat) (ops : Array Oper) (o : Oper) (U : List Nat) (E : Env) (H : List SP) : Prop where
  go : ∃ v, (∀ d, o.dst = some d → Env.at E d = some v) ∧ QV P W n ops E H o v ∧ Rech P W n ops E H U
theorem KJ_draws {id : Nat} (p : Pl) (hm : P.follows .mixedOrders = true) (hB : drawB l p = true) (h : FW P W n l.toArray q p E H) : KJ W n (.code P (Code.region id l.toArray true) q) E H := KJ_drawn p hm hB h.go
theorem FW_nil (h : KJ W n (.ex q .normal) E H) : FW P W n ops q .nil E H := ⟨h⟩
theorem FW_open {o : Oper} (ho : ops[i]? = some o) (h : FO P W n ops q o p E H) : FW P W n ops q (.op i p) E H := by
  obtain ⟨v, h1, h2, h3⟩ := h.go
  exact ⟨⟨o, v, ho, h1, h2, h3⟩⟩
theorem FO_op {v : Value} (hv : Ev P W n E H op v) (hn : Nat.blt d n = true) (h : FW P W n ops q p ((d, v) :: E) H) : FO P W n ops q ⟨some d, op, ty, pos, af, none⟩ p E H := ⟨⟨v, hn, QV.ev rfl hv, h.go⟩⟩
theorem FO_yes {j t : Nat} {b : Bool} {v : Value} (hj : (ops[j]?).bind (·.dst) = some t) (ht : Env.at E t = some (.bool b)) (hv : Ev P W n E H op v) (hn : Nat.blt d n = true) (h : FW P W n ops q p ((d, v) :: E) H) : FO P W n ops q ⟨some d, op, ty, pos, af, some (j, b)⟩ p E H := ⟨⟨v, hn, QV.evg rfl hj ht hv, h.go⟩⟩
theorem FO_no {j t : Nat} {b : Bool} {v : Value} (hj : (ops[j]?).bind (·.dst) = some t) (ht : Env.at E t = some v) (hv : notB b v = true) (hn : dstOk n dd = true) (h : FW P W n ops q p (Env.put E dd undef) H) : FO P W n ops q ⟨dd, op, ty, pos, af, some (j, b)⟩ p E H := ⟨⟨undef, hn, QV.no rfl hj ht hv, h.go⟩⟩
theorem FO_call {f : FuncId} {xs : List Operand} {ts : Array TypeId} {vs : List Value} {Hpre R : List SP} {v : Value} {X : Type} (hx : Evs E xs vs) [hf : FnIs P f]
    (hc : Ct P W f vs Hpre (fun _ : X => v) (fun _ => Hpre)) (hp : Pick Hpre H R) (hn : Nat.blt d n = true) (h : FW P W n ops q p ((d, v) :: E) H) : FO P W n ops q ⟨some d, .call { callee := .value (.func f), args := xs.toArray, argTypes := ts }, ty, pos, af, none⟩ p E H := ⟨⟨v, hn, QV.call rfl rfl hx hc hp, h.go⟩⟩
theorem FO_callg {f : FuncId} {xs : List Operand} {ts : Array TypeId} {vs : List Value} {Hpre R : List SP} {v : Value} {X : Type} {j t : Nat} {b : Bool} (hj : (ops[j]?).bind (·.dst) = some t) (ht : Env.at E t = some (.bool b)) (hx : Evs E xs vs) [hf : FnIs P f]
    (hc : Ct P W f vs Hpre (fun _ : X => v) (fun _ => Hpre)) (hp : Pick Hpre H R) (hn : Nat.blt d n = true) (h : FW P W n ops q p ((d, v) :: E) H) : FO P W n ops q ⟨some d, .call { callee := .value (.func f), args := xs.toArray, argTypes := ts }, ty, pos, af, some (j, b)⟩ p E H := ⟨⟨v, hn, QV.callg rfl hj ht rfl hx hc hp, h.go⟩⟩
theorem FW_ef {U : List Nat} (ho : ops[i]? = some ⟨dd, op, ty, pos, af, none⟩) (h : KJ W n (.oper P op dd (.raw (FlowK P W n ops q p U))) E H) : FW P W n ops q (.ef i U p) E H := ⟨⟨_, ho, fun a _ => by simp [Region.wanted], h⟩⟩
theorem FW_efg {U : List Nat} {j t : Nat} {b : Bool} (ho : ops[i]? = some ⟨dd, op, ty, pos, af, some (j, b)⟩) (hj : (ops[j]?).bind (·.dst) = some t) (ht : Env.at E t = some (.bool b)) (h : KJ W n (.oper P op dd (.raw (FlowK P W n ops q p U))) E H) : FW P W n ops q (.ef i U p) E H := ⟨⟨_, ho, fun a p => by rw [wanted_of rfl hj p ht]; simp, h⟩⟩
theorem FW_alt {x y : Pl} (hx : FW P W n ops q x E H) (hy : FW P W n ops q y E H) : FW P W n ops q (.alt x y) E H := ⟨⟨hx.go, hy.go⟩⟩
theorem KJ_flow {U : List Nat} (hr : Rech P W n ops E H U) (h : FW P W n ops q p E H) : KJ W n (.raw (FlowK P W n ops q p U)) E H := ⟨fun _ _ hd st => ⟨E, H, hd, st, hr, h.go⟩⟩
theorem Rech_open {u : Nat} {U : List Nat} {o : Oper} (ho : ops[u]? = some o) (h : RO P W n ops o U E H) : Rech P W n ops E H (u :: U) := by
  obtain ⟨v, h1, h2, h3⟩ := h.go
  exact .cons ho h1 h2 h3
theorem RO_op {U : List Nat} {v : Value} (hd : Env.at E d = some v) (hv : Ev P W n E H op v) (h : Rech P W n ops E H U) : RO P W n ops ⟨some d, op, ty, pos, af, none⟩ U E H := ⟨⟨v, fun _ e => by cases e; exact hd, QV.ev rfl hv, h⟩⟩
theorem RO_yes {U : List Nat} {j t : Nat} {b : Bool} {v : Value} (hd : Env.at E d = some v) (hj : (ops[j]?).bind (·.dst) = some t) (ht : Env.at E t = some (.bool b)) (hv : Ev P W n E H op v) (h : Rech P W n ops E H U) : RO P W n ops ⟨some d, op, ty, pos, af, some (j, b)⟩ U E H := ⟨⟨v, fun _ e => by cases e; exact hd, QV.evg rfl hj ht hv, h⟩⟩
theorem RO_no {U : List Nat} {j t : Nat} {b : Bool} {v : Value} (hd : Env.at E d = some undef) (hj : (ops[j]?).bind (·.dst) = some t) (ht : Env.at E t = some v) (hv : notB b v = true) (h : Rech P W n ops E H U) : RO P W n ops ⟨some d, op, ty, pos, af, some (j, b)⟩ U E H := ⟨⟨undef, fun _ e => by cases e; exact hd, QV.no rfl hj ht hv, h⟩⟩
/-- a guard that is not known: both ways -/
theorem QV.congr {E1 : Env} {o : Oper} {v : Value} (he : ∀ t, Env.at E t = Env.at E1 t) (h : QV P W n ops E1 H o v) : QV P W n ops E H o v := by
  have k : ∀ a, Hd n E a → Hd n E1 a := fun a p => ⟨p.size, p.defers, fun t u q => p.at_ t u (by rw [he]; exact q)⟩
  exact ⟨h.go.imp (fun ⟨a, b⟩ => ⟨fun x p => a x (k x p), ⟨fun x w p s => b.go x w (k x p) s⟩⟩) (fun ⟨a, b⟩ => ⟨fun x p => a x (k x p), b⟩)⟩
theorem FJ_congr : ∀ (p : Pl) {E E1 : Env}, (∀ t, Env.at E t = Env.at E1 t) → FJ P W n ops q p E1 H → FJ P W n ops q p E H
  | .nil, E, E1, he, h => by
    have k : ∀ a, Hd n E a → Hd n E1 a := fun a p => ⟨p.size, p.defers, fun t u q => p.at_ t u (by rw [he]; exact q)⟩
    exact KJ.mk fun a w p s => KJ.go h a w (k a p) s
  | .op i p, E, E1, he, ⟨o, v, ho, hd, hq, hF⟩ => ⟨o, v, ho, hd, hq.congr he, FJ_congr p (fun t => by
      cases hod : o.dst with
      | none => exact he t
      | some d => show Env.at ((d, v) :: E) t = Env.at ((d, v) :: E1) t; rw [Env.at_cons, Env.at_cons, he]) hF⟩
  | .ef i U p, E, E1, he, ⟨o, ho, hw, hk⟩ => by
    have k : ∀ a, Hd n E a → Hd n E1 a := fun a p => ⟨p.size, p.defers, fun t u q => p.at_ t u (by rw [he]; exact q)⟩
    exact ⟨o, ho, fun a p => hw a (k a p), ⟨fun a w p s => hk.go a w (k a p) s⟩⟩
  | .alt x y, E, E1, he, h => ⟨FJ_congr x he h.1, FJ_congr y he h.2⟩
theorem FJ_also {t : Nat} {v : Value} (ht : Env.at E t = some v) (h : FJ P W n ops q p ((t, v) :: E) H) : FJ P W n ops q p E H := FJ_congr p (fun u => by
  rw [Env.at_cons]
  split
  · rename_i e; subst e; exact ht
  · rfl) h
theorem FO_congr {o : Oper} {E1 : Env} (he : ∀ t, Env.at E t = Env.at E1 t) (h : FO P W n ops q o p E1 H) : FO P W n ops q o p E H := by
  obtain ⟨v, h1, h2, h3⟩ := h.go
  refine ⟨⟨v, h1, h2.congr he, FJ_congr p (fun t => ?_) h3⟩⟩
  cases hod : o.dst with
  | none => exact he t
  | some d => show Env.at ((d, v) :: E) t = Env.at ((d, v) :: E1) t; rw [Env.at_cons, Env.at_cons, he]
theorem FO_also {o : Oper} {t : Nat} {v : Value} (ht : Env.at E t = some v) (h : FO P W n ops q o p ((t, v) :: E) H) : FO P W n ops q o p E H := FO_congr (fun u => by
  rw [Env.at_cons]
  split
  · rename_i e; subst e; exact ht
  · rfl) h
theorem FO_split {t j : Nat} {b c : Bool} (hj : (ops[j]?).bind (·.dst) = some t) (ht : Env.at E t = some (.bool c)) (hy : c = b → FO P W n ops q ⟨dd, op, ty, pos, af, some (j, b)⟩ p ((t, .bool b) :: E) H) (hn : c = !b → FO P W n ops q ⟨dd, op, ty, pos, af, some (j, b)⟩ p ((t, .bool !b) :: E) H) : FO P W n ops q ⟨dd, op, ty, pos, af, some (j, b)⟩ p E H := by
  have _ := hj
  by_cases h : c = b
  · subst h; exact FO_also ht (hy rfl)
  · have h : c = !b := by cases c <;> cases b <;> simp_all
    subst h; exact FO_also ht (hn rfl)
theorem FO_dec_t {t j : Nat} {pr : Prop} [Decidable pr] (hj : (ops[j]?).bind (·.dst) = some t) (ht : Env.at E t = some (.bool (decide pr))) (hy : pr → FO P W n ops q ⟨dd, op, ty, pos, af, some (j, true)⟩ p ((t, .bool true) :: E) H) (hn : ¬ pr → FO P W n ops q ⟨dd, op, ty, pos, af, some (j, true)⟩ p ((t, .bool false) :: E) H) : FO P W n ops q ⟨dd, op, ty, pos, af, some (j, true)⟩ p E H :=
  FO_split hj ht (fun e => hy (by simpa using e)) (fun e => hn (by simpa using e))
theorem FO_dec_f {t j : Nat} {pr : Prop} [Decidable pr] (hj : (ops[j]?).bind (·.dst) = some t) (ht : Env.at E t = some (.bool (decide pr))) (hy : ¬ pr → FO P W n ops q ⟨dd, op, ty, pos, af, some (j, false)⟩ p ((t, .bool false) :: E) H) (hn : pr → FO P W n ops q ⟨dd, op, ty, pos, af, some (j, false)⟩ p ((t, .bool true) :: E) H) : FO P W n ops q ⟨dd, op, ty, pos, af, some (j, false)⟩ p E H :=
  FO_split hj ht (fun e => hy (by simpa using e)) (fun e => hn (by simpa using e))
/-- an effect behind a guard that is not known -/
theorem FW_ef_dec {U : List Nat} {j t : Nat} {c : Bool} {b : Bool} (ho : ops[i]? = some ⟨dd, op, ty, pos, af, some (j, b)⟩) (hj : (ops[j]?).bind (·.dst) = some t) (ht : Env.at E t = some (.bool c)) (hy : c = b → FW P W n ops q (.ef i U p) ((t, .bool b) :: E) H) (hn : c = !b → FW P W n ops q (.ef i U p) ((t, .bool !b) :: E) H) : FW P W n ops q (.ef i U p) E H := by
  have _ := ho
  have _ := hj
  by_cases h : c = b
  · subst h; exact ⟨FJ_also ht (hy rfl).go⟩
  · have h : c = !b := by cases c <;> cases b <;> simp_all
    subst h; exact ⟨FJ_also ht (hn rfl).go⟩
end
end Go.Proofs.YteklldbfdmaafaaDoor
/-
  Guards of the walk: each lets by just one form of goal.
-/
namespace Go.Proofs.YteklldbfdmaafaaDoor
open Go Go.RowKit
section
variable {P : Program} {W : World} {n : Nat} {ops : Array Oper} {q : QQ} {E : Env} {H R : List SP} {l : List Oper} {k : KK} {d : Option Tmp} {v : Value}
theorem is_list (h : KJ W n (.list P ops q l) E H) : KJ W n (.list P ops q l) E H := h
theorem is_oper {op : Op} (h : KJ W n (.oper P op d k) E H) : KJ W n (.oper P op d k) E H := h
theorem is_code {c : Code} (h : KJ W n (.code P c q) E H) : KJ W n (.code P c q) E H := h
theorem is_ex {e : Exit} (h : KJ W n (.ex q e) E H) : KJ W n (.ex q e) E H := h
theorem is_raw {K : Act → World → Prop} (h : KJ W n (.raw K) E H) : KJ W n (.raw K) E H := h
theorem is_ev {op : Op} (h : Ev P W n E H op v) : Ev P W n E H op v := h
theorem is_fw {p : Pl} (h : FW P W n ops q p E H) : FW P W n ops q p E H := h
theorem is_fo {o : Oper} {p : Pl} (h : FO P W n ops q o p E H) : FO P W n ops q o p E H := h
theorem is_ro {o : Oper} {U : List Nat} (h : RO P W n ops o U E H) : RO P W n ops o U E H := h
theorem is_sel {A : SP} (h : Sel A H R) : Sel A H R := h
theorem is_rep {A A' : SP} (h : Rep A A' H R) : Rep A A' H R := h
theorem is_pick {As : List SP} (h : Pick As H R) : Pick As H R := h
theorem is_cut {cs vs : List Value} {i m : Nat} (h : Cut cs i m vs) : Cut cs i m vs := h
theorem is_laid {cs vs cs' : List Value} {i : Nat} (h : Laid cs i vs cs') : Laid cs i vs cs' := h
/-- the operation yields a value of which C holds -/
structure EK (P : Program) (W : World) (n : Nat) (E : Env) (H : List SP) (op : Op) (C : Value → Prop) : Prop where
  go : ∃ v, Ev P W n E H op v ∧ C v
theorem EK_ev {op : Op} {C : Value → Prop} {v : Value} (he : Ev P W n E H op v) (h : C v) : EK P W n E H op C := ⟨⟨v, he, h⟩⟩
theorem KJ_ek {op : Op} {d : Nat} (hn : Nat.blt d n = true) (h : EK P W n E H op fun v => KJ W n k ((d, v) :: E) H) : KJ W n (.oper P op (some d) k) E H := by
  obtain ⟨v, he, h⟩ := h.go
  exact KJ_ev he hn h
theorem KJ_ek0 {op : Op} (h : EK P W n E H op fun _ => KJ W n k E H) : KJ W n (.oper P op none k) E H := by
  obtain ⟨v, he, h⟩ := h.go
  exact KJ_ev0 he h
section
variable {op : Op} {d : Nat} {ty : TypeId} {pos : String} {af : Array Edge} {p : Pl} {U : List Nat} {j t : Nat} {b : Bool}
theorem FO_ek (hn : Nat.blt d n = true) (h : EK P W n E H op fun v => FW P W n ops q p ((d, v) :: E) H) : FO P W n ops q ⟨some d, op, ty, pos, af, none⟩ p E H := by
  obtain ⟨v, he, h⟩ := h.go
  exact FO_op he hn h
theorem FO_ekg (hj : (ops[j]?).bind (·.dst) = some t) (ht : Env.at E t = some (.bool b)) (hn : Nat.blt d n = true) (h : EK P W n E H op fun v => FW P W n ops q p ((d, v) :: E) H) : FO P W n ops q ⟨some d, op, ty, pos, af, some (j, b)⟩ p E H := by
  obtain ⟨v, he, h⟩ := h.go
  exact FO_yes hj ht he hn h
/-- the value found again in the slots -/
def AtR (P : Program) (W : World) (n : Nat) (ops : Array Oper) (E : Env) (H : List SP) (U : List Nat) (d : Nat) (v : Value) : Prop := Env.at E d = some v ∧ Rech P W n ops E H U
theorem AtR_mk {v : Value} (h1 : Env.at E d = some v) (h2 : Rech P W n ops E H U) : AtR P W n ops E H U d v := ⟨h1, h2⟩
theorem RO_ek (h : EK P W n E H op (AtR P W n ops E H U d)) : RO P W n ops ⟨some d, op, ty, pos, af, none⟩ U E H := by
  obtain ⟨v, he, h⟩ := h.go
  exact RO_op h.1 he h.2
theorem RO_ekg (hj : (ops[j]?).bind (·.dst) = some t) (ht : Env.at E t = some (.bool b)) (h : EK P W n E H op (AtR P W n ops E H U d)) : RO P W n ops ⟨some d, op, ty, pos, af, some (j, b)⟩ U E H := by
  obtain ⟨v, he, h⟩ := h.go
  exact RO_yes h.1 hj ht he h.2
end
theorem is_ek {op : Op} {C : Value → Prop} (h : EK P W n E H op C) : EK P W n E H op C := h
theorem ek_move {x : Operand} {C : Value → Prop} (h : EK P W n E H (.move x) C) : EK P W n E H (.move x) C := h
theorem ek_assign {x : Operand} {C : Value → Prop} (h : EK P W n E H (.assign x) C) : EK P W n E H (.assign x) C := h
theorem ek_pick {c x y : Operand} {C : Value → Prop} (h : EK P W n E H (.pick c x y) C) : EK P W n E H (.pick c x y) C := h
theorem ek_nilCheck {x : Operand} {C : Value → Prop} (h : EK P W n E H (.nilCheck x) C) : EK P W n E H (.nilCheck x) C := h
theorem ek_fieldAddr {t : TypeId} {x : Operand} {f : Nat} {C : Value → Prop} (h : EK P W n E H (.fieldAddr t x f) C) : EK P W n E H (.fieldAddr t x f) C := h
theorem ek_load {t : TypeId} {x : Operand} {C : Value → Prop} (h : EK P W n E H (.load t x) C) : EK P W n E H (.load t x) C := h
theorem ek_un {o : UnOp} {t : TypeId} {x : Operand} {C : Value → Prop} (h : EK P W n E H (.unOp o t x) C) : EK P W n E H (.unOp o t x) C := h
theorem ek_conv {s d : TypeId} {x : Operand} {C : Value → Prop} (h : EK P W n E H (.convert s d x) C) : EK P W n E H (.convert s d x) C := h
theorem ek_extract {x : Operand} {i : Nat} {C : Value → Prop} (h : EK P W n E H (.extract x i) C) : EK P W n E H (.extract x i) C := h
theorem ek_indexAddr {t : TypeId} {x y : Operand} {C : Value → Prop} (h : EK P W n E H (.indexAddr t x y) C) : EK P W n E H (.indexAddr t x y) C := h
theorem ek_index {t : TypeId} {x y : Operand} {C : Value → Prop} (h : EK P W n E H (.index t x y) C) : EK P W n E H (.index t x y) C := h
theorem ek_slice {t : TypeId} {x : Operand} {a b c : Option Operand} {C : Value → Prop} (h : EK P W n E H (.slice t x a b c) C) : EK P W n E H (.slice t x a b c) C := h
theorem ek_field {t : TypeId} {x : Operand} {f : Nat} {C : Value → Prop} (h : EK P W n E H (.field t x f) C) : EK P W n E H (.field t x f) C := h
theorem ek_lookup {t : TypeId} {x y : Operand} {c : Bool} {C : Value → Prop} (h : EK P W n E H (.lookup t x y c) C) : EK P W n E H (.lookup t x y c) C := h
theorem ek_mkIface {t : TypeId} {x : Operand} {C : Value → Prop} (h : EK P W n E H (.makeInterface t x) C) : EK P W n E H (.makeInterface t x) C := h
theorem ek_mkFunc {f : Fn} {a b : Array Operand} {C : Value → Prop} (h : EK P W n E H (.makeFunc f a b) C) : EK P W n E H (.makeFunc f a b) C := h
theorem ek_build {t : TypeId} {ps : Array (Nat × Operand)} {C : Value → Prop} (h : EK P W n E H (.build t ps) C) : EK P W n E H (.build t ps) C := h
theorem ek_len {xs : Array Operand} {ts : Array TypeId} {C : Value → Prop} (h : EK P W n E H (.call { callee := .builtin .len, args := xs, argTypes := ts }) C) : EK P W n E H (.call { callee := .builtin .len, args := xs, argTypes := ts }) C := h
theorem ek_cap {xs : Array Operand} {ts : Array TypeId} {C : Value → Prop} (h : EK P W n E H (.call { callee := .builtin .cap, args := xs, argTypes := ts }) C) : EK P W n E H (.call { callee := .builtin .cap, args := xs, argTypes := ts }) C := h
theorem ek_min {xs : Array Operand} {ts : Array TypeId} {C : Value → Prop} (h : EK P W n E H (.call { callee := .builtin .min, args := xs, argTypes := ts }) C) : EK P W n E H (.call { callee := .builtin .min, args := xs, argTypes := ts }) C := h
theorem ek_max {xs : Array Operand} {ts : Array TypeId} {C : Value → Prop} (h : EK P W n E H (.call { callee := .builtin .max, args := xs, argTypes := ts }) C) : EK P W n E H (.call { callee := .builtin .max, args := xs, argTypes := ts }) C := h
theorem ek_add {t u : TypeId} {x y : Operand} {C : Value → Prop} (h : EK P W n E H (.binOp .add t x y u) C) : EK P W n E H (.binOp .add t x y u) C := h
theorem ek_sub {t u : TypeId} {x y : Operand} {C : Value → Prop} (h : EK P W n E H (.binOp .sub t x y u) C) : EK P W n E H (.binOp .sub t x y u) C := h
theorem ek_mul {t u : TypeId} {x y : Operand} {C : Value → Prop} (h : EK P W n E H (.binOp .mul t x y u) C) : EK P W n E H (.binOp .mul t x y u) C := h
theorem ek_quo {t u : TypeId} {x y : Operand} {C : Value → Prop} (h : EK P W n E H (.binOp .quo t x y u) C) : EK P W n E H (.binOp .quo t x y u) C := h
theorem ek_rem {t u : TypeId} {x y : Operand} {C : Value → Prop} (h : EK P W n E H (.binOp .rem t x y u) C) : EK P W n E H (.binOp .rem t x y u) C := h
theorem ek_and {t u : TypeId} {x y : Operand} {C : Value → Prop} (h : EK P W n E H (.binOp .and t x y u) C) : EK P W n E H (.binOp .and t x y u) C := h
theorem ek_or {t u : TypeId} {x y : Operand} {C : Value → Prop} (h : EK P W n E H (.binOp .or t x y u) C) : EK P W n E H (.binOp .or t x y u) C := h
theorem ek_xor {t u : TypeId} {x y : Operand} {C : Value → Prop} (h : EK P W n E H (.binOp .xor t x y u) C) : EK P W n E H (.binOp .xor t x y u) C := h
theorem ek_shl {t u : TypeId} {x y : Operand} {C : Value → Prop} (h : EK P W n E H (.binOp .shl t x y u) C) : EK P W n E H (.binOp .shl t x y u) C := h
theorem ek_shr {t u : TypeId} {x y : Operand} {C : Value → Prop} (h : EK P W n E H (.binOp .shr t x y u) C) : EK P W n E H (.binOp .shr t x y u) C := h
theorem ek_andNot {t u : TypeId} {x y : Operand} {C : Value → Prop} (h : EK P W n E H (.binOp .andNot t x y u) C) : EK P W n E H (.binOp .andNot t x y u) C := h
theorem ek_eql {t u : TypeId} {x y : Operand} {C : Value → Prop} (h : EK P W n E H (.binOp .eql t x y u) C) : EK P W n E H (.binOp .eql t x y u) C := h
theorem ek_neq {t u : TypeId} {x y : Operand} {C : Value → Prop} (h : EK P W n E H (.binOp .neq t x y u) C) : EK P W n E H (.binOp .neq t x y u) C := h
theorem ek_lss {t u : TypeId} {x y : Operand} {C : Value → Prop} (h : EK P W n E H (.binOp .lss t x y u) C) : EK P W n E H (.binOp .lss t x y u) C := h
theorem ek_leq {t u : TypeId} {x y : Operand} {C : Value → Prop} (h : EK P W n E H (.binOp .leq t x y u) C) : EK P W n E H (.binOp .leq t x y u) C := h
theorem ek_gtr {t u : TypeId} {x y : Operand} {C : Value → Prop} (h : EK P W n E H (.binOp .gtr t x y u) C) : EK P W n E H (.binOp .gtr t x y u) C := h
theorem ek_geq {t u : TypeId} {x y : Operand} {C : Value → Prop} (h : EK P W n E H (.binOp .geq t x y u) C) : EK P W n E H (.binOp .geq t x y u) C := h
theorem is_store {t : TypeId} {x y : Operand} {dd : Option Tmp} (h : KJ W n (.oper P (.store t x y) dd k) E H) : KJ W n (.oper P (.store t x y) dd k) E H := h
theorem is_alloc {t : TypeId} {dd : Option Tmp} (h : KJ W n (.oper P (.alloc t) dd k) E H) : KJ W n (.oper P (.alloc t) dd k) E H := h
theorem is_box {t : TypeId} {x : Operand} {dd : Option Tmp} (h : KJ W n (.oper P (.box t x) dd k) E H) : KJ W n (.oper P (.box t x) dd k) E H := h
theorem is_call {f : FuncId} {xs : Array Operand} {ts : Array TypeId} {dd : Option Tmp} (h : KJ W n (.oper P (.call { callee := .value (.func f), args := xs, argTypes := ts }) dd k) E H) : KJ W n (.oper P (.call { callee := .value (.func f), args := xs, argTypes := ts }) dd k) E H := h
theorem is_append {xs : Array Operand} {ts : Array TypeId} {dd : Option Tmp} (h : KJ W n (.oper P (.call { callee := .builtin .append, args := xs, argTypes := ts }) dd k) E H) : KJ W n (.oper P (.call { callee := .builtin .append, args := xs, argTypes := ts }) dd k) E H := h
theorem is_copy {xs : Array Operand} {ts : Array TypeId} {dd : Option Tmp} (h : KJ W n (.oper P (.call { callee := .builtin .copy, args := xs, argTypes := ts }) dd k) E H) : KJ W n (.oper P (.call { callee := .builtin .copy, args := xs, argTypes := ts }) dd k) E H := h
theorem is_mkSlice {t : TypeId} {x y : Operand} {dd : Option Tmp} (h : KJ W n (.oper P (.makeSlice t x y) dd k) E H) : KJ W n (.oper P (.makeSlice t x y) dd k) E H := h
theorem is_mkMap {t : TypeId} {x : Option Operand} {dd : Option Tmp} (h : KJ W n (.oper P (.makeMap t x) dd k) E H) : KJ W n (.oper P (.makeMap t x) dd k) E H := h
theorem is_bslice {t : TypeId} {m : Nat} {ps : Array (Nat × Operand)} {dd : Option Tmp} (h : KJ W n (.oper P (.buildSlice t m ps) dd k) E H) : KJ W n (.oper P (.buildSlice t m ps) dd k) E H := h
theorem is_mapUpdate {t : TypeId} {x y z : Operand} {dd : Option Tmp} (h : KJ W n (.oper P (.mapUpdate t x y z) dd k) E H) : KJ W n (.oper P (.mapUpdate t x y z) dd k) E H := h
theorem is_econv {s d : TypeId} {x : Operand} {dd : Option Tmp} (h : KJ W n (.oper P (.convert s d x) dd k) E H) : KJ W n (.oper P (.convert s d x) dd k) E H := h
end
end Go.Proofs.YteklldbfdmaafaaDoor
/-
  More of the operations' rules: struct values, bytes, rows that grow.
-/
namespace Go.Proofs.YteklldbfdmaafaaDoor
open Go Go.RowKit

/-- how a struct is built: its cells of nought, and each field's place -/
class BuIs (P : Program) (t : TypeId) (zs : outParam (List Value)) (places : outParam (List (Nat × Nat))) : Prop where h : ∀ parts, P.built t parts = Instr.fill (places.toArray[·]?) zs.toArray parts
inductive EvP (E : Env) : List (Nat × Operand) → List (Nat × Value) → Prop
  | nil : EvP E [] []
  | cons {i : Nat} {x : Operand} {v : Value} {ps : List (Nat × Operand)} {vs : List (Nat × Value)} : Env.ev E x = some v → EvP E ps vs → EvP E ((i, x) :: ps) ((i, v) :: vs)
inductive Fills (places : List (Nat × Nat)) : List Value → List (Nat × Value) → List Value → Prop
  | nil {zs : List Value} : Fills places zs [] zs
  | cons {i off m : Nat} {v : Value} {zs zs' ws vs : List Value} {ps : List (Nat × Value)} : places[i]? = some (off, m) → CellsOf v ws → ws.length = m → Laid zs off ws zs' → Fills places zs' ps vs → Fills places zs ((i, v) :: ps) vs
theorem Fills.fill {places : List (Nat × Nat)} {zs vs : List Value} {ps : List (Nat × Value)} (h : Fills places zs ps vs) : Instr.fill (places.toArray[·]?) zs.toArray ps = some vs.toArray := by
  induction h with
  | nil => rfl
  | cons hp hv hl hL hf ih =>
    rename_i i off m v zs zs' ws vs ps
    obtain ⟨hfit, rfl⟩ := hL.spec
    have hc := hv.spec
    unfold Instr.fill
    have hp' : places.toArray[i]? = some (off, m) := by simpa using hp
    simp only [hp']
    rw [if_neg (by simp [hc, hl]; omega)]
    rw [hc]
    have e : ((ws.toArray.zipIdx).foldl (fun cs (x : Value × Nat) => cs.setIfInBounds (off + x.2) x.1) zs.toArray) = (lay zs off ws).toArray := by
      rw [← Array.foldl_toList]
      simp only [Array.toList_zipIdx]
      have key : ∀ (l : List Value) (k : Nat) (base : Array Value), off + k + l.length ≤ base.size → ((l.zipIdx k).foldl (fun cs (x : Value × Nat) => cs.setIfInBounds (off + x.2) x.1) base).toList = base.toList.take (off + k) ++ (l ++ base.toList.drop (off + k + l.length)) := by
        intro l
        induction l with
        | nil => intro k base h; simp
        | cons v l ih2 =>
          intro k base h
          simp only [List.length_cons] at h
          rw [List.zipIdx_cons, List.foldl_cons, ih2 (k + 1) _ (by simp; omega)]
          simp only [Array.toList_setIfInBounds, List.length_cons]
          have e1 : (base.toList.set (off + k) v).take (off + (k + 1)) = base.toList.take (off + k) ++ [v] := by
            rw [List.take_set, show off + (k + 1) = off + k + 1 by omega]
            rw [List.take_succ_eq_append_getElem (by simp; omega), List.set_append_right _ _ (by simp; omega)]
            simp [show min (off + k) base.size = off + k by omega]
          have e2 : (base.toList.set (off + k) v).drop (off + (k + 1) + l.length) = base.toList.drop (off + k + (l.length + 1)) := by
            rw [List.drop_set_of_lt (by omega)]
            congr 1; omega
          rw [e1, e2]
          simp
      have := key ws 0 zs.toArray (by simpa using hfit)
      rw [← Array.toList_inj]
      simpa [lay] using this
    rw [e]
    exact ih

section
variable {P : Program} {W : World} {n : Nat} {E : Env} {H R : List SP} {k : KK} {x y z : Operand} {t e T : TypeId} {b off d m c : Nat}
theorem EvP.map {a : Act} (p : Hd n E a) {ps : List (Nat × Operand)} {pv : List (Nat × Value)} (h : EvP E ps pv) : ps.map (fun (i, x) => (i, a.eval x)) = pv := by
  induction h with
  | nil => rfl
  | cons hx _ ih => simp [p.ev hx, ih]
theorem Ev_build {ps : List (Nat × Operand)} {pv : List (Nat × Value)} {zs vs : List Value} {places : List (Nat × Nat)} (hp : EvP E ps pv) [hb : BuIs P t zs places] (hf : Fills places zs pv vs) : Ev P W n E H (.build t ps.toArray) (.agg vs.toArray) :=
  Ev.mk fun o ho a w p _ => by
    have e : (ps.toArray.map fun (i, x) => (i, a.eval x)).toList = pv := by
      rw [← hp.map p]; simp
    have h1 := run_build (P := P) w t (ps.toArray.map fun (i, x) => (i, a.eval x)) vs.toArray (by rw [e, hb.h]; exact hf.fill)
    simp only [execOp, ho, Sem.run_bind, h1, Result.andThen_ok, Sem.run_pure]

/-- make([]byte, m) -/
theorem replicate_bvs (m : Nat) : (madeCells #[Value.int .u8 0] m).toList = bvs (List.replicate m 0) := by
  apply List.ext_getElem
  · simp [madeCells]
  · intro i h1 h2
    simp [madeCells, bvs, bv, Nat.mod_one]
theorem KJ_makeBytes {C : Int} (hx : Env.ev E x = some (.int .i64 C)) (hy : Env.ev E y = some (.int .i64 C)) [hu : UIs P t (.slice e)] [hs : SzIs P e 1] [hb : ByIs P e 1] [hz : ZcIs P e [.int .u8 0]] (hC : C = (m : Int)) (hm : m ≤ 140737488355328) (hn : Nat.blt d n = true)
    (h : ∀ g, KJ W n k ((d, .slice (some ⟨g, 0, none⟩) m m) :: E) (cellsP g (bvs (List.replicate m 0)) e :: H)) : KJ W n (.oper P (.makeSlice t x y) (some d) k) E H := by
  refine ⟨fun a w p s o ho hd Q => ?_⟩
  have hz := hz.h
  have hs := hs.h
  have hb := hb.h
  cases hq : P.info? e with
  | none => simp [hq] at hz
  | some i =>
    simp [hq] at hz hs hb
    obtain ⟨zv, hz1, hz2⟩ := hz
    obtain ⟨w', h1, h2, h3⟩ := run_make_full (P := P) w 0 t e i zv 1 hu.h hq hz1 hs .i64 .i64 m (by rw [hb]; omega) (by unfold maxLen; omega) (Nat.zero_le _)
    show o.upon P a _ _ ((execOp a.eval o).run P w)
    have hrun : (execOp a.eval o).run P w = .ok (.value (.slice (some ⟨w.heap.size, 0, none⟩) m m)) w' := by
      simp only [execOp, ho, p.ev hx, p.ev hy, hC, Sem.run_bind, h1, Result.andThen_ok, Sem.run_pure]
    rw [hrun]
    have hblk : w'.heap[w.heap.size]? = some (.cells (bvs (List.replicate m 0)).toArray e (0, 0)) := by
      rw [hz2] at h2
      rcases h2.2 with ⟨q, _⟩ | ⟨g, cap, cur, hv, _, hh, _, _, hsz, htk⟩
      · cases q
      · cases hv
        rw [hh]
        have : cur.toList = bvs (List.replicate m 0) := by
          rw [← replicate_bvs, ← Nat.mul_one m, ← htk, List.take_of_length_le (by simp [hsz])]
        rw [← this]
    have st : St W (cellsP w.heap.size (bvs (List.replicate m 0)) e :: H) w' := by
      obtain ⟨h1', h2', dj, hA, hH, l1, l2⟩ := (show St W ([] ++ H) w from s).split
      exact St.join (B := [cellsP w.heap.size (bvs (List.replicate m 0)) e]) (g := Hl.one w.heap.size (.cells (bvs (List.replicate m 0)).toArray e (0, 0))) s.below dj hH l1 l2 (starL_one (Hl.one_self _ _)) h3.os h3.tape h3.output h3.size
        (fun k o q => by obtain ⟨rfl, rfl⟩ := Hl.one_some q; exact hblk) (fun k o q => by obtain ⟨rfl, rfl⟩ := Hl.one_some q; exact .inr (Nat.le_refl _)) (fun k hk _ => h3.block k hk (by simp))
    have := (h w.heap.size).go _ w' (p.put (d := some d) hn _) st
    rw [← hd] at this
    exact this
/-- string(b), the bytes known -/
theorem Ev_bytesStr {s u : TypeId} {l : List UInt8} (hx : Env.ev E x = some (.slice (some ⟨b, off, none⟩) m c)) [hs : UIs P s (.slice e)] [he : UIs P e (.int .u8)] [hd : UIs P u .string] (hs' : Sel (cellsP b (bvs l) T) H R) (hm : off + m ≤ l.length) : Ev P W n E H (.convert s u x) (strV ((l.drop off).take m)) :=
  Ev.mk fun o ho a w p q => by
    have hlen : ((l.drop off).take m).length = m := by simp; omega
    have hr := run_convert_bytes_back (P := P) w s u e ⟨b, off, none⟩ c ((l.drop off).take m) hs.h he.h hd.h (fun j hj => by
      rw [Addr.add_mid, (q.blk hs').2.cell]
      rw [hlen] at hj
      simp [bvs, bv, show off + j < l.length by omega])
    rw [hlen] at hr
    simp only [execOp, ho, p.ev hx, Sem.run_bind, hr, Result.andThen_ok, Sem.run_pure]
theorem Ev_bytesStr0 {s u : TypeId} {l : List UInt8} (hx : Env.ev E x = some (.slice (some ⟨b, 0, none⟩) m c)) [hs : UIs P s (.slice e)] [he : UIs P e (.int .u8)] [hd : UIs P u .string] (hs' : Sel (cellsP b (bvs l) T) H R) (hm : m = l.length) : Ev P W n E H (.convert s u x) (strV l) := by
  have := Ev_bytesStr (P := P) (W := W) (n := n) (E := E) (H := H) (x := x) (off := 0) hx (hs := hs) (he := he) (hd := hd) hs' (by omega)
  rw [List.drop_zero, List.take_of_length_le (by omega)] at this
  exact this
/-- a test whose answer is known -/
theorem Ev_eqlS_t {u : TypeId} {a b : List UInt8} (hx : Env.ev E x = some (strV a)) (hy : Env.ev E y = some (strV b)) (h : a = b) : Ev P W n E H (.binOp .eql t x y u) (.bool true) := by
  have := Ev_eqlS (P := P) (W := W) (n := n) (E := E) (H := H) (t := t) (u := u) hx hy
  rw [decide_eq_true h] at this; exact this
theorem Ev_neqS_f {u : TypeId} {a b : List UInt8} (hx : Env.ev E x = some (strV a)) (hy : Env.ev E y = some (strV b)) (h : a = b) : Ev P W n E H (.binOp .neq t x y u) (.bool false) := by
  have := Ev_neqS (P := P) (W := W) (n := n) (E := E) (H := H) (t := t) (u := u) hx hy
  rw [decide_eq_false (by simpa using h)] at this; exact this
theorem Ev_eqlI_t {u : TypeId} {kd : IntKind} {i j : Int} (hx : Env.ev E x = some (.int kd i)) (hy : Env.ev E y = some (.int kd j)) (h : i = j) : Ev P W n E H (.binOp .eql t x y u) (.bool true) := by
  have := Ev_eqlI (P := P) (W := W) (n := n) (E := E) (H := H) (t := t) (u := u) hx hy
  rw [decide_eq_true h] at this; exact this
theorem Ev_neqI_f {u : TypeId} {kd : IntKind} {i j : Int} (hx : Env.ev E x = some (.int kd i)) (hy : Env.ev E y = some (.int kd j)) (h : i = j) : Ev P W n E H (.binOp .neq t x y u) (.bool false) := by
  have := Ev_neqI (P := P) (W := W) (n := n) (E := E) (H := H) (t := t) (u := u) hx hy
  rw [decide_eq_false (by simpa using h)] at this; exact this
theorem Ev_not_of {u : TypeId} {q q' : Bool} (hx : Env.ev E x = some (.bool q)) (h : q = q') : Ev P W n E H (.unOp .not u x) (.bool (!q')) := by subst h; exact Ev_not hx

/-- where appended cells lie -/
structure Src (W : World) (H : List SP) (xa : Option Addr) (news : List Value) : Prop where
  go : news ≠ [] → ∃ b o, xa = some ⟨b, o, none⟩ ∧ ∀ w, St W H w → w.rangeAt b o news
theorem Src.cells {cs news : List Value} {i : Nat} (hs : Sel (cellsP b cs T) H R) (hc : Cut cs off i news) : Src W H (some ⟨b, off, none⟩) news := ⟨fun _ => ⟨b, off, rfl, fun w q j v hj => by rw [(q.blk hs).2.cell]; exact hc.spec.2 j v hj⟩⟩
theorem Src.old {news : List Value} (hc : W.rangeAt b off news) : Src W H (some ⟨b, off, none⟩) news := ⟨fun _ => ⟨b, off, rfl, fun _ q => q.oldRange hc⟩⟩
theorem Src.nil {xa : Option Addr} : Src W H xa [] := ⟨fun h => absurd rfl h⟩
/-- append to a row of one's own -/
theorem KJ_append {v : Value} {i l size bytes : Nat} {xs news : List Value} {a2 c2 : Nat} {xa : Option Addr} (hx : Env.ev E x = some v) (hy : Env.ev E y = some (.slice xa l c2)) [hu : UIs P t (.slice e)] [hs : SzIs P e size] [hb : ByIs P e bytes] {zs : List Value} [hz : ZcIs P e zs] (hsz : zs.length = size) (h0 : 0 < size) (hsel : Sel (rowP v e size i xs) H R)
    (hsrc : Src W H xa news) (hl : news.length = l * size) (hl0 : 0 < l) (h1 : Ones news) (h63 : (i + l) * bytes ≤ 140737488355328) (h64 : i + l ≤ 9223372036854775807) (hn : Nat.blt d n = true) (_ha : a2 = a2)
    (h : ∀ g c, KJ W n k ((d, .slice (some ⟨g, 0, none⟩) (i + l) c) :: E) (rowP (.slice (some ⟨g, 0, none⟩) (i + l) c) e size (i + l) (xs ++ news) :: R)) : KJ W n (.oper P (.call { callee := .builtin .append, args := #[x, y], argTypes := #[t, t] }) (some d) k) E H := by
  refine ⟨fun a w p s o ho hd Q => ?_⟩
  have hz := hz.h
  have hs := hs.h
  have hb := hb.h
  have hrow := s.row hsel
  have hne : news ≠ [] := by intro q; subst q; have := Nat.mul_pos hl0 h0; simp at hl; omega
  obtain ⟨sb, so, rfl, hrange⟩ := hsrc.go hne
  cases hq : P.info? e with
  | none => simp [hq] at hz
  | some it =>
    simp [hq] at hz hs hb
    obtain ⟨zv, hz1, hz2⟩ := hz
    obtain ⟨v', w', hrun, hown, hgrow, -, hloc⟩ := run_append_own_at (P := P) w W.heap.size t o.type e it zv size bytes hu.h hq hz1 hs hb (by rw [hz2]; simpa using hsz) h0 v i xs hrow ⟨sb, so, none⟩ l c2 news hl (fun j u hj => by rw [Addr.add_mid]; exact hrange w s j u hj) h1.all (by unfold maxLen; omega) h63 s.size
    have hshape : ∃ g c, v' = .slice (some ⟨g, 0, none⟩) (i + l) c := by
      rcases hown.2 with ⟨_, q⟩ | ⟨g, cap, cur, hv, _⟩
      · omega
      · exact ⟨g, cap, hv⟩
    obtain ⟨g, cc, rfl⟩ := hshape
    show o.upon P a _ _ ((execOp a.eval o).run P w)
    have hr2 : (execOp a.eval o).run P w = .ok (.value (.slice (some ⟨g, 0, none⟩) (i + l) cc)) w' := by
      simp only [execOp, ho, resolve, invoke, builtin, Sem.run_bind, Sem.run_pure, Result.andThen_ok, List.map_toArray, List.map_cons, List.map_nil, p.ev hx, p.ev hy, hrun]
    rw [hr2]
    have st : St W (rowP (.slice (some ⟨g, 0, none⟩) (i + l) cc) e size (i + l) (xs ++ news) :: R) w' := by
      obtain ⟨g1, g2, dj, hA, hH, l1, l2⟩ := (show St W ([rowP v e size i xs] ++ R) w from s.perm hsel.perm).split
      rcases hown.2 with ⟨_, q⟩ | ⟨g', cap, cur, hv, hbase, hh, hrest⟩
      · omega
      · cases hv
        have hold : ∀ gg, v.ownBlock = some gg → ∃ o, g1 gg = some o := by
          intro gg hgg
          obtain ⟨ha, _, _, le, _, ⟨_, hd⟩, _⟩ := hA
          rcases hd with ⟨hv0, _⟩ | ⟨g'', cap', cur', hv0, hh0, _⟩
          · rw [hv0] at hgg; simp [Value.ownBlock] at hgg
          · rw [hv0] at hgg; simp [Value.ownBlock] at hgg; subst hgg; exact ⟨_, le _ _ hh0⟩
        refine St.join (B := [rowP (.slice (some ⟨g, 0, none⟩) (i + l) cc) e size (i + l) (xs ++ news)]) (g := Hl.one g (.cells cur e (0, 0))) s.below dj hH l1 l2 (starL_one ⟨hown.1, .inr ⟨g, cc, cur, rfl, Hl.one_self _ _, hrest⟩⟩) hgrow.os hgrow.tape hgrow.output hgrow.size ?_ ?_ ?_
        · intro kk o q; obtain ⟨rfl, rfl⟩ := Hl.one_some q; exact hh
        · intro kk o q
          obtain ⟨rfl, rfl⟩ := Hl.one_some q
          rcases hloc with hl | hl
          · exact .inl (hold kk (by rw [← hl]; rfl))
          · have : kk = w.heap.size := by simpa [Value.ownBlock] using hl
            exact .inr (by omega)
        · intro kk hk hnone
          refine hgrow.block kk hk (fun e => ?_)
          obtain ⟨o, ho⟩ := hold kk e.symm
          rw [hnone] at ho; cases ho
    have := (h g cc).go _ w' (p.put (d := some d) hn _) st
    rw [← hd] at this
    exact this
/-- a cell of a row -/
theorem Ev_loadRow {g i size : Nat} {xs : List Value} {v : Value} (hx : Env.ev E x = some (.pointer (some ⟨g, off, none⟩))) [hu : ScIs P t] (hs : Sel (rowP (.slice (some ⟨g, 0, none⟩) i c) e size i xs) H R) (hv : xs[off]? = some v) : Ev P W n E H (.load t x) v :=
  Ev.mk fun o ho a w p q => by
    obtain ⟨d, hu, hd⟩ := hu.h
    have hr := q.row hs
    have hc : w.cell? ⟨g, off, none⟩ = some v := by
      have := hr.cells (g := g) rfl off v hv
      rwa [Addr.add_mid, Nat.zero_add] at this
    simp [execOp, ho, p.ev hx, run_loadAt_one w hc hu hd, Result.andThen]
theorem Ev_loadRowAgg {g i size : Nat} {xs vs : List Value} (hx : Env.ev E x = some (.pointer (some ⟨g, off, none⟩))) [hu : AgIs P t] [hi : SzIs P t m] (hs : Sel (rowP (.slice (some ⟨g, 0, none⟩) i c) e size i xs) H R) (hv : ∀ j v, vs[j]? = some v → xs[off + j]? = some v) (hl : vs.length = m) : Ev P W n E H (.load t x) (.agg vs.toArray) :=
  Ev.mk fun o ho a w p q => by
    obtain ⟨d, hu, hd⟩ := hu.h
    have hr := q.row hs
    have hc : w.rangeAt g off vs := fun j v hj => by
      have := hr.cells (g := g) rfl (off + j) v (hv j v hj)
      rwa [Addr.add_mid, Nat.zero_add] at this
    have := run_loadAt_mid (P := P) w g off t vs d hc hu (isRow_of hd) (by rw [hl]; exact hi.h)
    simp [execOp, ho, p.ev hx, this, Result.andThen]
/-- []T{v}, of one element -/
theorem KJ_bslice1 {v : Value} {vs : List Value} (hx : Env.ev E x = some v) [hu : UIs P t (.slice e)] [hs : SzIs P e m] {zs : List Value} [hz : ZcIs P e zs] (hv : CellsOf v vs) (hl : vs.length = m) (hm : 0 < m ∧ m ≤ 16777216) (hn : Nat.blt d n = true)
    (h : ∀ g, KJ W n k ((d, .slice (some ⟨g, 0, none⟩) 1 1) :: E) (cellsP g vs e :: H)) : KJ W n (.oper P (.buildSlice t 1 #[(0, x)]) (some d) k) E H := by
  refine ⟨fun a w p s o ho hd Q => ?_⟩
  have hz := hz.h
  have hs := hs.h
  cases hq : P.info? e with
  | none => simp [hq] at hz
  | some it =>
    simp [hq] at hz hs
    obtain ⟨zv, hz1, hz2⟩ := hz
    have hr := run_buildSlice_one (P := P) w t e it zv v hu.h hq hz1 (by rw [hv.spec]; simp; omega) (by omega) (by omega)
    show o.upon P a _ _ ((execOp a.eval o).run P w)
    have hr2 : (execOp a.eval o).run P w = .ok (.value (.slice (some ⟨w.heap.size, 0, none⟩) 1 1)) (w.alloc (.cells vs.toArray e)) := by
      rw [hv.spec] at hr
      simp only [execOp, ho, List.map_toArray, List.map_cons, List.map_nil, p.ev hx, Sem.run_bind, Sem.run_pure, Result.andThen_ok, hr]
    rw [hr2]
    have := (h w.heap.size).go _ _ (p.put (d := some d) hn _) s.new
    rw [← hd] at this
    exact this
end
end Go.Proofs.YteklldbfdmaafaaDoor
/-
  What the program says of its types and functions, by their numbers (printed by gentab.py).
-/
namespace Go.Proofs.YteklldbfdmaafaaDoor
open Go Go.RowKit
instance : UIs Tryd.prog 1 (.func #[] #[] false) := ⟨Tryd.underlying1⟩
instance : ScIs Tryd.prog 1 := ⟨_, Tryd.underlying1, rfl⟩
instance : SzIs Tryd.prog 1 1 := ⟨by kernel_rfl⟩
instance : ByIs Tryd.prog 1 8 := ⟨by kernel_rfl⟩
instance : ZcIs Tryd.prog 1 [.nilFunc] := ⟨by kernel_rfl⟩
instance : UIs Tryd.prog 2 (.int .i64) := ⟨Tryd.underlying2⟩
instance : ScIs Tryd.prog 2 := ⟨_, Tryd.underlying2, rfl⟩
instance : SzIs Tryd.prog 2 1 := ⟨by kernel_rfl⟩
instance : ByIs Tryd.prog 2 8 := ⟨by kernel_rfl⟩
instance : ZcIs Tryd.prog 2 [.int .i64 0] := ⟨by kernel_rfl⟩
instance : UIs Tryd.prog 3 (.int .i64) := ⟨Tryd.underlying3⟩
instance : ScIs Tryd.prog 3 := ⟨_, Tryd.underlying3, rfl⟩
instance : SzIs Tryd.prog 3 1 := ⟨by kernel_rfl⟩
instance : ByIs Tryd.prog 3 8 := ⟨by kernel_rfl⟩
instance : ZcIs Tryd.prog 3 [.int .i64 0] := ⟨by kernel_rfl⟩
instance : UIs Tryd.prog 4 (.bool) := ⟨Tryd.underlying4⟩
instance : ScIs Tryd.prog 4 := ⟨_, Tryd.underlying4, rfl⟩
instance : SzIs Tryd.prog 4 1 := ⟨by kernel_rfl⟩
instance : ByIs Tryd.prog 4 1 := ⟨by kernel_rfl⟩
instance : ZcIs Tryd.prog 4 [.bool false] := ⟨by kernel_rfl⟩
instance : UIs Tryd.prog 5 (.int .u8) := ⟨Tryd.underlying5⟩
instance : ScIs Tryd.prog 5 := ⟨_, Tryd.underlying5, rfl⟩
instance : SzIs Tryd.prog 5 1 := ⟨by kernel_rfl⟩
instance : ByIs Tryd.prog 5 1 := ⟨by kernel_rfl⟩
instance : ZcIs Tryd.prog 5 [.int .u8 0] := ⟨by kernel_rfl⟩
instance : UIs Tryd.prog 6 (.int .u8) := ⟨Tryd.underlying6⟩
instance : ScIs Tryd.prog 6 := ⟨_, Tryd.underlying6, rfl⟩
instance : SzIs Tryd.prog 6 1 := ⟨by kernel_rfl⟩
instance : ByIs Tryd.prog 6 1 := ⟨by kernel_rfl⟩
instance : ZcIs Tryd.prog 6 [.int .u8 0] := ⟨by kernel_rfl⟩
instance : UIs Tryd.prog 7 (.struct #[{ name := "x", type := 2, offset := 0, embedded := false, tag := "", pkgPath := "runtime", byteOffset := 0 }, { name := "y", type := 3, offset := 1, embedded := false, tag := "", pkgPath := "runtime", byteOffset := 8 }, { name := "signed", type := 4, offset := 2, embedded := false, tag := "", pkgPath := "runtime", byteOffset := 16 }, { name := "code", type := 6, offset := 3, embedded := false, tag := "", pkgPath := "runtime", byteOffset := 17 }]) := ⟨Tryd.underlying7⟩
instance : AgIs Tryd.prog 7 := ⟨_, Tryd.underlying7, rfl⟩
instance : FldIs Tryd.prog 7 0 2 0 := ⟨_, _, Tryd.underlying7, rfl, rfl, rfl⟩
instance : FldIs Tryd.prog 7 1 3 1 := ⟨_, _, Tryd.underlying7, rfl, rfl, rfl⟩
instance : FldIs Tryd.prog 7 2 4 2 := ⟨_, _, Tryd.underlying7, rfl, rfl, rfl⟩
instance : FldIs Tryd.prog 7 3 6 3 := ⟨_, _, Tryd.underlying7, rfl, rfl, rfl⟩
instance : SzIs Tryd.prog 7 4 := ⟨by kernel_rfl⟩
instance : ByIs Tryd.prog 7 24 := ⟨by kernel_rfl⟩
instance : BuIs Tryd.prog 7 [.int .i64 0, .int .i64 0, .bool false, .int .u8 0] [(0, 1), (1, 1), (2, 1), (3, 1)] := ⟨fun _ => by kernel_rfl⟩
instance : ZcIs Tryd.prog 7 [.int .i64 0, .int .i64 0, .bool false, .int .u8 0] := ⟨by kernel_rfl⟩
instance : UIs Tryd.prog 8 (.struct #[{ name := "x", type := 2, offset := 0, embedded := false, tag := "", pkgPath := "runtime", byteOffset := 0 }, { name := "y", type := 3, offset := 1, embedded := false, tag := "", pkgPath := "runtime", byteOffset := 8 }, { name := "signed", type := 4, offset := 2, embedded := false, tag := "", pkgPath := "runtime", byteOffset := 16 }, { name := "code", type := 6, offset := 3, embedded := false, tag := "", pkgPath := "runtime", byteOffset := 17 }]) := ⟨Tryd.underlying8⟩
instance : AgIs Tryd.prog 8 := ⟨_, Tryd.underlying8, rfl⟩
instance : FldIs Tryd.prog 8 0 2 0 := ⟨_, _, Tryd.underlying8, rfl, rfl, rfl⟩
instance : FldIs Tryd.prog 8 1 3 1 := ⟨_, _, Tryd.underlying8, rfl, rfl, rfl⟩
instance : FldIs Tryd.prog 8 2 4 2 := ⟨_, _, Tryd.underlying8, rfl, rfl, rfl⟩
instance : FldIs Tryd.prog 8 3 6 3 := ⟨_, _, Tryd.underlying8, rfl, rfl, rfl⟩
instance : SzIs Tryd.prog 8 4 := ⟨by kernel_rfl⟩
instance : ByIs Tryd.prog 8 24 := ⟨by kernel_rfl⟩
instance : BuIs Tryd.prog 8 [.int .i64 0, .int .i64 0, .bool false, .int .u8 0] [(0, 1), (1, 1), (2, 1), (3, 1)] := ⟨fun _ => by kernel_rfl⟩
instance : ZcIs Tryd.prog 8 [.int .i64 0, .int .i64 0, .bool false, .int .u8 0] := ⟨by kernel_rfl⟩
instance : UIs Tryd.prog 9 (.string) := ⟨Tryd.underlying9⟩
instance : ScIs Tryd.prog 9 := ⟨_, Tryd.underlying9, rfl⟩
instance : SzIs Tryd.prog 9 1 := ⟨by kernel_rfl⟩
instance : ByIs Tryd.prog 9 16 := ⟨by kernel_rfl⟩
instance : ZcIs Tryd.prog 9 [strV []] := ⟨by kernel_rfl⟩
instance : UIs Tryd.prog 10 (.string) := ⟨Tryd.underlying10⟩
instance : ScIs Tryd.prog 10 := ⟨_, Tryd.underlying10, rfl⟩
instance : SzIs Tryd.prog 10 1 := ⟨by kernel_rfl⟩
instance : ByIs Tryd.prog 10 16 := ⟨by kernel_rfl⟩
instance : ZcIs Tryd.prog 10 [strV []] := ⟨by kernel_rfl⟩
instance : UIs Tryd.prog 11 (.string) := ⟨Tryd.underlying11⟩
instance : ScIs Tryd.prog 11 := ⟨_, Tryd.underlying11, rfl⟩
instance : SzIs Tryd.prog 11 1 := ⟨by kernel_rfl⟩
instance : ByIs Tryd.prog 11 16 := ⟨by kernel_rfl⟩
instance : ZcIs Tryd.prog 11 [strV []] := ⟨by kernel_rfl⟩
instance : UIs Tryd.prog 12 (.int .u64) := ⟨Tryd.underlying12⟩
instance : ScIs Tryd.prog 12 := ⟨_, Tryd.underlying12, rfl⟩
instance : SzIs Tryd.prog 12 1 := ⟨by kernel_rfl⟩
instance : ByIs Tryd.prog 12 8 := ⟨by kernel_rfl⟩
instance : ZcIs Tryd.prog 12 [.int .u64 0] := ⟨by kernel_rfl⟩
instance : UIs Tryd.prog 13 (.struct #[{ name := "msg", type := 9, offset := 0, embedded := false, tag := "", pkgPath := "runtime", byteOffset := 0 }, { name := "addr", type := 12, offset := 1, embedded := false, tag := "", pkgPath := "runtime", byteOffset := 16 }]) := ⟨Tryd.underlying13⟩
instance : AgIs Tryd.prog 13 := ⟨_, Tryd.underlying13, rfl⟩
instance : FldIs Tryd.prog 13 0 9 0 := ⟨_, _, Tryd.underlying13, rfl, rfl, rfl⟩
instance : FldIs Tryd.prog 13 1 12 1 := ⟨_, _, Tryd.underlying13, rfl, rfl, rfl⟩
instance : SzIs Tryd.prog 13 2 := ⟨by kernel_rfl⟩
instance : ByIs Tryd.prog 13 24 := ⟨by kernel_rfl⟩
instance : BuIs Tryd.prog 13 [strV [], .int .u64 0] [(0, 1), (1, 1)] := ⟨fun _ => by kernel_rfl⟩
instance : ZcIs Tryd.prog 13 [strV [], .int .u64 0] := ⟨by kernel_rfl⟩
instance : UIs Tryd.prog 14 (.struct #[{ name := "msg", type := 9, offset := 0, embedded := false, tag := "", pkgPath := "runtime", byteOffset := 0 }, { name := "addr", type := 12, offset := 1, embedded := false, tag := "", pkgPath := "runtime", byteOffset := 16 }]) := ⟨Tryd.underlying14⟩
instance : AgIs Tryd.prog 14 := ⟨_, Tryd.underlying14, rfl⟩
instance : FldIs Tryd.prog 14 0 9 0 := ⟨_, _, Tryd.underlying14, rfl, rfl, rfl⟩
instance : FldIs Tryd.prog 14 1 12 1 := ⟨_, _, Tryd.underlying14, rfl, rfl, rfl⟩
instance : SzIs Tryd.prog 14 2 := ⟨by kernel_rfl⟩
instance : ByIs Tryd.prog 14 24 := ⟨by kernel_rfl⟩
instance : BuIs Tryd.prog 14 [strV [], .int .u64 0] [(0, 1), (1, 1)] := ⟨fun _ => by kernel_rfl⟩
instance : ZcIs Tryd.prog 14 [strV [], .int .u64 0] := ⟨by kernel_rfl⟩
instance : UIs Tryd.prog 15 (.pointer 206) := ⟨Tryd.underlying15⟩
instance : ScIs Tryd.prog 15 := ⟨_, Tryd.underlying15, rfl⟩
instance : SzIs Tryd.prog 15 1 := ⟨by kernel_rfl⟩
instance : ByIs Tryd.prog 15 8 := ⟨by kernel_rfl⟩
instance : ZcIs Tryd.prog 15 [.pointer none] := ⟨by kernel_rfl⟩
instance : UIs Tryd.prog 16 (.pointer 209) := ⟨Tryd.underlying16⟩
instance : ScIs Tryd.prog 16 := ⟨_, Tryd.underlying16, rfl⟩
instance : SzIs Tryd.prog 16 1 := ⟨by kernel_rfl⟩
instance : ByIs Tryd.prog 16 8 := ⟨by kernel_rfl⟩
instance : ZcIs Tryd.prog 16 [.pointer none] := ⟨by kernel_rfl⟩
instance : UIs Tryd.prog 17 (.pointer 216) := ⟨Tryd.underlying17⟩
instance : ScIs Tryd.prog 17 := ⟨_, Tryd.underlying17, rfl⟩
instance : SzIs Tryd.prog 17 1 := ⟨by kernel_rfl⟩
instance : ByIs Tryd.prog 17 8 := ⟨by kernel_rfl⟩
instance : ZcIs Tryd.prog 17 [.pointer none] := ⟨by kernel_rfl⟩
instance : UIs Tryd.prog 18 (.struct #[{ name := "typ", type := 17, offset := 0, embedded := false, tag := "", pkgPath := "internal/runtime/maps", byteOffset := 0 }]) := ⟨Tryd.underlying18⟩
instance : AgIs Tryd.prog 18 := ⟨_, Tryd.underlying18, rfl⟩
instance : FldIs Tryd.prog 18 0 17 0 := ⟨_, _, Tryd.underlying18, rfl, rfl, rfl⟩
instance : SzIs Tryd.prog 18 1 := ⟨by kernel_rfl⟩
instance : ByIs Tryd.prog 18 8 := ⟨by kernel_rfl⟩
instance : BuIs Tryd.prog 18 [.pointer none] [(0, 1)] := ⟨fun _ => by kernel_rfl⟩
instance : ZcIs Tryd.prog 18 [.pointer none] := ⟨by kernel_rfl⟩
instance : UIs Tryd.prog 19 (.struct #[{ name := "typ", type := 17, offset := 0, embedded := false, tag := "", pkgPath := "internal/runtime/maps", byteOffset := 0 }]) := ⟨Tryd.underlying19⟩
instance : AgIs Tryd.prog 19 := ⟨_, Tryd.underlying19, rfl⟩
instance : FldIs Tryd.prog 19 0 17 0 := ⟨_, _, Tryd.underlying19, rfl, rfl, rfl⟩
instance : SzIs Tryd.prog 19 1 := ⟨by kernel_rfl⟩
instance : ByIs Tryd.prog 19 8 := ⟨by kernel_rfl⟩
instance : BuIs Tryd.prog 19 [.pointer none] [(0, 1)] := ⟨fun _ => by kernel_rfl⟩
instance : ZcIs Tryd.prog 19 [.pointer none] := ⟨by kernel_rfl⟩
instance : UIs Tryd.prog 20 (.interface #[]) := ⟨Tryd.underlying20⟩
instance : ScIs Tryd.prog 20 := ⟨_, Tryd.underlying20, rfl⟩
instance : SzIs Tryd.prog 20 1 := ⟨by kernel_rfl⟩
instance : ByIs Tryd.prog 20 16 := ⟨by kernel_rfl⟩
instance : ZcIs Tryd.prog 20 [.nilIface] := ⟨by kernel_rfl⟩
instance : UIs Tryd.prog 21 (.int .i32) := ⟨Tryd.underlying21⟩
instance : ScIs Tryd.prog 21 := ⟨_, Tryd.underlying21, rfl⟩
instance : SzIs Tryd.prog 21 1 := ⟨by kernel_rfl⟩
instance : ByIs Tryd.prog 21 4 := ⟨by kernel_rfl⟩
instance : ZcIs Tryd.prog 21 [.int .i32 0] := ⟨by kernel_rfl⟩
instance : UIs Tryd.prog 22 (.slice 43) := ⟨Tryd.underlying22⟩
instance : ScIs Tryd.prog 22 := ⟨_, Tryd.underlying22, rfl⟩
instance : SzIs Tryd.prog 22 1 := ⟨by kernel_rfl⟩
instance : ByIs Tryd.prog 22 24 := ⟨by kernel_rfl⟩
instance : ZcIs Tryd.prog 22 [.slice none 0 0] := ⟨by kernel_rfl⟩
instance : UIs Tryd.prog 23 (.slice 4) := ⟨Tryd.underlying23⟩
instance : ScIs Tryd.prog 23 := ⟨_, Tryd.underlying23, rfl⟩
instance : SzIs Tryd.prog 23 1 := ⟨by kernel_rfl⟩
instance : ByIs Tryd.prog 23 24 := ⟨by kernel_rfl⟩
instance : ZcIs Tryd.prog 23 [.slice none 0 0] := ⟨by kernel_rfl⟩
instance : UIs Tryd.prog 24 (.struct #[{ name := "Kept", type := 23, offset := 0, embedded := false, tag := "", pkgPath := "", byteOffset := 0 }, { name := "Torn", type := 3, offset := 1, embedded := false, tag := "", pkgPath := "", byteOffset := 24 }, { name := "Bytes", type := 3, offset := 2, embedded := false, tag := "", pkgPath := "", byteOffset := 32 }]) := ⟨Tryd.underlying24⟩
instance : AgIs Tryd.prog 24 := ⟨_, Tryd.underlying24, rfl⟩
instance : FldIs Tryd.prog 24 0 23 0 := ⟨_, _, Tryd.underlying24, rfl, rfl, rfl⟩
instance : FldIs Tryd.prog 24 1 3 1 := ⟨_, _, Tryd.underlying24, rfl, rfl, rfl⟩
instance : FldIs Tryd.prog 24 2 3 2 := ⟨_, _, Tryd.underlying24, rfl, rfl, rfl⟩
instance : SzIs Tryd.prog 24 3 := ⟨by kernel_rfl⟩
instance : ByIs Tryd.prog 24 40 := ⟨by kernel_rfl⟩
instance : BuIs Tryd.prog 24 [.slice none 0 0, .int .i64 0, .int .i64 0] [(0, 1), (1, 1), (2, 1)] := ⟨fun _ => by kernel_rfl⟩
instance : ZcIs Tryd.prog 24 [.slice none 0 0, .int .i64 0, .int .i64 0] := ⟨by kernel_rfl⟩
instance : UIs Tryd.prog 25 (.struct #[{ name := "Kept", type := 23, offset := 0, embedded := false, tag := "", pkgPath := "", byteOffset := 0 }, { name := "Torn", type := 3, offset := 1, embedded := false, tag := "", pkgPath := "", byteOffset := 24 }, { name := "Bytes", type := 3, offset := 2, embedded := false, tag := "", pkgPath := "", byteOffset := 32 }]) := ⟨Tryd.underlying25⟩
instance : AgIs Tryd.prog 25 := ⟨_, Tryd.underlying25, rfl⟩
instance : FldIs Tryd.prog 25 0 23 0 := ⟨_, _, Tryd.underlying25, rfl, rfl, rfl⟩
instance : FldIs Tryd.prog 25 1 3 1 := ⟨_, _, Tryd.underlying25, rfl, rfl, rfl⟩
instance : FldIs Tryd.prog 25 2 3 2 := ⟨_, _, Tryd.underlying25, rfl, rfl, rfl⟩
instance : SzIs Tryd.prog 25 3 := ⟨by kernel_rfl⟩
instance : ByIs Tryd.prog 25 40 := ⟨by kernel_rfl⟩
instance : BuIs Tryd.prog 25 [.slice none 0 0, .int .i64 0, .int .i64 0] [(0, 1), (1, 1), (2, 1)] := ⟨fun _ => by kernel_rfl⟩
instance : ZcIs Tryd.prog 25 [.slice none 0 0, .int .i64 0, .int .i64 0] := ⟨by kernel_rfl⟩
instance : UIs Tryd.prog 26 (.func #[] #[4] false) := ⟨Tryd.underlying26⟩
instance : ScIs Tryd.prog 26 := ⟨_, Tryd.underlying26, rfl⟩
instance : SzIs Tryd.prog 26 1 := ⟨by kernel_rfl⟩
instance : ByIs Tryd.prog 26 8 := ⟨by kernel_rfl⟩
instance : ZcIs Tryd.prog 26 [.nilFunc] := ⟨by kernel_rfl⟩
instance : UIs Tryd.prog 27 (.pointer 134) := ⟨Tryd.underlying27⟩
instance : ScIs Tryd.prog 27 := ⟨_, Tryd.underlying27, rfl⟩
instance : SzIs Tryd.prog 27 1 := ⟨by kernel_rfl⟩
instance : ByIs Tryd.prog 27 8 := ⟨by kernel_rfl⟩
instance : ZcIs Tryd.prog 27 [.pointer none] := ⟨by kernel_rfl⟩
instance : UIs Tryd.prog 29 (.func #[3, 22] #[27, 3] false) := ⟨Tryd.underlying29⟩
instance : ScIs Tryd.prog 29 := ⟨_, Tryd.underlying29, rfl⟩
instance : SzIs Tryd.prog 29 1 := ⟨by kernel_rfl⟩
instance : ByIs Tryd.prog 29 8 := ⟨by kernel_rfl⟩
instance : ZcIs Tryd.prog 29 [.nilFunc] := ⟨by kernel_rfl⟩
instance : UIs Tryd.prog 30 (.interface #[("Error", 36)]) := ⟨Tryd.underlying30⟩
instance : ScIs Tryd.prog 30 := ⟨_, Tryd.underlying30, rfl⟩
instance : SzIs Tryd.prog 30 1 := ⟨by kernel_rfl⟩
instance : ByIs Tryd.prog 30 16 := ⟨by kernel_rfl⟩
instance : ZcIs Tryd.prog 30 [.nilIface] := ⟨by kernel_rfl⟩
instance : UIs Tryd.prog 31 (.interface #[("Error", 36)]) := ⟨Tryd.underlying31⟩
instance : ScIs Tryd.prog 31 := ⟨_, Tryd.underlying31, rfl⟩
instance : SzIs Tryd.prog 31 1 := ⟨by kernel_rfl⟩
instance : ByIs Tryd.prog 31 16 := ⟨by kernel_rfl⟩
instance : ZcIs Tryd.prog 31 [.nilIface] := ⟨by kernel_rfl⟩
instance : UIs Tryd.prog 32 (.func #[] #[31] false) := ⟨Tryd.underlying32⟩
instance : ScIs Tryd.prog 32 := ⟨_, Tryd.underlying32, rfl⟩
instance : SzIs Tryd.prog 32 1 := ⟨by kernel_rfl⟩
instance : ByIs Tryd.prog 32 8 := ⟨by kernel_rfl⟩
instance : ZcIs Tryd.prog 32 [.nilFunc] := ⟨by kernel_rfl⟩
instance : UIs Tryd.prog 33 (.func #[] #[3] false) := ⟨Tryd.underlying33⟩
instance : ScIs Tryd.prog 33 := ⟨_, Tryd.underlying33, rfl⟩
instance : SzIs Tryd.prog 33 1 := ⟨by kernel_rfl⟩
instance : ByIs Tryd.prog 33 8 := ⟨by kernel_rfl⟩
instance : ZcIs Tryd.prog 33 [.nilFunc] := ⟨by kernel_rfl⟩
instance : UIs Tryd.prog 35 (.func #[3] #[9, 31] false) := ⟨Tryd.underlying35⟩
instance : ScIs Tryd.prog 35 := ⟨_, Tryd.underlying35, rfl⟩
instance : SzIs Tryd.prog 35 1 := ⟨by kernel_rfl⟩
instance : ByIs Tryd.prog 35 8 := ⟨by kernel_rfl⟩
instance : ZcIs Tryd.prog 35 [.nilFunc] := ⟨by kernel_rfl⟩
instance : UIs Tryd.prog 36 (.func #[] #[9] false) := ⟨Tryd.underlying36⟩
instance : ScIs Tryd.prog 36 := ⟨_, Tryd.underlying36, rfl⟩
instance : SzIs Tryd.prog 36 1 := ⟨by kernel_rfl⟩
instance : ByIs Tryd.prog 36 8 := ⟨by kernel_rfl⟩
instance : ZcIs Tryd.prog 36 [.nilFunc] := ⟨by kernel_rfl⟩
instance : UIs Tryd.prog 38 (.func #[25] #[25, 23] false) := ⟨Tryd.underlying38⟩
instance : ScIs Tryd.prog 38 := ⟨_, Tryd.underlying38, rfl⟩
instance : SzIs Tryd.prog 38 1 := ⟨by kernel_rfl⟩
instance : ByIs Tryd.prog 38 8 := ⟨by kernel_rfl⟩
instance : ZcIs Tryd.prog 38 [.nilFunc] := ⟨by kernel_rfl⟩
instance : UIs Tryd.prog 39 (.func #[25] #[] false) := ⟨Tryd.underlying39⟩
instance : ScIs Tryd.prog 39 := ⟨_, Tryd.underlying39, rfl⟩
instance : SzIs Tryd.prog 39 1 := ⟨by kernel_rfl⟩
instance : ByIs Tryd.prog 39 8 := ⟨by kernel_rfl⟩
instance : ZcIs Tryd.prog 39 [.nilFunc] := ⟨by kernel_rfl⟩
instance : UIs Tryd.prog 40 (.func #[3, 22, 25] #[4] false) := ⟨Tryd.underlying40⟩
instance : ScIs Tryd.prog 40 := ⟨_, Tryd.underlying40, rfl⟩
instance : SzIs Tryd.prog 40 1 := ⟨by kernel_rfl⟩
instance : ByIs Tryd.prog 40 8 := ⟨by kernel_rfl⟩
instance : ZcIs Tryd.prog 40 [.nilFunc] := ⟨by kernel_rfl⟩
instance : UIs Tryd.prog 41 (.slice 47) := ⟨Tryd.underlying41⟩
instance : ScIs Tryd.prog 41 := ⟨_, Tryd.underlying41, rfl⟩
instance : SzIs Tryd.prog 41 1 := ⟨by kernel_rfl⟩
instance : ByIs Tryd.prog 41 24 := ⟨by kernel_rfl⟩
instance : ZcIs Tryd.prog 41 [.slice none 0 0] := ⟨by kernel_rfl⟩
instance : UIs Tryd.prog 42 (.struct #[{ name := "Kind", type := 3, offset := 0, embedded := false, tag := "", pkgPath := "", byteOffset := 0 }, { name := "I", type := 3, offset := 1, embedded := false, tag := "", pkgPath := "", byteOffset := 8 }, { name := "S", type := 9, offset := 2, embedded := false, tag := "", pkgPath := "", byteOffset := 16 }, { name := "Fill", type := 5, offset := 3, embedded := false, tag := "", pkgPath := "", byteOffset := 32 }, { name := "F", type := 25, offset := 4, embedded := false, tag := "", pkgPath := "", byteOffset := 40 }]) := ⟨Tryd.underlying42⟩
instance : AgIs Tryd.prog 42 := ⟨_, Tryd.underlying42, rfl⟩
instance : FldIs Tryd.prog 42 0 3 0 := ⟨_, _, Tryd.underlying42, rfl, rfl, rfl⟩
instance : FldIs Tryd.prog 42 1 3 1 := ⟨_, _, Tryd.underlying42, rfl, rfl, rfl⟩
instance : FldIs Tryd.prog 42 2 9 2 := ⟨_, _, Tryd.underlying42, rfl, rfl, rfl⟩
instance : FldIs Tryd.prog 42 3 5 3 := ⟨_, _, Tryd.underlying42, rfl, rfl, rfl⟩
instance : FldIs Tryd.prog 42 4 25 4 := ⟨_, _, Tryd.underlying42, rfl, rfl, rfl⟩
instance : SzIs Tryd.prog 42 7 := ⟨by kernel_rfl⟩
instance : ByIs Tryd.prog 42 80 := ⟨by kernel_rfl⟩
instance : BuIs Tryd.prog 42 [.int .i64 0, .int .i64 0, strV [], .int .u8 0, .slice none 0 0, .int .i64 0, .int .i64 0] [(0, 1), (1, 1), (2, 1), (3, 1), (4, 3)] := ⟨fun _ => by kernel_rfl⟩
instance : ZcIs Tryd.prog 42 [.int .i64 0, .int .i64 0, strV [], .int .u8 0, .slice none 0 0, .int .i64 0, .int .i64 0] := ⟨by kernel_rfl⟩
instance : UIs Tryd.prog 43 (.struct #[{ name := "Kind", type := 3, offset := 0, embedded := false, tag := "", pkgPath := "", byteOffset := 0 }, { name := "I", type := 3, offset := 1, embedded := false, tag := "", pkgPath := "", byteOffset := 8 }, { name := "S", type := 9, offset := 2, embedded := false, tag := "", pkgPath := "", byteOffset := 16 }, { name := "Fill", type := 5, offset := 3, embedded := false, tag := "", pkgPath := "", byteOffset := 32 }, { name := "F", type := 25, offset := 4, embedded := false, tag := "", pkgPath := "", byteOffset := 40 }]) := ⟨Tryd.underlying43⟩
instance : AgIs Tryd.prog 43 := ⟨_, Tryd.underlying43, rfl⟩
instance : FldIs Tryd.prog 43 0 3 0 := ⟨_, _, Tryd.underlying43, rfl, rfl, rfl⟩
instance : FldIs Tryd.prog 43 1 3 1 := ⟨_, _, Tryd.underlying43, rfl, rfl, rfl⟩
instance : FldIs Tryd.prog 43 2 9 2 := ⟨_, _, Tryd.underlying43, rfl, rfl, rfl⟩
instance : FldIs Tryd.prog 43 3 5 3 := ⟨_, _, Tryd.underlying43, rfl, rfl, rfl⟩
instance : FldIs Tryd.prog 43 4 25 4 := ⟨_, _, Tryd.underlying43, rfl, rfl, rfl⟩
instance : SzIs Tryd.prog 43 7 := ⟨by kernel_rfl⟩
instance : ByIs Tryd.prog 43 80 := ⟨by kernel_rfl⟩
instance : BuIs Tryd.prog 43 [.int .i64 0, .int .i64 0, strV [], .int .u8 0, .slice none 0 0, .int .i64 0, .int .i64 0] [(0, 1), (1, 1), (2, 1), (3, 1), (4, 3)] := ⟨fun _ => by kernel_rfl⟩
instance : ZcIs Tryd.prog 43 [.int .i64 0, .int .i64 0, strV [], .int .u8 0, .slice none 0 0, .int .i64 0, .int .i64 0] := ⟨by kernel_rfl⟩
instance : UIs Tryd.prog 44 (.int .u64) := ⟨Tryd.underlying44⟩
instance : ScIs Tryd.prog 44 := ⟨_, Tryd.underlying44, rfl⟩
instance : SzIs Tryd.prog 44 1 := ⟨by kernel_rfl⟩
instance : ByIs Tryd.prog 44 8 := ⟨by kernel_rfl⟩
instance : ZcIs Tryd.prog 44 [.int .u64 0] := ⟨by kernel_rfl⟩
instance : UIs Tryd.prog 45 (.func #[43] #[9] false) := ⟨Tryd.underlying45⟩
instance : ScIs Tryd.prog 45 := ⟨_, Tryd.underlying45, rfl⟩
instance : SzIs Tryd.prog 45 1 := ⟨by kernel_rfl⟩
instance : ByIs Tryd.prog 45 8 := ⟨by kernel_rfl⟩
instance : ZcIs Tryd.prog 45 [.nilFunc] := ⟨by kernel_rfl⟩
instance : UIs Tryd.prog 46 (.func #[3, 9] #[31] false) := ⟨Tryd.underlying46⟩
instance : ScIs Tryd.prog 46 := ⟨_, Tryd.underlying46, rfl⟩
instance : SzIs Tryd.prog 46 1 := ⟨by kernel_rfl⟩
instance : ByIs Tryd.prog 46 8 := ⟨by kernel_rfl⟩
instance : ZcIs Tryd.prog 46 [.nilFunc] := ⟨by kernel_rfl⟩
instance : UIs Tryd.prog 47 (.slice 9) := ⟨Tryd.underlying47⟩
instance : ScIs Tryd.prog 47 := ⟨_, Tryd.underlying47, rfl⟩
instance : SzIs Tryd.prog 47 1 := ⟨by kernel_rfl⟩
instance : ByIs Tryd.prog 47 24 := ⟨by kernel_rfl⟩
instance : ZcIs Tryd.prog 47 [.slice none 0 0] := ⟨by kernel_rfl⟩
instance : UIs Tryd.prog 48 (.func #[3, 22, 22, 25] #[4] false) := ⟨Tryd.underlying48⟩
instance : ScIs Tryd.prog 48 := ⟨_, Tryd.underlying48, rfl⟩
instance : SzIs Tryd.prog 48 1 := ⟨by kernel_rfl⟩
instance : ByIs Tryd.prog 48 8 := ⟨by kernel_rfl⟩
instance : ZcIs Tryd.prog 48 [.nilFunc] := ⟨by kernel_rfl⟩
instance : UIs Tryd.prog 50 (.func #[3] #[27, 31] false) := ⟨Tryd.underlying50⟩
instance : ScIs Tryd.prog 50 := ⟨_, Tryd.underlying50, rfl⟩
instance : SzIs Tryd.prog 50 1 := ⟨by kernel_rfl⟩
instance : ByIs Tryd.prog 50 8 := ⟨by kernel_rfl⟩
instance : ZcIs Tryd.prog 50 [.nilFunc] := ⟨by kernel_rfl⟩
instance : UIs Tryd.prog 51 (.pointer 97) := ⟨Tryd.underlying51⟩
instance : ScIs Tryd.prog 51 := ⟨_, Tryd.underlying51, rfl⟩
instance : SzIs Tryd.prog 51 1 := ⟨by kernel_rfl⟩
instance : ByIs Tryd.prog 51 8 := ⟨by kernel_rfl⟩
instance : ZcIs Tryd.prog 51 [.pointer none] := ⟨by kernel_rfl⟩
instance : UIs Tryd.prog 53 (.func #[3] #[51, 3] false) := ⟨Tryd.underlying53⟩
instance : ScIs Tryd.prog 53 := ⟨_, Tryd.underlying53, rfl⟩
instance : SzIs Tryd.prog 53 1 := ⟨by kernel_rfl⟩
instance : ByIs Tryd.prog 53 8 := ⟨by kernel_rfl⟩
instance : ZcIs Tryd.prog 53 [.nilFunc] := ⟨by kernel_rfl⟩
instance : UIs Tryd.prog 54 (.func #[31] #[3] false) := ⟨Tryd.underlying54⟩
instance : ScIs Tryd.prog 54 := ⟨_, Tryd.underlying54, rfl⟩
instance : SzIs Tryd.prog 54 1 := ⟨by kernel_rfl⟩
instance : ByIs Tryd.prog 54 8 := ⟨by kernel_rfl⟩
instance : ZcIs Tryd.prog 54 [.nilFunc] := ⟨by kernel_rfl⟩
instance : UIs Tryd.prog 55 (.func #[27, 51, 22] #[4] false) := ⟨Tryd.underlying55⟩
instance : ScIs Tryd.prog 55 := ⟨_, Tryd.underlying55, rfl⟩
instance : SzIs Tryd.prog 55 1 := ⟨by kernel_rfl⟩
instance : ByIs Tryd.prog 55 8 := ⟨by kernel_rfl⟩
instance : ZcIs Tryd.prog 55 [.nilFunc] := ⟨by kernel_rfl⟩
instance : UIs Tryd.prog 56 (.func #[3, 22] #[4] false) := ⟨Tryd.underlying56⟩
instance : ScIs Tryd.prog 56 := ⟨_, Tryd.underlying56, rfl⟩
instance : SzIs Tryd.prog 56 1 := ⟨by kernel_rfl⟩
instance : ByIs Tryd.prog 56 8 := ⟨by kernel_rfl⟩
instance : ZcIs Tryd.prog 56 [.nilFunc] := ⟨by kernel_rfl⟩
instance : UIs Tryd.prog 57 (.func #[3] #[] false) := ⟨Tryd.underlying57⟩
instance : ScIs Tryd.prog 57 := ⟨_, Tryd.underlying57, rfl⟩
instance : SzIs Tryd.prog 57 1 := ⟨by kernel_rfl⟩
instance : ByIs Tryd.prog 57 8 := ⟨by kernel_rfl⟩
instance : ZcIs Tryd.prog 57 [.nilFunc] := ⟨by kernel_rfl⟩
instance : UIs Tryd.prog 59 (.func #[] #[3, 3] false) := ⟨Tryd.underlying59⟩
instance : ScIs Tryd.prog 59 := ⟨_, Tryd.underlying59, rfl⟩
instance : SzIs Tryd.prog 59 1 := ⟨by kernel_rfl⟩
instance : ByIs Tryd.prog 59 8 := ⟨by kernel_rfl⟩
instance : ZcIs Tryd.prog 59 [.nilFunc] := ⟨by kernel_rfl⟩
instance : UIs Tryd.prog 60 (.func #[9] #[27, 31] false) := ⟨Tryd.underlying60⟩
instance : ScIs Tryd.prog 60 := ⟨_, Tryd.underlying60, rfl⟩
instance : SzIs Tryd.prog 60 1 := ⟨by kernel_rfl⟩
instance : ByIs Tryd.prog 60 8 := ⟨by kernel_rfl⟩
instance : ZcIs Tryd.prog 60 [.nilFunc] := ⟨by kernel_rfl⟩
instance : UIs Tryd.prog 61 (.func #[9] #[51, 3] false) := ⟨Tryd.underlying61⟩
instance : ScIs Tryd.prog 61 := ⟨_, Tryd.underlying61, rfl⟩
instance : SzIs Tryd.prog 61 1 := ⟨by kernel_rfl⟩
instance : ByIs Tryd.prog 61 8 := ⟨by kernel_rfl⟩
instance : ZcIs Tryd.prog 61 [.nilFunc] := ⟨by kernel_rfl⟩
instance : UIs Tryd.prog 62 (.func #[9, 22] #[4] false) := ⟨Tryd.underlying62⟩
instance : ScIs Tryd.prog 62 := ⟨_, Tryd.underlying62, rfl⟩
instance : SzIs Tryd.prog 62 1 := ⟨by kernel_rfl⟩
instance : ByIs Tryd.prog 62 8 := ⟨by kernel_rfl⟩
instance : ZcIs Tryd.prog 62 [.nilFunc] := ⟨by kernel_rfl⟩
instance : UIs Tryd.prog 63 (.array 2 9) := ⟨Tryd.underlying63⟩
instance : AgIs Tryd.prog 63 := ⟨_, Tryd.underlying63, rfl⟩
instance : SzIs Tryd.prog 63 2 := ⟨by kernel_rfl⟩
instance : ByIs Tryd.prog 63 32 := ⟨by kernel_rfl⟩
instance : ZcIs Tryd.prog 63 [strV [], strV []] := ⟨by kernel_rfl⟩
instance : UIs Tryd.prog 64 (.array 2 3) := ⟨Tryd.underlying64⟩
instance : AgIs Tryd.prog 64 := ⟨_, Tryd.underlying64, rfl⟩
instance : SzIs Tryd.prog 64 2 := ⟨by kernel_rfl⟩
instance : ByIs Tryd.prog 64 16 := ⟨by kernel_rfl⟩
instance : ZcIs Tryd.prog 64 [.int .i64 0, .int .i64 0] := ⟨by kernel_rfl⟩
instance : UIs Tryd.prog 65 (.func #[27, 3, 3, 9] #[31] false) := ⟨Tryd.underlying65⟩
instance : ScIs Tryd.prog 65 := ⟨_, Tryd.underlying65, rfl⟩
instance : SzIs Tryd.prog 65 1 := ⟨by kernel_rfl⟩
instance : ByIs Tryd.prog 65 8 := ⟨by kernel_rfl⟩
instance : ZcIs Tryd.prog 65 [.nilFunc] := ⟨by kernel_rfl⟩
instance : UIs Tryd.prog 67 (.func #[27, 3] #[9, 3, 31] false) := ⟨Tryd.underlying67⟩
instance : ScIs Tryd.prog 67 := ⟨_, Tryd.underlying67, rfl⟩
instance : SzIs Tryd.prog 67 1 := ⟨by kernel_rfl⟩
instance : ByIs Tryd.prog 67 8 := ⟨by kernel_rfl⟩
instance : ZcIs Tryd.prog 67 [.nilFunc] := ⟨by kernel_rfl⟩
instance : UIs Tryd.prog 68 (.func #[47, 23] #[4] false) := ⟨Tryd.underlying68⟩
instance : ScIs Tryd.prog 68 := ⟨_, Tryd.underlying68, rfl⟩
instance : SzIs Tryd.prog 68 1 := ⟨by kernel_rfl⟩
instance : ByIs Tryd.prog 68 8 := ⟨by kernel_rfl⟩
instance : ZcIs Tryd.prog 68 [.nilFunc] := ⟨by kernel_rfl⟩
instance : UIs Tryd.prog 69 (.slice 71) := ⟨Tryd.underlying69⟩
instance : ScIs Tryd.prog 69 := ⟨_, Tryd.underlying69, rfl⟩
instance : SzIs Tryd.prog 69 1 := ⟨by kernel_rfl⟩
instance : ByIs Tryd.prog 69 24 := ⟨by kernel_rfl⟩
instance : ZcIs Tryd.prog 69 [.slice none 0 0] := ⟨by kernel_rfl⟩
instance : UIs Tryd.prog 70 (.struct #[{ name := "Value", type := 9, offset := 0, embedded := false, tag := "", pkgPath := "", byteOffset := 0 }, { name := "Arm", type := 3, offset := 1, embedded := false, tag := "", pkgPath := "", byteOffset := 16 }, { name := "Crash", type := 4, offset := 2, embedded := false, tag := "", pkgPath := "", byteOffset := 24 }, { name := "Fate", type := 25, offset := 3, embedded := false, tag := "", pkgPath := "", byteOffset := 32 }]) := ⟨Tryd.underlying70⟩
instance : AgIs Tryd.prog 70 := ⟨_, Tryd.underlying70, rfl⟩
instance : FldIs Tryd.prog 70 0 9 0 := ⟨_, _, Tryd.underlying70, rfl, rfl, rfl⟩
instance : FldIs Tryd.prog 70 1 3 1 := ⟨_, _, Tryd.underlying70, rfl, rfl, rfl⟩
instance : FldIs Tryd.prog 70 2 4 2 := ⟨_, _, Tryd.underlying70, rfl, rfl, rfl⟩
instance : FldIs Tryd.prog 70 3 25 3 := ⟨_, _, Tryd.underlying70, rfl, rfl, rfl⟩
instance : SzIs Tryd.prog 70 6 := ⟨by kernel_rfl⟩
instance : ByIs Tryd.prog 70 72 := ⟨by kernel_rfl⟩
instance : BuIs Tryd.prog 70 [strV [], .int .i64 0, .bool false, .slice none 0 0, .int .i64 0, .int .i64 0] [(0, 1), (1, 1), (2, 1), (3, 3)] := ⟨fun _ => by kernel_rfl⟩
instance : ZcIs Tryd.prog 70 [strV [], .int .i64 0, .bool false, .slice none 0 0, .int .i64 0, .int .i64 0] := ⟨by kernel_rfl⟩
instance : UIs Tryd.prog 71 (.struct #[{ name := "Value", type := 9, offset := 0, embedded := false, tag := "", pkgPath := "", byteOffset := 0 }, { name := "Arm", type := 3, offset := 1, embedded := false, tag := "", pkgPath := "", byteOffset := 16 }, { name := "Crash", type := 4, offset := 2, embedded := false, tag := "", pkgPath := "", byteOffset := 24 }, { name := "Fate", type := 25, offset := 3, embedded := false, tag := "", pkgPath := "", byteOffset := 32 }]) := ⟨Tryd.underlying71⟩
instance : AgIs Tryd.prog 71 := ⟨_, Tryd.underlying71, rfl⟩
instance : FldIs Tryd.prog 71 0 9 0 := ⟨_, _, Tryd.underlying71, rfl, rfl, rfl⟩
instance : FldIs Tryd.prog 71 1 3 1 := ⟨_, _, Tryd.underlying71, rfl, rfl, rfl⟩
instance : FldIs Tryd.prog 71 2 4 2 := ⟨_, _, Tryd.underlying71, rfl, rfl, rfl⟩
instance : FldIs Tryd.prog 71 3 25 3 := ⟨_, _, Tryd.underlying71, rfl, rfl, rfl⟩
instance : SzIs Tryd.prog 71 6 := ⟨by kernel_rfl⟩
instance : ByIs Tryd.prog 71 72 := ⟨by kernel_rfl⟩
instance : BuIs Tryd.prog 71 [strV [], .int .i64 0, .bool false, .slice none 0 0, .int .i64 0, .int .i64 0] [(0, 1), (1, 1), (2, 1), (3, 3)] := ⟨fun _ => by kernel_rfl⟩
instance : ZcIs Tryd.prog 71 [strV [], .int .i64 0, .bool false, .slice none 0 0, .int .i64 0, .int .i64 0] := ⟨by kernel_rfl⟩
instance : UIs Tryd.prog 72 (.func #[69] #[4] false) := ⟨Tryd.underlying72⟩
instance : ScIs Tryd.prog 72 := ⟨_, Tryd.underlying72, rfl⟩
instance : SzIs Tryd.prog 72 1 := ⟨by kernel_rfl⟩
instance : ByIs Tryd.prog 72 8 := ⟨by kernel_rfl⟩
instance : ZcIs Tryd.prog 72 [.nilFunc] := ⟨by kernel_rfl⟩
instance : UIs Tryd.prog 73 (.func #[9] #[4] false) := ⟨Tryd.underlying73⟩
instance : ScIs Tryd.prog 73 := ⟨_, Tryd.underlying73, rfl⟩
instance : SzIs Tryd.prog 73 1 := ⟨by kernel_rfl⟩
instance : ByIs Tryd.prog 73 8 := ⟨by kernel_rfl⟩
instance : ZcIs Tryd.prog 73 [.nilFunc] := ⟨by kernel_rfl⟩
instance : UIs Tryd.prog 75 (.func #[9, 3] #[9, 3, 3] false) := ⟨Tryd.underlying75⟩
instance : ScIs Tryd.prog 75 := ⟨_, Tryd.underlying75, rfl⟩
instance : SzIs Tryd.prog 75 1 := ⟨by kernel_rfl⟩
instance : ByIs Tryd.prog 75 8 := ⟨by kernel_rfl⟩
instance : ZcIs Tryd.prog 75 [.nilFunc] := ⟨by kernel_rfl⟩
instance : UIs Tryd.prog 76 (.func #[9, 3] #[4] false) := ⟨Tryd.underlying76⟩
instance : ScIs Tryd.prog 76 := ⟨_, Tryd.underlying76, rfl⟩
instance : SzIs Tryd.prog 76 1 := ⟨by kernel_rfl⟩
instance : ByIs Tryd.prog 76 8 := ⟨by kernel_rfl⟩
instance : ZcIs Tryd.prog 76 [.nilFunc] := ⟨by kernel_rfl⟩
instance : UIs Tryd.prog 77 (.func #[3] #[3] false) := ⟨Tryd.underlying77⟩
instance : ScIs Tryd.prog 77 := ⟨_, Tryd.underlying77, rfl⟩
instance : SzIs Tryd.prog 77 1 := ⟨by kernel_rfl⟩
instance : ByIs Tryd.prog 77 8 := ⟨by kernel_rfl⟩
instance : ZcIs Tryd.prog 77 [.nilFunc] := ⟨by kernel_rfl⟩
instance : UIs Tryd.prog 78 (.func #[3] #[4] false) := ⟨Tryd.underlying78⟩
instance : ScIs Tryd.prog 78 := ⟨_, Tryd.underlying78, rfl⟩
instance : SzIs Tryd.prog 78 1 := ⟨by kernel_rfl⟩
instance : ByIs Tryd.prog 78 8 := ⟨by kernel_rfl⟩
instance : ZcIs Tryd.prog 78 [.nilFunc] := ⟨by kernel_rfl⟩
instance : UIs Tryd.prog 79 (.int .u64) := ⟨Tryd.underlying79⟩
instance : ScIs Tryd.prog 79 := ⟨_, Tryd.underlying79, rfl⟩
instance : SzIs Tryd.prog 79 1 := ⟨by kernel_rfl⟩
instance : ByIs Tryd.prog 79 8 := ⟨by kernel_rfl⟩
instance : ZcIs Tryd.prog 79 [.int .u64 0] := ⟨by kernel_rfl⟩
instance : UIs Tryd.prog 80 (.struct #[{ name := "Kind", type := 3, offset := 0, embedded := false, tag := "", pkgPath := "", byteOffset := 0 }, { name := "At", type := 3, offset := 1, embedded := false, tag := "", pkgPath := "", byteOffset := 8 }, { name := "N", type := 3, offset := 2, embedded := false, tag := "", pkgPath := "", byteOffset := 16 }, { name := "Stamp", type := 79, offset := 3, embedded := false, tag := "", pkgPath := "", byteOffset := 24 }, { name := "Bytes", type := 3, offset := 4, embedded := false, tag := "", pkgPath := "", byteOffset := 32 }, { name := "Seed", type := 79, offset := 5, embedded := false, tag := "", pkgPath := "", byteOffset := 40 }, { name := "F", type := 25, offset := 6, embedded := false, tag := "", pkgPath := "", byteOffset := 48 }]) := ⟨Tryd.underlying80⟩
instance : AgIs Tryd.prog 80 := ⟨_, Tryd.underlying80, rfl⟩
instance : FldIs Tryd.prog 80 0 3 0 := ⟨_, _, Tryd.underlying80, rfl, rfl, rfl⟩
instance : FldIs Tryd.prog 80 1 3 1 := ⟨_, _, Tryd.underlying80, rfl, rfl, rfl⟩
instance : FldIs Tryd.prog 80 2 3 2 := ⟨_, _, Tryd.underlying80, rfl, rfl, rfl⟩
instance : FldIs Tryd.prog 80 3 79 3 := ⟨_, _, Tryd.underlying80, rfl, rfl, rfl⟩
instance : FldIs Tryd.prog 80 4 3 4 := ⟨_, _, Tryd.underlying80, rfl, rfl, rfl⟩
instance : FldIs Tryd.prog 80 5 79 5 := ⟨_, _, Tryd.underlying80, rfl, rfl, rfl⟩
instance : FldIs Tryd.prog 80 6 25 6 := ⟨_, _, Tryd.underlying80, rfl, rfl, rfl⟩
instance : SzIs Tryd.prog 80 9 := ⟨by kernel_rfl⟩
instance : ByIs Tryd.prog 80 88 := ⟨by kernel_rfl⟩
instance : BuIs Tryd.prog 80 [.int .i64 0, .int .i64 0, .int .i64 0, .int .u64 0, .int .i64 0, .int .u64 0, .slice none 0 0, .int .i64 0, .int .i64 0] [(0, 1), (1, 1), (2, 1), (3, 1), (4, 1), (5, 1), (6, 3)] := ⟨fun _ => by kernel_rfl⟩
instance : ZcIs Tryd.prog 80 [.int .i64 0, .int .i64 0, .int .i64 0, .int .u64 0, .int .i64 0, .int .u64 0, .slice none 0 0, .int .i64 0, .int .i64 0] := ⟨by kernel_rfl⟩
instance : UIs Tryd.prog 81 (.struct #[{ name := "Kind", type := 3, offset := 0, embedded := false, tag := "", pkgPath := "", byteOffset := 0 }, { name := "At", type := 3, offset := 1, embedded := false, tag := "", pkgPath := "", byteOffset := 8 }, { name := "N", type := 3, offset := 2, embedded := false, tag := "", pkgPath := "", byteOffset := 16 }, { name := "Stamp", type := 79, offset := 3, embedded := false, tag := "", pkgPath := "", byteOffset := 24 }, { name := "Bytes", type := 3, offset := 4, embedded := false, tag := "", pkgPath := "", byteOffset := 32 }, { name := "Seed", type := 79, offset := 5, embedded := false, tag := "", pkgPath := "", byteOffset := 40 }, { name := "F", type := 25, offset := 6, embedded := false, tag := "", pkgPath := "", byteOffset := 48 }]) := ⟨Tryd.underlying81⟩
instance : AgIs Tryd.prog 81 := ⟨_, Tryd.underlying81, rfl⟩
instance : FldIs Tryd.prog 81 0 3 0 := ⟨_, _, Tryd.underlying81, rfl, rfl, rfl⟩
instance : FldIs Tryd.prog 81 1 3 1 := ⟨_, _, Tryd.underlying81, rfl, rfl, rfl⟩
instance : FldIs Tryd.prog 81 2 3 2 := ⟨_, _, Tryd.underlying81, rfl, rfl, rfl⟩
instance : FldIs Tryd.prog 81 3 79 3 := ⟨_, _, Tryd.underlying81, rfl, rfl, rfl⟩
instance : FldIs Tryd.prog 81 4 3 4 := ⟨_, _, Tryd.underlying81, rfl, rfl, rfl⟩
instance : FldIs Tryd.prog 81 5 79 5 := ⟨_, _, Tryd.underlying81, rfl, rfl, rfl⟩
instance : FldIs Tryd.prog 81 6 25 6 := ⟨_, _, Tryd.underlying81, rfl, rfl, rfl⟩
instance : SzIs Tryd.prog 81 9 := ⟨by kernel_rfl⟩
instance : ByIs Tryd.prog 81 88 := ⟨by kernel_rfl⟩
instance : BuIs Tryd.prog 81 [.int .i64 0, .int .i64 0, .int .i64 0, .int .u64 0, .int .i64 0, .int .u64 0, .slice none 0 0, .int .i64 0, .int .i64 0] [(0, 1), (1, 1), (2, 1), (3, 1), (4, 1), (5, 1), (6, 3)] := ⟨fun _ => by kernel_rfl⟩
instance : ZcIs Tryd.prog 81 [.int .i64 0, .int .i64 0, .int .i64 0, .int .u64 0, .int .i64 0, .int .u64 0, .slice none 0 0, .int .i64 0, .int .i64 0] := ⟨by kernel_rfl⟩
instance : UIs Tryd.prog 82 (.func #[79, 3] #[9] false) := ⟨Tryd.underlying82⟩
instance : ScIs Tryd.prog 82 := ⟨_, Tryd.underlying82, rfl⟩
instance : SzIs Tryd.prog 82 1 := ⟨by kernel_rfl⟩
instance : ByIs Tryd.prog 82 8 := ⟨by kernel_rfl⟩
instance : ZcIs Tryd.prog 82 [.nilFunc] := ⟨by kernel_rfl⟩
instance : UIs Tryd.prog 83 (.func #[27, 3, 3, 79, 9] #[31] false) := ⟨Tryd.underlying83⟩
instance : ScIs Tryd.prog 83 := ⟨_, Tryd.underlying83, rfl⟩
instance : SzIs Tryd.prog 83 1 := ⟨by kernel_rfl⟩
instance : ByIs Tryd.prog 83 8 := ⟨by kernel_rfl⟩
instance : ZcIs Tryd.prog 83 [.nilFunc] := ⟨by kernel_rfl⟩
instance : UIs Tryd.prog 84 (.func #[27, 3, 3, 79, 3] #[9, 31] false) := ⟨Tryd.underlying84⟩
instance : ScIs Tryd.prog 84 := ⟨_, Tryd.underlying84, rfl⟩
instance : SzIs Tryd.prog 84 1 := ⟨by kernel_rfl⟩
instance : ByIs Tryd.prog 84 8 := ⟨by kernel_rfl⟩
instance : ZcIs Tryd.prog 84 [.nilFunc] := ⟨by kernel_rfl⟩
instance : UIs Tryd.prog 85 (.func #[81] #[4] false) := ⟨Tryd.underlying85⟩
instance : ScIs Tryd.prog 85 := ⟨_, Tryd.underlying85, rfl⟩
instance : SzIs Tryd.prog 85 1 := ⟨by kernel_rfl⟩
instance : ByIs Tryd.prog 85 8 := ⟨by kernel_rfl⟩
instance : ZcIs Tryd.prog 85 [.nilFunc] := ⟨by kernel_rfl⟩
instance : UIs Tryd.prog 87 (.func #[9, 3, 3, 9] #[9, 3] false) := ⟨Tryd.underlying87⟩
instance : ScIs Tryd.prog 87 := ⟨_, Tryd.underlying87, rfl⟩
instance : SzIs Tryd.prog 87 1 := ⟨by kernel_rfl⟩
instance : ByIs Tryd.prog 87 8 := ⟨by kernel_rfl⟩
instance : ZcIs Tryd.prog 87 [.nilFunc] := ⟨by kernel_rfl⟩
instance : UIs Tryd.prog 88 (.func #[9, 3, 3, 9, 3] #[4] false) := ⟨Tryd.underlying88⟩
instance : ScIs Tryd.prog 88 := ⟨_, Tryd.underlying88, rfl⟩
instance : SzIs Tryd.prog 88 1 := ⟨by kernel_rfl⟩
instance : ByIs Tryd.prog 88 8 := ⟨by kernel_rfl⟩
instance : ZcIs Tryd.prog 88 [.nilFunc] := ⟨by kernel_rfl⟩
instance : UIs Tryd.prog 89 (.slice 91) := ⟨Tryd.underlying89⟩
instance : ScIs Tryd.prog 89 := ⟨_, Tryd.underlying89, rfl⟩
instance : SzIs Tryd.prog 89 1 := ⟨by kernel_rfl⟩
instance : ByIs Tryd.prog 89 24 := ⟨by kernel_rfl⟩
instance : ZcIs Tryd.prog 89 [.slice none 0 0] := ⟨by kernel_rfl⟩
instance : UIs Tryd.prog 90 (.struct #[{ name := "Bytes", type := 3, offset := 0, embedded := false, tag := "", pkgPath := "", byteOffset := 0 }, { name := "Seed", type := 79, offset := 1, embedded := false, tag := "", pkgPath := "", byteOffset := 8 }, { name := "Arm", type := 3, offset := 2, embedded := false, tag := "", pkgPath := "", byteOffset := 16 }, { name := "F", type := 25, offset := 3, embedded := false, tag := "", pkgPath := "", byteOffset := 24 }]) := ⟨Tryd.underlying90⟩
instance : AgIs Tryd.prog 90 := ⟨_, Tryd.underlying90, rfl⟩
instance : FldIs Tryd.prog 90 0 3 0 := ⟨_, _, Tryd.underlying90, rfl, rfl, rfl⟩
instance : FldIs Tryd.prog 90 1 79 1 := ⟨_, _, Tryd.underlying90, rfl, rfl, rfl⟩
instance : FldIs Tryd.prog 90 2 3 2 := ⟨_, _, Tryd.underlying90, rfl, rfl, rfl⟩
instance : FldIs Tryd.prog 90 3 25 3 := ⟨_, _, Tryd.underlying90, rfl, rfl, rfl⟩
instance : SzIs Tryd.prog 90 6 := ⟨by kernel_rfl⟩
instance : ByIs Tryd.prog 90 64 := ⟨by kernel_rfl⟩
instance : BuIs Tryd.prog 90 [.int .i64 0, .int .u64 0, .int .i64 0, .slice none 0 0, .int .i64 0, .int .i64 0] [(0, 1), (1, 1), (2, 1), (3, 3)] := ⟨fun _ => by kernel_rfl⟩
instance : ZcIs Tryd.prog 90 [.int .i64 0, .int .u64 0, .int .i64 0, .slice none 0 0, .int .i64 0, .int .i64 0] := ⟨by kernel_rfl⟩
instance : UIs Tryd.prog 91 (.struct #[{ name := "Bytes", type := 3, offset := 0, embedded := false, tag := "", pkgPath := "", byteOffset := 0 }, { name := "Seed", type := 79, offset := 1, embedded := false, tag := "", pkgPath := "", byteOffset := 8 }, { name := "Arm", type := 3, offset := 2, embedded := false, tag := "", pkgPath := "", byteOffset := 16 }, { name := "F", type := 25, offset := 3, embedded := false, tag := "", pkgPath := "", byteOffset := 24 }]) := ⟨Tryd.underlying91⟩
instance : AgIs Tryd.prog 91 := ⟨_, Tryd.underlying91, rfl⟩
instance : FldIs Tryd.prog 91 0 3 0 := ⟨_, _, Tryd.underlying91, rfl, rfl, rfl⟩
instance : FldIs Tryd.prog 91 1 79 1 := ⟨_, _, Tryd.underlying91, rfl, rfl, rfl⟩
instance : FldIs Tryd.prog 91 2 3 2 := ⟨_, _, Tryd.underlying91, rfl, rfl, rfl⟩
instance : FldIs Tryd.prog 91 3 25 3 := ⟨_, _, Tryd.underlying91, rfl, rfl, rfl⟩
instance : SzIs Tryd.prog 91 6 := ⟨by kernel_rfl⟩
instance : ByIs Tryd.prog 91 64 := ⟨by kernel_rfl⟩
instance : BuIs Tryd.prog 91 [.int .i64 0, .int .u64 0, .int .i64 0, .slice none 0 0, .int .i64 0, .int .i64 0] [(0, 1), (1, 1), (2, 1), (3, 3)] := ⟨fun _ => by kernel_rfl⟩
instance : ZcIs Tryd.prog 91 [.int .i64 0, .int .u64 0, .int .i64 0, .slice none 0 0, .int .i64 0, .int .i64 0] := ⟨by kernel_rfl⟩
instance : UIs Tryd.prog 92 (.func #[89] #[4] false) := ⟨Tryd.underlying92⟩
instance : ScIs Tryd.prog 92 := ⟨_, Tryd.underlying92, rfl⟩
instance : SzIs Tryd.prog 92 1 := ⟨by kernel_rfl⟩
instance : ByIs Tryd.prog 92 8 := ⟨by kernel_rfl⟩
instance : ZcIs Tryd.prog 92 [.nilFunc] := ⟨by kernel_rfl⟩
instance : UIs Tryd.prog 93 (.slice 81) := ⟨Tryd.underlying93⟩
instance : ScIs Tryd.prog 93 := ⟨_, Tryd.underlying93, rfl⟩
instance : SzIs Tryd.prog 93 1 := ⟨by kernel_rfl⟩
instance : ByIs Tryd.prog 93 24 := ⟨by kernel_rfl⟩
instance : ZcIs Tryd.prog 93 [.slice none 0 0] := ⟨by kernel_rfl⟩
instance : UIs Tryd.prog 94 (.func #[27, 51, 81] #[4] false) := ⟨Tryd.underlying94⟩
instance : ScIs Tryd.prog 94 := ⟨_, Tryd.underlying94, rfl⟩
instance : SzIs Tryd.prog 94 1 := ⟨by kernel_rfl⟩
instance : ByIs Tryd.prog 94 8 := ⟨by kernel_rfl⟩
instance : ZcIs Tryd.prog 94 [.nilFunc] := ⟨by kernel_rfl⟩
instance : UIs Tryd.prog 95 (.slice 192) := ⟨Tryd.underlying95⟩
instance : ScIs Tryd.prog 95 := ⟨_, Tryd.underlying95, rfl⟩
instance : SzIs Tryd.prog 95 1 := ⟨by kernel_rfl⟩
instance : ByIs Tryd.prog 95 24 := ⟨by kernel_rfl⟩
instance : ZcIs Tryd.prog 95 [.slice none 0 0] := ⟨by kernel_rfl⟩
instance : UIs Tryd.prog 96 (.struct #[{ name := "Sectors", type := 47, offset := 0, embedded := false, tag := "", pkgPath := "", byteOffset := 0 }, { name := "Ways", type := 95, offset := 1, embedded := false, tag := "", pkgPath := "", byteOffset := 24 }, { name := "Down", type := 4, offset := 2, embedded := false, tag := "", pkgPath := "", byteOffset := 48 }, { name := "Armed", type := 4, offset := 3, embedded := false, tag := "", pkgPath := "", byteOffset := 49 }, { name := "Count", type := 3, offset := 4, embedded := false, tag := "", pkgPath := "", byteOffset := 56 }, { name := "Writes", type := 3, offset := 5, embedded := false, tag := "", pkgPath := "", byteOffset := 64 }, { name := "Flushes", type := 3, offset := 6, embedded := false, tag := "", pkgPath := "", byteOffset := 72 }, { name := "Lives", type := 3, offset := 7, embedded := false, tag := "", pkgPath := "", byteOffset := 80 }]) := ⟨Tryd.underlying96⟩
instance : AgIs Tryd.prog 96 := ⟨_, Tryd.underlying96, rfl⟩
instance : FldIs Tryd.prog 96 0 47 0 := ⟨_, _, Tryd.underlying96, rfl, rfl, rfl⟩
instance : FldIs Tryd.prog 96 1 95 1 := ⟨_, _, Tryd.underlying96, rfl, rfl, rfl⟩
instance : FldIs Tryd.prog 96 2 4 2 := ⟨_, _, Tryd.underlying96, rfl, rfl, rfl⟩
instance : FldIs Tryd.prog 96 3 4 3 := ⟨_, _, Tryd.underlying96, rfl, rfl, rfl⟩
instance : FldIs Tryd.prog 96 4 3 4 := ⟨_, _, Tryd.underlying96, rfl, rfl, rfl⟩
instance : FldIs Tryd.prog 96 5 3 5 := ⟨_, _, Tryd.underlying96, rfl, rfl, rfl⟩
instance : FldIs Tryd.prog 96 6 3 6 := ⟨_, _, Tryd.underlying96, rfl, rfl, rfl⟩
instance : FldIs Tryd.prog 96 7 3 7 := ⟨_, _, Tryd.underlying96, rfl, rfl, rfl⟩
instance : SzIs Tryd.prog 96 8 := ⟨by kernel_rfl⟩
instance : ByIs Tryd.prog 96 88 := ⟨by kernel_rfl⟩
instance : BuIs Tryd.prog 96 [.slice none 0 0, .slice none 0 0, .bool false, .bool false, .int .i64 0, .int .i64 0, .int .i64 0, .int .i64 0] [(0, 1), (1, 1), (2, 1), (3, 1), (4, 1), (5, 1), (6, 1), (7, 1)] := ⟨fun _ => by kernel_rfl⟩
instance : ZcIs Tryd.prog 96 [.slice none 0 0, .slice none 0 0, .bool false, .bool false, .int .i64 0, .int .i64 0, .int .i64 0, .int .i64 0] := ⟨by kernel_rfl⟩
instance : UIs Tryd.prog 97 (.struct #[{ name := "Sectors", type := 47, offset := 0, embedded := false, tag := "", pkgPath := "", byteOffset := 0 }, { name := "Ways", type := 95, offset := 1, embedded := false, tag := "", pkgPath := "", byteOffset := 24 }, { name := "Down", type := 4, offset := 2, embedded := false, tag := "", pkgPath := "", byteOffset := 48 }, { name := "Armed", type := 4, offset := 3, embedded := false, tag := "", pkgPath := "", byteOffset := 49 }, { name := "Count", type := 3, offset := 4, embedded := false, tag := "", pkgPath := "", byteOffset := 56 }, { name := "Writes", type := 3, offset := 5, embedded := false, tag := "", pkgPath := "", byteOffset := 64 }, { name := "Flushes", type := 3, offset := 6, embedded := false, tag := "", pkgPath := "", byteOffset := 72 }, { name := "Lives", type := 3, offset := 7, embedded := false, tag := "", pkgPath := "", byteOffset := 80 }]) := ⟨Tryd.underlying97⟩
instance : AgIs Tryd.prog 97 := ⟨_, Tryd.underlying97, rfl⟩
instance : FldIs Tryd.prog 97 0 47 0 := ⟨_, _, Tryd.underlying97, rfl, rfl, rfl⟩
instance : FldIs Tryd.prog 97 1 95 1 := ⟨_, _, Tryd.underlying97, rfl, rfl, rfl⟩
instance : FldIs Tryd.prog 97 2 4 2 := ⟨_, _, Tryd.underlying97, rfl, rfl, rfl⟩
instance : FldIs Tryd.prog 97 3 4 3 := ⟨_, _, Tryd.underlying97, rfl, rfl, rfl⟩
instance : FldIs Tryd.prog 97 4 3 4 := ⟨_, _, Tryd.underlying97, rfl, rfl, rfl⟩
instance : FldIs Tryd.prog 97 5 3 5 := ⟨_, _, Tryd.underlying97, rfl, rfl, rfl⟩
instance : FldIs Tryd.prog 97 6 3 6 := ⟨_, _, Tryd.underlying97, rfl, rfl, rfl⟩
instance : FldIs Tryd.prog 97 7 3 7 := ⟨_, _, Tryd.underlying97, rfl, rfl, rfl⟩
instance : SzIs Tryd.prog 97 8 := ⟨by kernel_rfl⟩
instance : ByIs Tryd.prog 97 88 := ⟨by kernel_rfl⟩
instance : BuIs Tryd.prog 97 [.slice none 0 0, .slice none 0 0, .bool false, .bool false, .int .i64 0, .int .i64 0, .int .i64 0, .int .i64 0] [(0, 1), (1, 1), (2, 1), (3, 1), (4, 1), (5, 1), (6, 1), (7, 1)] := ⟨fun _ => by kernel_rfl⟩
instance : ZcIs Tryd.prog 97 [.slice none 0 0, .slice none 0 0, .bool false, .bool false, .int .i64 0, .int .i64 0, .int .i64 0, .int .i64 0] := ⟨by kernel_rfl⟩
instance : UIs Tryd.prog 98 (.func #[3, 93] #[4] false) := ⟨Tryd.underlying98⟩
instance : ScIs Tryd.prog 98 := ⟨_, Tryd.underlying98, rfl⟩
instance : SzIs Tryd.prog 98 1 := ⟨by kernel_rfl⟩
instance : ByIs Tryd.prog 98 8 := ⟨by kernel_rfl⟩
instance : ZcIs Tryd.prog 98 [.nilFunc] := ⟨by kernel_rfl⟩
instance : UIs Tryd.prog 99 (.pointer 165) := ⟨Tryd.underlying99⟩
instance : ScIs Tryd.prog 99 := ⟨_, Tryd.underlying99, rfl⟩
instance : SzIs Tryd.prog 99 1 := ⟨by kernel_rfl⟩
instance : ByIs Tryd.prog 99 8 := ⟨by kernel_rfl⟩
instance : ZcIs Tryd.prog 99 [.pointer none] := ⟨by kernel_rfl⟩
instance : UIs Tryd.prog 101 (.func #[27, 3, 3, 3] #[99, 31] false) := ⟨Tryd.underlying101⟩
instance : ScIs Tryd.prog 101 := ⟨_, Tryd.underlying101, rfl⟩
instance : SzIs Tryd.prog 101 1 := ⟨by kernel_rfl⟩
instance : ByIs Tryd.prog 101 8 := ⟨by kernel_rfl⟩
instance : ZcIs Tryd.prog 101 [.nilFunc] := ⟨by kernel_rfl⟩
instance : UIs Tryd.prog 102 (.func #[9] #[31] false) := ⟨Tryd.underlying102⟩
instance : ScIs Tryd.prog 102 := ⟨_, Tryd.underlying102, rfl⟩
instance : SzIs Tryd.prog 102 1 := ⟨by kernel_rfl⟩
instance : ByIs Tryd.prog 102 8 := ⟨by kernel_rfl⟩
instance : ZcIs Tryd.prog 102 [.nilFunc] := ⟨by kernel_rfl⟩
instance : UIs Tryd.prog 103 (.func #[3, 3] #[9] false) := ⟨Tryd.underlying103⟩
instance : ScIs Tryd.prog 103 := ⟨_, Tryd.underlying103, rfl⟩
instance : SzIs Tryd.prog 103 1 := ⟨by kernel_rfl⟩
instance : ByIs Tryd.prog 103 8 := ⟨by kernel_rfl⟩
instance : ZcIs Tryd.prog 103 [.nilFunc] := ⟨by kernel_rfl⟩
instance : UIs Tryd.prog 104 (.func #[3, 3] #[4] false) := ⟨Tryd.underlying104⟩
instance : ScIs Tryd.prog 104 := ⟨_, Tryd.underlying104, rfl⟩
instance : SzIs Tryd.prog 104 1 := ⟨by kernel_rfl⟩
instance : ByIs Tryd.prog 104 8 := ⟨by kernel_rfl⟩
instance : ZcIs Tryd.prog 104 [.nilFunc] := ⟨by kernel_rfl⟩
instance : UIs Tryd.prog 105 (.slice 3) := ⟨Tryd.underlying105⟩
instance : ScIs Tryd.prog 105 := ⟨_, Tryd.underlying105, rfl⟩
instance : SzIs Tryd.prog 105 1 := ⟨by kernel_rfl⟩
instance : ByIs Tryd.prog 105 24 := ⟨by kernel_rfl⟩
instance : ZcIs Tryd.prog 105 [.slice none 0 0] := ⟨by kernel_rfl⟩
instance : UIs Tryd.prog 107 (.func #[27, 3, 3, 3] #[47, 31] false) := ⟨Tryd.underlying107⟩
instance : ScIs Tryd.prog 107 := ⟨_, Tryd.underlying107, rfl⟩
instance : SzIs Tryd.prog 107 1 := ⟨by kernel_rfl⟩
instance : ByIs Tryd.prog 107 8 := ⟨by kernel_rfl⟩
instance : ZcIs Tryd.prog 107 [.nilFunc] := ⟨by kernel_rfl⟩
instance : UIs Tryd.prog 108 (.func #[171] #[] false) := ⟨Tryd.underlying108⟩
instance : ScIs Tryd.prog 108 := ⟨_, Tryd.underlying108, rfl⟩
instance : SzIs Tryd.prog 108 1 := ⟨by kernel_rfl⟩
instance : ByIs Tryd.prog 108 8 := ⟨by kernel_rfl⟩
instance : ZcIs Tryd.prog 108 [.nilFunc] := ⟨by kernel_rfl⟩
instance : UIs Tryd.prog 109 (.func #[171] #[] false) := ⟨Tryd.underlying109⟩
instance : ScIs Tryd.prog 109 := ⟨_, Tryd.underlying109, rfl⟩
instance : SzIs Tryd.prog 109 1 := ⟨by kernel_rfl⟩
instance : ByIs Tryd.prog 109 8 := ⟨by kernel_rfl⟩
instance : ZcIs Tryd.prog 109 [.nilFunc] := ⟨by kernel_rfl⟩
instance : UIs Tryd.prog 110 (.func #[27, 3, 3, 3] #[109] false) := ⟨Tryd.underlying110⟩
instance : ScIs Tryd.prog 110 := ⟨_, Tryd.underlying110, rfl⟩
instance : SzIs Tryd.prog 110 1 := ⟨by kernel_rfl⟩
instance : ByIs Tryd.prog 110 8 := ⟨by kernel_rfl⟩
instance : ZcIs Tryd.prog 110 [.nilFunc] := ⟨by kernel_rfl⟩
instance : UIs Tryd.prog 111 (.func #[47, 47] #[4] false) := ⟨Tryd.underlying111⟩
instance : ScIs Tryd.prog 111 := ⟨_, Tryd.underlying111, rfl⟩
instance : SzIs Tryd.prog 111 1 := ⟨by kernel_rfl⟩
instance : ByIs Tryd.prog 111 8 := ⟨by kernel_rfl⟩
instance : ZcIs Tryd.prog 111 [.nilFunc] := ⟨by kernel_rfl⟩
instance : UIs Tryd.prog 112 (.slice 5) := ⟨Tryd.underlying112⟩
instance : ScIs Tryd.prog 112 := ⟨_, Tryd.underlying112, rfl⟩
instance : SzIs Tryd.prog 112 1 := ⟨by kernel_rfl⟩
instance : ByIs Tryd.prog 112 24 := ⟨by kernel_rfl⟩
instance : ZcIs Tryd.prog 112 [.slice none 0 0] := ⟨by kernel_rfl⟩
instance : UIs Tryd.prog 113 (.func #[105, 3] #[4] false) := ⟨Tryd.underlying113⟩
instance : ScIs Tryd.prog 113 := ⟨_, Tryd.underlying113, rfl⟩
instance : SzIs Tryd.prog 113 1 := ⟨by kernel_rfl⟩
instance : ByIs Tryd.prog 113 8 := ⟨by kernel_rfl⟩
instance : ZcIs Tryd.prog 113 [.nilFunc] := ⟨by kernel_rfl⟩
instance : UIs Tryd.prog 114 (.func #[27, 51, 3, 3, 3] #[4] false) := ⟨Tryd.underlying114⟩
instance : ScIs Tryd.prog 114 := ⟨_, Tryd.underlying114, rfl⟩
instance : SzIs Tryd.prog 114 1 := ⟨by kernel_rfl⟩
instance : ByIs Tryd.prog 114 8 := ⟨by kernel_rfl⟩
instance : ZcIs Tryd.prog 114 [.nilFunc] := ⟨by kernel_rfl⟩
instance : UIs Tryd.prog 115 (.func #[9, 3, 3, 3] #[4] false) := ⟨Tryd.underlying115⟩
instance : ScIs Tryd.prog 115 := ⟨_, Tryd.underlying115, rfl⟩
instance : SzIs Tryd.prog 115 1 := ⟨by kernel_rfl⟩
instance : ByIs Tryd.prog 115 8 := ⟨by kernel_rfl⟩
instance : ZcIs Tryd.prog 115 [.nilFunc] := ⟨by kernel_rfl⟩
instance : UIs Tryd.prog 116 (.slice 118) := ⟨Tryd.underlying116⟩
instance : ScIs Tryd.prog 116 := ⟨_, Tryd.underlying116, rfl⟩
instance : SzIs Tryd.prog 116 1 := ⟨by kernel_rfl⟩
instance : ByIs Tryd.prog 116 24 := ⟨by kernel_rfl⟩
instance : ZcIs Tryd.prog 116 [.slice none 0 0] := ⟨by kernel_rfl⟩
instance : UIs Tryd.prog 117 (.struct #[{ name := "More", type := 3, offset := 0, embedded := false, tag := "", pkgPath := "", byteOffset := 0 }, { name := "Sizes", type := 105, offset := 1, embedded := false, tag := "", pkgPath := "", byteOffset := 8 }, { name := "Syncs", type := 23, offset := 2, embedded := false, tag := "", pkgPath := "", byteOffset := 32 }, { name := "Arm", type := 3, offset := 3, embedded := false, tag := "", pkgPath := "", byteOffset := 56 }, { name := "F", type := 25, offset := 4, embedded := false, tag := "", pkgPath := "", byteOffset := 64 }]) := ⟨Tryd.underlying117⟩
instance : AgIs Tryd.prog 117 := ⟨_, Tryd.underlying117, rfl⟩
instance : FldIs Tryd.prog 117 0 3 0 := ⟨_, _, Tryd.underlying117, rfl, rfl, rfl⟩
instance : FldIs Tryd.prog 117 1 105 1 := ⟨_, _, Tryd.underlying117, rfl, rfl, rfl⟩
instance : FldIs Tryd.prog 117 2 23 2 := ⟨_, _, Tryd.underlying117, rfl, rfl, rfl⟩
instance : FldIs Tryd.prog 117 3 3 3 := ⟨_, _, Tryd.underlying117, rfl, rfl, rfl⟩
instance : FldIs Tryd.prog 117 4 25 4 := ⟨_, _, Tryd.underlying117, rfl, rfl, rfl⟩
instance : SzIs Tryd.prog 117 7 := ⟨by kernel_rfl⟩
instance : ByIs Tryd.prog 117 104 := ⟨by kernel_rfl⟩
instance : BuIs Tryd.prog 117 [.int .i64 0, .slice none 0 0, .slice none 0 0, .int .i64 0, .slice none 0 0, .int .i64 0, .int .i64 0] [(0, 1), (1, 1), (2, 1), (3, 1), (4, 3)] := ⟨fun _ => by kernel_rfl⟩
instance : ZcIs Tryd.prog 117 [.int .i64 0, .slice none 0 0, .slice none 0 0, .int .i64 0, .slice none 0 0, .int .i64 0, .int .i64 0] := ⟨by kernel_rfl⟩
instance : UIs Tryd.prog 118 (.struct #[{ name := "More", type := 3, offset := 0, embedded := false, tag := "", pkgPath := "", byteOffset := 0 }, { name := "Sizes", type := 105, offset := 1, embedded := false, tag := "", pkgPath := "", byteOffset := 8 }, { name := "Syncs", type := 23, offset := 2, embedded := false, tag := "", pkgPath := "", byteOffset := 32 }, { name := "Arm", type := 3, offset := 3, embedded := false, tag := "", pkgPath := "", byteOffset := 56 }, { name := "F", type := 25, offset := 4, embedded := false, tag := "", pkgPath := "", byteOffset := 64 }]) := ⟨Tryd.underlying118⟩
instance : AgIs Tryd.prog 118 := ⟨_, Tryd.underlying118, rfl⟩
instance : FldIs Tryd.prog 118 0 3 0 := ⟨_, _, Tryd.underlying118, rfl, rfl, rfl⟩
instance : FldIs Tryd.prog 118 1 105 1 := ⟨_, _, Tryd.underlying118, rfl, rfl, rfl⟩
instance : FldIs Tryd.prog 118 2 23 2 := ⟨_, _, Tryd.underlying118, rfl, rfl, rfl⟩
instance : FldIs Tryd.prog 118 3 3 3 := ⟨_, _, Tryd.underlying118, rfl, rfl, rfl⟩
instance : FldIs Tryd.prog 118 4 25 4 := ⟨_, _, Tryd.underlying118, rfl, rfl, rfl⟩
instance : SzIs Tryd.prog 118 7 := ⟨by kernel_rfl⟩
instance : ByIs Tryd.prog 118 104 := ⟨by kernel_rfl⟩
instance : BuIs Tryd.prog 118 [.int .i64 0, .slice none 0 0, .slice none 0 0, .int .i64 0, .slice none 0 0, .int .i64 0, .int .i64 0] [(0, 1), (1, 1), (2, 1), (3, 1), (4, 3)] := ⟨fun _ => by kernel_rfl⟩
instance : ZcIs Tryd.prog 118 [.int .i64 0, .slice none 0 0, .slice none 0 0, .int .i64 0, .slice none 0 0, .int .i64 0, .int .i64 0] := ⟨by kernel_rfl⟩
instance : UIs Tryd.prog 119 (.func #[27, 3, 3, 3, 3, 118] #[4] false) := ⟨Tryd.underlying119⟩
instance : ScIs Tryd.prog 119 := ⟨_, Tryd.underlying119, rfl⟩
instance : SzIs Tryd.prog 119 1 := ⟨by kernel_rfl⟩
instance : ByIs Tryd.prog 119 8 := ⟨by kernel_rfl⟩
instance : ZcIs Tryd.prog 119 [.nilFunc] := ⟨by kernel_rfl⟩
instance : UIs Tryd.prog 120 (.func #[3, 3, 116] #[4] false) := ⟨Tryd.underlying120⟩
instance : ScIs Tryd.prog 120 := ⟨_, Tryd.underlying120, rfl⟩
instance : SzIs Tryd.prog 120 1 := ⟨by kernel_rfl⟩
instance : ByIs Tryd.prog 120 8 := ⟨by kernel_rfl⟩
instance : ZcIs Tryd.prog 120 [.nilFunc] := ⟨by kernel_rfl⟩
instance : UIs Tryd.prog 121 (.slice 127) := ⟨Tryd.underlying121⟩
instance : ScIs Tryd.prog 121 := ⟨_, Tryd.underlying121, rfl⟩
instance : SzIs Tryd.prog 121 1 := ⟨by kernel_rfl⟩
instance : ByIs Tryd.prog 121 24 := ⟨by kernel_rfl⟩
instance : ZcIs Tryd.prog 121 [.slice none 0 0] := ⟨by kernel_rfl⟩
instance : UIs Tryd.prog 122 (.pointer 125) := ⟨Tryd.underlying122⟩
instance : ScIs Tryd.prog 122 := ⟨_, Tryd.underlying122, rfl⟩
instance : SzIs Tryd.prog 122 1 := ⟨by kernel_rfl⟩
instance : ByIs Tryd.prog 122 8 := ⟨by kernel_rfl⟩
instance : ZcIs Tryd.prog 122 [.pointer none] := ⟨by kernel_rfl⟩
instance : UIs Tryd.prog 123 (.pointer 180) := ⟨Tryd.underlying123⟩
instance : ScIs Tryd.prog 123 := ⟨_, Tryd.underlying123, rfl⟩
instance : SzIs Tryd.prog 123 1 := ⟨by kernel_rfl⟩
instance : ByIs Tryd.prog 123 8 := ⟨by kernel_rfl⟩
instance : ZcIs Tryd.prog 123 [.pointer none] := ⟨by kernel_rfl⟩
instance : UIs Tryd.prog 124 (.struct #[{ name := "d", type := 27, offset := 0, embedded := false, tag := "", pkgPath := "remit/remitlaw10", byteOffset := 0 }, { name := "r", type := 51, offset := 1, embedded := false, tag := "", pkgPath := "remit/remitlaw10", byteOffset := 8 }, { name := "j", type := 99, offset := 2, embedded := false, tag := "", pkgPath := "remit/remitlaw10", byteOffset := 16 }, { name := "q", type := 123, offset := 3, embedded := false, tag := "", pkgPath := "remit/remitlaw10", byteOffset := 24 }]) := ⟨Tryd.underlying124⟩
instance : AgIs Tryd.prog 124 := ⟨_, Tryd.underlying124, rfl⟩
instance : FldIs Tryd.prog 124 0 27 0 := ⟨_, _, Tryd.underlying124, rfl, rfl, rfl⟩
instance : FldIs Tryd.prog 124 1 51 1 := ⟨_, _, Tryd.underlying124, rfl, rfl, rfl⟩
instance : FldIs Tryd.prog 124 2 99 2 := ⟨_, _, Tryd.underlying124, rfl, rfl, rfl⟩
instance : FldIs Tryd.prog 124 3 123 3 := ⟨_, _, Tryd.underlying124, rfl, rfl, rfl⟩
instance : SzIs Tryd.prog 124 4 := ⟨by kernel_rfl⟩
instance : ByIs Tryd.prog 124 32 := ⟨by kernel_rfl⟩
instance : BuIs Tryd.prog 124 [.pointer none, .pointer none, .pointer none, .pointer none] [(0, 1), (1, 1), (2, 1), (3, 1)] := ⟨fun _ => by kernel_rfl⟩
instance : ZcIs Tryd.prog 124 [.pointer none, .pointer none, .pointer none, .pointer none] := ⟨by kernel_rfl⟩
instance : UIs Tryd.prog 125 (.struct #[{ name := "d", type := 27, offset := 0, embedded := false, tag := "", pkgPath := "remit/remitlaw10", byteOffset := 0 }, { name := "r", type := 51, offset := 1, embedded := false, tag := "", pkgPath := "remit/remitlaw10", byteOffset := 8 }, { name := "j", type := 99, offset := 2, embedded := false, tag := "", pkgPath := "remit/remitlaw10", byteOffset := 16 }, { name := "q", type := 123, offset := 3, embedded := false, tag := "", pkgPath := "remit/remitlaw10", byteOffset := 24 }]) := ⟨Tryd.underlying125⟩
instance : AgIs Tryd.prog 125 := ⟨_, Tryd.underlying125, rfl⟩
instance : FldIs Tryd.prog 125 0 27 0 := ⟨_, _, Tryd.underlying125, rfl, rfl, rfl⟩
instance : FldIs Tryd.prog 125 1 51 1 := ⟨_, _, Tryd.underlying125, rfl, rfl, rfl⟩
instance : FldIs Tryd.prog 125 2 99 2 := ⟨_, _, Tryd.underlying125, rfl, rfl, rfl⟩
instance : FldIs Tryd.prog 125 3 123 3 := ⟨_, _, Tryd.underlying125, rfl, rfl, rfl⟩
instance : SzIs Tryd.prog 125 4 := ⟨by kernel_rfl⟩
instance : ByIs Tryd.prog 125 32 := ⟨by kernel_rfl⟩
instance : BuIs Tryd.prog 125 [.pointer none, .pointer none, .pointer none, .pointer none] [(0, 1), (1, 1), (2, 1), (3, 1)] := ⟨fun _ => by kernel_rfl⟩
instance : ZcIs Tryd.prog 125 [.pointer none, .pointer none, .pointer none, .pointer none] := ⟨by kernel_rfl⟩
instance : UIs Tryd.prog 126 (.struct #[{ name := "Kind", type := 3, offset := 0, embedded := false, tag := "", pkgPath := "", byteOffset := 0 }, { name := "At", type := 3, offset := 1, embedded := false, tag := "", pkgPath := "", byteOffset := 8 }, { name := "N", type := 3, offset := 2, embedded := false, tag := "", pkgPath := "", byteOffset := 16 }, { name := "Version", type := 3, offset := 3, embedded := false, tag := "", pkgPath := "", byteOffset := 24 }, { name := "Size", type := 3, offset := 4, embedded := false, tag := "", pkgPath := "", byteOffset := 32 }, { name := "Fill", type := 3, offset := 5, embedded := false, tag := "", pkgPath := "", byteOffset := 40 }, { name := "F", type := 25, offset := 6, embedded := false, tag := "", pkgPath := "", byteOffset := 48 }]) := ⟨Tryd.underlying126⟩
instance : AgIs Tryd.prog 126 := ⟨_, Tryd.underlying126, rfl⟩
instance : FldIs Tryd.prog 126 0 3 0 := ⟨_, _, Tryd.underlying126, rfl, rfl, rfl⟩
instance : FldIs Tryd.prog 126 1 3 1 := ⟨_, _, Tryd.underlying126, rfl, rfl, rfl⟩
instance : FldIs Tryd.prog 126 2 3 2 := ⟨_, _, Tryd.underlying126, rfl, rfl, rfl⟩
instance : FldIs Tryd.prog 126 3 3 3 := ⟨_, _, Tryd.underlying126, rfl, rfl, rfl⟩
instance : FldIs Tryd.prog 126 4 3 4 := ⟨_, _, Tryd.underlying126, rfl, rfl, rfl⟩
instance : FldIs Tryd.prog 126 5 3 5 := ⟨_, _, Tryd.underlying126, rfl, rfl, rfl⟩
instance : FldIs Tryd.prog 126 6 25 6 := ⟨_, _, Tryd.underlying126, rfl, rfl, rfl⟩
instance : SzIs Tryd.prog 126 9 := ⟨by kernel_rfl⟩
instance : ByIs Tryd.prog 126 88 := ⟨by kernel_rfl⟩
instance : BuIs Tryd.prog 126 [.int .i64 0, .int .i64 0, .int .i64 0, .int .i64 0, .int .i64 0, .int .i64 0, .slice none 0 0, .int .i64 0, .int .i64 0] [(0, 1), (1, 1), (2, 1), (3, 1), (4, 1), (5, 1), (6, 3)] := ⟨fun _ => by kernel_rfl⟩
instance : ZcIs Tryd.prog 126 [.int .i64 0, .int .i64 0, .int .i64 0, .int .i64 0, .int .i64 0, .int .i64 0, .slice none 0 0, .int .i64 0, .int .i64 0] := ⟨by kernel_rfl⟩
instance : UIs Tryd.prog 127 (.struct #[{ name := "Kind", type := 3, offset := 0, embedded := false, tag := "", pkgPath := "", byteOffset := 0 }, { name := "At", type := 3, offset := 1, embedded := false, tag := "", pkgPath := "", byteOffset := 8 }, { name := "N", type := 3, offset := 2, embedded := false, tag := "", pkgPath := "", byteOffset := 16 }, { name := "Version", type := 3, offset := 3, embedded := false, tag := "", pkgPath := "", byteOffset := 24 }, { name := "Size", type := 3, offset := 4, embedded := false, tag := "", pkgPath := "", byteOffset := 32 }, { name := "Fill", type := 3, offset := 5, embedded := false, tag := "", pkgPath := "", byteOffset := 40 }, { name := "F", type := 25, offset := 6, embedded := false, tag := "", pkgPath := "", byteOffset := 48 }]) := ⟨Tryd.underlying127⟩
instance : AgIs Tryd.prog 127 := ⟨_, Tryd.underlying127, rfl⟩
instance : FldIs Tryd.prog 127 0 3 0 := ⟨_, _, Tryd.underlying127, rfl, rfl, rfl⟩
instance : FldIs Tryd.prog 127 1 3 1 := ⟨_, _, Tryd.underlying127, rfl, rfl, rfl⟩
instance : FldIs Tryd.prog 127 2 3 2 := ⟨_, _, Tryd.underlying127, rfl, rfl, rfl⟩
instance : FldIs Tryd.prog 127 3 3 3 := ⟨_, _, Tryd.underlying127, rfl, rfl, rfl⟩
instance : FldIs Tryd.prog 127 4 3 4 := ⟨_, _, Tryd.underlying127, rfl, rfl, rfl⟩
instance : FldIs Tryd.prog 127 5 3 5 := ⟨_, _, Tryd.underlying127, rfl, rfl, rfl⟩
instance : FldIs Tryd.prog 127 6 25 6 := ⟨_, _, Tryd.underlying127, rfl, rfl, rfl⟩
instance : SzIs Tryd.prog 127 9 := ⟨by kernel_rfl⟩
instance : ByIs Tryd.prog 127 88 := ⟨by kernel_rfl⟩
instance : BuIs Tryd.prog 127 [.int .i64 0, .int .i64 0, .int .i64 0, .int .i64 0, .int .i64 0, .int .i64 0, .slice none 0 0, .int .i64 0, .int .i64 0] [(0, 1), (1, 1), (2, 1), (3, 1), (4, 1), (5, 1), (6, 3)] := ⟨fun _ => by kernel_rfl⟩
instance : ZcIs Tryd.prog 127 [.int .i64 0, .int .i64 0, .int .i64 0, .int .i64 0, .int .i64 0, .int .i64 0, .slice none 0 0, .int .i64 0, .int .i64 0] := ⟨by kernel_rfl⟩
instance : UIs Tryd.prog 128 (.func #[127] #[4] false) := ⟨Tryd.underlying128⟩
instance : ScIs Tryd.prog 128 := ⟨_, Tryd.underlying128, rfl⟩
instance : SzIs Tryd.prog 128 1 := ⟨by kernel_rfl⟩
instance : ByIs Tryd.prog 128 8 := ⟨by kernel_rfl⟩
instance : ZcIs Tryd.prog 128 [.nilFunc] := ⟨by kernel_rfl⟩
instance : UIs Tryd.prog 129 (.func #[3, 121] #[4] false) := ⟨Tryd.underlying129⟩
instance : ScIs Tryd.prog 129 := ⟨_, Tryd.underlying129, rfl⟩
instance : SzIs Tryd.prog 129 1 := ⟨by kernel_rfl⟩
instance : ByIs Tryd.prog 129 8 := ⟨by kernel_rfl⟩
instance : ZcIs Tryd.prog 129 [.nilFunc] := ⟨by kernel_rfl⟩
instance : UIs Tryd.prog 130 (.slice 136) := ⟨Tryd.underlying130⟩
instance : ScIs Tryd.prog 130 := ⟨_, Tryd.underlying130, rfl⟩
instance : SzIs Tryd.prog 130 1 := ⟨by kernel_rfl⟩
instance : ByIs Tryd.prog 130 24 := ⟨by kernel_rfl⟩
instance : ZcIs Tryd.prog 130 [.slice none 0 0] := ⟨by kernel_rfl⟩
instance : UIs Tryd.prog 131 (.slice 138) := ⟨Tryd.underlying131⟩
instance : ScIs Tryd.prog 131 := ⟨_, Tryd.underlying131, rfl⟩
instance : SzIs Tryd.prog 131 1 := ⟨by kernel_rfl⟩
instance : ByIs Tryd.prog 131 24 := ⟨by kernel_rfl⟩
instance : ZcIs Tryd.prog 131 [.slice none 0 0] := ⟨by kernel_rfl⟩
instance : UIs Tryd.prog 132 (.map 3 3) := ⟨Tryd.underlying132⟩
instance : ScIs Tryd.prog 132 := ⟨_, Tryd.underlying132, rfl⟩
instance : SzIs Tryd.prog 132 1 := ⟨by kernel_rfl⟩
instance : ByIs Tryd.prog 132 8 := ⟨by kernel_rfl⟩
instance : ZcIs Tryd.prog 132 [.map none] := ⟨by kernel_rfl⟩
instance : UIs Tryd.prog 133 (.struct #[{ name := "durable", type := 130, offset := 0, embedded := false, tag := "", pkgPath := "remit/disk", byteOffset := 0 }, { name := "under", type := 131, offset := 1, embedded := false, tag := "", pkgPath := "remit/disk", byteOffset := 24 }, { name := "last", type := 132, offset := 2, embedded := false, tag := "", pkgPath := "remit/disk", byteOffset := 48 }, { name := "off", type := 4, offset := 3, embedded := false, tag := "", pkgPath := "remit/disk", byteOffset := 56 }, { name := "armed", type := 3, offset := 4, embedded := false, tag := "", pkgPath := "remit/disk", byteOffset := 64 }, { name := "writes", type := 3, offset := 5, embedded := false, tag := "", pkgPath := "remit/disk", byteOffset := 72 }, { name := "flushes", type := 3, offset := 6, embedded := false, tag := "", pkgPath := "remit/disk", byteOffset := 80 }, { name := "life", type := 3, offset := 7, embedded := false, tag := "", pkgPath := "remit/disk", byteOffset := 88 }]) := ⟨Tryd.underlying133⟩
instance : AgIs Tryd.prog 133 := ⟨_, Tryd.underlying133, rfl⟩
instance : FldIs Tryd.prog 133 0 130 0 := ⟨_, _, Tryd.underlying133, rfl, rfl, rfl⟩
instance : FldIs Tryd.prog 133 1 131 1 := ⟨_, _, Tryd.underlying133, rfl, rfl, rfl⟩
instance : FldIs Tryd.prog 133 2 132 2 := ⟨_, _, Tryd.underlying133, rfl, rfl, rfl⟩
instance : FldIs Tryd.prog 133 3 4 3 := ⟨_, _, Tryd.underlying133, rfl, rfl, rfl⟩
instance : FldIs Tryd.prog 133 4 3 4 := ⟨_, _, Tryd.underlying133, rfl, rfl, rfl⟩
instance : FldIs Tryd.prog 133 5 3 5 := ⟨_, _, Tryd.underlying133, rfl, rfl, rfl⟩
instance : FldIs Tryd.prog 133 6 3 6 := ⟨_, _, Tryd.underlying133, rfl, rfl, rfl⟩
instance : FldIs Tryd.prog 133 7 3 7 := ⟨_, _, Tryd.underlying133, rfl, rfl, rfl⟩
instance : SzIs Tryd.prog 133 8 := ⟨by kernel_rfl⟩
instance : ByIs Tryd.prog 133 96 := ⟨by kernel_rfl⟩
instance : BuIs Tryd.prog 133 [.slice none 0 0, .slice none 0 0, .map none, .bool false, .int .i64 0, .int .i64 0, .int .i64 0, .int .i64 0] [(0, 1), (1, 1), (2, 1), (3, 1), (4, 1), (5, 1), (6, 1), (7, 1)] := ⟨fun _ => by kernel_rfl⟩
instance : ZcIs Tryd.prog 133 [.slice none 0 0, .slice none 0 0, .map none, .bool false, .int .i64 0, .int .i64 0, .int .i64 0, .int .i64 0] := ⟨by kernel_rfl⟩
instance : UIs Tryd.prog 134 (.struct #[{ name := "durable", type := 130, offset := 0, embedded := false, tag := "", pkgPath := "remit/disk", byteOffset := 0 }, { name := "under", type := 131, offset := 1, embedded := false, tag := "", pkgPath := "remit/disk", byteOffset := 24 }, { name := "last", type := 132, offset := 2, embedded := false, tag := "", pkgPath := "remit/disk", byteOffset := 48 }, { name := "off", type := 4, offset := 3, embedded := false, tag := "", pkgPath := "remit/disk", byteOffset := 56 }, { name := "armed", type := 3, offset := 4, embedded := false, tag := "", pkgPath := "remit/disk", byteOffset := 64 }, { name := "writes", type := 3, offset := 5, embedded := false, tag := "", pkgPath := "remit/disk", byteOffset := 72 }, { name := "flushes", type := 3, offset := 6, embedded := false, tag := "", pkgPath := "remit/disk", byteOffset := 80 }, { name := "life", type := 3, offset := 7, embedded := false, tag := "", pkgPath := "remit/disk", byteOffset := 88 }]) := ⟨Tryd.underlying134⟩
instance : AgIs Tryd.prog 134 := ⟨_, Tryd.underlying134, rfl⟩
instance : FldIs Tryd.prog 134 0 130 0 := ⟨_, _, Tryd.underlying134, rfl, rfl, rfl⟩
instance : FldIs Tryd.prog 134 1 131 1 := ⟨_, _, Tryd.underlying134, rfl, rfl, rfl⟩
instance : FldIs Tryd.prog 134 2 132 2 := ⟨_, _, Tryd.underlying134, rfl, rfl, rfl⟩
instance : FldIs Tryd.prog 134 3 4 3 := ⟨_, _, Tryd.underlying134, rfl, rfl, rfl⟩
instance : FldIs Tryd.prog 134 4 3 4 := ⟨_, _, Tryd.underlying134, rfl, rfl, rfl⟩
instance : FldIs Tryd.prog 134 5 3 5 := ⟨_, _, Tryd.underlying134, rfl, rfl, rfl⟩
instance : FldIs Tryd.prog 134 6 3 6 := ⟨_, _, Tryd.underlying134, rfl, rfl, rfl⟩
instance : FldIs Tryd.prog 134 7 3 7 := ⟨_, _, Tryd.underlying134, rfl, rfl, rfl⟩
instance : SzIs Tryd.prog 134 8 := ⟨by kernel_rfl⟩
instance : ByIs Tryd.prog 134 96 := ⟨by kernel_rfl⟩
instance : BuIs Tryd.prog 134 [.slice none 0 0, .slice none 0 0, .map none, .bool false, .int .i64 0, .int .i64 0, .int .i64 0, .int .i64 0] [(0, 1), (1, 1), (2, 1), (3, 1), (4, 1), (5, 1), (6, 1), (7, 1)] := ⟨fun _ => by kernel_rfl⟩
instance : ZcIs Tryd.prog 134 [.slice none 0 0, .slice none 0 0, .map none, .bool false, .int .i64 0, .int .i64 0, .int .i64 0, .int .i64 0] := ⟨by kernel_rfl⟩
instance : UIs Tryd.prog 135 (.array 256 5) := ⟨Tryd.underlying135⟩
instance : AgIs Tryd.prog 135 := ⟨_, Tryd.underlying135, rfl⟩
instance : SzIs Tryd.prog 135 256 := ⟨by kernel_rfl⟩
instance : ByIs Tryd.prog 135 256 := ⟨by kernel_rfl⟩
instance : UIs Tryd.prog 136 (.array 256 5) := ⟨Tryd.underlying136⟩
instance : AgIs Tryd.prog 136 := ⟨_, Tryd.underlying136, rfl⟩
instance : SzIs Tryd.prog 136 256 := ⟨by kernel_rfl⟩
instance : ByIs Tryd.prog 136 256 := ⟨by kernel_rfl⟩
instance : UIs Tryd.prog 137 (.struct #[{ name := "at", type := 3, offset := 0, embedded := false, tag := "", pkgPath := "remit/disk", byteOffset := 0 }, { name := "bytes", type := 136, offset := 1, embedded := false, tag := "", pkgPath := "remit/disk", byteOffset := 8 }]) := ⟨Tryd.underlying137⟩
instance : AgIs Tryd.prog 137 := ⟨_, Tryd.underlying137, rfl⟩
instance : FldIs Tryd.prog 137 0 3 0 := ⟨_, _, Tryd.underlying137, rfl, rfl, rfl⟩
instance : FldIs Tryd.prog 137 1 136 1 := ⟨_, _, Tryd.underlying137, rfl, rfl, rfl⟩
instance : SzIs Tryd.prog 137 257 := ⟨by kernel_rfl⟩
instance : ByIs Tryd.prog 137 264 := ⟨by kernel_rfl⟩
instance : UIs Tryd.prog 138 (.struct #[{ name := "at", type := 3, offset := 0, embedded := false, tag := "", pkgPath := "remit/disk", byteOffset := 0 }, { name := "bytes", type := 136, offset := 1, embedded := false, tag := "", pkgPath := "remit/disk", byteOffset := 8 }]) := ⟨Tryd.underlying138⟩
instance : AgIs Tryd.prog 138 := ⟨_, Tryd.underlying138, rfl⟩
instance : FldIs Tryd.prog 138 0 3 0 := ⟨_, _, Tryd.underlying138, rfl, rfl, rfl⟩
instance : FldIs Tryd.prog 138 1 136 1 := ⟨_, _, Tryd.underlying138, rfl, rfl, rfl⟩
instance : SzIs Tryd.prog 138 257 := ⟨by kernel_rfl⟩
instance : ByIs Tryd.prog 138 264 := ⟨by kernel_rfl⟩
instance : UIs Tryd.prog 140 (.func #[3] #[27] false) := ⟨Tryd.underlying140⟩
instance : ScIs Tryd.prog 140 := ⟨_, Tryd.underlying140, rfl⟩
instance : SzIs Tryd.prog 140 1 := ⟨by kernel_rfl⟩
instance : ByIs Tryd.prog 140 8 := ⟨by kernel_rfl⟩
instance : ZcIs Tryd.prog 140 [.nilFunc] := ⟨by kernel_rfl⟩
instance : UIs Tryd.prog 141 (.array 37 31) := ⟨Tryd.underlying141⟩
instance : AgIs Tryd.prog 141 := ⟨_, Tryd.underlying141, rfl⟩
instance : SzIs Tryd.prog 141 37 := ⟨by kernel_rfl⟩
instance : ByIs Tryd.prog 141 592 := ⟨by kernel_rfl⟩
instance : ZcIs Tryd.prog 141 [.nilIface, .nilIface, .nilIface, .nilIface, .nilIface, .nilIface, .nilIface, .nilIface, .nilIface, .nilIface, .nilIface, .nilIface, .nilIface, .nilIface, .nilIface, .nilIface, .nilIface, .nilIface, .nilIface, .nilIface, .nilIface, .nilIface, .nilIface, .nilIface, .nilIface, .nilIface, .nilIface, .nilIface, .nilIface, .nilIface, .nilIface, .nilIface, .nilIface, .nilIface, .nilIface, .nilIface, .nilIface] := ⟨by kernel_rfl⟩
instance : UIs Tryd.prog 142 (.func #[] #[141] false) := ⟨Tryd.underlying142⟩
instance : ScIs Tryd.prog 142 := ⟨_, Tryd.underlying142, rfl⟩
instance : SzIs Tryd.prog 142 1 := ⟨by kernel_rfl⟩
instance : ByIs Tryd.prog 142 8 := ⟨by kernel_rfl⟩
instance : ZcIs Tryd.prog 142 [.nilFunc] := ⟨by kernel_rfl⟩
instance : UIs Tryd.prog 143 (.func #[27, 51, 43] #[4] false) := ⟨Tryd.underlying143⟩
instance : ScIs Tryd.prog 143 := ⟨_, Tryd.underlying143, rfl⟩
instance : SzIs Tryd.prog 143 1 := ⟨by kernel_rfl⟩
instance : ByIs Tryd.prog 143 8 := ⟨by kernel_rfl⟩
instance : ZcIs Tryd.prog 143 [.nilFunc] := ⟨by kernel_rfl⟩
instance : UIs Tryd.prog 144 (.func #[27, 3] #[4] false) := ⟨Tryd.underlying144⟩
instance : ScIs Tryd.prog 144 := ⟨_, Tryd.underlying144, rfl⟩
instance : SzIs Tryd.prog 144 1 := ⟨by kernel_rfl⟩
instance : ByIs Tryd.prog 144 8 := ⟨by kernel_rfl⟩
instance : ZcIs Tryd.prog 144 [.nilFunc] := ⟨by kernel_rfl⟩
instance : UIs Tryd.prog 145 (.func #[79, 9] #[9, 31] false) := ⟨Tryd.underlying145⟩
instance : ScIs Tryd.prog 145 := ⟨_, Tryd.underlying145, rfl⟩
instance : SzIs Tryd.prog 145 1 := ⟨by kernel_rfl⟩
instance : ByIs Tryd.prog 145 8 := ⟨by kernel_rfl⟩
instance : ZcIs Tryd.prog 145 [.nilFunc] := ⟨by kernel_rfl⟩
instance : UIs Tryd.prog 147 (.func #[9, 3] #[3, 9] false) := ⟨Tryd.underlying147⟩
instance : ScIs Tryd.prog 147 := ⟨_, Tryd.underlying147, rfl⟩
instance : SzIs Tryd.prog 147 1 := ⟨by kernel_rfl⟩
instance : ByIs Tryd.prog 147 8 := ⟨by kernel_rfl⟩
instance : ZcIs Tryd.prog 147 [.nilFunc] := ⟨by kernel_rfl⟩
instance : UIs Tryd.prog 148 (.func #[9, 3] #[9, 3] false) := ⟨Tryd.underlying148⟩
instance : ScIs Tryd.prog 148 := ⟨_, Tryd.underlying148, rfl⟩
instance : SzIs Tryd.prog 148 1 := ⟨by kernel_rfl⟩
instance : ByIs Tryd.prog 148 8 := ⟨by kernel_rfl⟩
instance : ZcIs Tryd.prog 148 [.nilFunc] := ⟨by kernel_rfl⟩
instance : UIs Tryd.prog 149 (.func #[27, 3, 3] #[4] false) := ⟨Tryd.underlying149⟩
instance : ScIs Tryd.prog 149 := ⟨_, Tryd.underlying149, rfl⟩
instance : SzIs Tryd.prog 149 1 := ⟨by kernel_rfl⟩
instance : ByIs Tryd.prog 149 8 := ⟨by kernel_rfl⟩
instance : ZcIs Tryd.prog 149 [.nilFunc] := ⟨by kernel_rfl⟩
instance : UIs Tryd.prog 150 (.pointer 152) := ⟨Tryd.underlying150⟩
instance : ScIs Tryd.prog 150 := ⟨_, Tryd.underlying150, rfl⟩
instance : SzIs Tryd.prog 150 1 := ⟨by kernel_rfl⟩
instance : ByIs Tryd.prog 150 8 := ⟨by kernel_rfl⟩
instance : ZcIs Tryd.prog 150 [.pointer none] := ⟨by kernel_rfl⟩
instance : UIs Tryd.prog 151 (.struct #[{ name := "addr", type := 150, offset := 0, embedded := false, tag := "", pkgPath := "strings", byteOffset := 0 }, { name := "buf", type := 112, offset := 1, embedded := false, tag := "", pkgPath := "strings", byteOffset := 8 }]) := ⟨Tryd.underlying151⟩
instance : AgIs Tryd.prog 151 := ⟨_, Tryd.underlying151, rfl⟩
instance : FldIs Tryd.prog 151 0 150 0 := ⟨_, _, Tryd.underlying151, rfl, rfl, rfl⟩
instance : FldIs Tryd.prog 151 1 112 1 := ⟨_, _, Tryd.underlying151, rfl, rfl, rfl⟩
instance : SzIs Tryd.prog 151 2 := ⟨by kernel_rfl⟩
instance : ByIs Tryd.prog 151 32 := ⟨by kernel_rfl⟩
instance : BuIs Tryd.prog 151 [.pointer none, .slice none 0 0] [(0, 1), (1, 1)] := ⟨fun _ => by kernel_rfl⟩
instance : ZcIs Tryd.prog 151 [.pointer none, .slice none 0 0] := ⟨by kernel_rfl⟩
instance : UIs Tryd.prog 152 (.struct #[{ name := "addr", type := 150, offset := 0, embedded := false, tag := "", pkgPath := "strings", byteOffset := 0 }, { name := "buf", type := 112, offset := 1, embedded := false, tag := "", pkgPath := "strings", byteOffset := 8 }]) := ⟨Tryd.underlying152⟩
instance : AgIs Tryd.prog 152 := ⟨_, Tryd.underlying152, rfl⟩
instance : FldIs Tryd.prog 152 0 150 0 := ⟨_, _, Tryd.underlying152, rfl, rfl, rfl⟩
instance : FldIs Tryd.prog 152 1 112 1 := ⟨_, _, Tryd.underlying152, rfl, rfl, rfl⟩
instance : SzIs Tryd.prog 152 2 := ⟨by kernel_rfl⟩
instance : ByIs Tryd.prog 152 32 := ⟨by kernel_rfl⟩
instance : BuIs Tryd.prog 152 [.pointer none, .slice none 0 0] [(0, 1), (1, 1)] := ⟨fun _ => by kernel_rfl⟩
instance : ZcIs Tryd.prog 152 [.pointer none, .slice none 0 0] := ⟨by kernel_rfl⟩
instance : UIs Tryd.prog 154 (.func #[79, 9] #[9, 4] false) := ⟨Tryd.underlying154⟩
instance : ScIs Tryd.prog 154 := ⟨_, Tryd.underlying154, rfl⟩
instance : SzIs Tryd.prog 154 1 := ⟨by kernel_rfl⟩
instance : ByIs Tryd.prog 154 8 := ⟨by kernel_rfl⟩
instance : ZcIs Tryd.prog 154 [.nilFunc] := ⟨by kernel_rfl⟩
instance : UIs Tryd.prog 156 (.func #[9] #[3, 31] false) := ⟨Tryd.underlying156⟩
instance : ScIs Tryd.prog 156 := ⟨_, Tryd.underlying156, rfl⟩
instance : SzIs Tryd.prog 156 1 := ⟨by kernel_rfl⟩
instance : ByIs Tryd.prog 156 8 := ⟨by kernel_rfl⟩
instance : ZcIs Tryd.prog 156 [.nilFunc] := ⟨by kernel_rfl⟩
instance : UIs Tryd.prog 157 (.func #[79, 9] #[9, 3] false) := ⟨Tryd.underlying157⟩
instance : ScIs Tryd.prog 157 := ⟨_, Tryd.underlying157, rfl⟩
instance : SzIs Tryd.prog 157 1 := ⟨by kernel_rfl⟩
instance : ByIs Tryd.prog 157 8 := ⟨by kernel_rfl⟩
instance : ZcIs Tryd.prog 157 [.nilFunc] := ⟨by kernel_rfl⟩
instance : UIs Tryd.prog 158 (.func #[51, 3, 3, 79, 9] #[3] false) := ⟨Tryd.underlying158⟩
instance : ScIs Tryd.prog 158 := ⟨_, Tryd.underlying158, rfl⟩
instance : SzIs Tryd.prog 158 1 := ⟨by kernel_rfl⟩
instance : ByIs Tryd.prog 158 8 := ⟨by kernel_rfl⟩
instance : ZcIs Tryd.prog 158 [.nilFunc] := ⟨by kernel_rfl⟩
instance : UIs Tryd.prog 159 (.func #[51, 3, 3, 79, 3] #[9, 3] false) := ⟨Tryd.underlying159⟩
instance : ScIs Tryd.prog 159 := ⟨_, Tryd.underlying159, rfl⟩
instance : SzIs Tryd.prog 159 1 := ⟨by kernel_rfl⟩
instance : ByIs Tryd.prog 159 8 := ⟨by kernel_rfl⟩
instance : ZcIs Tryd.prog 159 [.nilFunc] := ⟨by kernel_rfl⟩
instance : UIs Tryd.prog 160 (.func #[3] #[9, 3] false) := ⟨Tryd.underlying160⟩
instance : ScIs Tryd.prog 160 := ⟨_, Tryd.underlying160, rfl⟩
instance : SzIs Tryd.prog 160 1 := ⟨by kernel_rfl⟩
instance : ByIs Tryd.prog 160 8 := ⟨by kernel_rfl⟩
instance : ZcIs Tryd.prog 160 [.nilFunc] := ⟨by kernel_rfl⟩
instance : UIs Tryd.prog 161 (.func #[3, 9] #[3] false) := ⟨Tryd.underlying161⟩
instance : ScIs Tryd.prog 161 := ⟨_, Tryd.underlying161, rfl⟩
instance : SzIs Tryd.prog 161 1 := ⟨by kernel_rfl⟩
instance : ByIs Tryd.prog 161 8 := ⟨by kernel_rfl⟩
instance : ZcIs Tryd.prog 161 [.nilFunc] := ⟨by kernel_rfl⟩
instance : UIs Tryd.prog 162 (.struct #[{ name := "d", type := 27, offset := 0, embedded := false, tag := "", pkgPath := "remit/journal", byteOffset := 0 }, { name := "at", type := 3, offset := 1, embedded := false, tag := "", pkgPath := "remit/journal", byteOffset := 8 }, { name := "n", type := 3, offset := 2, embedded := false, tag := "", pkgPath := "remit/journal", byteOffset := 16 }, { name := "version", type := 3, offset := 3, embedded := false, tag := "", pkgPath := "remit/journal", byteOffset := 24 }]) := ⟨Tryd.underlying162⟩
instance : AgIs Tryd.prog 162 := ⟨_, Tryd.underlying162, rfl⟩
instance : FldIs Tryd.prog 162 0 27 0 := ⟨_, _, Tryd.underlying162, rfl, rfl, rfl⟩
instance : FldIs Tryd.prog 162 1 3 1 := ⟨_, _, Tryd.underlying162, rfl, rfl, rfl⟩
instance : FldIs Tryd.prog 162 2 3 2 := ⟨_, _, Tryd.underlying162, rfl, rfl, rfl⟩
instance : FldIs Tryd.prog 162 3 3 3 := ⟨_, _, Tryd.underlying162, rfl, rfl, rfl⟩
instance : SzIs Tryd.prog 162 4 := ⟨by kernel_rfl⟩
instance : ByIs Tryd.prog 162 32 := ⟨by kernel_rfl⟩
instance : BuIs Tryd.prog 162 [.pointer none, .int .i64 0, .int .i64 0, .int .i64 0] [(0, 1), (1, 1), (2, 1), (3, 1)] := ⟨fun _ => by kernel_rfl⟩
instance : ZcIs Tryd.prog 162 [.pointer none, .int .i64 0, .int .i64 0, .int .i64 0] := ⟨by kernel_rfl⟩
instance : UIs Tryd.prog 163 (.struct #[{ name := "d", type := 27, offset := 0, embedded := false, tag := "", pkgPath := "remit/journal", byteOffset := 0 }, { name := "at", type := 3, offset := 1, embedded := false, tag := "", pkgPath := "remit/journal", byteOffset := 8 }, { name := "n", type := 3, offset := 2, embedded := false, tag := "", pkgPath := "remit/journal", byteOffset := 16 }, { name := "version", type := 3, offset := 3, embedded := false, tag := "", pkgPath := "remit/journal", byteOffset := 24 }]) := ⟨Tryd.underlying163⟩
instance : AgIs Tryd.prog 163 := ⟨_, Tryd.underlying163, rfl⟩
instance : FldIs Tryd.prog 163 0 27 0 := ⟨_, _, Tryd.underlying163, rfl, rfl, rfl⟩
instance : FldIs Tryd.prog 163 1 3 1 := ⟨_, _, Tryd.underlying163, rfl, rfl, rfl⟩
instance : FldIs Tryd.prog 163 2 3 2 := ⟨_, _, Tryd.underlying163, rfl, rfl, rfl⟩
instance : FldIs Tryd.prog 163 3 3 3 := ⟨_, _, Tryd.underlying163, rfl, rfl, rfl⟩
instance : SzIs Tryd.prog 163 4 := ⟨by kernel_rfl⟩
instance : ByIs Tryd.prog 163 32 := ⟨by kernel_rfl⟩
instance : BuIs Tryd.prog 163 [.pointer none, .int .i64 0, .int .i64 0, .int .i64 0] [(0, 1), (1, 1), (2, 1), (3, 1)] := ⟨fun _ => by kernel_rfl⟩
instance : ZcIs Tryd.prog 163 [.pointer none, .int .i64 0, .int .i64 0, .int .i64 0] := ⟨by kernel_rfl⟩
instance : UIs Tryd.prog 164 (.struct #[{ name := "log", type := 163, offset := 0, embedded := true, tag := "", pkgPath := "remit/journal", byteOffset := 0 }, { name := "used", type := 3, offset := 4, embedded := false, tag := "", pkgPath := "remit/journal", byteOffset := 32 }, { name := "life", type := 3, offset := 5, embedded := false, tag := "", pkgPath := "remit/journal", byteOffset := 40 }, { name := "dead", type := 4, offset := 6, embedded := false, tag := "", pkgPath := "remit/journal", byteOffset := 48 }]) := ⟨Tryd.underlying164⟩
instance : AgIs Tryd.prog 164 := ⟨_, Tryd.underlying164, rfl⟩
instance : FldIs Tryd.prog 164 0 163 0 := ⟨_, _, Tryd.underlying164, rfl, rfl, rfl⟩
instance : FldIs Tryd.prog 164 1 3 4 := ⟨_, _, Tryd.underlying164, rfl, rfl, rfl⟩
instance : FldIs Tryd.prog 164 2 3 5 := ⟨_, _, Tryd.underlying164, rfl, rfl, rfl⟩
instance : FldIs Tryd.prog 164 3 4 6 := ⟨_, _, Tryd.underlying164, rfl, rfl, rfl⟩
instance : SzIs Tryd.prog 164 7 := ⟨by kernel_rfl⟩
instance : ByIs Tryd.prog 164 56 := ⟨by kernel_rfl⟩
instance : BuIs Tryd.prog 164 [.pointer none, .int .i64 0, .int .i64 0, .int .i64 0, .int .i64 0, .int .i64 0, .bool false] [(0, 4), (4, 1), (5, 1), (6, 1)] := ⟨fun _ => by kernel_rfl⟩
instance : ZcIs Tryd.prog 164 [.pointer none, .int .i64 0, .int .i64 0, .int .i64 0, .int .i64 0, .int .i64 0, .bool false] := ⟨by kernel_rfl⟩
instance : UIs Tryd.prog 165 (.struct #[{ name := "log", type := 163, offset := 0, embedded := true, tag := "", pkgPath := "remit/journal", byteOffset := 0 }, { name := "used", type := 3, offset := 4, embedded := false, tag := "", pkgPath := "remit/journal", byteOffset := 32 }, { name := "life", type := 3, offset := 5, embedded := false, tag := "", pkgPath := "remit/journal", byteOffset := 40 }, { name := "dead", type := 4, offset := 6, embedded := false, tag := "", pkgPath := "remit/journal", byteOffset := 48 }]) := ⟨Tryd.underlying165⟩
instance : AgIs Tryd.prog 165 := ⟨_, Tryd.underlying165, rfl⟩
instance : FldIs Tryd.prog 165 0 163 0 := ⟨_, _, Tryd.underlying165, rfl, rfl, rfl⟩
instance : FldIs Tryd.prog 165 1 3 4 := ⟨_, _, Tryd.underlying165, rfl, rfl, rfl⟩
instance : FldIs Tryd.prog 165 2 3 5 := ⟨_, _, Tryd.underlying165, rfl, rfl, rfl⟩
instance : FldIs Tryd.prog 165 3 4 6 := ⟨_, _, Tryd.underlying165, rfl, rfl, rfl⟩
instance : SzIs Tryd.prog 165 7 := ⟨by kernel_rfl⟩
instance : ByIs Tryd.prog 165 56 := ⟨by kernel_rfl⟩
instance : BuIs Tryd.prog 165 [.pointer none, .int .i64 0, .int .i64 0, .int .i64 0, .int .i64 0, .int .i64 0, .bool false] [(0, 4), (4, 1), (5, 1), (6, 1)] := ⟨fun _ => by kernel_rfl⟩
instance : ZcIs Tryd.prog 165 [.pointer none, .int .i64 0, .int .i64 0, .int .i64 0, .int .i64 0, .int .i64 0, .bool false] := ⟨by kernel_rfl⟩
instance : UIs Tryd.prog 166 (.func #[9] #[47] false) := ⟨Tryd.underlying166⟩
instance : ScIs Tryd.prog 166 := ⟨_, Tryd.underlying166, rfl⟩
instance : SzIs Tryd.prog 166 1 := ⟨by kernel_rfl⟩
instance : ByIs Tryd.prog 166 8 := ⟨by kernel_rfl⟩
instance : ZcIs Tryd.prog 166 [.nilFunc] := ⟨by kernel_rfl⟩
instance : UIs Tryd.prog 168 (.func #[3, 3] #[79, 31] false) := ⟨Tryd.underlying168⟩
instance : ScIs Tryd.prog 168 := ⟨_, Tryd.underlying168, rfl⟩
instance : SzIs Tryd.prog 168 1 := ⟨by kernel_rfl⟩
instance : ByIs Tryd.prog 168 8 := ⟨by kernel_rfl⟩
instance : ZcIs Tryd.prog 168 [.nilFunc] := ⟨by kernel_rfl⟩
instance : UIs Tryd.prog 170 (.func #[3] #[9, 3, 4] false) := ⟨Tryd.underlying170⟩
instance : ScIs Tryd.prog 170 := ⟨_, Tryd.underlying170, rfl⟩
instance : SzIs Tryd.prog 170 1 := ⟨by kernel_rfl⟩
instance : ByIs Tryd.prog 170 8 := ⟨by kernel_rfl⟩
instance : ZcIs Tryd.prog 170 [.nilFunc] := ⟨by kernel_rfl⟩
instance : UIs Tryd.prog 171 (.func #[3, 9] #[4] false) := ⟨Tryd.underlying171⟩
instance : ScIs Tryd.prog 171 := ⟨_, Tryd.underlying171, rfl⟩
instance : SzIs Tryd.prog 171 1 := ⟨by kernel_rfl⟩
instance : ByIs Tryd.prog 171 8 := ⟨by kernel_rfl⟩
instance : ZcIs Tryd.prog 171 [.nilFunc] := ⟨by kernel_rfl⟩
instance : UIs Tryd.prog 173 (.func #[51, 3, 3, 3] #[47, 3] false) := ⟨Tryd.underlying173⟩
instance : ScIs Tryd.prog 173 := ⟨_, Tryd.underlying173, rfl⟩
instance : SzIs Tryd.prog 173 1 := ⟨by kernel_rfl⟩
instance : ByIs Tryd.prog 173 8 := ⟨by kernel_rfl⟩
instance : ZcIs Tryd.prog 173 [.nilFunc] := ⟨by kernel_rfl⟩
instance : UIs Tryd.prog 175 (.func #[27, 3, 3, 3] #[47, 4] false) := ⟨Tryd.underlying175⟩
instance : ScIs Tryd.prog 175 := ⟨_, Tryd.underlying175, rfl⟩
instance : SzIs Tryd.prog 175 1 := ⟨by kernel_rfl⟩
instance : ByIs Tryd.prog 175 8 := ⟨by kernel_rfl⟩
instance : ZcIs Tryd.prog 175 [.nilFunc] := ⟨by kernel_rfl⟩
instance : UIs Tryd.prog 177 (.func #[51, 3, 3, 3] #[123, 3] false) := ⟨Tryd.underlying177⟩
instance : ScIs Tryd.prog 177 := ⟨_, Tryd.underlying177, rfl⟩
instance : SzIs Tryd.prog 177 1 := ⟨by kernel_rfl⟩
instance : ByIs Tryd.prog 177 8 := ⟨by kernel_rfl⟩
instance : ZcIs Tryd.prog 177 [.nilFunc] := ⟨by kernel_rfl⟩
instance : UIs Tryd.prog 178 (.func #[9] #[3] false) := ⟨Tryd.underlying178⟩
instance : ScIs Tryd.prog 178 := ⟨_, Tryd.underlying178, rfl⟩
instance : SzIs Tryd.prog 178 1 := ⟨by kernel_rfl⟩
instance : ByIs Tryd.prog 178 8 := ⟨by kernel_rfl⟩
instance : ZcIs Tryd.prog 178 [.nilFunc] := ⟨by kernel_rfl⟩
instance : UIs Tryd.prog 179 (.struct #[{ name := "D", type := 51, offset := 0, embedded := false, tag := "", pkgPath := "", byteOffset := 0 }, { name := "At", type := 3, offset := 1, embedded := false, tag := "", pkgPath := "", byteOffset := 8 }, { name := "N", type := 3, offset := 2, embedded := false, tag := "", pkgPath := "", byteOffset := 16 }, { name := "Version", type := 3, offset := 3, embedded := false, tag := "", pkgPath := "", byteOffset := 24 }, { name := "Used", type := 3, offset := 4, embedded := false, tag := "", pkgPath := "", byteOffset := 32 }, { name := "Dead", type := 4, offset := 5, embedded := false, tag := "", pkgPath := "", byteOffset := 40 }, { name := "Life", type := 3, offset := 6, embedded := false, tag := "", pkgPath := "", byteOffset := 48 }]) := ⟨Tryd.underlying179⟩
instance : AgIs Tryd.prog 179 := ⟨_, Tryd.underlying179, rfl⟩
instance : FldIs Tryd.prog 179 0 51 0 := ⟨_, _, Tryd.underlying179, rfl, rfl, rfl⟩
instance : FldIs Tryd.prog 179 1 3 1 := ⟨_, _, Tryd.underlying179, rfl, rfl, rfl⟩
instance : FldIs Tryd.prog 179 2 3 2 := ⟨_, _, Tryd.underlying179, rfl, rfl, rfl⟩
instance : FldIs Tryd.prog 179 3 3 3 := ⟨_, _, Tryd.underlying179, rfl, rfl, rfl⟩
instance : FldIs Tryd.prog 179 4 3 4 := ⟨_, _, Tryd.underlying179, rfl, rfl, rfl⟩
instance : FldIs Tryd.prog 179 5 4 5 := ⟨_, _, Tryd.underlying179, rfl, rfl, rfl⟩
instance : FldIs Tryd.prog 179 6 3 6 := ⟨_, _, Tryd.underlying179, rfl, rfl, rfl⟩
instance : SzIs Tryd.prog 179 7 := ⟨by kernel_rfl⟩
instance : ByIs Tryd.prog 179 56 := ⟨by kernel_rfl⟩
instance : BuIs Tryd.prog 179 [.pointer none, .int .i64 0, .int .i64 0, .int .i64 0, .int .i64 0, .bool false, .int .i64 0] [(0, 1), (1, 1), (2, 1), (3, 1), (4, 1), (5, 1), (6, 1)] := ⟨fun _ => by kernel_rfl⟩
instance : ZcIs Tryd.prog 179 [.pointer none, .int .i64 0, .int .i64 0, .int .i64 0, .int .i64 0, .bool false, .int .i64 0] := ⟨by kernel_rfl⟩
instance : UIs Tryd.prog 180 (.struct #[{ name := "D", type := 51, offset := 0, embedded := false, tag := "", pkgPath := "", byteOffset := 0 }, { name := "At", type := 3, offset := 1, embedded := false, tag := "", pkgPath := "", byteOffset := 8 }, { name := "N", type := 3, offset := 2, embedded := false, tag := "", pkgPath := "", byteOffset := 16 }, { name := "Version", type := 3, offset := 3, embedded := false, tag := "", pkgPath := "", byteOffset := 24 }, { name := "Used", type := 3, offset := 4, embedded := false, tag := "", pkgPath := "", byteOffset := 32 }, { name := "Dead", type := 4, offset := 5, embedded := false, tag := "", pkgPath := "", byteOffset := 40 }, { name := "Life", type := 3, offset := 6, embedded := false, tag := "", pkgPath := "", byteOffset := 48 }]) := ⟨Tryd.underlying180⟩
instance : AgIs Tryd.prog 180 := ⟨_, Tryd.underlying180, rfl⟩
instance : FldIs Tryd.prog 180 0 51 0 := ⟨_, _, Tryd.underlying180, rfl, rfl, rfl⟩
instance : FldIs Tryd.prog 180 1 3 1 := ⟨_, _, Tryd.underlying180, rfl, rfl, rfl⟩
instance : FldIs Tryd.prog 180 2 3 2 := ⟨_, _, Tryd.underlying180, rfl, rfl, rfl⟩
instance : FldIs Tryd.prog 180 3 3 3 := ⟨_, _, Tryd.underlying180, rfl, rfl, rfl⟩
instance : FldIs Tryd.prog 180 4 3 4 := ⟨_, _, Tryd.underlying180, rfl, rfl, rfl⟩
instance : FldIs Tryd.prog 180 5 4 5 := ⟨_, _, Tryd.underlying180, rfl, rfl, rfl⟩
instance : FldIs Tryd.prog 180 6 3 6 := ⟨_, _, Tryd.underlying180, rfl, rfl, rfl⟩
instance : SzIs Tryd.prog 180 7 := ⟨by kernel_rfl⟩
instance : ByIs Tryd.prog 180 56 := ⟨by kernel_rfl⟩
instance : BuIs Tryd.prog 180 [.pointer none, .int .i64 0, .int .i64 0, .int .i64 0, .int .i64 0, .bool false, .int .i64 0] [(0, 1), (1, 1), (2, 1), (3, 1), (4, 1), (5, 1), (6, 1)] := ⟨fun _ => by kernel_rfl⟩
instance : ZcIs Tryd.prog 180 [.pointer none, .int .i64 0, .int .i64 0, .int .i64 0, .int .i64 0, .bool false, .int .i64 0] := ⟨by kernel_rfl⟩
instance : UIs Tryd.prog 181 (.func #[112, 79, 3] #[] false) := ⟨Tryd.underlying181⟩
instance : ScIs Tryd.prog 181 := ⟨_, Tryd.underlying181, rfl⟩
instance : SzIs Tryd.prog 181 1 := ⟨by kernel_rfl⟩
instance : ByIs Tryd.prog 181 8 := ⟨by kernel_rfl⟩
instance : ZcIs Tryd.prog 181 [.nilFunc] := ⟨by kernel_rfl⟩
instance : UIs Tryd.prog 182 (.int .u32) := ⟨Tryd.underlying182⟩
instance : ScIs Tryd.prog 182 := ⟨_, Tryd.underlying182, rfl⟩
instance : SzIs Tryd.prog 182 1 := ⟨by kernel_rfl⟩
instance : ByIs Tryd.prog 182 4 := ⟨by kernel_rfl⟩
instance : ZcIs Tryd.prog 182 [.int .u32 0] := ⟨by kernel_rfl⟩
instance : UIs Tryd.prog 183 (.func #[9] #[182] false) := ⟨Tryd.underlying183⟩
instance : ScIs Tryd.prog 183 := ⟨_, Tryd.underlying183, rfl⟩
instance : SzIs Tryd.prog 183 1 := ⟨by kernel_rfl⟩
instance : ByIs Tryd.prog 183 8 := ⟨by kernel_rfl⟩
instance : ZcIs Tryd.prog 183 [.nilFunc] := ⟨by kernel_rfl⟩
instance : UIs Tryd.prog 185 (.func #[9] #[79, 79, 31] false) := ⟨Tryd.underlying185⟩
instance : ScIs Tryd.prog 185 := ⟨_, Tryd.underlying185, rfl⟩
instance : SzIs Tryd.prog 185 1 := ⟨by kernel_rfl⟩
instance : ByIs Tryd.prog 185 8 := ⟨by kernel_rfl⟩
instance : ZcIs Tryd.prog 185 [.nilFunc] := ⟨by kernel_rfl⟩
instance : UIs Tryd.prog 187 (.func #[9] #[79, 79, 3] false) := ⟨Tryd.underlying187⟩
instance : ScIs Tryd.prog 187 := ⟨_, Tryd.underlying187, rfl⟩
instance : SzIs Tryd.prog 187 1 := ⟨by kernel_rfl⟩
instance : ByIs Tryd.prog 187 8 := ⟨by kernel_rfl⟩
instance : ZcIs Tryd.prog 187 [.nilFunc] := ⟨by kernel_rfl⟩
instance : UIs Tryd.prog 188 (.func #[9, 3] #[79] false) := ⟨Tryd.underlying188⟩
instance : ScIs Tryd.prog 188 := ⟨_, Tryd.underlying188, rfl⟩
instance : SzIs Tryd.prog 188 1 := ⟨by kernel_rfl⟩
instance : ByIs Tryd.prog 188 8 := ⟨by kernel_rfl⟩
instance : ZcIs Tryd.prog 188 [.nilFunc] := ⟨by kernel_rfl⟩
instance : UIs Tryd.prog 189 (.pointer 5) := ⟨Tryd.underlying189⟩
instance : ScIs Tryd.prog 189 := ⟨_, Tryd.underlying189, rfl⟩
instance : SzIs Tryd.prog 189 1 := ⟨by kernel_rfl⟩
instance : ByIs Tryd.prog 189 8 := ⟨by kernel_rfl⟩
instance : ZcIs Tryd.prog 189 [.pointer none] := ⟨by kernel_rfl⟩
instance : UIs Tryd.prog 190 (.func #[51, 3, 3, 79] #[4] false) := ⟨Tryd.underlying190⟩
instance : ScIs Tryd.prog 190 := ⟨_, Tryd.underlying190, rfl⟩
instance : SzIs Tryd.prog 190 1 := ⟨by kernel_rfl⟩
instance : ByIs Tryd.prog 190 8 := ⟨by kernel_rfl⟩
instance : ZcIs Tryd.prog 190 [.nilFunc] := ⟨by kernel_rfl⟩
instance : UIs Tryd.prog 191 (.struct #[{ name := "I", type := 3, offset := 0, embedded := false, tag := "", pkgPath := "", byteOffset := 0 }, { name := "Sector", type := 9, offset := 1, embedded := false, tag := "", pkgPath := "", byteOffset := 8 }]) := ⟨Tryd.underlying191⟩
instance : AgIs Tryd.prog 191 := ⟨_, Tryd.underlying191, rfl⟩
instance : FldIs Tryd.prog 191 0 3 0 := ⟨_, _, Tryd.underlying191, rfl, rfl, rfl⟩
instance : FldIs Tryd.prog 191 1 9 1 := ⟨_, _, Tryd.underlying191, rfl, rfl, rfl⟩
instance : SzIs Tryd.prog 191 2 := ⟨by kernel_rfl⟩
instance : ByIs Tryd.prog 191 24 := ⟨by kernel_rfl⟩
instance : BuIs Tryd.prog 191 [.int .i64 0, strV []] [(0, 1), (1, 1)] := ⟨fun _ => by kernel_rfl⟩
instance : ZcIs Tryd.prog 191 [.int .i64 0, strV []] := ⟨by kernel_rfl⟩
instance : UIs Tryd.prog 192 (.struct #[{ name := "I", type := 3, offset := 0, embedded := false, tag := "", pkgPath := "", byteOffset := 0 }, { name := "Sector", type := 9, offset := 1, embedded := false, tag := "", pkgPath := "", byteOffset := 8 }]) := ⟨Tryd.underlying192⟩
instance : AgIs Tryd.prog 192 := ⟨_, Tryd.underlying192, rfl⟩
instance : FldIs Tryd.prog 192 0 3 0 := ⟨_, _, Tryd.underlying192, rfl, rfl, rfl⟩
instance : FldIs Tryd.prog 192 1 9 1 := ⟨_, _, Tryd.underlying192, rfl, rfl, rfl⟩
instance : SzIs Tryd.prog 192 2 := ⟨by kernel_rfl⟩
instance : ByIs Tryd.prog 192 24 := ⟨by kernel_rfl⟩
instance : BuIs Tryd.prog 192 [.int .i64 0, strV []] [(0, 1), (1, 1)] := ⟨fun _ => by kernel_rfl⟩
instance : ZcIs Tryd.prog 192 [.int .i64 0, strV []] := ⟨by kernel_rfl⟩
instance : UIs Tryd.prog 193 (.func #[3] #[9, 4] false) := ⟨Tryd.underlying193⟩
instance : ScIs Tryd.prog 193 := ⟨_, Tryd.underlying193, rfl⟩
instance : SzIs Tryd.prog 193 1 := ⟨by kernel_rfl⟩
instance : ByIs Tryd.prog 193 8 := ⟨by kernel_rfl⟩
instance : ZcIs Tryd.prog 193 [.nilFunc] := ⟨by kernel_rfl⟩
instance : UIs Tryd.prog 194 (.func #[51, 3, 3, 3] #[4] false) := ⟨Tryd.underlying194⟩
instance : ScIs Tryd.prog 194 := ⟨_, Tryd.underlying194, rfl⟩
instance : SzIs Tryd.prog 194 1 := ⟨by kernel_rfl⟩
instance : ByIs Tryd.prog 194 8 := ⟨by kernel_rfl⟩
instance : ZcIs Tryd.prog 194 [.nilFunc] := ⟨by kernel_rfl⟩
instance : UIs Tryd.prog 195 (.func #[51, 3, 3, 3, 3] #[9, 3, 4] false) := ⟨Tryd.underlying195⟩
instance : ScIs Tryd.prog 195 := ⟨_, Tryd.underlying195, rfl⟩
instance : SzIs Tryd.prog 195 1 := ⟨by kernel_rfl⟩
instance : ByIs Tryd.prog 195 8 := ⟨by kernel_rfl⟩
instance : ZcIs Tryd.prog 195 [.nilFunc] := ⟨by kernel_rfl⟩
instance : UIs Tryd.prog 197 (.func #[3, 3] #[79, 3] false) := ⟨Tryd.underlying197⟩
instance : ScIs Tryd.prog 197 := ⟨_, Tryd.underlying197, rfl⟩
instance : SzIs Tryd.prog 197 1 := ⟨by kernel_rfl⟩
instance : ByIs Tryd.prog 197 8 := ⟨by kernel_rfl⟩
instance : ZcIs Tryd.prog 197 [.nilFunc] := ⟨by kernel_rfl⟩
instance : UIs Tryd.prog 198 (.func #[182, 9] #[182] false) := ⟨Tryd.underlying198⟩
instance : ScIs Tryd.prog 198 := ⟨_, Tryd.underlying198, rfl⟩
instance : SzIs Tryd.prog 198 1 := ⟨by kernel_rfl⟩
instance : ByIs Tryd.prog 198 8 := ⟨by kernel_rfl⟩
instance : ZcIs Tryd.prog 198 [.nilFunc] := ⟨by kernel_rfl⟩
instance : UIs Tryd.prog 199 (.func #[9] #[79] false) := ⟨Tryd.underlying199⟩
instance : ScIs Tryd.prog 199 := ⟨_, Tryd.underlying199, rfl⟩
instance : SzIs Tryd.prog 199 1 := ⟨by kernel_rfl⟩
instance : ByIs Tryd.prog 199 8 := ⟨by kernel_rfl⟩
instance : ZcIs Tryd.prog 199 [.nilFunc] := ⟨by kernel_rfl⟩
instance : UIs Tryd.prog 200 (.unsafePointer) := ⟨Tryd.underlying200⟩
instance : ScIs Tryd.prog 200 := ⟨_, Tryd.underlying200, rfl⟩
instance : SzIs Tryd.prog 200 1 := ⟨by kernel_rfl⟩
instance : ByIs Tryd.prog 200 8 := ⟨by kernel_rfl⟩
instance : ZcIs Tryd.prog 200 [.pointer none] := ⟨by kernel_rfl⟩
instance : UIs Tryd.prog 201 (.func #[200] #[200] false) := ⟨Tryd.underlying201⟩
instance : ScIs Tryd.prog 201 := ⟨_, Tryd.underlying201, rfl⟩
instance : SzIs Tryd.prog 201 1 := ⟨by kernel_rfl⟩
instance : ByIs Tryd.prog 201 8 := ⟨by kernel_rfl⟩
instance : ZcIs Tryd.prog 201 [.nilFunc] := ⟨by kernel_rfl⟩
instance : UIs Tryd.prog 202 (.func #[51, 3, 3, 3] #[9, 4] false) := ⟨Tryd.underlying202⟩
instance : ScIs Tryd.prog 202 := ⟨_, Tryd.underlying202, rfl⟩
instance : SzIs Tryd.prog 202 1 := ⟨by kernel_rfl⟩
instance : ByIs Tryd.prog 202 8 := ⟨by kernel_rfl⟩
instance : ZcIs Tryd.prog 202 [.nilFunc] := ⟨by kernel_rfl⟩
instance : UIs Tryd.prog 203 (.array 16 182) := ⟨Tryd.underlying203⟩
instance : AgIs Tryd.prog 203 := ⟨_, Tryd.underlying203, rfl⟩
instance : SzIs Tryd.prog 203 16 := ⟨by kernel_rfl⟩
instance : ByIs Tryd.prog 203 64 := ⟨by kernel_rfl⟩
instance : ZcIs Tryd.prog 203 [.int .u32 0, .int .u32 0, .int .u32 0, .int .u32 0, .int .u32 0, .int .u32 0, .int .u32 0, .int .u32 0, .int .u32 0, .int .u32 0, .int .u32 0, .int .u32 0, .int .u32 0, .int .u32 0, .int .u32 0, .int .u32 0] := ⟨by kernel_rfl⟩
instance : UIs Tryd.prog 204 (.pointer 218) := ⟨Tryd.underlying204⟩
instance : ScIs Tryd.prog 204 := ⟨_, Tryd.underlying204, rfl⟩
instance : SzIs Tryd.prog 204 1 := ⟨by kernel_rfl⟩
instance : ByIs Tryd.prog 204 8 := ⟨by kernel_rfl⟩
instance : ZcIs Tryd.prog 204 [.pointer none] := ⟨by kernel_rfl⟩
instance : UIs Tryd.prog 205 (.struct #[{ name := "_interface", type := 17, offset := 0, embedded := false, tag := "", pkgPath := "runtime", byteOffset := 0 }, { name := "concrete", type := 17, offset := 1, embedded := false, tag := "", pkgPath := "runtime", byteOffset := 8 }, { name := "asserted", type := 17, offset := 2, embedded := false, tag := "", pkgPath := "runtime", byteOffset := 16 }, { name := "missingMethod", type := 9, offset := 3, embedded := false, tag := "", pkgPath := "runtime", byteOffset := 24 }]) := ⟨Tryd.underlying205⟩
instance : AgIs Tryd.prog 205 := ⟨_, Tryd.underlying205, rfl⟩
instance : FldIs Tryd.prog 205 0 17 0 := ⟨_, _, Tryd.underlying205, rfl, rfl, rfl⟩
instance : FldIs Tryd.prog 205 1 17 1 := ⟨_, _, Tryd.underlying205, rfl, rfl, rfl⟩
instance : FldIs Tryd.prog 205 2 17 2 := ⟨_, _, Tryd.underlying205, rfl, rfl, rfl⟩
instance : FldIs Tryd.prog 205 3 9 3 := ⟨_, _, Tryd.underlying205, rfl, rfl, rfl⟩
instance : SzIs Tryd.prog 205 4 := ⟨by kernel_rfl⟩
instance : ByIs Tryd.prog 205 40 := ⟨by kernel_rfl⟩
instance : BuIs Tryd.prog 205 [.pointer none, .pointer none, .pointer none, strV []] [(0, 1), (1, 1), (2, 1), (3, 1)] := ⟨fun _ => by kernel_rfl⟩
instance : ZcIs Tryd.prog 205 [.pointer none, .pointer none, .pointer none, strV []] := ⟨by kernel_rfl⟩
instance : UIs Tryd.prog 206 (.struct #[{ name := "_interface", type := 17, offset := 0, embedded := false, tag := "", pkgPath := "runtime", byteOffset := 0 }, { name := "concrete", type := 17, offset := 1, embedded := false, tag := "", pkgPath := "runtime", byteOffset := 8 }, { name := "asserted", type := 17, offset := 2, embedded := false, tag := "", pkgPath := "runtime", byteOffset := 16 }, { name := "missingMethod", type := 9, offset := 3, embedded := false, tag := "", pkgPath := "runtime", byteOffset := 24 }]) := ⟨Tryd.underlying206⟩
instance : AgIs Tryd.prog 206 := ⟨_, Tryd.underlying206, rfl⟩
instance : FldIs Tryd.prog 206 0 17 0 := ⟨_, _, Tryd.underlying206, rfl, rfl, rfl⟩
instance : FldIs Tryd.prog 206 1 17 1 := ⟨_, _, Tryd.underlying206, rfl, rfl, rfl⟩
instance : FldIs Tryd.prog 206 2 17 2 := ⟨_, _, Tryd.underlying206, rfl, rfl, rfl⟩
instance : FldIs Tryd.prog 206 3 9 3 := ⟨_, _, Tryd.underlying206, rfl, rfl, rfl⟩
instance : SzIs Tryd.prog 206 4 := ⟨by kernel_rfl⟩
instance : ByIs Tryd.prog 206 40 := ⟨by kernel_rfl⟩
instance : BuIs Tryd.prog 206 [.pointer none, .pointer none, .pointer none, strV []] [(0, 1), (1, 1), (2, 1), (3, 1)] := ⟨fun _ => by kernel_rfl⟩
instance : ZcIs Tryd.prog 206 [.pointer none, .pointer none, .pointer none, strV []] := ⟨by kernel_rfl⟩
instance : UIs Tryd.prog 207 (.array 0 16) := ⟨Tryd.underlying207⟩
instance : AgIs Tryd.prog 207 := ⟨_, Tryd.underlying207, rfl⟩
instance : SzIs Tryd.prog 207 0 := ⟨by kernel_rfl⟩
instance : ByIs Tryd.prog 207 0 := ⟨by kernel_rfl⟩
instance : ZcIs Tryd.prog 207 [] := ⟨by kernel_rfl⟩
instance : UIs Tryd.prog 208 (.struct #[{ name := "_", type := 207, offset := 0, embedded := false, tag := "", pkgPath := "runtime", byteOffset := 0 }]) := ⟨Tryd.underlying208⟩
instance : AgIs Tryd.prog 208 := ⟨_, Tryd.underlying208, rfl⟩
instance : FldIs Tryd.prog 208 0 207 0 := ⟨_, _, Tryd.underlying208, rfl, rfl, rfl⟩
instance : SzIs Tryd.prog 208 0 := ⟨by kernel_rfl⟩
instance : ByIs Tryd.prog 208 0 := ⟨by kernel_rfl⟩
instance : BuIs Tryd.prog 208 [] [(0, 0)] := ⟨fun _ => by kernel_rfl⟩
instance : ZcIs Tryd.prog 208 [] := ⟨by kernel_rfl⟩
instance : UIs Tryd.prog 209 (.struct #[{ name := "_", type := 207, offset := 0, embedded := false, tag := "", pkgPath := "runtime", byteOffset := 0 }]) := ⟨Tryd.underlying209⟩
instance : AgIs Tryd.prog 209 := ⟨_, Tryd.underlying209, rfl⟩
instance : FldIs Tryd.prog 209 0 207 0 := ⟨_, _, Tryd.underlying209, rfl, rfl, rfl⟩
instance : SzIs Tryd.prog 209 0 := ⟨by kernel_rfl⟩
instance : ByIs Tryd.prog 209 0 := ⟨by kernel_rfl⟩
instance : BuIs Tryd.prog 209 [] [(0, 0)] := ⟨fun _ => by kernel_rfl⟩
instance : ZcIs Tryd.prog 209 [] := ⟨by kernel_rfl⟩
instance : UIs Tryd.prog 210 (.int .u8) := ⟨Tryd.underlying210⟩
instance : ScIs Tryd.prog 210 := ⟨_, Tryd.underlying210, rfl⟩
instance : SzIs Tryd.prog 210 1 := ⟨by kernel_rfl⟩
instance : ByIs Tryd.prog 210 1 := ⟨by kernel_rfl⟩
instance : ZcIs Tryd.prog 210 [.int .u8 0] := ⟨by kernel_rfl⟩
instance : UIs Tryd.prog 211 (.int .u8) := ⟨Tryd.underlying211⟩
instance : ScIs Tryd.prog 211 := ⟨_, Tryd.underlying211, rfl⟩
instance : SzIs Tryd.prog 211 1 := ⟨by kernel_rfl⟩
instance : ByIs Tryd.prog 211 1 := ⟨by kernel_rfl⟩
instance : ZcIs Tryd.prog 211 [.int .u8 0] := ⟨by kernel_rfl⟩
instance : UIs Tryd.prog 212 (.func #[200, 200] #[4] false) := ⟨Tryd.underlying212⟩
instance : ScIs Tryd.prog 212 := ⟨_, Tryd.underlying212, rfl⟩
instance : SzIs Tryd.prog 212 1 := ⟨by kernel_rfl⟩
instance : ByIs Tryd.prog 212 8 := ⟨by kernel_rfl⟩
instance : ZcIs Tryd.prog 212 [.nilFunc] := ⟨by kernel_rfl⟩
instance : UIs Tryd.prog 213 (.int .i32) := ⟨Tryd.underlying213⟩
instance : ScIs Tryd.prog 213 := ⟨_, Tryd.underlying213, rfl⟩
instance : SzIs Tryd.prog 213 1 := ⟨by kernel_rfl⟩
instance : ByIs Tryd.prog 213 4 := ⟨by kernel_rfl⟩
instance : ZcIs Tryd.prog 213 [.int .i32 0] := ⟨by kernel_rfl⟩
instance : UIs Tryd.prog 214 (.int .i32) := ⟨Tryd.underlying214⟩
instance : ScIs Tryd.prog 214 := ⟨_, Tryd.underlying214, rfl⟩
instance : SzIs Tryd.prog 214 1 := ⟨by kernel_rfl⟩
instance : ByIs Tryd.prog 214 4 := ⟨by kernel_rfl⟩
instance : ZcIs Tryd.prog 214 [.int .i32 0] := ⟨by kernel_rfl⟩
instance : UIs Tryd.prog 215 (.struct #[{ name := "Size_", type := 12, offset := 0, embedded := false, tag := "", pkgPath := "", byteOffset := 0 }, { name := "PtrBytes", type := 12, offset := 1, embedded := false, tag := "", pkgPath := "", byteOffset := 8 }, { name := "Hash", type := 182, offset := 2, embedded := false, tag := "", pkgPath := "", byteOffset := 16 }, { name := "TFlag", type := 210, offset := 3, embedded := false, tag := "", pkgPath := "", byteOffset := 20 }, { name := "Align_", type := 5, offset := 4, embedded := false, tag := "", pkgPath := "", byteOffset := 21 }, { name := "FieldAlign_", type := 5, offset := 5, embedded := false, tag := "", pkgPath := "", byteOffset := 22 }, { name := "Kind_", type := 211, offset := 6, embedded := false, tag := "", pkgPath := "", byteOffset := 23 }, { name := "Equal", type := 212, offset := 7, embedded := false, tag := "", pkgPath := "", byteOffset := 24 }, { name := "GCData", type := 189, offset := 8, embedded := false, tag := "", pkgPath := "", byteOffset := 32 }, { name := "Str", type := 213, offset := 9, embedded := false, tag := "", pkgPath := "", byteOffset := 40 }, { name := "PtrToThis", type := 214, offset := 10, embedded := false, tag := "", pkgPath := "", byteOffset := 44 }]) := ⟨Tryd.underlying215⟩
instance : AgIs Tryd.prog 215 := ⟨_, Tryd.underlying215, rfl⟩
instance : FldIs Tryd.prog 215 0 12 0 := ⟨_, _, Tryd.underlying215, rfl, rfl, rfl⟩
instance : FldIs Tryd.prog 215 1 12 1 := ⟨_, _, Tryd.underlying215, rfl, rfl, rfl⟩
instance : FldIs Tryd.prog 215 2 182 2 := ⟨_, _, Tryd.underlying215, rfl, rfl, rfl⟩
instance : FldIs Tryd.prog 215 3 210 3 := ⟨_, _, Tryd.underlying215, rfl, rfl, rfl⟩
instance : FldIs Tryd.prog 215 4 5 4 := ⟨_, _, Tryd.underlying215, rfl, rfl, rfl⟩
instance : FldIs Tryd.prog 215 5 5 5 := ⟨_, _, Tryd.underlying215, rfl, rfl, rfl⟩
instance : FldIs Tryd.prog 215 6 211 6 := ⟨_, _, Tryd.underlying215, rfl, rfl, rfl⟩
instance : FldIs Tryd.prog 215 7 212 7 := ⟨_, _, Tryd.underlying215, rfl, rfl, rfl⟩
instance : FldIs Tryd.prog 215 8 189 8 := ⟨_, _, Tryd.underlying215, rfl, rfl, rfl⟩
instance : FldIs Tryd.prog 215 9 213 9 := ⟨_, _, Tryd.underlying215, rfl, rfl, rfl⟩
instance : FldIs Tryd.prog 215 10 214 10 := ⟨_, _, Tryd.underlying215, rfl, rfl, rfl⟩
instance : SzIs Tryd.prog 215 11 := ⟨by kernel_rfl⟩
instance : ByIs Tryd.prog 215 48 := ⟨by kernel_rfl⟩
instance : BuIs Tryd.prog 215 [.int .u64 0, .int .u64 0, .int .u32 0, .int .u8 0, .int .u8 0, .int .u8 0, .int .u8 0, .nilFunc, .pointer none, .int .i32 0, .int .i32 0] [(0, 1), (1, 1), (2, 1), (3, 1), (4, 1), (5, 1), (6, 1), (7, 1), (8, 1), (9, 1), (10, 1)] := ⟨fun _ => by kernel_rfl⟩
instance : ZcIs Tryd.prog 215 [.int .u64 0, .int .u64 0, .int .u32 0, .int .u8 0, .int .u8 0, .int .u8 0, .int .u8 0, .nilFunc, .pointer none, .int .i32 0, .int .i32 0] := ⟨by kernel_rfl⟩
instance : UIs Tryd.prog 216 (.struct #[{ name := "Size_", type := 12, offset := 0, embedded := false, tag := "", pkgPath := "", byteOffset := 0 }, { name := "PtrBytes", type := 12, offset := 1, embedded := false, tag := "", pkgPath := "", byteOffset := 8 }, { name := "Hash", type := 182, offset := 2, embedded := false, tag := "", pkgPath := "", byteOffset := 16 }, { name := "TFlag", type := 210, offset := 3, embedded := false, tag := "", pkgPath := "", byteOffset := 20 }, { name := "Align_", type := 5, offset := 4, embedded := false, tag := "", pkgPath := "", byteOffset := 21 }, { name := "FieldAlign_", type := 5, offset := 5, embedded := false, tag := "", pkgPath := "", byteOffset := 22 }, { name := "Kind_", type := 211, offset := 6, embedded := false, tag := "", pkgPath := "", byteOffset := 23 }, { name := "Equal", type := 212, offset := 7, embedded := false, tag := "", pkgPath := "", byteOffset := 24 }, { name := "GCData", type := 189, offset := 8, embedded := false, tag := "", pkgPath := "", byteOffset := 32 }, { name := "Str", type := 213, offset := 9, embedded := false, tag := "", pkgPath := "", byteOffset := 40 }, { name := "PtrToThis", type := 214, offset := 10, embedded := false, tag := "", pkgPath := "", byteOffset := 44 }]) := ⟨Tryd.underlying216⟩
instance : AgIs Tryd.prog 216 := ⟨_, Tryd.underlying216, rfl⟩
instance : FldIs Tryd.prog 216 0 12 0 := ⟨_, _, Tryd.underlying216, rfl, rfl, rfl⟩
instance : FldIs Tryd.prog 216 1 12 1 := ⟨_, _, Tryd.underlying216, rfl, rfl, rfl⟩
instance : FldIs Tryd.prog 216 2 182 2 := ⟨_, _, Tryd.underlying216, rfl, rfl, rfl⟩
instance : FldIs Tryd.prog 216 3 210 3 := ⟨_, _, Tryd.underlying216, rfl, rfl, rfl⟩
instance : FldIs Tryd.prog 216 4 5 4 := ⟨_, _, Tryd.underlying216, rfl, rfl, rfl⟩
instance : FldIs Tryd.prog 216 5 5 5 := ⟨_, _, Tryd.underlying216, rfl, rfl, rfl⟩
instance : FldIs Tryd.prog 216 6 211 6 := ⟨_, _, Tryd.underlying216, rfl, rfl, rfl⟩
instance : FldIs Tryd.prog 216 7 212 7 := ⟨_, _, Tryd.underlying216, rfl, rfl, rfl⟩
instance : FldIs Tryd.prog 216 8 189 8 := ⟨_, _, Tryd.underlying216, rfl, rfl, rfl⟩
instance : FldIs Tryd.prog 216 9 213 9 := ⟨_, _, Tryd.underlying216, rfl, rfl, rfl⟩
instance : FldIs Tryd.prog 216 10 214 10 := ⟨_, _, Tryd.underlying216, rfl, rfl, rfl⟩
instance : SzIs Tryd.prog 216 11 := ⟨by kernel_rfl⟩
instance : ByIs Tryd.prog 216 48 := ⟨by kernel_rfl⟩
instance : BuIs Tryd.prog 216 [.int .u64 0, .int .u64 0, .int .u32 0, .int .u8 0, .int .u8 0, .int .u8 0, .int .u8 0, .nilFunc, .pointer none, .int .i32 0, .int .i32 0] [(0, 1), (1, 1), (2, 1), (3, 1), (4, 1), (5, 1), (6, 1), (7, 1), (8, 1), (9, 1), (10, 1)] := ⟨fun _ => by kernel_rfl⟩
instance : ZcIs Tryd.prog 216 [.int .u64 0, .int .u64 0, .int .u32 0, .int .u8 0, .int .u8 0, .int .u8 0, .int .u8 0, .nilFunc, .pointer none, .int .i32 0, .int .i32 0] := ⟨by kernel_rfl⟩
instance : UIs Tryd.prog 217 (.struct #[{ name := "s", type := 9, offset := 0, embedded := false, tag := "", pkgPath := "errors", byteOffset := 0 }]) := ⟨Tryd.underlying217⟩
instance : AgIs Tryd.prog 217 := ⟨_, Tryd.underlying217, rfl⟩
instance : FldIs Tryd.prog 217 0 9 0 := ⟨_, _, Tryd.underlying217, rfl, rfl, rfl⟩
instance : SzIs Tryd.prog 217 1 := ⟨by kernel_rfl⟩
instance : ByIs Tryd.prog 217 16 := ⟨by kernel_rfl⟩
instance : BuIs Tryd.prog 217 [strV []] [(0, 1)] := ⟨fun _ => by kernel_rfl⟩
instance : ZcIs Tryd.prog 217 [strV []] := ⟨by kernel_rfl⟩
instance : UIs Tryd.prog 218 (.struct #[{ name := "s", type := 9, offset := 0, embedded := false, tag := "", pkgPath := "errors", byteOffset := 0 }]) := ⟨Tryd.underlying218⟩
instance : AgIs Tryd.prog 218 := ⟨_, Tryd.underlying218, rfl⟩
instance : FldIs Tryd.prog 218 0 9 0 := ⟨_, _, Tryd.underlying218, rfl, rfl, rfl⟩
instance : SzIs Tryd.prog 218 1 := ⟨by kernel_rfl⟩
instance : ByIs Tryd.prog 218 16 := ⟨by kernel_rfl⟩
instance : BuIs Tryd.prog 218 [strV []] [(0, 1)] := ⟨fun _ => by kernel_rfl⟩
instance : ZcIs Tryd.prog 218 [strV []] := ⟨by kernel_rfl⟩
instance : FnIs Tryd.prog 3 := ⟨by kernel_rfl⟩
instance : FnIs Tryd.prog 4 := ⟨by kernel_rfl⟩
instance : FnIs Tryd.prog 5 := ⟨by kernel_rfl⟩
instance : FnIs Tryd.prog 6 := ⟨by kernel_rfl⟩
instance : FnIs Tryd.prog 7 := ⟨by kernel_rfl⟩
instance : FnIs Tryd.prog 8 := ⟨by kernel_rfl⟩
instance : FnIs Tryd.prog 9 := ⟨by kernel_rfl⟩
instance : FnIs Tryd.prog 10 := ⟨by kernel_rfl⟩
instance : FnIs Tryd.prog 11 := ⟨by kernel_rfl⟩
instance : FnIs Tryd.prog 12 := ⟨by kernel_rfl⟩
instance : FnIs Tryd.prog 13 := ⟨by kernel_rfl⟩
instance : FnIs Tryd.prog 14 := ⟨by kernel_rfl⟩
instance : FnIs Tryd.prog 15 := ⟨by kernel_rfl⟩
instance : FnIs Tryd.prog 16 := ⟨by kernel_rfl⟩
instance : FnIs Tryd.prog 17 := ⟨by kernel_rfl⟩
instance : FnIs Tryd.prog 18 := ⟨by kernel_rfl⟩
instance : FnIs Tryd.prog 19 := ⟨by kernel_rfl⟩
instance : FnIs Tryd.prog 20 := ⟨by kernel_rfl⟩
instance : FnIs Tryd.prog 21 := ⟨by kernel_rfl⟩
instance : FnIs Tryd.prog 22 := ⟨by kernel_rfl⟩
instance : FnIs Tryd.prog 23 := ⟨by kernel_rfl⟩
instance : FnIs Tryd.prog 24 := ⟨by kernel_rfl⟩
instance : FnIs Tryd.prog 25 := ⟨by kernel_rfl⟩
instance : FnIs Tryd.prog 26 := ⟨by kernel_rfl⟩
instance : FnIs Tryd.prog 27 := ⟨by kernel_rfl⟩
instance : FnIs Tryd.prog 28 := ⟨by kernel_rfl⟩
instance : FnIs Tryd.prog 29 := ⟨by kernel_rfl⟩
instance : FnIs Tryd.prog 30 := ⟨by kernel_rfl⟩
instance : FnIs Tryd.prog 31 := ⟨by kernel_rfl⟩
instance : FnIs Tryd.prog 32 := ⟨by kernel_rfl⟩
instance : FnIs Tryd.prog 33 := ⟨by kernel_rfl⟩
instance : FnIs Tryd.prog 34 := ⟨by kernel_rfl⟩
instance : FnIs Tryd.prog 35 := ⟨by kernel_rfl⟩
instance : FnIs Tryd.prog 36 := ⟨by kernel_rfl⟩
instance : FnIs Tryd.prog 37 := ⟨by kernel_rfl⟩
instance : FnIs Tryd.prog 38 := ⟨by kernel_rfl⟩
instance : FnIs Tryd.prog 39 := ⟨by kernel_rfl⟩
instance : FnIs Tryd.prog 40 := ⟨by kernel_rfl⟩
instance : FnIs Tryd.prog 41 := ⟨by kernel_rfl⟩
instance : FnIs Tryd.prog 42 := ⟨by kernel_rfl⟩
instance : FnIs Tryd.prog 43 := ⟨by kernel_rfl⟩
instance : FnIs Tryd.prog 44 := ⟨by kernel_rfl⟩
instance : FnIs Tryd.prog 45 := ⟨by kernel_rfl⟩
instance : FnIs Tryd.prog 46 := ⟨by kernel_rfl⟩
instance : FnIs Tryd.prog 47 := ⟨by kernel_rfl⟩
instance : FnIs Tryd.prog 48 := ⟨by kernel_rfl⟩
instance : FnIs Tryd.prog 49 := ⟨by kernel_rfl⟩
instance : FnIs Tryd.prog 50 := ⟨by kernel_rfl⟩
instance : FnIs Tryd.prog 51 := ⟨by kernel_rfl⟩
instance : FnIs Tryd.prog 52 := ⟨by kernel_rfl⟩
instance : FnIs Tryd.prog 53 := ⟨by kernel_rfl⟩
instance : FnIs Tryd.prog 54 := ⟨by kernel_rfl⟩
instance : FnIs Tryd.prog 55 := ⟨by kernel_rfl⟩
instance : FnIs Tryd.prog 56 := ⟨by kernel_rfl⟩
instance : FnIs Tryd.prog 57 := ⟨by kernel_rfl⟩
instance : FnIs Tryd.prog 58 := ⟨by kernel_rfl⟩
instance : FnIs Tryd.prog 59 := ⟨by kernel_rfl⟩
instance : FnIs Tryd.prog 60 := ⟨by kernel_rfl⟩
instance : FnIs Tryd.prog 61 := ⟨by kernel_rfl⟩
instance : FnIs Tryd.prog 62 := ⟨by kernel_rfl⟩
instance : FnIs Tryd.prog 63 := ⟨by kernel_rfl⟩
instance : FnIs Tryd.prog 64 := ⟨by kernel_rfl⟩
instance : FnIs Tryd.prog 65 := ⟨by kernel_rfl⟩
instance : FnIs Tryd.prog 66 := ⟨by kernel_rfl⟩
instance : FnIs Tryd.prog 67 := ⟨by kernel_rfl⟩
instance : FnIs Tryd.prog 68 := ⟨by kernel_rfl⟩
instance : FnIs Tryd.prog 69 := ⟨by kernel_rfl⟩
instance : FnIs Tryd.prog 70 := ⟨by kernel_rfl⟩
instance : FnIs Tryd.prog 71 := ⟨by kernel_rfl⟩
instance : FnIs Tryd.prog 72 := ⟨by kernel_rfl⟩
instance : FnIs Tryd.prog 73 := ⟨by kernel_rfl⟩
instance : FnIs Tryd.prog 74 := ⟨by kernel_rfl⟩
instance : FnIs Tryd.prog 75 := ⟨by kernel_rfl⟩
instance : FnIs Tryd.prog 76 := ⟨by kernel_rfl⟩
instance : FnIs Tryd.prog 77 := ⟨by kernel_rfl⟩
instance : FnIs Tryd.prog 78 := ⟨by kernel_rfl⟩
instance : FnIs Tryd.prog 79 := ⟨by kernel_rfl⟩
instance : FnIs Tryd.prog 80 := ⟨by kernel_rfl⟩
instance : FnIs Tryd.prog 81 := ⟨by kernel_rfl⟩
instance : FnIs Tryd.prog 82 := ⟨by kernel_rfl⟩
instance : FnIs Tryd.prog 83 := ⟨by kernel_rfl⟩
instance : FnIs Tryd.prog 84 := ⟨by kernel_rfl⟩
instance : FnIs Tryd.prog 85 := ⟨by kernel_rfl⟩
instance : FnIs Tryd.prog 86 := ⟨by kernel_rfl⟩
instance : FnIs Tryd.prog 87 := ⟨by kernel_rfl⟩
instance : FnIs Tryd.prog 88 := ⟨by kernel_rfl⟩
instance : FnIs Tryd.prog 89 := ⟨by kernel_rfl⟩
instance : FnIs Tryd.prog 90 := ⟨by kernel_rfl⟩
instance : FnIs Tryd.prog 91 := ⟨by kernel_rfl⟩
instance : FnIs Tryd.prog 92 := ⟨by kernel_rfl⟩
instance : FnIs Tryd.prog 93 := ⟨by kernel_rfl⟩
instance : FnIs Tryd.prog 94 := ⟨by kernel_rfl⟩
instance : FnIs Tryd.prog 95 := ⟨by kernel_rfl⟩
instance : FnIs Tryd.prog 96 := ⟨by kernel_rfl⟩
instance : FnIs Tryd.prog 97 := ⟨by kernel_rfl⟩
instance : FnIs Tryd.prog 98 := ⟨by kernel_rfl⟩
instance : FnIs Tryd.prog 99 := ⟨by kernel_rfl⟩
instance : FnIs Tryd.prog 100 := ⟨by kernel_rfl⟩
instance : FnIs Tryd.prog 101 := ⟨by kernel_rfl⟩
instance : FnIs Tryd.prog 102 := ⟨by kernel_rfl⟩
instance : FnIs Tryd.prog 103 := ⟨by kernel_rfl⟩
instance : FnIs Tryd.prog 104 := ⟨by kernel_rfl⟩
instance : FnIs Tryd.prog 105 := ⟨by kernel_rfl⟩
instance : FnIs Tryd.prog 106 := ⟨by kernel_rfl⟩
instance : FnIs Tryd.prog 107 := ⟨by kernel_rfl⟩
instance : FnIs Tryd.prog 108 := ⟨by kernel_rfl⟩
instance : FnIs Tryd.prog 109 := ⟨by kernel_rfl⟩
instance : FnIs Tryd.prog 110 := ⟨by kernel_rfl⟩
instance : FnIs Tryd.prog 111 := ⟨by kernel_rfl⟩
instance : FnIs Tryd.prog 112 := ⟨by kernel_rfl⟩
instance : FnIs Tryd.prog 113 := ⟨by kernel_rfl⟩
instance : FnIs Tryd.prog 114 := ⟨by kernel_rfl⟩
instance : FnIs Tryd.prog 115 := ⟨by kernel_rfl⟩
instance : FnIs Tryd.prog 116 := ⟨by kernel_rfl⟩
instance : FnIs Tryd.prog 117 := ⟨by kernel_rfl⟩
instance : FnIs Tryd.prog 118 := ⟨by kernel_rfl⟩
instance : FnIs Tryd.prog 119 := ⟨by kernel_rfl⟩
instance : FnIs Tryd.prog 120 := ⟨by kernel_rfl⟩
instance : FnIs Tryd.prog 121 := ⟨by kernel_rfl⟩
instance : FnIs Tryd.prog 122 := ⟨by kernel_rfl⟩
instance : FnIs Tryd.prog 123 := ⟨by kernel_rfl⟩
instance : FnIs Tryd.prog 124 := ⟨by kernel_rfl⟩
instance : FnIs Tryd.prog 125 := ⟨by kernel_rfl⟩
instance : FnIs Tryd.prog 126 := ⟨by kernel_rfl⟩
instance : FnIs Tryd.prog 127 := ⟨by kernel_rfl⟩
instance : FnIs Tryd.prog 128 := ⟨by kernel_rfl⟩
instance : FnIs Tryd.prog 129 := ⟨by kernel_rfl⟩
instance : FnIs Tryd.prog 130 := ⟨by kernel_rfl⟩
instance : FnIs Tryd.prog 132 := ⟨by kernel_rfl⟩
instance : FnIs Tryd.prog 133 := ⟨by kernel_rfl⟩
end Go.Proofs.YteklldbfdmaafaaDoor
