/-
  BaQ.
-/
import Derived.Test.YtehheokalgmbgaaDoorHBC
/-
  Chapter 12 (batch) as plain data: rows and ops; what makes one table of another.
-/
namespace Go.Proofs.YtehheokalgmbgaaDoor
open Go Go.RowKit
abbrev Rows := List (List UInt8 × List UInt8)
def RisR (r : Rows) : Prop := Rising Prod.fst r
theorem RisR.nodup {r : Rows} (h : RisR r) : (r.map (·.1)).Nodup := List.pairwise_map.2 (h.imp fun {a b} q e => by rw [e, tl_irr] at q; cases q)
theorem rows_mem {r : Rows} (h : RisR r) (k v : List UInt8) : (k, v) ∈ r ↔ lk r k = some v := ⟨fun q => lk_of h.nodup q, lk_mem⟩
theorem rows_ext {a b : Rows} (ha : RisR a) (hb : RisR b) (h : ∀ k, lk a k = lk b k) : a = b := rising_eq ha hb fun ⟨k, v⟩ => by rw [rows_mem ha, rows_mem hb, h]
def putR (r : Rows) (k v : List UInt8) : Rows := if hasB Prod.fst r k = true then r.map (fun p => if p.1 = k then (k, v) else p) else insB Prod.fst r (k, v)
def apply1 (r : Rows) (o : BOp) : Rows := if o.del then mdel r o.key else putR r o.key o.val
def applyB (r : Rows) (ops : List BOp) : Rows := ops.foldl apply1 r
theorem has_lk {r : Rows} {k : List UInt8} : hasB Prod.fst r k = (lk r k).isSome := by
  cases e : lk r k with
  | none => exact hasB_false.2 (lk_none.1 e)
  | some v => exact hasB_true.2 ⟨(k, v), lk_mem e, rfl⟩
theorem putR_ris {r : Rows} (h : RisR r) (k v : List UInt8) : RisR (putR r k v) := by
  unfold putR
  split
  · unfold RisR Rising
    rw [List.pairwise_map]
    refine h.imp fun {a b} q => ?_
    have e : ∀ p : List UInt8 × List UInt8, (if p.1 = k then (k, v) else p).1 = p.1 := fun p => by
      split
      · rename_i e; exact e.symm
      · rfl
    rw [e, e]; exact q
  · rename_i hh
    exact insB_rising h fun y hy => hasB_false.1 (by simpa using hh) y hy
theorem mdel_ris {r : Rows} (h : RisR r) (k : List UInt8) : RisR (mdel r k) := List.Pairwise.sublist List.filter_sublist h
theorem apply1_ris {r : Rows} (h : RisR r) (o : BOp) : RisR (apply1 r o) := by
  unfold apply1
  split
  · exact mdel_ris h _
  · exact putR_ris h _ _
theorem applyB_ris {r : Rows} (h : RisR r) (ops : List BOp) : RisR (applyB r ops) := by
  induction ops generalizing r with
  | nil => exact h
  | cons o ops ih => exact ih (apply1_ris h o)
theorem lk_putR {r : Rows} (h : RisR r) (k v b : List UInt8) : lk (putR r k v) b = if b = k then some v else lk r b := by
  have hp := putR_ris h k v
  have hm : ∀ u, lk (putR r k v) b = some u ↔ (if b = k then some v else lk r b) = some u := fun u => by
    rw [← rows_mem hp]
    unfold putR
    split
    · rename_i hh
      rw [List.mem_map]
      obtain ⟨p, hpm, hpk⟩ := hasB_true.1 hh
      constructor
      · rintro ⟨q, hq, e⟩
        split at e
        · cases e; rw [if_pos rfl]
        · rename_i hne
          subst e
          rw [if_neg hne]
          exact (rows_mem h _ _).1 hq
      · intro e
        split at e
        · rename_i hb
          cases e
          exact ⟨p, hpm, by rw [if_pos hpk, hb]⟩
        · rename_i hb
          exact ⟨(b, u), (rows_mem h _ _).2 e, by rw [if_neg hb]⟩
    · rename_i hh
      rw [mem_insB, rows_mem h]
      have hn : lk r k = none := by
        have : hasB Prod.fst r k = false := by simpa using hh
        rw [has_lk] at this
        cases e : lk r k with
        | none => rfl
        | some _ => rw [e] at this; cases this
      by_cases hb : b = k
      · subst hb
        rw [if_pos rfl, hn]
        simp [eq_comm]
      · rw [if_neg hb]
        simp [hb]
  cases e : lk (putR r k v) b with
  | some u => exact ((hm u).1 e).symm
  | none =>
    cases e' : (if b = k then some v else lk r b) with
    | none => rfl
    | some u => rw [(hm u).2 e'] at e; cases e
theorem lk_apply1 {r : Rows} (h : RisR r) (o : BOp) (k : List UInt8) : lk (apply1 r o) k = if o.key = k then (if o.del then none else some o.val) else lk r k := by
  unfold apply1
  cases hd : o.del with
  | true =>
    rw [if_pos rfl, lk_del]
    by_cases e : k = o.key
    · rw [if_pos e, if_pos e.symm]; rfl
    · rw [if_neg e, if_neg fun q => e q.symm]
  | false =>
    rw [if_neg (by decide), lk_putR h]
    by_cases e : k = o.key
    · rw [if_pos e, if_pos e.symm]; rfl
    · rw [if_neg e, if_neg fun q => e q.symm]
/-- what a list of ops says of a key -/
def says (r : Rows) (ops : List BOp) (k : List UInt8) : Option (List UInt8) := match lastOf ops k with
  | some o => if o.del then none else some o.val
  | none => lk r k
theorem lk_applyB {r : Rows} (h : RisR r) (ops : List BOp) (k : List UInt8) : lk (applyB r ops) k = says r ops k := by
  induction ops generalizing r with
  | nil => rfl
  | cons o ops ih =>
    show lk (applyB (apply1 r o) ops) k = _
    rw [ih (apply1_ris h o)]
    unfold says
    rw [lastOf]
    cases e : lastOf ops k with
    | some x => rfl
    | none =>
      rw [Option.none_or]
      dsimp only
      rw [lk_apply1 h]
      by_cases c : o.key = k
      · rw [if_pos c, if_pos c]
        unfold BOp.nrm
        cases o.del <;> rfl
      · rw [if_neg c, if_neg c]
theorem lastOf_normD (l : List BOp) (k : List UInt8) : lastOf (normD l) k = lastOf l k := by
  have hm : ∀ x, lastOf (normD l) k = some x ↔ lastOf l k = some x := fun x => by
    rw [lastOf_rising (normD_rising l) (fun _ q => normD_nrm q), normD_mem]
    constructor
    · rintro ⟨a, b⟩; rw [← b]; exact a
    · intro a; have := (lastOf_some a).1; rw [this]; exact ⟨a, rfl⟩
  cases e : lastOf (normD l) k with
  | some x => exact ((hm x).1 e).symm
  | none =>
    cases e' : lastOf l k with
    | none => rfl
    | some x => rw [(hm x).2 e'] at e; cases e
theorem apply_normD {r : Rows} (h : RisR r) (ops : List BOp) : applyB r (normD ops) = applyB r ops :=
  rows_ext (applyB_ris h _) (applyB_ris h _) fun k => by rw [lk_applyB h, lk_applyB h]; unfold says; rw [lastOf_normD]
theorem normD_join (a b : List BOp) : normD (normD a ++ normD b) = normD (a ++ b) := normD_congr fun k => by rw [lastOf_append, lastOf_append, lastOf_normD, lastOf_normD]
theorem applyB_append (r : Rows) (a b : List BOp) : applyB r (a ++ b) = applyB (applyB r a) b := List.foldl_append ..
theorem apply_join {r : Rows} (h : RisR r) (a b : List BOp) : applyB (applyB r (normD a)) (normD b) = applyB r (normD (a ++ b)) := by
  rw [apply_normD (applyB_ris h _), apply_normD h, apply_normD h, applyB_append]
theorem join_len (a b : List BOp) : (normD (a ++ b)).length ≤ (normD a).length + (normD b).length := by
  have key : ∀ x ∈ normD (a ++ b), x ∈ normD a ∨ x ∈ normD b := fun x hx => by
    rw [normD_mem, lastOf_append] at hx
    rw [normD_mem, normD_mem]
    cases e : lastOf b x.key with
    | some y => rw [e] at hx; exact .inr hx
    | none => rw [e] at hx; exact .inl hx
  have hsplit : ∀ (l : List BOp) (p : BOp → Bool), (l.filter p).length + (l.filter fun x => !p x).length = l.length := fun l p => by
    induction l with
    | nil => rfl
    | cons x l ih =>
      rw [List.filter_cons, List.filter_cons]
      cases p x <;> simp <;> omega
  have h1 := hsplit (normD (a ++ b)) fun x => decide (x ∈ normD a)
  have hr := normD_rising (a ++ b)
  have h2 := rising_len (r := normD a) (hr.sublist List.filter_sublist : Rising BOp.key ((normD (a ++ b)).filter fun x => decide (x ∈ normD a))) (normD_rising a) fun x hx => by
    simpa using (List.mem_filter.1 hx).2
  have h3 := rising_len (r := normD b) (hr.sublist List.filter_sublist : Rising BOp.key ((normD (a ++ b)).filter fun x => !decide (x ∈ normD a))) (normD_rising b) fun x hx => by
    obtain ⟨p, q⟩ := List.mem_filter.1 hx
    rcases key x p with c | c
    · simp [c] at q
    · exact c
  omega
/-- the document's: the two lists of rows gone over together -/
def btw : Nat → Rows → Rows → List BOp
  | 0, _, _ => []
  | _ + 1, [], [] => []
  | n + 1, p :: a, [] => ⟨true, p.1, []⟩ :: btw n a []
  | n + 1, [], q :: b => ⟨false, q.1, q.2⟩ :: btw n [] b
  | n + 1, p :: a, q :: b => if Op.bytesLess p.1 q.1 = true then ⟨true, p.1, []⟩ :: btw n a (q :: b) else if Op.bytesLess q.1 p.1 = true then ⟨false, q.1, q.2⟩ :: btw n (p :: a) b
      else if p.2 = q.2 then btw n a b else ⟨false, q.1, q.2⟩ :: btw n a b
/-- what is in it -/
def Need (a b : Rows) (x : BOp) : Prop := (x.del = true ∧ x.val = [] ∧ lk b x.key = none ∧ (lk a x.key).isSome = true) ∨ (x.del = false ∧ lk b x.key = some x.val ∧ lk a x.key ≠ some x.val)
theorem lk_cons (p : List UInt8 × List UInt8) (r : Rows) (k : List UInt8) : lk (p :: r) k = if p.1 = k then some p.2 else lk r k := rfl
theorem ris_cons {p : List UInt8 × List UInt8} {r : Rows} (h : RisR (p :: r)) : RisR r ∧ (∀ q ∈ r, Op.bytesLess p.1 q.1 = true) := ⟨(List.pairwise_cons.1 h).2, (List.pairwise_cons.1 h).1⟩
/-- below the first row there is none -/
theorem lk_below {r : Rows} {k : List UInt8} (h : ∀ q ∈ r, Op.bytesLess k q.1 = true) : lk r k = none := lk_none.2 fun p hp e => by have := h p hp; rw [e, tl_irr] at this; cases this
theorem need_in {a b : Rows} {x : BOp} (h : Need a b x) : (lk a x.key).isSome = true ∨ (lk b x.key).isSome = true := by
  rcases h with ⟨_, _, _, h⟩ | ⟨_, h, _⟩
  · exact .inl h
  · rw [h]; exact .inr rfl
theorem need_above {a b : Rows} {k : List UInt8} (ha : ∀ q ∈ a, Op.bytesLess k q.1 = true) (hb : ∀ q ∈ b, Op.bytesLess k q.1 = true) {x : BOp} (h : Need a b x) : Op.bytesLess k x.key = true := by
  rcases need_in h with h | h
  · cases e : lk a x.key with
    | none => rw [e] at h; cases h
    | some v => exact ha _ (lk_mem e)
  · cases e : lk b x.key with
    | none => rw [e] at h; cases h
    | some v => exact hb _ (lk_mem e)
theorem bop_eq {x : BOp} {d : Bool} {k v : List UInt8} (h1 : x.del = d) (h2 : x.key = k) (h3 : x.val = v) : x = ⟨d, k, v⟩ := by cases x; simp_all
/-- the rest, where the first key of both is k -/
theorem need_old {a b a' b' : Rows} {k : List UInt8} (ea : ∀ j, j ≠ k → lk a j = lk a' j) (eb : ∀ j, j ≠ k → lk b j = lk b' j) (ha : lk a' k = none) (hb : lk b' k = none) (x : BOp) : Need a b x ↔ (x.key = k ∧ Need a b x) ∨ Need a' b' x := by
  by_cases e : x.key = k
  · constructor
    · intro h; exact .inl ⟨e, h⟩
    · rintro (h | h)
      · exact h.2
      · rcases need_in h with q | q
        · rw [e, ha] at q; cases q
        · rw [e, hb] at q; cases q
  · unfold Need
    rw [ea _ e, eb _ e]
    constructor
    · exact .inr
    · rintro (h | h)
      · exact absurd h.1 e
      · exact h
theorem btw_spec : ∀ (n : Nat) (a b : Rows), a.length + b.length ≤ n → RisR a → RisR b → Rising BOp.key (btw n a b) ∧ ∀ x, x ∈ btw n a b ↔ Need a b x := by
  intro n
  induction n with
  | zero =>
    intro a b hl _ _
    have ha : a = [] := List.length_eq_zero_iff.1 (by omega)
    have hb : b = [] := List.length_eq_zero_iff.1 (by omega)
    subst ha; subst hb
    exact ⟨List.Pairwise.nil, fun x => ⟨fun h => absurd h (by simp [btw]), fun h => by rcases need_in h with q | q <;> cases q⟩⟩
  | succ n ih =>
    intro a b hl ha hb
    have mk : ∀ (k : List UInt8) (a' b' : Rows) (hd : List BOp), hd.length ≤ 1 → (∀ x ∈ hd, x.key = k) → a'.length + b'.length ≤ n → RisR a' → RisR b' → (∀ q ∈ a', Op.bytesLess k q.1 = true) → (∀ q ∈ b', Op.bytesLess k q.1 = true) →
        (∀ j, j ≠ k → lk a j = lk a' j) → (∀ j, j ≠ k → lk b j = lk b' j) → (∀ x, x ∈ hd ↔ x.key = k ∧ Need a b x) → Rising BOp.key (hd ++ btw n a' b') ∧ ∀ x, x ∈ hd ++ btw n a' b' ↔ Need a b x := by
      intro k a' b' hd h1 hk h2 h3 h4 h5 h6 h7 h8 h9
      obtain ⟨i1, i2⟩ := ih a' b' h2 h3 h4
      refine ⟨?_, fun x => ?_⟩
      · refine List.pairwise_append.2 ⟨?_, i1, fun x hx y hy => ?_⟩
        · cases hd with
          | nil => exact List.Pairwise.nil
          | cons z r =>
            have : r = [] := List.length_eq_zero_iff.1 (by simp only [List.length_cons] at h1; omega)
            subst this
            exact List.pairwise_cons.2 ⟨fun _ h => absurd h (by simp), List.Pairwise.nil⟩
        · rw [hk x hx]
          exact need_above h5 h6 ((i2 y).1 hy)
      · rw [List.mem_append, h9, i2]
        exact (need_old h7 h8 (lk_below h5) (lk_below h6) x).symm
    cases a with
    | nil =>
      cases b with
      | nil => exact ⟨List.Pairwise.nil, fun x => ⟨fun h => absurd h (by simp [btw]), fun h => by rcases need_in h with q | q <;> cases q⟩⟩
      | cons q b =>
        obtain ⟨b1, b2⟩ := ris_cons hb
        refine mk q.1 [] b [⟨false, q.1, q.2⟩] (Nat.le_refl _) (fun x hx => by rw [List.mem_singleton.1 hx]) (by simp only [List.length_cons, List.length_nil] at hl ⊢; omega) ha b1 (fun _ h => absurd h (by simp)) b2 (fun _ _ => rfl) (fun j hj => by rw [lk_cons, if_neg fun e => hj e.symm]) fun x => ?_
        rw [List.mem_singleton]
        constructor
        · rintro rfl
          exact ⟨rfl, .inr ⟨rfl, by rw [lk_cons, if_pos rfl], fun h => by cases h⟩⟩
        · rintro ⟨e, h | h⟩
          · obtain ⟨_, _, _, h⟩ := h; cases h
          · obtain ⟨h1, h2, _⟩ := h
            rw [lk_cons, if_pos e.symm] at h2
            exact bop_eq h1 e (Option.some.inj h2).symm
    | cons p a =>
      obtain ⟨a1, a2⟩ := ris_cons ha
      cases b with
      | nil =>
        refine mk p.1 a [] [⟨true, p.1, []⟩] (Nat.le_refl _) (fun x hx => by rw [List.mem_singleton.1 hx]) (by simp only [List.length_cons, List.length_nil] at hl ⊢; omega) a1 hb a2 (fun _ h => absurd h (by simp)) (fun j hj => by rw [lk_cons, if_neg fun e => hj e.symm]) (fun _ _ => rfl) fun x => ?_
        rw [List.mem_singleton]
        constructor
        · rintro rfl
          exact ⟨rfl, .inl ⟨rfl, rfl, rfl, by rw [lk_cons, if_pos rfl]; rfl⟩⟩
        · rintro ⟨e, h | h⟩
          · exact bop_eq h.1 e h.2.1
          · obtain ⟨_, h2, _⟩ := h; cases h2
      | cons q b =>
        obtain ⟨b1, b2⟩ := ris_cons hb
        unfold btw
        split
        · rename_i hpq
          have hbk : ∀ r ∈ q :: b, Op.bytesLess p.1 r.1 = true := fun r hr => by
            rcases List.mem_cons.1 hr with e | e
            · rw [e]; exact hpq
            · exact tl_tr hpq (b2 r e)
          refine mk p.1 a (q :: b) [⟨true, p.1, []⟩] (Nat.le_refl _) (fun x hx => by rw [List.mem_singleton.1 hx]) (by simp only [List.length_cons] at hl ⊢; omega) a1 hb a2 hbk (fun j hj => by rw [lk_cons, if_neg fun e => hj e.symm]) (fun _ _ => rfl) fun x => ?_
          rw [List.mem_singleton]
          constructor
          · rintro rfl
            exact ⟨rfl, .inl ⟨rfl, rfl, lk_below hbk, by rw [lk_cons, if_pos rfl]; rfl⟩⟩
          · rintro ⟨e, h | h⟩
            · exact bop_eq h.1 e h.2.1
            · obtain ⟨_, h2, _⟩ := h
              rw [e, lk_below hbk] at h2; cases h2
        · rename_i hpq
          split
          · rename_i hqp
            have hak : ∀ r ∈ p :: a, Op.bytesLess q.1 r.1 = true := fun r hr => by
              rcases List.mem_cons.1 hr with e | e
              · rw [e]; exact hqp
              · exact tl_tr hqp (a2 r e)
            refine mk q.1 (p :: a) b [⟨false, q.1, q.2⟩] (Nat.le_refl _) (fun x hx => by rw [List.mem_singleton.1 hx]) (by simp only [List.length_cons] at hl ⊢; omega) ha b1 hak b2 (fun _ _ => rfl) (fun j hj => by rw [lk_cons, if_neg fun e => hj e.symm]) fun x => ?_
            rw [List.mem_singleton]
            constructor
            · rintro rfl
              exact ⟨rfl, .inr ⟨rfl, by rw [lk_cons, if_pos rfl], fun h => by rw [lk_below hak] at h; cases h⟩⟩
            · rintro ⟨e, h | h⟩
              · obtain ⟨_, _, h2, _⟩ := h
                rw [lk_cons, if_pos e.symm] at h2; cases h2
              · obtain ⟨h1, h2, _⟩ := h
                rw [lk_cons, if_pos e.symm] at h2
                exact bop_eq h1 e (Option.some.inj h2).symm
          · rename_i hqp
            have hk : p.1 = q.1 := by
              by_cases e : p.1 = q.1
              · exact e
              · rcases tl_tot _ _ e with c | c
                · exact absurd c hpq
                · exact absurd c hqp
            have ga : ∀ r ∈ a, Op.bytesLess q.1 r.1 = true := fun r hr => by rw [← hk]; exact a2 r hr
            split
            · rename_i hv
              refine mk q.1 a b [] (Nat.zero_le _) (fun x hx => absurd hx (by simp)) (by simp only [List.length_cons] at hl; omega) a1 b1 ga b2 (fun j hj => by rw [lk_cons, if_neg fun e => hj (e.symm.trans hk)]) (fun j hj => by rw [lk_cons, if_neg fun e => hj e.symm]) fun x => ?_
              refine ⟨fun h => absurd h (by simp), ?_⟩
              rintro ⟨e, h | h⟩
              · obtain ⟨_, _, h2, _⟩ := h
                rw [lk_cons, if_pos e.symm] at h2; cases h2
              · obtain ⟨_, h2, h3⟩ := h
                rw [lk_cons, if_pos e.symm] at h2
                rw [lk_cons, if_pos (hk.trans e.symm), hv] at h3
                exact absurd h2 h3
            · rename_i hv
              refine mk q.1 a b [⟨false, q.1, q.2⟩] (Nat.le_refl _) (fun x hx => by rw [List.mem_singleton.1 hx]) (by simp only [List.length_cons] at hl; omega) a1 b1 ga b2 (fun j hj => by rw [lk_cons, if_neg fun e => hj (e.symm.trans hk)]) (fun j hj => by rw [lk_cons, if_neg fun e => hj e.symm]) fun x => ?_
              rw [List.mem_singleton]
              constructor
              · rintro rfl
                refine ⟨rfl, .inr ⟨rfl, by rw [lk_cons, if_pos rfl], fun h => ?_⟩⟩
                rw [lk_cons, if_pos hk] at h
                exact hv (Option.some.inj h)
              · rintro ⟨e, h | h⟩
                · obtain ⟨_, _, h2, _⟩ := h
                  rw [lk_cons, if_pos e.symm] at h2; cases h2
                · obtain ⟨h1, h2, _⟩ := h
                  rw [lk_cons, if_pos e.symm] at h2
                  exact bop_eq h1 e (Option.some.inj h2).symm
def between (a b : Rows) : List BOp := btw (a.length + b.length) a b
theorem between_rising {a b : Rows} (ha : RisR a) (hb : RisR b) : Rising BOp.key (between a b) := (btw_spec _ a b (Nat.le_refl _) ha hb).1
theorem between_mem {a b : Rows} (ha : RisR a) (hb : RisR b) (x : BOp) : x ∈ between a b ↔ Need a b x := (btw_spec _ a b (Nat.le_refl _) ha hb).2 x
theorem between_self {a : Rows} (ha : RisR a) : between a a = [] := by
  refine List.eq_nil_iff_forall_not_mem.2 fun x hx => ?_
  rcases (between_mem ha ha x).1 hx with ⟨_, _, h, h'⟩ | ⟨_, h, h'⟩
  · rw [h] at h'; cases h'
  · exact h' h
theorem need_nrm {a b : Rows} {x : BOp} (h : Need a b x) : x.nrm = x := by
  obtain ⟨d, k, v⟩ := x
  rcases h with ⟨h1, h2, _⟩ | ⟨h1, _⟩
  · cases h1; cases h2; rfl
  · cases h1; rfl
/-- it makes b of a -/
theorem between_apply {a b : Rows} (ha : RisR a) (hb : RisR b) : applyB a (between a b) = b := by
  refine rows_ext (applyB_ris ha _) hb fun k => ?_
  rw [lk_applyB ha]
  unfold says
  have hl := lastOf_rising (between_rising ha hb) (fun x hx => need_nrm ((between_mem ha hb x).1 hx)) k
  cases e : lastOf (between a b) k with
  | some x =>
    obtain ⟨h, rfl⟩ := (hl x).1 e
    rcases (between_mem ha hb x).1 h with ⟨h1, _, h2, _⟩ | ⟨h1, h2, _⟩
    · dsimp only; rw [h1, h2]; rfl
    · dsimp only; rw [h1, h2]; rfl
  | none =>
    have no : ∀ x : BOp, x.key = k → ¬ Need a b x := fun x hx hn => by
      have := (hl x).2 ⟨(between_mem ha hb x).2 hn, hx⟩
      rw [e] at this; cases this
    dsimp only
    cases hbk : lk b k with
    | none =>
      cases hak : lk a k with
      | none => rfl
      | some v => exact absurd (.inl ⟨rfl, rfl, hbk, by rw [hak]; rfl⟩) (no ⟨true, k, []⟩ rfl)
    | some v =>
      by_cases c : lk a k = some v
      · exact c
      · exact absurd (.inr ⟨rfl, hbk, c⟩) (no ⟨false, k, v⟩ rfl)
/-- the program's: what is to go, then what is to be put, in normal form -/
def goes (a b : Rows) : List BOp := (a.filter fun p => (lk b p.1).isNone).map fun p => ⟨true, p.1, []⟩
def comes (a b : Rows) : List BOp := (b.filter fun p => decide (lk a p.1 ≠ some p.2)).map fun p => ⟨false, p.1, p.2⟩
theorem between_prog {a b : Rows} (ha : RisR a) (hb : RisR b) : normD (goes a b ++ comes a b) = between a b := by
  have hg : ∀ x, x ∈ goes a b ↔ x.del = true ∧ x.val = [] ∧ lk b x.key = none ∧ (lk a x.key).isSome = true := fun x => by
    unfold goes
    rw [List.mem_map]
    constructor
    · rintro ⟨p, hp, rfl⟩
      obtain ⟨h1, h2⟩ := List.mem_filter.1 hp
      exact ⟨rfl, rfl, by simpa using h2, by rw [lk_of ha.nodup h1]; rfl⟩
    · rintro ⟨h1, h2, h3, h4⟩
      cases e : lk a x.key with
      | none => rw [e] at h4; cases h4
      | some v => exact ⟨(x.key, v), List.mem_filter.2 ⟨lk_mem e, by simpa using h3⟩, (bop_eq h1 rfl h2).symm⟩
  have hc : ∀ x, x ∈ comes a b ↔ x.del = false ∧ lk b x.key = some x.val ∧ lk a x.key ≠ some x.val := fun x => by
    unfold comes
    rw [List.mem_map]
    constructor
    · rintro ⟨p, hp, rfl⟩
      obtain ⟨h1, h2⟩ := List.mem_filter.1 hp
      exact ⟨rfl, lk_of hb.nodup h1, by simpa using h2⟩
    · rintro ⟨h1, h2, h3⟩
      exact ⟨(x.key, x.val), List.mem_filter.2 ⟨lk_mem h2, by simpa using h3⟩, (bop_eq h1 rfl rfl).symm⟩
  have rg : Rising BOp.key (goes a b) := List.pairwise_map.2 (List.Pairwise.sublist List.filter_sublist ha)
  have rc : Rising BOp.key (comes a b) := List.pairwise_map.2 (List.Pairwise.sublist List.filter_sublist hb)
  have lg := lastOf_rising rg fun x hx => by obtain ⟨h1, h2, _⟩ := (hg x).1 hx; rw [bop_eq h1 rfl h2]; rfl
  have lc := lastOf_rising rc fun x hx => by obtain ⟨h1, _⟩ := (hc x).1 hx; rw [bop_eq h1 rfl rfl]; rfl
  refine (normD_of (between_rising ha hb) fun x => ?_).symm
  rw [between_mem ha hb, lastOf_append]
  constructor
  · rintro (h | h)
    · have : lastOf (comes a b) x.key = none := by
        cases e : lastOf (comes a b) x.key with
        | none => rfl
        | some y =>
          obtain ⟨hy, ey⟩ := (lc _ y).1 e
          have := ((hc y).1 hy).2.1
          rw [ey, h.2.2.1] at this; cases this
      rw [this, Option.none_or]
      exact (lg _ x).2 ⟨(hg x).2 h, rfl⟩
    · rw [(lc _ x).2 ⟨(hc x).2 h, rfl⟩]; rfl
  · intro h
    cases e : lastOf (comes a b) x.key with
    | some y =>
      rw [e] at h
      cases h
      exact .inr ((hc _).1 ((lc _ _).1 e).1)
    | none =>
      rw [e, Option.none_or] at h
      exact .inl ((hg x).1 ((lg _ x).1 h).1)
end Go.Proofs.YtehheokalgmbgaaDoor
