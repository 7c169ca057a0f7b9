/-
  A region that draws its order, walked once in the text's order: its loads come first, each yielding its value in every world that meets S; then its writes, of which those that may come ahead of a load keep S. After Derived/OrdersHeld.lean's theorem, with S asked only behind what may come ahead of a load.
-/
import Derived.WalkKit
import Derived.OrdersHeld
import Derived.StillTailTactics
import Derived.Deep.MidRow
import Derived.Test.YteklldbfdmaafaaDoorMem
namespace Go.Proofs.YteklldbfdmaafaaDoor
open Go
section
variable {P : Program} {ops : Array Oper} {Q : Exit → Act → World → Prop} {md : Region.Mode} {S : World → Prop} {late : Nat → Bool}

/-- an operation that, where it stands among the loads, looks at no cell -/
def pureB (ops : Array Oper) (i : Nat) : Bool := match ops[i]? with
  | some o => match o.op with | .load .. => false | .lookup .. => false | _ => true
  | none => false
/-- whatever order is picked from here on; S holds behind each operation that is not late (behind one that looks at no cell: if it held ahead of it) -/
def wpAnyT (P : Program) (md : Region.Mode) (ops : Array Oper) (Q : Exit → Act → World → Prop) (S : World → Prop) (late : Nat → Bool) : Nat → Array Bool → Act → World → Prop
  | 0, listed, a, w => Region.ready md ops listed = [] ∧ Q .normal a w
  | fuel + 1, listed, a, w =>
    (Region.ready md ops listed = [] → Q .normal a w) ∧
    ∀ i ∈ Region.ready md ops listed, wpOp P ops Q i (fun a' w' => (late i = true ∨ (pureB ops i = true ∧ ¬ S w) ∨ S w') ∧ wpAnyT P md ops Q S late fuel (listed.setIfInBounds i true) a' w') a w

theorem wpAny_of_T : ∀ (fuel : Nat) (listed : Array Bool) (a : Act) (w : World), wpAnyT P md ops Q S late fuel listed a w → wpAny P md ops Q fuel listed a w
  | 0, _, _, _, h => h
  | fuel + 1, _, _, _, h => ⟨h.1, fun i hi => wpOp_mono (fun a' w' h' => wpAny_of_T fuel _ a' w' h'.2) (h.2 i hi)⟩

/-- what is listed has all it waits for listed -/
def Closed (md : Region.Mode) (ops : Array Oper) (listed : Array Bool) : Prop :=
  ∀ k o, ops[k]? = some o → listed.getD k false = true → ∀ e ∈ o.after, Region.binds md e = true → listed.getD e.on false = true
theorem Closed.set {listed : Array Bool} (h : Closed md ops listed) {i : Nat} (hi : i ∈ Region.ready md ops listed) : Closed md ops (listed.setIfInBounds i true) := by
  intro k o ho hk e he hb
  obtain ⟨_, oi, hoi, hall⟩ := mem_ready.1 hi
  by_cases hki : k = i
  · subst hki
    rw [hoi] at ho; cases ho
    exact getD_set_true (hall e he hb)
  · have : listed.getD k false = true := by rw [← hk]; exact (getD_set_ne false (Ne.symm hki)).symm
    exact getD_set_true (h k o ho this e he hb)
/-- does operation j wait for operation i, at one remove or more? -/
def waitsB (md : Region.Mode) (ops : Array Oper) : Nat → Nat → Nat → Bool
  | 0, _, _ => false
  | n + 1, j, i => match ops[j]? with
    | none => false
    | some o => o.after.any fun e => Region.binds md e && (e.on == i || waitsB md ops n e.on i)
theorem waits_listed {listed : Array Bool} (hc : Closed md ops listed) (i : Nat) : ∀ (n j : Nat), waitsB md ops n j i = true → (j ∈ Region.ready md ops listed ∨ listed.getD j false = true) → listed.getD i false = true
  | 0, _, h, _ => by simp [waitsB] at h
  | n + 1, j, h, hj => by
    simp only [waitsB] at h
    cases ho : ops[j]? with
    | none => simp [ho] at h
    | some o =>
      simp only [ho, Array.any_eq_true, Bool.and_eq_true, Bool.or_eq_true, beq_iff_eq] at h
      obtain ⟨k, hk, hb, h2⟩ := h
      have hm : o.after[k] ∈ o.after := Array.getElem_mem hk
      have hl : listed.getD (o.after[k]).on false = true := by
        rcases hj with hj | hj
        · obtain ⟨_, o', ho', hall⟩ := mem_ready.1 hj
          rw [ho] at ho'; cases ho'
          exact hall _ hm hb
        · exact hc j o ho hj _ hm hb
      rcases h2 with h2 | h2
      · rw [h2] at hl; exact hl
      · exact waits_listed hc i n _ h2 (.inr hl)

theorem not_both {listed : Array Bool} {i : Nat} (h0 : listed.getD i true = false) (h1 : listed.getD i false = true) : False := by
  rcases Nat.lt_or_ge i listed.size with h' | h'
  · simp [h'] at h0 h1; rw [h0] at h1; cases h1
  · simp [Array.getElem?_eq_none h'] at h1

theorem wpAnyT_first {i : Nat} {oi : Oper} {v : Value} (hi : ops[i]? = some oi) (hsel : ∀ (j : Nat) (o : Oper) cs b, ops[j]? = some o → o.op ≠ .select cs b)
    (hQ : ∀ c a w, Q (.panic c) (a.put oi.dst v) w → Q (.panic c) a w) (hlate : ∀ j, j < ops.size → late j = true → ∃ n, waitsB md ops n j i = true) :
    ∀ (fuel : Nat) (listed : Array Bool) (a : Act) (w : World), Closed md ops listed →
      (∀ j oj, ops[j]? = some oj → j ≠ i → listed.getD j true = false → (∀ e ∈ oj.after, Region.binds md e = true → e.on ≠ i) → oi.apart ops oj = true) →
      i ∈ Region.ready md ops listed → YieldsIf P ops S oi v a → S w →
      wpAnyT P md ops Q S late fuel (listed.setIfInBounds i true) (a.put oi.dst v) w → wpAnyT P md ops Q S late (fuel + 1) listed a w := by
  intro fuel
  induction fuel with
  | zero =>
    intro listed a w _ _ hr hy hS H
    refine ⟨fun h => (by rw [h] at hr; cases hr), fun j hj => ?_⟩
    by_cases hji : j = i
    · subst hji; exact hy.wpOp hi hS ⟨.inr (.inr hS), H⟩
    · have := ready_mono hj hji
      rw [H.1] at this
      cases this
  | succ fuel ih =>
    intro listed a w hcl hfree hr hy hS H
    refine ⟨fun h => (by rw [h] at hr; cases hr), fun j hj => ?_⟩
    by_cases hji : j = i
    · subst hji; exact hy.wpOp hi hS ⟨.inr (.inr hS), H⟩
    · have h1 := H.2 j (ready_mono hj hji)
      obtain ⟨hjun, oj, hoj, hall⟩ := mem_ready.1 hj
      have hnot : ∀ e ∈ oj.after, Region.binds md e = true → e.on ≠ i := fun e he hb heq => by
        have h1 := hall e he hb
        rw [heq] at h1
        exact not_both (mem_ready.1 hr).1 h1
      have hnl : late j ≠ true := fun hl => by
        obtain ⟨n, hn⟩ := hlate j (Array.getElem?_eq_some_iff.1 hoj).1 hl
        exact not_both (mem_ready.1 hr).1 (waits_listed hcl i n j hn (.inl hj))
      have h2 := wpOp_putIf hoj (hfree j oj hoj hji hjun hnot) (fun cs b => hsel i oi cs b hi) (fun cs b => hsel j oj cs b hoj) hQ hy h1
      have hfree' : ∀ k ok, ops[k]? = some ok → k ≠ i → (listed.setIfInBounds j true).getD k true = false →
          (∀ e ∈ ok.after, Region.binds md e = true → e.on ≠ i) → oi.apart ops ok = true := fun k ok hk hki hun hno => by
        refine hfree k ok hk hki ?_ hno
        by_cases hjk : j = k
        · subst hjk; exact hjun
        · rw [getD_set_ne true hjk] at hun; exact hun
      refine wpOp_mono (fun a' w' h3 => ?_) h2
      have hS' : S w' := (h3.2.1.resolve_left hnl).resolve_left (fun q => q.2 hS)
      refine ⟨.inr (.inr hS'), ih (listed.setIfInBounds j true) a' w' (hcl.set hj) hfree' (ready_mono hr (Ne.symm hji)) h3.1 hS' ?_⟩
      rw [Array.setIfInBounds_comm _ _ hji]
      exact h3.2.2

theorem wpAnyT_pure {i : Nat} {oi : Oper} {v : Value} (hi : ops[i]? = some oi) (hp : pureB ops i = true) (hsel : ∀ (j : Nat) (o : Oper) cs b, ops[j]? = some o → o.op ≠ .select cs b)
    (hQ : ∀ c a w, Q (.panic c) (a.put oi.dst v) w → Q (.panic c) a w) :
    ∀ (fuel : Nat) (listed : Array Bool) (a : Act) (w : World),
      (∀ j oj, ops[j]? = some oj → j ≠ i → listed.getD j true = false → (∀ e ∈ oj.after, Region.binds md e = true → e.on ≠ i) → oi.apart ops oj = true) →
      i ∈ Region.ready md ops listed → YieldsIf P ops (fun _ => True) oi v a →
      wpAnyT P md ops Q S late fuel (listed.setIfInBounds i true) (a.put oi.dst v) w → wpAnyT P md ops Q S late (fuel + 1) listed a w := by
  intro fuel
  have hme : ∀ w : World, late i = true ∨ (pureB ops i = true ∧ ¬ S w) ∨ S w := fun w => by
    by_cases h : S w
    · exact .inr (.inr h)
    · exact .inr (.inl ⟨hp, h⟩)
  induction fuel with
  | zero =>
    intro listed a w _ hr hy H
    refine ⟨fun h => (by rw [h] at hr; cases hr), fun j hj => ?_⟩
    by_cases hji : j = i
    · subst hji; exact hy.wpOp hi trivial ⟨hme w, H⟩
    · have := ready_mono hj hji
      rw [H.1] at this
      cases this
  | succ fuel ih =>
    intro listed a w hfree hr hy H
    refine ⟨fun h => (by rw [h] at hr; cases hr), fun j hj => ?_⟩
    by_cases hji : j = i
    · subst hji; exact hy.wpOp hi trivial ⟨hme w, H⟩
    · have h1 := H.2 j (ready_mono hj hji)
      obtain ⟨hjun, oj, hoj, hall⟩ := mem_ready.1 hj
      have hnot : ∀ e ∈ oj.after, Region.binds md e = true → e.on ≠ i := fun e he hb heq => by
        have h1 := hall e he hb
        rw [heq] at h1
        exact not_both (mem_ready.1 hr).1 h1
      have h2 := wpOp_putIf hoj (hfree j oj hoj hji hjun hnot) (fun cs b => hsel i oi cs b hi) (fun cs b => hsel j oj cs b hoj) hQ hy h1
      have hfree' : ∀ k ok, ops[k]? = some ok → k ≠ i → (listed.setIfInBounds j true).getD k true = false →
          (∀ e ∈ ok.after, Region.binds md e = true → e.on ≠ i) → oi.apart ops ok = true := fun k ok hk hki hun hno => by
        refine hfree k ok hk hki ?_ hno
        by_cases hjk : j = k
        · subst hjk; exact hjun
        · rw [getD_set_ne true hjk] at hun; exact hun
      refine wpOp_mono (fun a' w' h3 => ⟨h3.2.1, ih (listed.setIfInBounds j true) a' w' hfree' (ready_mono hr (Ne.symm hji)) h3.1 ?_⟩) h2
      rw [Array.setIfInBounds_comm _ _ hji]
      exact h3.2.2

/-- the first k operations of N are listed -/
def firstK (N k : Nat) : Array Bool := (List.replicate k true ++ List.replicate (N - k) false).toArray
theorem firstK_getD (N k j : Nat) (d : Bool) (hk : k ≤ N) : (firstK N k).getD j d = if j < k then true else if j < N then false else d := by
  unfold firstK
  simp only [Array.getD_eq_getD_getElem?, List.getElem?_toArray, List.getElem?_append, List.length_replicate, List.getElem?_replicate]
  by_cases h1 : j < k
  · simp [h1]
  · by_cases h2 : j < N
    · simp [h1, h2, show j - k < N - k by omega]
    · simp [h1, h2, show ¬ j - k < N - k by omega]
theorem firstK_set (N k : Nat) (hk : k < N) : (firstK N k).setIfInBounds k true = firstK N (k + 1) := by
  unfold firstK
  rw [List.setIfInBounds_toArray]
  congr 1
  rw [List.set_append_right _ _ (by simp)]
  simp only [List.length_replicate, Nat.sub_self]
  rw [show N - k = (N - (k + 1)) + 1 by omega, List.replicate_succ, List.set_cons_zero, List.replicate_succ' (n := k)]
  simp

/-- what the kernel reckons of a region: its first n operations may be taken in the text's order; behind them the order is forced; whoever comes from place m on waits for each of the first n -/
def readsB (ops : Array Oper) (n m : Nat) : Bool :=
  Region.noSelect ops && decide (n ≤ m) && decide (m ≤ ops.size) &&
  ((List.range n).all fun k => (Region.ready .any ops (firstK ops.size k)).contains k && Region.free .any ops (firstK ops.size k) k) &&
  ((List.range ops.size).all fun k => decide (k < n) || Region.ready .any ops (firstK ops.size k) == [k]) &&
  (Region.ready .any ops (firstK ops.size ops.size) == []) &&
  ((List.range ops.size).all fun j => decide (j < m) || (List.range n).all fun i => pureB ops i || waitsB .any ops ops.size j i) &&
  ((List.range ops.size).all fun k => match ops[k]? with | none => true | some o => o.after.all fun e => !Region.binds .any e || decide (e.on < k))

/-- the loads, in the text's order, each yielding its value in every world that meets S -/
def readsT (P : Program) (ops : Array Oper) (S : World → Prop) (R : Act → Prop) : List Oper → Act → Prop
  | [], a => R a
  | o :: rest, a => ∃ v, ((∀ i, ops[i]? = some o → pureB ops i = true) ∧ YieldsIf P ops (fun _ => True) o v a ∨ (∀ i, ops[i]? = some o → pureB ops i = false) ∧ YieldsIf P ops S o v a) ∧ readsT P ops S R rest (a.put o.dst v)
/-- the writes that may come ahead of a load -/
def earlyT (P : Program) (ops : Array Oper) (Q : Exit → Act → World → Prop) (S : World → Prop) (R : Act → World → Prop) : List Oper → Act → World → Prop
  | [], a, w => R a w
  | o :: rest, a, w => if Region.wanted o (yielded ops a.tmps) then o.wp P a w (fun a' w' => S w' ∧ earlyT P ops Q S R rest a' w') Q else S w ∧ earlyT P ops Q S R rest (a.put o.dst undef) w

theorem closed_first (hb : ∀ (k : Nat) (o : Oper), ops[k]? = some o → ∀ e ∈ o.after, Region.binds md e = true → e.on < k) (k : Nat) (hk : k ≤ ops.size) : Closed md ops (firstK ops.size k) := by
  intro j o ho hj e he hbd
  rw [firstK_getD _ _ _ _ hk] at hj ⊢
  have hjk : j < k := by
    by_cases h : j < k
    · exact h
    · by_cases h2 : j < ops.size <;> simp [h] at hj
  have := hb j o ho e he hbd
  rw [if_pos (by omega)]

theorem wpOp_of_list {l : List Oper} (k : Nat) (hkl : k < l.length) {a : Act} {w : World} (h : wpList P l.toArray Q (l.drop k) a w) : wpOp P l.toArray Q k (wpList P l.toArray Q (l.drop (k + 1))) a w := by
  rw [List.drop_eq_getElem_cons hkl] at h
  unfold wpOp
  have ho : l.toArray[k]? = some l[k] := by simp [hkl]
  simp only [ho]
  unfold wpList at h
  exact h

theorem wpAnyT_of_list {l : List Oper} {m : Nat} (hready : ∀ k, k < l.length → m ≤ k → Region.ready .any l.toArray (firstK l.length k) = [k]) (hend : Region.ready .any l.toArray (firstK l.length l.length) = []) (hlt : ∀ j, m ≤ j → late j = true) :
    ∀ (d k : Nat) (a : Act) (w : World), k + d = l.length → m ≤ k → wpList P l.toArray Q (l.drop k) a w → wpAnyT P .any l.toArray Q S late d (firstK l.length k) a w
  | 0, k, a, w, hk, _, h => by
    obtain rfl : k = l.length := by omega
    rw [List.drop_length] at h
    exact ⟨hend, h⟩
  | d + 1, k, a, w, hk, hm, h => by
    have hkl : k < l.length := by omega
    refine ⟨fun e => (by rw [hready k hkl hm] at e; cases e), fun i hi => ?_⟩
    rw [hready k hkl hm] at hi
    obtain rfl : i = k := by simpa using hi
    rw [show (firstK l.length i).setIfInBounds i true = firstK l.length (i + 1) from firstK_set _ _ hkl]
    exact wpOp_mono (fun a' w' h' => ⟨.inl (hlt i hm), wpAnyT_of_list hready hend hlt d (i + 1) a' w' (by omega) (by omega) h'⟩) (wpOp_of_list i hkl h)

theorem wpAnyT_of_early {l : List Oper} {n m : Nat} (hready : ∀ k, k < l.length → n ≤ k → Region.ready .any l.toArray (firstK l.length k) = [k]) (hend : Region.ready .any l.toArray (firstK l.length l.length) = []) (hlt : ∀ j, m ≤ j → late j = true) (hm : m ≤ l.length) (hnm : n ≤ m) :
    ∀ (e k : Nat) (a : Act) (w : World), k + e = m → n ≤ k → earlyT P l.toArray Q S (fun a' w' => wpList P l.toArray Q (l.drop m) a' w') ((l.drop k).take e) a w → wpAnyT P .any l.toArray Q S late (l.length - k) (firstK l.length k) a w
  | 0, k, a, w, hk, hn, h => by
    obtain rfl : k = m := by omega
    rw [List.take_zero] at h
    exact wpAnyT_of_list (fun j h1 h2 => hready j h1 (by omega)) hend hlt (l.length - k) k a w (by omega) (Nat.le_refl _) h
  | e + 1, k, a, w, hk, hn, h => by
    have hkl : k < l.length := by omega
    rw [show l.length - k = (l.length - (k + 1)) + 1 by omega]
    refine ⟨fun q => (by rw [hready k hkl hn] at q; cases q), fun i hi => ?_⟩
    rw [hready k hkl hn] at hi
    obtain rfl : i = k := by simpa using hi
    rw [show (firstK l.length i).setIfInBounds i true = firstK l.length (i + 1) from firstK_set _ _ hkl]
    rw [List.drop_eq_getElem_cons hkl, List.take_succ_cons] at h
    have ih := fun a' w' => wpAnyT_of_early hready hend hlt hm hnm e (i + 1) a' w' (by omega) (by omega)
    unfold earlyT at h
    unfold wpOp
    have ho : l.toArray[i]? = some l[i] := by simp [hkl]
    simp only [ho]
    split
    · rename_i hw
      rw [if_pos hw] at h
      have h' : wpOp P l.toArray Q i (fun a' w' => S w' ∧ earlyT P l.toArray Q S (fun a' w' => wpList P l.toArray Q (l.drop m) a' w') ((l.drop (i + 1)).take e) a' w') a w := by
        unfold wpOp; simp only [ho, hw, if_true]; exact .inl h
      have h2 := wpOp_mono (fun a' w' q => (⟨.inr (.inr q.1), ih a' w' q.2⟩ : (late i = true ∨ (pureB l.toArray i = true ∧ ¬ S w) ∨ S w') ∧ wpAnyT P .any l.toArray Q S late (l.length - (i + 1)) (firstK l.length (i + 1)) a' w')) h'
      unfold wpOp at h2; simp only [ho, hw, if_true] at h2; exact h2
    · rename_i hw
      rw [if_neg hw] at h
      exact ⟨.inr (.inr h.1), ih _ _ h.2⟩

theorem wpAnyT_of_reads {l : List Oper} {n : Nat} (hsel : Region.noSelect l.toArray = true) (hfirst : ∀ k, k < n → k ∈ Region.ready .any l.toArray (firstK l.length k) ∧ Region.free .any l.toArray (firstK l.length k) k = true)
    (hlate : ∀ i, i < n → pureB l.toArray i = false → ∀ j, j < l.length → late j = true → ∃ f, waitsB .any l.toArray f j i = true) (hb : ∀ (k : Nat) (o : Oper), l.toArray[k]? = some o → ∀ e ∈ o.after, Region.binds .any e = true → e.on < k) (hn : n ≤ l.length)
    (hQ : ∀ c a d v w, Q (.panic c) (Act.put a d v) w → Q (.panic c) a w) {w : World} (hS : S w) {R : Act → Prop} (hR : ∀ a, R a → wpAnyT P .any l.toArray Q S late (l.length - n) (firstK l.length n) a w) :
    ∀ (e k : Nat) (a : Act), k + e = n → readsT P l.toArray S R ((l.drop k).take e) a → wpAnyT P .any l.toArray Q S late (l.length - k) (firstK l.length k) a w
  | 0, k, a, hk, h => by
    obtain rfl : k = n := by omega
    rw [List.take_zero] at h
    exact hR a h
  | e + 1, k, a, hk, h => by
    have hkl : k < l.length := by omega
    rw [List.drop_eq_getElem_cons hkl, List.take_succ_cons] at h
    obtain ⟨v, hy, h⟩ := h
    have ih := wpAnyT_of_reads hsel hfirst hlate hb hn hQ hS hR e (k + 1) _ (by omega) h
    have ho : l.toArray[k]? = some l[k] := by simp [hkl]
    rw [show l.length - k = (l.length - (k + 1)) + 1 by omega]
    have hf := hfirst k (by omega)
    rcases hy with ⟨hp, hy⟩ | ⟨hp, hy⟩
    · refine wpAnyT_pure ho (hp k ho) (Region.noSelect_spec hsel) (fun c a w q => hQ c _ _ _ w q) _ _ _ _ (Region.free_spec ho hf.2) hf.1 hy ?_
      rw [firstK_set _ _ hkl]; exact ih
    · refine wpAnyT_first ho (Region.noSelect_spec hsel) (fun c a w q => hQ c _ _ _ w q) (hlate k (by omega) (hp k ho)) _ _ _ _ ?_ (Region.free_spec ho hf.2) hf.1 hy hS ?_
      · have := closed_first (md := .any) hb k (by simp; omega)
        simpa using this
      · rw [firstK_set _ _ hkl]; exact ih

/-- THE LAW: a region that draws its order, n loads first, then up to place m what keeps S, then the rest. -/
theorem wp_region_reads {id : Nat} {a : Act} {w : World} {l : List Oper} (n m : Nat) (S : World → Prop) (hm : P.follows .mixedOrders = true) (hB : readsB l.toArray n m = true) (hQ : ∀ c a d v w, Q (.panic c) (Act.put a d v) w → Q (.panic c) a w) (hS : S w.drew)
    (h : readsT P l.toArray S (fun a' => earlyT P l.toArray Q S (fun a' w' => wpList P l.toArray Q (l.drop m) a' w') ((l.drop n).take (m - n)) a' w.drew) (l.take n) a) : (Code.region id l.toArray true).wp P Q a w := by
  simp only [readsB, Bool.and_eq_true, decide_eq_true_eq, List.all_eq_true, List.mem_range, Bool.or_eq_true, beq_iff_eq, List.contains_iff_mem, List.size_toArray] at hB
  obtain ⟨⟨⟨⟨⟨⟨⟨hsel, hnm⟩, hml⟩, h1⟩, h2⟩, h3⟩, h4⟩, h5⟩ := hB
  have hready : ∀ k, k < l.length → n ≤ k → Region.ready .any l.toArray (firstK l.length k) = [k] := fun k hk hn => (h2 k hk).resolve_left (by omega)
  have hb : ∀ (k : Nat) (o : Oper), l.toArray[k]? = some o → ∀ e ∈ o.after, Region.binds .any e = true → e.on < k := by
    intro k o ho e he hbd
    have hk : k < l.length := by simpa using (Array.getElem?_eq_some_iff.1 ho).1
    have := h5 k hk
    rw [ho] at this
    simp only [Array.all_eq_true_iff_forall_mem, Bool.or_eq_true, Bool.not_eq_true', decide_eq_true_eq] at this
    exact (this e he).resolve_left (by rw [hbd]; decide)
  refine wp_region_any hm (wpAny_of_T (S := S) (late := fun j => decide (m ≤ j)) _ _ _ _ ?_)
  have h0 : Array.replicate l.toArray.size false = firstK l.length 0 := by simp [firstK]
  rw [h0]
  have := wpAnyT_of_reads (P := P) (Q := Q) (S := S) (late := fun j => decide (m ≤ j)) (n := n) hsel h1
    (fun i hi hp j hj hl => ⟨_, ((h4 j hj).resolve_left (by simpa using hl) i hi).resolve_left (by rw [hp]; decide)⟩) hb (by omega) hQ (w := w.drew) hS
    (fun a' ha => wpAnyT_of_early hready h3 (fun j hj => by simpa using hj) hml hnm (m - n) n a' w.drew (by omega) (Nat.le_refl _) ha) n 0 a (by omega) (by simpa using h)
  simpa using this
/-- what the kernel reckons of a region whose last two operations may come in either order: the first n as loads, then a write, and one that looks at no cell -/
def swapB (ops : Array Oper) (n : Nat) : Bool :=
  Region.noSelect ops && decide (ops.size = n + 2) && pureB ops (n + 1) &&
  ((List.range n).all fun k => (Region.ready .any ops (firstK ops.size k)).contains k && Region.free .any ops (firstK ops.size k) k) &&
  (Region.ready .any ops (firstK ops.size n)).contains (n + 1) && Region.free .any ops (firstK ops.size n) (n + 1) &&
  (Region.ready .any ops ((firstK ops.size n).setIfInBounds (n + 1) true) == [n]) &&
  (Region.ready .any ops (((firstK ops.size n).setIfInBounds (n + 1) true).setIfInBounds n true) == []) &&
  ((List.range n).all fun i => pureB ops i || waitsB .any ops ops.size n i) &&
  ((List.range ops.size).all fun k => match ops[k]? with | none => true | some o => o.after.all fun e => !Region.binds .any e || decide (e.on < k))

/-- the same for a region whose last operation but one writes, and whose last looks at no cell: it is taken ahead of the write -/
theorem wp_region_swap {id : Nat} {a : Act} {w : World} {l : List Oper} (n : Nat) (ow op : Oper) (S : World → Prop) (hm : P.follows .mixedOrders = true) (hB : swapB l.toArray n = true) (hw : l.toArray[n]? = some ow) (hp : l.toArray[n + 1]? = some op) (hQ : ∀ c a d v w, Q (.panic c) (Act.put a d v) w → Q (.panic c) a w) (hS : S w.drew)
    (h : readsT P l.toArray S (fun a' => ∃ v, YieldsIf P l.toArray (fun _ => True) op v a' ∧ wpList P l.toArray Q [ow] (a'.put op.dst v) w.drew) (l.take n) a) : (Code.region id l.toArray true).wp P Q a w := by
  simp only [swapB, Bool.and_eq_true, decide_eq_true_eq, List.all_eq_true, List.mem_range, Bool.or_eq_true, beq_iff_eq, List.contains_iff_mem, List.size_toArray] at hB
  obtain ⟨⟨⟨⟨⟨⟨⟨⟨⟨hsel, hsz⟩, hpu⟩, h1⟩, h2⟩, h3⟩, h4⟩, h5⟩, h6⟩, h7⟩ := hB
  have hb : ∀ (k : Nat) (o : Oper), l.toArray[k]? = some o → ∀ e ∈ o.after, Region.binds .any e = true → e.on < k := by
    intro k o ho e he hbd
    have hk : k < l.length := by simpa using (Array.getElem?_eq_some_iff.1 ho).1
    have := h7 k hk
    rw [ho] at this
    simp only [Array.all_eq_true_iff_forall_mem, Bool.or_eq_true, Bool.not_eq_true', decide_eq_true_eq] at this
    exact (this e he).resolve_left (by rw [hbd]; decide)
  refine wp_region_any hm (wpAny_of_T (S := S) (late := fun j => decide (j = n)) _ _ _ _ ?_)
  have h0 : Array.replicate l.toArray.size false = firstK l.length 0 := by simp [firstK]
  rw [h0]
  have := wpAnyT_of_reads (P := P) (Q := Q) (S := S) (late := fun j => decide (j = n)) (n := n) (R := fun a' => ∃ v, YieldsIf P l.toArray (fun _ => True) op v a' ∧ wpList P l.toArray Q [ow] (a'.put op.dst v) w.drew) hsel h1
    (fun i hi hp' j hj hl => ⟨_, by have hl : j = n := by simpa using hl
                                    subst hl; exact (h6 i hi).resolve_left (by rw [hp']; decide)⟩) hb (by omega) hQ (w := w.drew) hS
    (fun a' ⟨v, hy, hw'⟩ => (by
      rw [show l.length - n = 1 + 1 by omega]
      refine wpAnyT_pure hp hpu (Region.noSelect_spec hsel) (fun c a w q => hQ c _ _ _ w q) _ _ _ _ (Region.free_spec hp h3) h2 hy ?_
      refine ⟨fun q => (by rw [h4] at q; cases q), fun i hi => ?_⟩
      rw [h4] at hi
      obtain rfl : i = n := by simpa using hi
      have h9 : wpOp P l.toArray Q i (wpList P l.toArray Q []) (a'.put op.dst v) w.drew := by
        unfold wpOp
        simp only [hw]
        unfold wpList at hw'
        exact hw'
      exact wpOp_mono (fun a w q => (⟨.inl (by simp), h5, q⟩ : (decide (i = i) = true ∨ _ ∨ _) ∧ _ ∧ _)) h9)) n 0 a (by omega) (by simpa using h)
  simpa using this
theorem pure_of {o : Oper} {b : Bool} (h : (match o.op with | .load .. => false | .lookup .. => false | _ => true) = b) (i : Nat) (hi : ops[i]? = some o) : pureB ops i = b := by
  unfold pureB; rw [hi]; exact h
theorem readsT_pure {R : Act → Prop} {o : Oper} {rest : List Oper} {a : Act} (hg : o.guard = none) (hp : (match o.op with | .load .. => false | .lookup .. => false | _ => true) = true) (v : Value) (hrun : ∀ w, (execOp a.eval o).run P w = .ok (.value v) w) (h : readsT P ops S R rest (a.put o.dst v)) : readsT P ops S R (o :: rest) a :=
  ⟨v, .inl ⟨pure_of hp, .inl ⟨by simp [Region.wanted, hg], fun w _ => hrun w⟩⟩, h⟩
theorem readsT_load {R : Act → Prop} {o : Oper} {rest : List Oper} {a : Act} (hg : o.guard = none) (hp : (match o.op with | .load .. => false | .lookup .. => false | _ => true) = false) (v : Value) (hrun : ∀ w, S w → (execOp a.eval o).run P w = .ok (.value v) w) (h : readsT P ops S R rest (a.put o.dst v)) : readsT P ops S R (o :: rest) a :=
  ⟨v, .inr ⟨pure_of hp, .inl ⟨by simp [Region.wanted, hg], hrun⟩⟩, h⟩
theorem readsT_skip {R : Act → Prop} {o : Oper} {rest : List Oper} {a : Act} (hw : Region.wanted o (yielded ops a.tmps) = false) (h : readsT P ops S R rest (a.put o.dst undef)) : readsT P ops S R (o :: rest) a := by
  refine ⟨undef, ?_, h⟩
  cases hb : (match o.op with | .load .. => false | .lookup .. => false | _ => true : Bool)
  · exact .inr ⟨pure_of hb, .inr ⟨hw, rfl⟩⟩
  · exact .inl ⟨pure_of hb, .inr ⟨hw, rfl⟩⟩
theorem readsT_move {R : Act → Prop} {o : Oper} {rest : List Oper} {a : Act} (hg : o.guard = none) (x : Operand) (ho : o.op = .move x) (v : Value) (hx : a.eval x = v) (h : readsT P ops S R rest (a.put o.dst v)) : readsT P ops S R (o :: rest) a :=
  readsT_pure hg (by rw [ho]) v (fun w => by simp [execOp, ho, hx]) h
theorem readsT_load_mid {R : Act → Prop} {op : Oper} {rest : List Oper} {a : Act} (hg : op.guard = none) (ty : TypeId) (x : Operand) (ho : op.op = .load ty x)
    (b o : Nat) (hx : a.eval x = .pointer (some ⟨b, o, none⟩)) (cs : List Value) (d : TypeDesc) (hc : ∀ w, S w → w.rangeAt b o cs) (hu : P.underlying ty = some d) (hd : d.isRow = true) (hi : (P.info? ty).map (·.size) = some cs.length)
    (h : readsT P ops S R rest (a.put op.dst (.agg cs.toArray))) : readsT P ops S R (op :: rest) a := by
  refine readsT_load hg (by rw [ho]) _ (fun w hS => ?_) h
  have hr := run_loadAt_mid (P := P) w b o ty cs d (hc w hS) hu hd hi
  unfold execOp
  simp only [ho, hx, Sem.run_bind, Sem.run_pure, Result.andThen_ok, hr]
theorem earlyT_step {R : Act → World → Prop} {o : Oper} {rest : List Oper} {a : Act} {w : World} (hg : o.guard = none) (h : o.wp P a w (fun a' w' => S w' ∧ earlyT P ops Q S R rest a' w') Q) : earlyT P ops Q S R (o :: rest) a w := by
  unfold earlyT
  rw [if_pos (by simp [Region.wanted, hg])]
  exact h
theorem earlyT_call {R : Act → World → Prop} {o : Oper} {rest : List Oper} {a : Act} {w : World} (hg : o.guard = none) (f : FuncId) (args : Array Value) (K : Ending → World → Prop) (hrun : (execOp a.eval o).run P w = .ok (.enter f args) w) (hc : Calls P f args w K)
    (h : ∀ e w', K e w' → ∃ v, e = .returned v ∧ S w' ∧ earlyT P ops Q S R rest (a.put o.dst v) w') : earlyT P ops Q S R (o :: rest) a w := by
  refine earlyT_step hg ?_
  unfold Oper.wp
  rw [hrun]
  refine Calls.mono hc fun e w' he => ?_
  obtain ⟨v, rfl, h1⟩ := h e w' he
  exact h1
end
end Go.Proofs.YteklldbfdmaafaaDoor
