/-
  PoN1, PoN2.
-/
import Derived.Test.YtdbfemdpdpaffaaGreatDoorPBY
import Derived.Test.YtdbfemdpdpaffaaGreatDoorPAM
/-
  Merged legs, as plain data: the document's sorted list and its groups; one sum an account.
-/
namespace Go.Proofs.YtdbfemdpdpaffaaGreatDoor
open Go
def legLt (a b : Leg) : Bool := if a.acc = b.acc then decide (a.amt < b.amt) else Op.bytesLess a.acc b.acc
def legLe (a b : Leg) : Bool := !legLt b a
theorem legLe_iff {a b : Leg} : legLe a b = true ↔ (a.acc = b.acc ∧ a.amt ≤ b.amt) ∨ Op.bytesLess a.acc b.acc = true := by
  unfold legLe legLt
  by_cases h : b.acc = a.acc
  · rw [if_pos h, h, tl_irr]
    simp
  · rw [if_neg h]
    cases q : Op.bytesLess b.acc a.acc with
    | true =>
      have := tl_asym q
      have h' : ¬ a.acc = b.acc := fun e => h e.symm
      simp [this, h']
    | false =>
      have := tl_not q h
      simp [this]
theorem legLe_trans (a b c : Leg) (h : legLe a b = true) (g : legLe b c = true) : legLe a c = true := by
  rw [legLe_iff] at *
  rcases h with ⟨h1, h2⟩ | h <;> rcases g with ⟨g1, g2⟩ | g
  · exact .inl ⟨h1.trans g1, Int.le_trans h2 g2⟩
  · exact .inr (by rw [h1]; exact g)
  · exact .inr (by rw [← g1]; exact h)
  · exact .inr (tl_tr h g)
theorem legLe_total (a b : Leg) : (legLe a b || legLe b a) = true := by
  rw [Bool.or_eq_true, legLe_iff, legLe_iff]
  by_cases h : a.acc = b.acc
  · rcases Int.le_total a.amt b.amt with q | q
    · exact .inl (.inl ⟨h, q⟩)
    · exact .inr (.inl ⟨h.symm, q⟩)
  · rcases tl_tot _ _ h with q | q
    · exact .inl (.inr q)
    · exact .inr (.inr q)
/-- the document's sorting: by merging halves -/
def srtL (l : List Leg) : List Leg := if h : l.length < 2 then l else List.merge (srtL (l.take (l.length / 2))) (srtL (l.drop (l.length / 2))) legLe
termination_by l.length
decreasing_by
  · rw [List.length_take]; omega
  · rw [List.length_drop]; omega
theorem srt_small {l : List Leg} (h : l.length < 2) : srtL l = l := by rw [srtL, dif_pos h]
theorem srt_big {l : List Leg} (h : ¬ l.length < 2) : srtL l = List.merge (srtL (l.take (l.length / 2))) (srtL (l.drop (l.length / 2))) legLe := by conv => lhs; rw [srtL, dif_neg h]
theorem srt_perm (l : List Leg) : (srtL l).Perm l := by
  by_cases h : l.length < 2
  · rw [srt_small h]
  · rw [srt_big h]
    refine (List.merge_perm_append (le := legLe)).trans ?_
    have h1 := srt_perm (l.take (l.length / 2))
    have h2 := srt_perm (l.drop (l.length / 2))
    have h3 := h1.append h2
    rwa [List.take_append_drop] at h3
termination_by l.length
decreasing_by
  · rw [List.length_take]; omega
  · rw [List.length_drop]; omega
theorem srt_pair (l : List Leg) : (srtL l).Pairwise (fun a b => legLe a b = true) := by
  by_cases h : l.length < 2
  · rw [srt_small h]
    match l, h with
    | [], _ => exact .nil
    | [x], _ => simp
    | _ :: _ :: _, h => simp at h; omega
  · rw [srt_big h]
    exact List.pairwise_merge legLe_trans legLe_total _ _ (srt_pair _) (srt_pair _)
termination_by l.length
decreasing_by
  · rw [List.length_take]; omega
  · rw [List.length_drop]; omega
theorem srt_len (l : List Leg) : (srtL l).length = l.length := (srt_perm l).length_eq
def fitsI (x : Int) : Bool := decide (-9223372036854775808 ≤ x) && decide (x ≤ 9223372036854775807)
def sumA (l : List Leg) (a : List UInt8) : Int := ((l.filter fun x => decide (x.acc = a)).map (·.amt)).sum
/-- one leg an account -/
def mergeK (f : List UInt8 → Int) : List (List UInt8) → Option (List Leg)
  | [] => some []
  | a :: r => if fitsI (f a) = false then none else (mergeK f r).map fun o => if f a = 0 then o else ⟨a, f a⟩ :: o
/-- the document's groups of a sorted list -/
def mergeG (l : List Leg) : Option (List Leg) := match l with
  | [] => some []
  | x :: r =>
    let s := ((r.takeWhile fun y => decide (y.acc = x.acc)).map (·.amt)).sum + x.amt
    if fitsI s = false then none else (mergeG (r.dropWhile fun y => decide (y.acc = x.acc))).map fun o => if s = 0 then o else ⟨x.acc, s⟩ :: o
termination_by l.length
decreasing_by
  have := (List.dropWhile_sublist (fun y : Leg => decide (y.acc = x.acc)) (l := r)).length_le
  simp only [List.length_cons]
  omega
theorem mergeG_cons (x : Leg) (r : List Leg) : mergeG (x :: r) = if fitsI (((r.takeWhile fun y => decide (y.acc = x.acc)).map (·.amt)).sum + x.amt) = false then none else
    (mergeG (r.dropWhile fun y => decide (y.acc = x.acc))).map fun o => if ((r.takeWhile fun y => decide (y.acc = x.acc)).map (·.amt)).sum + x.amt = 0 then o else ⟨x.acc, ((r.takeWhile fun y => decide (y.acc = x.acc)).map (·.amt)).sum + x.amt⟩ :: o := by
  conv => lhs; rw [mergeG]
def heads (l : List Leg) : List (List UInt8) := match l with
  | [] => []
  | x :: r => x.acc :: heads (r.dropWhile fun y => decide (y.acc = x.acc))
termination_by l.length
decreasing_by
  have := (List.dropWhile_sublist (fun y : Leg => decide (y.acc = x.acc)) (l := r)).length_le
  simp only [List.length_cons]
  omega
theorem heads_cons (x : Leg) (r : List Leg) : heads (x :: r) = x.acc :: heads (r.dropWhile fun y => decide (y.acc = x.acc)) := by conv => lhs; rw [heads]
theorem sumA_append (l r : List Leg) (a : List UInt8) : sumA (l ++ r) a = sumA l a + sumA r a := by
  unfold sumA
  rw [List.filter_append, List.map_append, List.sum_append]
theorem sumI_perm {l r : List Int} (h : l.Perm r) : l.sum = r.sum := by
  induction h with
  | nil => rfl
  | cons x _ ih => rw [List.sum_cons, List.sum_cons, ih]
  | swap x y l => simp only [List.sum_cons]; omega
  | trans _ _ h1 h2 => exact h1.trans h2
theorem sumA_perm {l r : List Leg} (h : l.Perm r) (a : List UInt8) : sumA l a = sumA r a := by
  unfold sumA
  exact sumI_perm ((h.filter _).map _)
theorem sumA_none {l : List Leg} {a : List UInt8} (h : ∀ x ∈ l, x.acc ≠ a) : sumA l a = 0 := by
  unfold sumA
  rw [List.filter_eq_nil_iff.2 (fun x hx => by simpa using h x hx)]
  rfl
theorem sumA_all {l : List Leg} {a : List UInt8} (h : ∀ x ∈ l, x.acc = a) : sumA l a = (l.map (·.amt)).sum := by
  unfold sumA
  rw [List.filter_eq_self.2 (fun x hx => by simpa using h x hx)]
theorem mergeK_congr {f g : List UInt8 → Int} : ∀ {k : List (List UInt8)}, (∀ a ∈ k, f a = g a) → mergeK f k = mergeK g k
  | [], _ => rfl
  | a :: r, h => by
    unfold mergeK
    rw [h a (List.mem_cons_self ..), mergeK_congr fun b hb => h b (List.mem_cons_of_mem _ hb)]
/-- behind a group only greater accounts stand -/
theorem drop_gt {x : Leg} {r : List Leg} (h : (x :: r).Pairwise fun a b => legLe a b = true) : ∀ y ∈ r.dropWhile (fun y => decide (y.acc = x.acc)), Op.bytesLess x.acc y.acc = true := by
  rw [List.pairwise_cons] at h
  obtain ⟨h1, h2⟩ := h
  induction r with
  | nil => simp
  | cons z r ih =>
    rw [List.pairwise_cons] at h2
    by_cases hz : z.acc = x.acc
    · rw [List.dropWhile_cons_of_pos (by simp [hz])]
      exact ih (fun y hy => h1 y (List.mem_cons_of_mem _ hy)) h2.2
    · rw [List.dropWhile_cons_of_neg (by simp [hz])]
      have hxz : Op.bytesLess x.acc z.acc = true := by
        rcases legLe_iff.1 (h1 z (List.mem_cons_self ..)) with q | q
        · exact absurd q.1.symm hz
        · exact q
      intro y hy
      rcases List.mem_cons.1 hy with rfl | hy
      · exact hxz
      · rcases legLe_iff.1 (h2.1 y hy) with q | q
        · rw [← q.1]; exact hxz
        · exact tl_tr hxz q
theorem drop_pair {x : Leg} {r : List Leg} (h : (x :: r).Pairwise fun a b => legLe a b = true) : (r.dropWhile fun y => decide (y.acc = x.acc)).Pairwise fun a b => legLe a b = true :=
  (List.pairwise_cons.1 h).2.sublist (List.dropWhile_sublist _)
theorem take_all (x : Leg) (r : List Leg) : ∀ y ∈ r.takeWhile (fun y => decide (y.acc = x.acc)), y.acc = x.acc := fun y hy => by
  have := List.all_eq_true.1 (List.all_takeWhile (p := fun y : Leg => decide (y.acc = x.acc)) (l := r)) y hy
  simpa using this
theorem heads_mem (l : List Leg) (a : List UInt8) : a ∈ heads l ↔ a ∈ l.map (·.acc) := by
  match l with
  | [] => rw [heads]; simp
  | x :: r =>
    rw [heads_cons, List.mem_cons, heads_mem (r.dropWhile _) a, List.map_cons, List.mem_cons]
    have e := List.takeWhile_append_dropWhile (p := fun y : Leg => decide (y.acc = x.acc)) (l := r)
    constructor
    · rintro (h | h)
      · exact .inl h
      · right
        rw [← e, List.map_append, List.mem_append]
        exact .inr h
    · rintro (h | h)
      · exact .inl h
      · rw [← e, List.map_append, List.mem_append] at h
        rcases h with h | h
        · obtain ⟨y, hy, rfl⟩ := List.mem_map.1 h
          exact .inl (take_all x r y hy)
        · exact .inr h
termination_by l.length
decreasing_by
  have := (List.dropWhile_sublist (fun y : Leg => decide (y.acc = x.acc)) (l := r)).length_le
  simp only [List.length_cons]
  omega
theorem heads_pair (l : List Leg) (h : l.Pairwise fun a b => legLe a b = true) : (heads l).Pairwise fun a b => Op.bytesLess a b = true := by
  match l, h with
  | [], _ => rw [heads]; exact .nil
  | x :: r, h =>
    rw [heads_cons, List.pairwise_cons]
    refine ⟨fun a ha => ?_, heads_pair _ (drop_pair h)⟩
    rw [heads_mem] at ha
    obtain ⟨y, hy, rfl⟩ := List.mem_map.1 ha
    exact drop_gt h y hy
termination_by l.length
decreasing_by
  have := (List.dropWhile_sublist (fun y : Leg => decide (y.acc = x.acc)) (l := r)).length_le
  simp only [List.length_cons]
  omega
theorem mergeG_heads (l : List Leg) (h : l.Pairwise fun a b => legLe a b = true) : mergeG l = mergeK (sumA l) (heads l) := by
  match l, h with
  | [], _ => rw [mergeG, heads]; rfl
  | x :: r, h =>
    have e := List.takeWhile_append_dropWhile (p := fun y : Leg => decide (y.acc = x.acc)) (l := r)
    have ih := mergeG_heads _ (drop_pair h)
    have hs : sumA (x :: r) x.acc = ((r.takeWhile fun y => decide (y.acc = x.acc)).map (·.amt)).sum + x.amt := by
      have h1 : x :: r = [x] ++ (r.takeWhile (fun y => decide (y.acc = x.acc)) ++ r.dropWhile fun y => decide (y.acc = x.acc)) := by rw [e]; rfl
      rw [h1, sumA_append, sumA_append, sumA_all (take_all x r), sumA_none (l := r.dropWhile _) (fun y hy q => by have := drop_gt h y hy; rw [q, tl_irr] at this; cases this), sumA_all (l := [x]) (by simp)]
      simp only [List.map_cons, List.map_nil, List.sum_cons, List.sum_nil]
      omega
    rw [mergeG_cons, heads_cons]
    unfold mergeK
    rw [hs, ih]
    have hc : mergeK (sumA (r.dropWhile fun y => decide (y.acc = x.acc))) (heads (r.dropWhile fun y => decide (y.acc = x.acc))) = mergeK (sumA (x :: r)) (heads (r.dropWhile fun y => decide (y.acc = x.acc))) := by
      refine mergeK_congr fun a ha => ?_
      rw [heads_mem] at ha
      obtain ⟨y, hy, rfl⟩ := List.mem_map.1 ha
      have hne : x.acc ≠ y.acc := fun q => by have := drop_gt h y hy; rw [q, tl_irr] at this; cases this
      have h1 : x :: r = [x] ++ (r.takeWhile (fun y => decide (y.acc = x.acc)) ++ r.dropWhile fun y => decide (y.acc = x.acc)) := by rw [e]; rfl
      conv => rhs; rw [h1, sumA_append, sumA_append]
      rw [sumA_none (l := [x]) (by simpa using hne), sumA_none (l := r.takeWhile _) (fun z hz => by rw [take_all x r z hz]; exact hne)]
      omega
    rw [hc]
termination_by l.length
decreasing_by
  have := (List.dropWhile_sublist (fun y : Leg => decide (y.acc = x.acc)) (l := r)).length_le
  simp only [List.length_cons]
  omega
/-- THE LAW: the document's groups are one leg an account -/
theorem mergeG_is {l : List Leg} {K : List (List UInt8)} (hK : K.Pairwise fun a b => Op.bytesLess a b = true) (hm : ∀ a, a ∈ K ↔ a ∈ l.map (·.acc)) : mergeG (srtL l) = mergeK (sumA l) K := by
  rw [mergeG_heads _ (srt_pair l), rising_eq (f := id) (heads_pair _ (srt_pair l)) hK fun a => by rw [heads_mem, hm, ((srt_perm l).map (·.acc)).mem_iff]]
  exact mergeK_congr fun a _ => sumA_perm (srt_perm l) a
end Go.Proofs.YtdbfemdpdpaffaaGreatDoor
/-
  What merging keeps: neither order nor cuts count; rising, without noughts; merged again the same; a posting with its reverse comes to nothing.
-/
namespace Go.Proofs.YtdbfemdpdpaffaaGreatDoor
open Go
/-- posting.Merge of the joined lists -/
def mergeP (l : List Leg) : Option (List Leg) := mergeG (srtL l)
theorem mergeK_out {f : List UInt8 → Int} : ∀ {k : List (List UInt8)} {w : List Leg}, mergeK f k = some w → (w.map (·.acc)).Sublist k ∧ ∀ x ∈ w, f x.acc = x.amt ∧ fitsI x.amt = true ∧ x.amt ≠ 0
  | [], w, h => by cases h; exact ⟨.slnil, fun x hx => by cases hx⟩
  | a :: r, w, h => by
    unfold mergeK at h
    cases hf : fitsI (f a) with
    | false => rw [hf, if_pos rfl] at h; cases h
    | true =>
      rw [hf, if_neg (by decide)] at h
      obtain ⟨o, ho, he⟩ := Option.map_eq_some_iff.1 h
      obtain ⟨h1, h2⟩ := mergeK_out ho
      by_cases hz : f a = 0
      · rw [if_pos hz] at he
        subst he
        exact ⟨h1.cons _, h2⟩
      · rw [if_neg hz] at he
        subst he
        refine ⟨by rw [List.map_cons]; exact h1.cons_cons _, fun x hx => ?_⟩
        rcases List.mem_cons.1 hx with rfl | hx
        · exact ⟨rfl, hf, hz⟩
        · exact h2 x hx
end Go.Proofs.YtdbfemdpdpaffaaGreatDoor
