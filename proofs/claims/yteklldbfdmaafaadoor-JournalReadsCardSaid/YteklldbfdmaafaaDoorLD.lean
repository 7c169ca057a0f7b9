/-
  JRf0, JRf1, Jou4, JLe2, JLe3, JLe4, Rng, JEa, Rdk, Rdk2, Rdk3, Rdk5, Crq, Ref7p, Ref7, Ref7b.
-/
import Derived.RangeFuncIn
import Derived.Test.YteklldbfdmaafaaDoorLC
/-
  A record as the document reads it: plain data.
-/
namespace Go.Proofs.YteklldbfdmaafaaDoor
open Go Go.RowKit
/-- the size that a first payload tells, as a sum -/
def sizeN (q : List UInt8) : Nat := (q.getD 1 0).toNat + (q.getD 2 0).toNat * 256 + (q.getD 3 0).toNat * 65536 + (q.getD 4 0).toNat * 16777216
theorem sizeGo_sum (q : List UInt8) : sizeGo q 4 = (sizeN q : Int) := by
  have b1 := UInt8.toNat_lt (q.getD 1 0)
  have b2 := UInt8.toNat_lt (q.getD 2 0)
  have b3 := UInt8.toNat_lt (q.getD 3 0)
  have s0 := sizeGo_next q 0 0 (by omega) (by decide) rfl
  have s1 := sizeGo_next q 1 _ (by omega) (by show 0 + (q.getD 1 0).toNat * 1 < 256; omega) s0
  have s2 := sizeGo_next q 2 _ (by omega) (by show 0 + (q.getD 1 0).toNat * 1 + (q.getD 2 0).toNat * 256 < 65536; omega) s1
  have s3 := sizeGo_next q 3 _ (by omega) (by show 0 + (q.getD 1 0).toNat * 1 + (q.getD 2 0).toNat * 256 + (q.getD 3 0).toNat * 65536 < 16777216; omega) s2
  rw [s3]
  show (((0 + (q.getD 1 0).toNat * 1 + (q.getD 2 0).toNat * 256 + (q.getD 3 0).toNat * 65536 + (q.getD 4 0).toNat * 16777216 : Nat)) : Int) = ((sizeN q : Nat) : Int)
  unfold sizeN
  omega
/-- the text of payloads: a first one, further ones -/
def txt : List (List UInt8) → List UInt8
  | [] => []
  | q :: r => q.drop 5 ++ r.flatMap (·.drop 1)
theorem txt_snoc (P : List (List UInt8)) (h : P ≠ []) (q : List UInt8) : txt (P ++ [q]) = txt P ++ q.drop 1 := by
  cases P with
  | nil => exact absurd rfl h
  | cons p r => simp [txt, List.flatMap_append]
theorem chunks_txt : ∀ (f : Nat) (l : List UInt8), l.length ≤ 233 * f → (chunksJ f l).flatMap (·.drop 1) = l := by
  intro f
  induction f with
  | zero => intro l h; have : l = [] := List.length_eq_zero_iff.1 (by omega); subst this; rfl
  | succ f ih =>
    intro l h
    by_cases h0 : l = []
    · subst h0; rw [chunksJ_nil]; rfl
    · rw [chunksJ_cons _ _ h0, List.flatMap_cons, ih _ (by rw [List.length_drop]; omega)]
      show l.take 233 ++ l.drop 233 = l
      exact List.take_append_drop _ _
theorem pcs_txt (s : List UInt8) : txt (pcsJ s) = s := by
  show (headJ s.length ++ s.take 229).drop 5 ++ (chunksJ s.length (s.drop 229)).flatMap (·.drop 1) = s
  rw [chunks_txt _ _ (by rw [List.length_drop]; omega)]
  show s.take 229 ++ s.drop 229 = s
  exact List.take_append_drop _ _
theorem pcs_pos (s : List UInt8) (j : Nat) (p : List UInt8) (h : (pcsJ s)[j]? = some p) : 1 ≤ p.length := by
  cases j with
  | zero =>
    have h' : some (headJ s.length ++ s.take 229) = some p := h
    cases h'
    rw [List.length_append]
    show 1 ≤ 5 + _
    omega
  | succ j =>
    have h' : (chunksJ s.length (s.drop 229))[j]? = some p := h
    have key : ∀ (f : Nat) (l : List UInt8), ∀ p ∈ chunksJ f l, 1 ≤ p.length := by
      intro f
      induction f with
      | zero => intro l p hp; cases hp
      | succ f ih =>
        intro l p hp
        by_cases h0 : l = []
        · subst h0; rw [chunksJ_nil] at hp; cases hp
        · rw [chunksJ_cons _ _ h0] at hp
          rcases List.mem_cons.1 hp with rfl | hp
          · rw [List.length_cons]; omega
          · exact ih _ _ hp
    exact key _ _ _ (List.mem_of_getElem? h')
section
variable {D : Dsk} {at_ n : Int} {ver : Nat}
theorem recGo_fwd (i : Nat) (L : Nat) : ∀ (f : Nat) (k : Nat) (out s : List UInt8), out.length ≤ L → (L - out.length + 232) / 233 = f → recGo D at_ n ver i (L : Int) f k out = some s →
    ∃ l : List UInt8, s = out ++ l ∧ out.length + l.length = L ∧ ∀ (F : Nat), l.length ≤ 233 * F → ∀ j p, (chunksJ F l)[j]? = some p → payO D at_ n ver (i + k + j) = some p := by
  intro f
  induction f with
  | zero =>
    intro k out s h1 h2 h
    have h : some out = some s := h
    cases h
    exact ⟨[], by simp, by simp; omega, fun F _ j p hp => by rw [chunksJ_nil] at hp; simp at hp⟩
  | succ f ih =>
    intro k out s h1 h2 h
    have hunf : recGo D at_ n ver i (L : Int) (f + 1) k out = match payO D at_ n ver (i + k) with
      | none => none
      | some q => if (q.length : Int) ≠ 1 + min ((L : Int) - out.length) 233 then none else if q.getD 0 0 ≠ 0 then none else recGo D at_ n ver i (L : Int) f (k + 1) (out ++ q.drop 1) := rfl
    rw [hunf] at h
    clear hunf
    cases hq : payO D at_ n ver (i + k) with
    | none => rw [hq] at h; cases h
    | some q =>
      rw [hq] at h
      dsimp only at h
      split at h
      · cases h
      rename_i hl
      split at h
      · cases h
      rename_i h0
      have hl : (q.length : Int) = 1 + min ((L : Int) - out.length) 233 := by simpa using hl
      have h0 : q.getD 0 0 = 0 := by simpa using h0
      have hd : (q.drop 1).length = min (L - out.length) 233 := by rw [List.length_drop]; omega
      obtain ⟨l', e1, e2, e3⟩ := ih (k + 1) (out ++ q.drop 1) s (by rw [List.length_append, hd]; omega) (by rw [List.length_append, hd]; omega) h
      rw [List.length_append, hd] at e2
      refine ⟨q.drop 1 ++ l', by rw [e1, List.append_assoc], by rw [List.length_append, hd]; omega, fun F hF j p hp => ?_⟩
      rw [List.length_append, hd] at hF
      obtain ⟨F', rfl⟩ : ∃ F', F = F' + 1 := ⟨F - 1, by omega⟩
      have hne : q.drop 1 ++ l' ≠ [] := by
        intro e
        have := congrArg List.length e
        rw [List.length_append, hd] at this
        simp at this
        omega
      have hqc : q = 0 :: q.drop 1 := by
        cases q with
        | nil => simp at hl; omega
        | cons c q => have : c = 0 := h0
                      subst this; rfl
      have htk : (q.drop 1 ++ l').take 233 = q.drop 1 ∧ (q.drop 1 ++ l').drop 233 = l' := by
        by_cases hb : 233 ≤ L - out.length
        · have : (q.drop 1).length = 233 := by omega
          exact ⟨by rw [List.take_append_of_le_length (by omega), List.take_of_length_le (by omega)], by rw [List.drop_append_of_le_length (by omega), List.drop_of_length_le (by omega)]; rfl⟩
        · have : l' = [] := List.length_eq_zero_iff.1 (by omega)
          subst this
          rw [List.append_nil]
          exact ⟨List.take_of_length_le (by omega), List.drop_of_length_le (by omega)⟩
      rw [chunksJ_cons _ _ hne, htk.1, htk.2, ← hqc] at hp
      cases j with
      | zero => cases hp; rw [Nat.add_zero]; exact hq
      | succ j =>
        have := e3 F' (by omega) j p (by simpa using hp)
        rwa [show i + (k + 1) + j = i + k + (j + 1) by omega] at this
theorem headJ_take (q : List UInt8) (h5 : 5 ≤ q.length) (h1 : q.getD 0 0 = 1) : headJ (sizeN q) = q.take 5 := by
  obtain ⟨c0, q, rfl⟩ := List.exists_cons_of_length_pos (l := q) (by omega)
  obtain ⟨c1, q, rfl⟩ := List.exists_cons_of_length_pos (l := q) (by simp at h5; omega)
  obtain ⟨c2, q, rfl⟩ := List.exists_cons_of_length_pos (l := q) (by simp at h5; omega)
  obtain ⟨c3, q, rfl⟩ := List.exists_cons_of_length_pos (l := q) (by simp at h5; omega)
  obtain ⟨c4, q, rfl⟩ := List.exists_cons_of_length_pos (l := q) (by simp at h5; omega)
  have h1 : c0 = 1 := h1
  subst h1
  have b1 := UInt8.toNat_lt c1
  have b2 := UInt8.toNat_lt c2
  have b3 := UInt8.toNat_lt c3
  have b4 := UInt8.toNat_lt c4
  obtain ⟨m, hm⟩ : ∃ m, m = sizeN (1 :: c1 :: c2 :: c3 :: c4 :: q) := ⟨_, rfl⟩
  have hz : m = c1.toNat + c2.toNat * 256 + c3.toNat * 65536 + c4.toNat * 16777216 := hm
  rw [← hm]
  have key : ∀ (c : UInt8) (m : Nat), m = c.toNat → UInt8.ofNat m = c := fun c m h => by rw [h]; exact UInt8.ofNat_toNat
  have e1 : UInt8.ofNat (m % 256) = c1 := key _ _ (by omega)
  have e2 : UInt8.ofNat (m / 256 % 256) = c2 := key _ _ (by omega)
  have e3 : UInt8.ofNat (m / 65536 % 256) = c3 := key _ _ (by omega)
  have e4 : UInt8.ofNat (m / 16777216 % 256) = c4 := key _ _ (by omega)
  unfold headJ
  rw [e1, e2, e3, e4]
  rfl
/-- what a record that reads has been -/
theorem recO_fwd {i : Nat} {s : List UInt8} {u : Int} (h : recO D at_ n ver i = some (s, u)) : ∃ q, payO D at_ n ver i = some q ∧ sizeGo q 4 = (s.length : Nat) ∧ u = costI s.length ∧ ∀ j p, (pcsJ s)[j]? = some p → payO D at_ n ver (i + j) = some p := by
  unfold recO at h
  cases hq : payO D at_ n ver i with
  | none => rw [hq] at h; cases h
  | some q =>
    rw [hq] at h
    dsimp only at h
    split at h
    · cases h
    rename_i h5
    split at h
    · cases h
    rename_i h1
    split at h
    · cases h
    split at h
    · cases h
    rename_i hl
    rw [sizeGo_sum] at h hl
    obtain ⟨Z, hZ⟩ : ∃ Z, Z = sizeN q := ⟨_, rfl⟩
    rw [← hZ] at h hl
    have hl : ((q.drop 5).length : Int) = min ((Z : Nat) : Int) 229 := by simpa using hl
    have h1 : q.getD 0 0 = 1 := by simpa using h1
    cases hg : recGo D at_ n ver i ((Z : Nat) : Int) (costI (Z : Nat) - 1).toNat 1 (q.drop 5) with
    | none => rw [hg] at h; cases h
    | some s' =>
      rw [hg] at h
      simp only [Option.some.injEq, Prod.mk.injEq] at h
      obtain ⟨rfl, rfl⟩ := h
      have hcnt : (Z - (q.drop 5).length + 232) / 233 = (costI (Z : Nat) - 1).toNat := by
        unfold costI
        split
        · omega
        split <;> omega
      obtain ⟨l, e1, e2, e3⟩ := recGo_fwd i (Z) _ 1 (q.drop 5) s' (by omega) hcnt hg
      have hs : s'.length = Z := by rw [e1, List.length_append]; exact e2
      refine ⟨q, rfl, by rw [sizeGo_sum, hs, hZ], by rw [hs], fun j p hp => ?_⟩
      have htk : s'.take 229 = q.drop 5 ∧ s'.drop 229 = l := by
        rw [e1]
        by_cases hb : 229 ≤ Z
        · have : (q.drop 5).length = 229 := by omega
          exact ⟨by rw [List.take_append_of_le_length (by omega), List.take_of_length_le (by omega)], by rw [List.drop_append_of_le_length (by omega), List.drop_of_length_le (by omega)]; rfl⟩
        · have : l = [] := List.length_eq_zero_iff.1 (by omega)
          subst this
          rw [List.append_nil]
          exact ⟨List.take_of_length_le (by omega), List.drop_of_length_le (by omega)⟩
      have hhd : headJ s'.length = q.take 5 := by rw [hs, hZ]; exact headJ_take q (by omega) h1
      unfold pcsJ at hp
      rw [htk.1, htk.2, hhd, List.take_append_drop] at hp
      cases j with
      | zero => cases hp; exact hq
      | succ j =>
        have := e3 s'.length (by omega) j p (by simpa using hp)
        rwa [show i + 1 + j = i + (j + 1) by omega] at this
end
end Go.Proofs.YteklldbfdmaafaaDoor
/-
  A record as the document reads it: what its payloads make of it. Plain data.
-/
namespace Go.Proofs.YteklldbfdmaafaaDoor
open Go Go.RowKit
section
variable {D : Dsk} {at_ n : Int} {ver : Nat}
/-- payloads that stand where a record reads are its first ones -/
theorem recO_take {i : Nat} {s : List UInt8} {u : Int} (h : recO D at_ n ver i = some (s, u)) (P : List (List UInt8)) (hp : ∀ j p, P[j]? = some p → payO D at_ n ver (i + j) = some p) (hl : (P.length : Int) ≤ u) : P = (pcsJ s).take P.length := by
  obtain ⟨q, -, -, hu, hall⟩ := recO_fwd h
  have hL := pcsJ_length s
  apply List.ext_getElem?
  intro j
  by_cases hj : j < P.length
  · rw [List.getElem?_take, if_pos hj]
    have h1 := hp j _ (List.getElem?_eq_getElem hj)
    have hj2 : j < (pcsJ s).length := by omega
    have h2 := hall j _ (List.getElem?_eq_getElem hj2)
    rw [h1] at h2
    rw [List.getElem?_eq_getElem hj, List.getElem?_eq_getElem hj2]
    exact h2
  · rw [List.getElem?_eq_none (by omega), List.getElem?_eq_none (by rw [List.length_take]; omega)]
/-- what a record's head tells of it -/
theorem recO_size {i : Nat} {s : List UInt8} {u : Int} {q : List UInt8} (h : recO D at_ n ver i = some (s, u)) (hq : payO D at_ n ver i = some q) : sizeN q = s.length ∧ u = costI (sizeN q : Nat) ∧ ((pcsJ s).length : Int) = u := by
  obtain ⟨q', h1, h2, h3, -⟩ := recO_fwd h
  rw [hq] at h1; cases h1
  rw [sizeGo_sum] at h2
  have e : sizeN q = s.length := by omega
  exact ⟨e, by rw [e]; exact h3, by rw [pcsJ_length, h3]⟩
/-- the document refuses: then it does not read -/
theorem recO_not {i : Nat} (h : ∀ s u, recO D at_ n ver i = some (s, u) → False) : recO D at_ n ver i = none := by
  cases hr : recO D at_ n ver i with
  | none => rfl
  | some su => exact (h su.1 su.2 (by rw [hr])).elim
theorem recO_gap {i k : Nat} {q : List UInt8} (hq : payO D at_ n ver i = some q) (hk : (k : Int) < costI (sizeN q : Nat)) (h : ∀ p, payO D at_ n ver (i + k) = some p → p.length < 1) : recO D at_ n ver i = none := by
  refine recO_not fun s u hr => ?_
  obtain ⟨e1, e2, e3⟩ := recO_size hr hq
  obtain ⟨-, -, -, -, hall⟩ := recO_fwd hr
  have hj : k < (pcsJ s).length := by omega
  have h1 := hall k _ (List.getElem?_eq_getElem hj)
  have h2 := pcs_pos s k _ (List.getElem?_eq_getElem hj)
  have := h _ h1
  omega
theorem recO_all {i : Nat} {q : List UInt8} {P : List (List UInt8)} (hq : payO D at_ n ver i = some q) (hp : ∀ j p, P[j]? = some p → payO D at_ n ver (i + j) = some p) (hl : (P.length : Int) = costI (sizeN q : Nat)) {s : List UInt8} {u : Int} (h : recO D at_ n ver i = some (s, u)) : P = pcsJ s ∧ txt P = s ∧ s.length = sizeN q := by
  obtain ⟨e1, e2, e3⟩ := recO_size h hq
  have := recO_take h P hp (by omega)
  rw [List.take_of_length_le (by omega)] at this
  exact ⟨this, by rw [this]; exact pcs_txt s, e1.symm⟩
/-- the document takes: then it reads -/
theorem recO_yes {i : Nat} {s : List UInt8} (hs : s.length < 2147483648) (hp : ∀ j p, (pcsJ s)[j]? = some p → payO D at_ n ver (i + j) = some p) (hn : (i : Int) + (pcsJ s).length ≤ n) : recO D at_ n ver i = some (s, ((pcsJ s).length : Int)) := by
  rcases recO_read (D := D) (at_ := at_) (n := n) (ver := ver) i s hs (fun j p h => .inl (hp j p h)) hn with ⟨h, -⟩ | ⟨-, j, hj, h⟩
  · exact h
  · have := hp j _ (List.getElem?_eq_getElem hj)
    rw [h] at this; cases this
theorem recO_short {i : Nat} {q : List UInt8} (hq : payO D at_ n ver i = some q) (h : q.length < 5) : recO D at_ n ver i = none := by unfold recO; rw [hq]; dsimp only; rw [if_pos h]
theorem recO_head {i : Nat} {q : List UInt8} (hq : payO D at_ n ver i = some q) (h : q.getD 0 0 ≠ 1) : recO D at_ n ver i = none := by
  unfold recO; rw [hq]; dsimp only
  split
  · rfl
  · first | rfl | rw [if_pos h]
theorem recO_cost {i : Nat} {q : List UInt8} (hq : payO D at_ n ver i = some q) (h : n - (i : Int) < costI (sizeN q : Nat)) : recO D at_ n ver i = none := by
  refine recO_not fun s u hr => ?_
  obtain ⟨e1, e2, e3⟩ := recO_size hr hq
  have := (recO_some hr).2
  omega
end
end Go.Proofs.YteklldbfdmaafaaDoor
/-
  JournalCosts (chapter 10): the law's record, its fixed facts, the walk.
-/
namespace Go.Proofs.YteklldbfdmaafaaDoor
open Go Go.RowKit
def recC (fill : Int) (i : Nat) : UInt8 := UInt8.ofNat ((fill + (i : Int) * 7 + (i : Int) / 251) % 256).toNat
def recB (fill : Int) (n : Nat) : List UInt8 := (List.range n).map (recC fill)
def recL (size fill : Int) : List UInt8 := recB fill (IntKind.u64.wrap size % 3001).toNat
theorem recB_length (fill : Int) (n : Nat) : (recB fill n).length = n := by simp [recB]
theorem recB_next (fill : Int) (n : Nat) : recB fill (n + 1) = recB fill n ++ [recC fill n] := by simp [recB, List.range_succ]
theorem recC_int (fill : Int) (i : Nat) : IntKind.u8.wrap (fill + (i : Int) * 7 + (i : Int) / 251) = ((recC fill i).toNat : Int) := by
  have e : IntKind.u8.wrap (fill + (i : Int) * 7 + (i : Int) / 251) = (fill + (i : Int) * 7 + (i : Int) / 251) % 256 := rfl
  unfold recC
  rw [e, UInt8.toNat_ofNat']
  omega
section
variable {P : Program} {W : World} {n : Nat} {E : Env} {H : List SP} {x y : Operand} {t u : TypeId}
theorem Ct.rowShape {P : Program} {W : World} {f : FuncId} {args : List Value} {Hpre : List SP} {A : SP} {e size m : Nat} {xs : List Value} (hm : 0 < m) (h : Ct P W f args Hpre (fun v : Value => .tuple #[v, .nilIface]) (fun v => [A, rowP v e size m xs])) :
    Ct P W f args Hpre (fun x : Nat × Nat => .tuple #[.slice (some ⟨x.1, 0, none⟩) m x.2, .nilIface]) (fun x => [A, rowP (.slice (some ⟨x.1, 0, none⟩) m x.2) e size m xs]) :=
  ⟨fun R w s => (h.go R w s).mono fun en w' ⟨v, he, st⟩ => by
    have hrow := St.row (v := v) (e := e) (size := size) (n := m) (xs := xs) st (.there .here)
    rcases hrow.2 with ⟨_, q⟩ | ⟨g, cap, cur, hv, _⟩
    · omega
    · subst hv
      exact ⟨(g, cap), he, st⟩⟩
end
section
variable {W : World} {E : Nat → Addr} {p g : Nat} {D : Dsk}
set_option maxHeartbeats 400000 in
set_option maxRecDepth 100000 in
theorem record10_ct (size fill : Int) (hf : 0 ≤ fill ∧ fill ≤ 1099511627776) : Ct Tryd.prog W 68 [.int .i64 size, .int .i64 fill] [] (fun _ : Unit => strV (recL size fill)) (fun _ => []) := by
  obtain ⟨B, hB⟩ : ∃ B, IntKind.u64.wrap size = B := ⟨_, rfl⟩
  have hBb : 0 ≤ B ∧ B < 18446744073709551616 := by
    have e : IntKind.u64.wrap size = size % 18446744073709551616 := rfl
    omega
  obtain ⟨n, hn⟩ : ∃ n : Nat, B % 3001 = (n : Int) := ⟨(B % 3001).toNat, by omega⟩
  have hn2 : n ≤ 3000 := by omega
  have eL : recL size fill = recB fill n := by unfold recL; rw [hB, hn]; rfl
  rw [eL]
  clear eL
  refine Ct.enter Tryd.func68 rfl Tryd.ntmps68 (by simp) (fun R => ?_)
  repeat' (first 
    | refine KJ_stp (by first | constructor | fail) ?_
    | (refine is_oper ?_; first | (refine is_store ?_; first | (refine KJ_store rfl rfl xS xF (by rfl) xO xL xR ?_)) | (refine is_mkSlice ?_; first | (refine KJ_makeBytes rfl rfl rfl (by omega) rfl (fun g => ?_))) | (refine KJ_ek rfl ?_) | (refine KJ_ek0 ?_))
    | (refine is_ek ?_; first | (refine xmv ?_) | (refine xas ?_) | (refine ek_conv ?_; first | (refine EK_ev (Ev_convI_v rfl hB) ?_) | (refine EK_ev (Ev_convI64 rfl (by omega)) ?_) | (refine EK_ev (Ev_convI rfl) ?_) | (refine EK_ev (Ev_convS rfl) ?_)) | (refine ek_indexAddr ?_; first | (refine EK_ev (Ev_indexSlice rfl rfl (by omega)) ?_) | (refine EK_ev (Ev_indexArr rfl rfl (by omega)) ?_)) | (refine ek_len ?_; first | (refine EK_ev (Ev_len_str rfl) ?_) | (refine EK_ev (Ev_len_slice rfl) ?_) | (refine EK_ev (Ev_len_arr rfl) ?_) | (refine EK_ev (Ev_len_map rfl xS) ?_)) | (refine ek_add ?_; first | (refine EK_ev (Ev_addI rfl rfl (by omega)) ?_) | (refine EK_ev (Ev_addS rfl rfl (by simp <;> omega)) ?_) | (refine EK_ev (Ev_add rfl rfl) ?_)) | (refine ek_mul ?_; first | (refine EK_ev (Ev_mulI rfl rfl (by omega)) ?_) | (refine EK_ev (Ev_mul rfl rfl) ?_)) | (refine ek_quo ?_; first | (refine EK_ev (Ev_quoI rfl rfl (by omega)) ?_) | (refine EK_ev (Ev_quo rfl rfl (by omega)) ?_)) | (refine ek_rem ?_; first | (refine EK_ev (Ev_rem_w rfl rfl (by omega) hn) ?_) | (refine EK_ev (Ev_remI rfl rfl (by omega)) ?_) | (refine EK_ev (Ev_rem rfl rfl (by omega)) ?_)) | (refine ek_lss ?_; first | (refine EK_ev (Ev_lssI rfl rfl) ?_) | (refine EK_ev (Ev_lssS rfl rfl) ?_)))
    | (refine is_ex ?_; first | (refine KJ_blk_exit' rfl ?_))
    | (refine is_code ?_; first | (refine KJ_cond_dec rfl (fun _ => ?_) (fun _ => ?_) <;> first | (exfalso; omega) | skip) | (refine KJ_cond_t rfl ?_) | (refine KJ_cond_f rfl ?_)))
  refine KJ_loop (fun i : {k : Nat // k ≤ n} => [(1, .int .i64 fill), (6, .slice (some ⟨g, 0, none⟩) n n), (15, .int .i64 (n : Nat)), (16, .int .i64 (i.1 : Nat))]) (fun i => [cellsP g (bvs (recB fill i.1 ++ zs (n - i.1))) 5] ++ R) (fun i => n - i.1) ⟨0, by omega⟩ xB (by show ∀ h, starL (cellsP g (bvs (zs n)) 5 :: R) h → _; exact (xN)) (fun ⟨k, hk⟩ => ?_)
  dsimp only
  by_cases hlt : k < n
  · have ql : decide ((k : Int) < (n : Nat)) = true := decide_eq_true (by omega)
    have hlen := recB_length fill k
    have hzl : (zs (n - k)).length = n - k := by simp [zs]
    have hcv := recC_int fill k
    have hfit : 0 + (k : Int).toNat * 1 + [Value.int IntKind.u8 ((recC fill k).toNat : Int)].length ≤ (bvs (recB fill k ++ zs (n - k))).length := by rw [bvs_length', List.length_append, hlen, hzl]; simp; omega
    repeat' (first 
    | refine KJ_stp (by first | constructor | fail) ?_
    | (refine is_oper ?_; first | (refine is_store ?_; first | (refine KJ_store (v := .int .u8 ((recC fill k).toNat : Int)) rfl rfl xS xF (by rfl) xO (Laid.of hfit) xR ?_) | (refine KJ_store rfl rfl xS xF (by rfl) xO xL xR ?_)) | (refine KJ_ek rfl ?_) | (refine KJ_ek0 ?_))
    | (refine is_ek ?_; first | (refine xmv ?_) | (refine xas ?_) | (refine ek_conv ?_; first | (refine EK_ev (Ev_convI_v rfl hcv) ?_) | (refine EK_ev (Ev_convI64 rfl (by omega)) ?_) | (refine EK_ev (Ev_convI rfl) ?_) | (refine EK_ev (Ev_convS rfl) ?_)) | (refine ek_indexAddr ?_; first | (refine EK_ev (Ev_indexSlice rfl rfl (by omega)) ?_) | (refine EK_ev (Ev_indexArr rfl rfl (by omega)) ?_)) | (refine ek_len ?_; first | (refine EK_ev (Ev_len_str rfl) ?_) | (refine EK_ev (Ev_len_slice rfl) ?_) | (refine EK_ev (Ev_len_arr rfl) ?_) | (refine EK_ev (Ev_len_map rfl xS) ?_)) | (refine ek_add ?_; first | (refine EK_ev (Ev_addI_v (r := ((k + 1 : Nat) : Int)) rfl rfl (by first | rfl | (exact rfl)) (by omega)) ?_) | (refine EK_ev (Ev_addI rfl rfl (by omega)) ?_) | (refine EK_ev (Ev_addS rfl rfl (by simp <;> omega)) ?_) | (refine EK_ev (Ev_add rfl rfl) ?_)) | (refine ek_mul ?_; first | (refine EK_ev (Ev_mulI rfl rfl (by omega)) ?_) | (refine EK_ev (Ev_mul rfl rfl) ?_)) | (refine ek_quo ?_; first | (refine EK_ev (Ev_quoI rfl rfl (by omega)) ?_) | (refine EK_ev (Ev_quo rfl rfl (by omega)) ?_)) | (refine ek_rem ?_; first | (refine EK_ev (Ev_remI rfl rfl (by omega)) ?_) | (refine EK_ev (Ev_rem rfl rfl (by omega)) ?_)) | (refine ek_lss ?_; first | (refine EK_ev (Ev_lssI_q rfl rfl ql) ?_) | (refine EK_ev (Ev_lssI rfl rfl) ?_) | (refine EK_ev (Ev_lssS rfl rfl) ?_)))
    | (refine is_ex ?_; first | (refine KJ_blk_exit' rfl ?_))
    | (refine is_code ?_; first | (refine KJ_cond_dec rfl (fun _ => ?_) (fun _ => ?_) <;> first | (exfalso; omega) | skip) | (refine KJ_cond_t rfl ?_) | (refine KJ_cond_f rfl ?_)))
    refine KJ_again ⟨k + 1, by omega⟩ (by show n - (k + 1) < n - k; omega) xB ?_
    have e3 : 0 + (k : Int).toNat * 1 = k := by simp
    have e := lay_zs (recB fill k) k (n - k - 1) (recC fill k) hlen
    rw [show n - k - 1 + 1 = n - k by omega, ← recB_next] at e
    rw [e3]
    have e2 : lay (bvs (recB fill k ++ zs (n - k))) k [Value.int IntKind.u8 ((recC fill k).toNat : Int)] = bvs (recB fill (k + 1) ++ zs (n - (k + 1))) := by
      rw [show n - (k + 1) = n - k - 1 by omega]; exact e
    rw [e2]
    exact (xN)
  · have hkn : k = n := by omega
    subst hkn
    have ql : decide ((k : Int) < (k : Int)) = false := decide_eq_false (by omega)
    have e0 : recB fill k ++ zs (k - k) = recB fill k := by simp [zs]
    rw [e0]
    repeat' (first 
    | refine KJ_stp (by first | constructor | fail) ?_
    | (refine is_oper ?_; first | (refine is_store ?_; first | (refine KJ_store rfl rfl xS xF (by rfl) xO xL xR ?_)) | (refine KJ_ek rfl ?_) | (refine KJ_ek0 ?_))
    | (refine is_ek ?_; first | (refine xmv ?_) | (refine xas ?_) | (refine ek_conv ?_; first | (refine EK_ev (Ev_bytesAll rfl xS (recB_length _ _)) ?_) | (refine EK_ev (Ev_convI64 rfl (by omega)) ?_) | (refine EK_ev (Ev_convI rfl) ?_) | (refine EK_ev (Ev_convS rfl) ?_)) | (refine ek_indexAddr ?_; first | (refine EK_ev (Ev_indexSlice rfl rfl (by omega)) ?_) | (refine EK_ev (Ev_indexArr rfl rfl (by omega)) ?_)) | (refine ek_len ?_; first | (refine EK_ev (Ev_len_str rfl) ?_) | (refine EK_ev (Ev_len_slice rfl) ?_) | (refine EK_ev (Ev_len_arr rfl) ?_) | (refine EK_ev (Ev_len_map rfl xS) ?_)) | (refine ek_add ?_; first | (refine EK_ev (Ev_addI rfl rfl (by omega)) ?_) | (refine EK_ev (Ev_addS rfl rfl (by simp <;> omega)) ?_) | (refine EK_ev (Ev_add rfl rfl) ?_)) | (refine ek_mul ?_; first | (refine EK_ev (Ev_mulI rfl rfl (by omega)) ?_) | (refine EK_ev (Ev_mul rfl rfl) ?_)) | (refine ek_quo ?_; first | (refine EK_ev (Ev_quoI rfl rfl (by omega)) ?_) | (refine EK_ev (Ev_quo rfl rfl (by omega)) ?_)) | (refine ek_rem ?_; first | (refine EK_ev (Ev_remI rfl rfl (by omega)) ?_) | (refine EK_ev (Ev_rem rfl rfl (by omega)) ?_)) | (refine ek_lss ?_; first | (refine EK_ev (Ev_lssI_q rfl rfl ql) ?_) | (refine EK_ev (Ev_lssI rfl rfl) ?_) | (refine EK_ev (Ev_lssS rfl rfl) ?_)))
    | (refine is_ex ?_; first | (refine KJ_blk_exit' rfl ?_))
    | (refine is_code ?_; first | (refine KJ_cond_dec rfl (fun _ => ?_) (fun _ => ?_) <;> first | (exfalso; omega) | skip) | (refine KJ_cond_t rfl ?_) | (refine KJ_cond_f rfl ?_)))
    all_goals (exact xdn ())
def RJ2 : List UInt8 := recL 300 1
def RJ3 : List UInt8 := recL 230 2
def JD1 : Dsk := (apGo 2 1 0 (pcsJ [97]) 0 (Dsk.blank 8)).2
def JD2 : Dsk := (apGo 2 1 1 (pcsJ RJ2) 0 JD1).2
theorem JD1_ok : (apGo 2 1 0 (pcsJ [97]) 0 (Dsk.blank 8)).1 = true := by kernel_rfl
theorem JD2_ok : (apGo 2 1 1 (pcsJ RJ2) 0 JD1).1 = true := by kernel_rfl
theorem JD1_n : JD1.n = 8 := by kernel_rfl
theorem JD1_d : downB JD1 0 false = false := by kernel_rfl
theorem JD1_u : JD1.und.length = 1 := by kernel_rfl
theorem JD2_n : JD2.n = 8 := by kernel_rfl
theorem JD2_d : downB JD2 0 false = false := by kernel_rfl
theorem JD2_o : JD2.off = false := by kernel_rfl
theorem JD2_r : rpGo JD2 2 4 1 5 0 [] = [[97], RJ2] := by kernel_rfl
theorem RJ2_l : RJ2.length = 300 := recB_length _ _
theorem RJ3_l : RJ3.length = 230 := recB_length _ _
set_option maxHeartbeats 1000000 in
set_option maxRecDepth 100000 in
theorem fixed10_ct (hE : ErrsAt W E) (hN : NibAt W) (hg : gB ≤ W.heap.size) : Ct Tryd.prog W 60 [] [] (fun _ : Unit => .bool true) (fun _ => []) := by
  have hE8 : ErrsOn L8 W E := hE.on
  have e17 : W.cell? ⟨6, 0, none⟩ = some (errV E 17) := hE.all.at_ 17 (by decide)
  have c1 : Ct Tryd.prog W 33 [.int .i64 8] [] (fun p : Nat => .tuple #[.pointer (some ⟨p, 0, none⟩), .nilIface]) (fun p => [DiskP p (Dsk.blank 8)]) := new_ct 8 (by omega) (by omega) hg
  have cb : ∀ p, Ct Tryd.prog W 65 [.pointer (some ⟨p, 0, none⟩), .int .i64 2, .int .i64 4, .int .i64 1] [DiskP p (Dsk.blank 8)] (fun g : Nat => .tuple #[.pointer (some ⟨g, 0, none⟩), .nilIface]) (fun g => [DiskP p (Dsk.blank 8), cellsP g [.pointer (some ⟨p, 0, none⟩), .int .i64 2, .int .i64 4, .int .i64 1, .int .i64 0, .int .i64 0, .bool false] 165]) := fun p =>
    begin_ct (by show 8 ≤ 65536; omega) rfl 2 4 1 ⟨by omega, by omega, by show (2 : Int) ≤ 8; omega, by show (4 : Int) ≤ 8 - 2; omega, by omega, by omega, by omega⟩
  have ca1 : ∀ p g, Ct Tryd.prog W 67 [.pointer (some ⟨g, 0, none⟩), strV [97]] [DiskP p (Dsk.blank 8), cellsP g [.pointer (some ⟨p, 0, none⟩), .int .i64 2, .int .i64 4, .int .i64 1, .int .i64 0, .int .i64 0, .bool false] 165] (fun _ : Unit => .nilIface) (fun _ => [DiskP p JD1, cellsP g [.pointer (some ⟨p, 0, none⟩), .int .i64 2, .int .i64 4, .int .i64 1, .int .i64 1, .int .i64 0, .bool false] 165]) := fun p g => by
    have h := append_ct (W := W) (p := p) (g := g) (D := Dsk.blank 8) hE8 e17 hN 2 4 0 1 0 [97] (by show 8 ≤ 65536; omega) rfl (by omega) (by omega) (by decide) (by show (1 : Int) ≤ 4 - 0; omega) (by omega) (by omega) (by show 0 + 65536 < 1073741823; omega)
    rw [JD1_ok] at h
    exact h
  have cr2 : Ct Tryd.prog W 68 [.int .i64 300, .int .i64 1] [] (fun _ : Unit => strV RJ2) (fun _ => []) := record10_ct 300 1 (by omega)
  have ca2 : ∀ p g, Ct Tryd.prog W 67 [.pointer (some ⟨g, 0, none⟩), strV RJ2] [DiskP p JD1, cellsP g [.pointer (some ⟨p, 0, none⟩), .int .i64 2, .int .i64 4, .int .i64 1, .int .i64 1, .int .i64 0, .bool false] 165] (fun _ : Unit => .nilIface) (fun _ => [DiskP p JD2, cellsP g [.pointer (some ⟨p, 0, none⟩), .int .i64 2, .int .i64 4, .int .i64 1, .int .i64 3, .int .i64 0, .bool false] 165]) := fun p g => by
    have h := append_ct (W := W) (p := p) (g := g) (D := JD1) hE8 e17 hN 2 4 0 1 1 RJ2 (by rw [JD1_n]; omega) JD1_d (by omega) (by omega) (by rw [RJ2_l]; omega) (by rw [RJ2_l]; show (2 : Int) ≤ 4 - 1; omega) (by omega) (by omega) (by rw [JD1_u]; omega)
    rw [JD2_ok, RJ2_l] at h
    exact h
  have cu : ∀ p g, Ct Tryd.prog W 69 [.pointer (some ⟨g, 0, none⟩)] [cellsP g [.pointer (some ⟨p, 0, none⟩), .int .i64 2, .int .i64 4, .int .i64 1, .int .i64 3, .int .i64 0, .bool false] 165] (fun _ : Unit => .int .i64 3) (fun _ => [cellsP g [.pointer (some ⟨p, 0, none⟩), .int .i64 2, .int .i64 4, .int .i64 1, .int .i64 3, .int .i64 0, .bool false] 165]) := fun p g => used_ct 2 4 1 3 0 false
  have cf1 : ∀ p g, Ct Tryd.prog W 66 [.pointer (some ⟨g, 0, none⟩), .int .i64 229] [cellsP g [.pointer (some ⟨p, 0, none⟩), .int .i64 2, .int .i64 4, .int .i64 1, .int .i64 3, .int .i64 0, .bool false] 165] (fun _ : Unit => .bool true) (fun _ => [cellsP g [.pointer (some ⟨p, 0, none⟩), .int .i64 2, .int .i64 4, .int .i64 1, .int .i64 3, .int .i64 0, .bool false] 165]) := fun p g => fits_ct 2 4 1 3 0 false 229 (by omega) (by omega) (by omega)
  have cf2 : ∀ p g, Ct Tryd.prog W 66 [.pointer (some ⟨g, 0, none⟩), .int .i64 230] [cellsP g [.pointer (some ⟨p, 0, none⟩), .int .i64 2, .int .i64 4, .int .i64 1, .int .i64 3, .int .i64 0, .bool false] 165] (fun _ : Unit => .bool false) (fun _ => [cellsP g [.pointer (some ⟨p, 0, none⟩), .int .i64 2, .int .i64 4, .int .i64 1, .int .i64 3, .int .i64 0, .bool false] 165]) := fun p g => fits_ct 2 4 1 3 0 false 230 (by omega) (by omega) (by omega)
  have cp : ∀ p, Ct Tryd.prog W 70 [.pointer (some ⟨p, 0, none⟩), .int .i64 2, .int .i64 4, .int .i64 1] [DiskP p JD2] (fun x : Nat × Nat => .tuple #[.slice (some ⟨x.1, 0, none⟩) 2 x.2, .nilIface]) (fun x => [DiskP p JD2, rowP (.slice (some ⟨x.1, 0, none⟩) 2 x.2) 9 1 2 [strV [97], strV RJ2]]) := fun p => by
    have h := replay_ct (W := W) (p := p) (D := JD2) hE8 hN 2 4 1 (by rw [JD2_n]; omega) JD2_o ⟨by omega, by omega, by rw [JD2_n]; omega, by rw [JD2_n]; omega, by omega, by omega, by omega⟩
    rw [show ((4 : Int).toNat + 1) = 5 from rfl, JD2_r] at h
    exact Ct.rowShape (by omega) h
  have cr3 : Ct Tryd.prog W 68 [.int .i64 230, .int .i64 2] [] (fun _ : Unit => strV RJ3) (fun _ => []) := record10_ct 230 2 (by omega)
  have ca3 : ∀ p g, Ct Tryd.prog W 67 [.pointer (some ⟨g, 0, none⟩), strV RJ3] [DiskP p JD2, cellsP g [.pointer (some ⟨p, 0, none⟩), .int .i64 2, .int .i64 4, .int .i64 1, .int .i64 3, .int .i64 0, .bool false] 165] (fun _ : Unit => errV E 17) (fun _ => [DiskP p JD2, cellsP g [.pointer (some ⟨p, 0, none⟩), .int .i64 2, .int .i64 4, .int .i64 1, .int .i64 3, .int .i64 0, .bool false] 165]) := fun p g =>
    append_full (W := W) (p := p) (g := g) (D := JD2) hE8 e17 hN 2 4 0 1 3 RJ3 (by rw [JD2_n]; omega) JD2_d (by omega) (by omega) (by rw [RJ3_l]; omega) (by rw [RJ3_l]; show ¬ ((2 : Int) ≤ 4 - 3); omega)
  have cn : Ct Tryd.prog W 35 [errV E 17] [] (fun _ : Unit => .int .i64 17) (fun _ => []) := num_ct hE hg 17 (by omega)
  have cc : Ct Tryd.prog W 61 [.int .i64 230] [] (fun _ : Unit => .int .i64 2) (fun _ => []) := cost_ct 230 (by omega)
  obtain ⟨D0, hD0⟩ : ∃ D, D = Dsk.blank 8 := ⟨_, rfl⟩
  obtain ⟨D1, hD1⟩ : ∃ D, D = JD1 := ⟨_, rfl⟩
  obtain ⟨D2, hD2⟩ : ∃ D, D = JD2 := ⟨_, rfl⟩
  obtain ⟨R2, hR2⟩ : ∃ r, r = RJ2 := ⟨_, rfl⟩
  obtain ⟨R3, hR3⟩ : ∃ r, r = RJ3 := ⟨_, rfl⟩
  simp only [← hD0, ← hD1, ← hD2, ← hR2, ← hR3] at c1 cb ca1 cr2 ca2 cp cr3 ca3
  clear hD0 hD1 hD2 hR2 hR3
  have hg0 : [strV [97], strV R2][0 + (0 : Int).toNat * 1]? = some (strV [97]) := rfl
  have hg1 : [strV [97], strV R2][0 + (1 : Int).toNat * 1]? = some (strV R2) := rfl
  refine Ct.enter Tryd.func60 rfl Tryd.ntmps60 (by simp) (fun R => ?_)
  repeat' (first 
    | refine KJ_stp (by first | constructor | fail) ?_
    | (refine is_list ?_; first | (refine KJ_guard_dec_t rfl rfl rfl (fun _ => ?_) (fun _ => ?_) <;> first | (exfalso; omega) | skip) | (refine KJ_guard_dec_f rfl rfl rfl (fun _ => ?_) (fun _ => ?_) <;> first | (exfalso; omega) | skip) | (refine KJ_guard_yes rfl rfl ?_) | (refine KJ_guard_no rfl rfl rfl rfl ?_))
    | (refine is_oper ?_; first | (refine is_call ?_; first | (refine KJ_call xE cc xP rfl (fun _ => ?_)) | (refine KJ_call xE cn xP rfl (fun _ => ?_)) | (refine KJ_call xE (ca3 _ _) xP rfl (fun _ => ?_)) | (refine KJ_call xE cr3 xP rfl (fun _ => ?_)) | (refine KJ_call xE (cp _) xP rfl (fun x => ?_)) | (refine KJ_call xE (cf2 p g) xP rfl (fun _ => ?_)) | (refine KJ_call xE (cf1 p g) xP rfl (fun _ => ?_)) | (refine KJ_call xE (cu p g) xP rfl (fun _ => ?_)) | (refine KJ_call xE (ca2 _ _) xP rfl (fun _ => ?_)) | (refine KJ_call xE cr2 xP rfl (fun _ => ?_)) | (refine KJ_call xE (ca1 _ _) xP rfl (fun _ => ?_)) | (refine KJ_call xE (cb _) xP rfl (fun g => ?_)) | (refine KJ_call xE c1 xP rfl (fun p => ?_))) | (refine KJ_ek rfl ?_) | (refine KJ_ek0 ?_))
    | (refine is_ek ?_; first | (refine xmv ?_) | (refine xas ?_) | (refine xpt ?_) | (refine xpf ?_) | (refine ek_load ?_; first | (refine EK_ev (Ev_loadAgg rfl xS xC) ?_) | (refine EK_ev (Ev_load rfl xS (by rfl)) ?_) | (refine EK_ev (Ev_loadRow rfl xS hg1) ?_) | (refine EK_ev (Ev_loadRow rfl xS hg0) ?_) | (refine EK_ev (Ev_loadOld rfl (by assumption)) ?_)) | (refine ek_un ?_; first | (refine EK_ev (Ev_notD rfl) ?_) | (refine EK_ev (Ev_not rfl) ?_) | (refine EK_ev (Ev_neg rfl) ?_)) | (refine xex ?_) | (refine ek_indexAddr ?_; first | (refine EK_ev (Ev_indexSlice rfl rfl (by omega)) ?_) | (refine EK_ev (Ev_indexArr rfl rfl (by omega)) ?_)) | (refine ek_len ?_; first | (refine EK_ev (Ev_len_str rfl) ?_) | (refine EK_ev (Ev_len_slice rfl) ?_) | (refine EK_ev (Ev_len_arr rfl) ?_) | (refine EK_ev (Ev_len_map rfl xS) ?_)) | (refine ek_eql ?_; first | (refine EK_ev (Ev_eqlS_t rfl rfl rfl) ?_) | (refine EK_ev (Ev_eqlI_t rfl rfl rfl) ?_) | (refine EK_ev (Ev_eqlI rfl rfl) ?_) | (refine EK_ev (Ev_eqlS rfl rfl) ?_) | (refine EK_ev (Ev_eqlNil rfl rfl) ?_) | (refine EK_ev (Ev_eqlB rfl rfl) ?_) | (refine EK_ev (Ev_eqlO rfl rfl rfl (fun _ => rfl)) ?_)) | (refine ek_neq ?_; first | (refine EK_ev (Ev_neqI_f rfl rfl rfl) ?_) | (refine EK_ev (Ev_neqI rfl rfl) ?_) | (refine EK_ev (Ev_neqS rfl rfl) ?_) | (refine EK_ev (Ev_neqNil rfl rfl) ?_) | (refine EK_ev (Ev_neqB rfl rfl) ?_) | (refine EK_ev (Ev_neqO rfl rfl rfl (fun _ => rfl)) ?_)))
    | (refine is_ex ?_; first | (refine KJ_blk_exit' rfl ?_))
    | (refine is_code ?_; first | (refine KJ_cond_dec rfl (fun _ => ?_) (fun _ => ?_) <;> first | (exfalso; omega) | skip) | (refine KJ_cond_t rfl ?_) | (refine KJ_cond_f rfl ?_) | (refine KJ_draws (id := 8) (.op 0 (.op 1 (.op 2 (.op 3 (.op 4 (.op 5 (.op 6 (.op 7 (.op 8 (.op 9 (.op 10 (.op 11 (.op 12 (.op 13 (.op 14 (.op 15 (.op 16 (.ef 17 [16, 15, 14] (.op 18 (.op 19 (.op 20 (.op 21 (.ef 22 [21] (.ef 23 [] (.ef 24 [] (.op 25 (.op 26 (.op 27 (.ef 28 [] (.op 29 (.op 30 (.op 31 .nil)))))))))))))))))))))))))))))))) (by kernel_rfl) (by kernel_rfl) ?_))
    | (refine is_fw ?_; first | (refine FW_open rfl ?_) | (refine FW_nil ?_) | (refine FW_ef rfl ?_) | (refine FW_efg rfl rfl rfl ?_) | (refine FW_alt ?_ ?_))
    | (refine is_fo ?_; first | (refine FO_dec_t rfl rfl (fun _ => ?_) (fun _ => ?_) <;> first | (exfalso; omega) | skip) | (refine FO_dec_f rfl rfl (fun _ => ?_) (fun _ => ?_) <;> first | (exfalso; omega) | skip) | (refine FO_no rfl rfl rfl rfl ?_) | (refine FO_ekg rfl rfl rfl ?_) | (refine FO_ek rfl ?_))
    | (refine is_ro ?_; first | (refine RO_no rfl rfl rfl rfl ?_) | (refine RO_ekg rfl rfl ?_) | (refine RO_ek ?_))
    | (refine is_raw ?_; first | (refine KJ_flow ?_ ?_))
    | (refine AtR_mk rfl ?_)
    | exact Rech.nil
    | (refine Rech_open rfl ?_))
  all_goals (exact xdn ())
end
end Go.Proofs.YteklldbfdmaafaaDoor
/-
  A journal's life and its crash, as plain data.
-/
namespace Go.Proofs.YteklldbfdmaafaaDoor
open Go Go.RowKit
set_option maxRecDepth 10000 in
/-- the last bytes written of a sector are what stands there when all is laid -/
theorem rd_lay (img : List UInt8) (n i : Nat) (hi : i < n) (hl : img.length = 256 * n) (u : List (Nat × List UInt8)) (hu : ∀ x ∈ u, x.1 < n ∧ x.2.length = 256) : (lastW u i).getD (cut img (i * 256) 256) = cut (layAll img u) (i * 256) 256 := by
  revert hu
  refine last_snoc_induction (P := fun u => (∀ x ∈ u, x.1 < n ∧ x.2.length = 256) → (lastW u i).getD (cut img (i * 256) 256) = cut (layAll img u) (i * 256) 256) (fun _ => rfl) ?_ u
  intro l x ih hu
  obtain ⟨j, b⟩ := x
  obtain ⟨h1, h2⟩ := hu (j, b) (by simp)
  dsimp only at h1 h2
  have hll := layAll_length l img n hl (fun x hx => hu x (by simp [hx]))
  rw [layAll_snoc, lastW_snoc]
  dsimp only
  by_cases hj : j = i
  · subst hj
    rw [if_pos rfl]
    have := cut_lay_same (layAll img l) b (j * 256) (by omega)
    rw [h2] at this
    exact this.symm
  · rw [if_neg hj, ih (fun x hx => hu x (by simp [hx]))]
    have hb : j * 256 + b.length ≤ (layAll img l).length := by omega
    rcases Nat.lt_or_ge i j with hlt | hge
    · have hh : i * 256 + 256 ≤ j * 256 := by omega
      exact (cut_lay_before _ _ _ _ _ hb hh).symm
    · have hh : j * 256 + b.length ≤ i * 256 := by omega
      exact (cut_lay_behind _ _ _ _ _ hb hh).symm

def wsJ (at_ v : Nat) : Nat → List (List UInt8) → List (Nat × List UInt8)
  | _, [] => []
  | k, p :: r => (at_ + k, sealB (stampN v k : Nat) p) :: wsJ at_ v (k + 1) r
theorem wsJ_length (at_ v : Nat) : ∀ (G : List (List UInt8)) (k : Nat), (wsJ at_ v k G).length = G.length := by
  intro G
  induction G with
  | nil => intro k; rfl
  | cons p G ih => intro k; simp [wsJ, ih]
theorem wsJ_app (at_ v : Nat) : ∀ (G F : List (List UInt8)) (k : Nat), wsJ at_ v k (G ++ F) = wsJ at_ v k G ++ wsJ at_ v (k + G.length) F := by
  intro G
  induction G with
  | nil => intro F k; rfl
  | cons p G ih =>
    intro F k
    show _ :: wsJ at_ v (k + 1) (G ++ F) = _ :: (wsJ at_ v (k + 1) G ++ _)
    rw [ih, List.length_cons, show k + 1 + G.length = k + (G.length + 1) by omega]
theorem wsJ_in (at_ v : Nat) : ∀ (G : List (List UInt8)) (k : Nat), (∀ p ∈ G, p.length ≤ 234) → ∀ x ∈ wsJ at_ v k G, at_ + k ≤ x.1 ∧ x.1 < at_ + k + G.length ∧ x.2.length = 256 := by
  intro G
  induction G with
  | nil => intro k _ x hx; cases hx
  | cons p G ih =>
    intro k hp x hx
    rcases List.mem_cons.1 hx with rfl | hx
    · exact ⟨Nat.le_refl _, by dsimp only; rw [List.length_cons]; omega, sealB_length _ _ (hp p (by simp))⟩
    · obtain ⟨h1, h2, h3⟩ := ih (k + 1) (fun q hq => hp q (by simp [hq])) x hx
      rw [List.length_cons]
      exact ⟨by omega, by omega, h3⟩
/-- each sector of pieces that were cut off -/
theorem torn_ws (at_ v N : Nat) (dn : Nat → Nat) (hd : ∀ k, dn k ≤ 256) : ∀ (G : List (List UInt8)) (k m s : Nat) (img : List UInt8), img.length = 256 * N → at_ + k + G.length ≤ N → (∀ p ∈ G, p.length ≤ 234) →
    ∀ j p, G[j]? = some p → ∃ d, d ≤ 256 ∧ cut (layAll img (cutP dn ((wsJ at_ v k G).take m) s)) ((at_ + k + j) * 256) 256 = tornB (sealB (stampN v (k + j) : Nat) p) (cut img ((at_ + k + j) * 256) 256) d ∧ ((∀ k, dn k = 256) → G.length ≤ m → d = 256) := by
  intro G
  induction G with
  | nil => intro k m s img _ _ _ j p hj; simp at hj
  | cons q G ih =>
    intro k m s img hl hn hp j p hj
    cases m with
    | zero => exact ⟨0, by omega, by simp [cutP, tornB, layAll], fun _ h => by simp at h⟩
    | succ m =>
      have hS := sealB_length (stampN v k : Nat) q (hp q (by simp))
      rw [List.length_cons] at hn
      show ∃ d, d ≤ 256 ∧ cut (layAll img (cutP dn (((at_ + k, sealB (stampN v k : Nat) q) :: wsJ at_ v (k + 1) G).take (m + 1)) s)) _ 256 = _ ∧ _
      rw [List.take_succ_cons, cutP_cons, layAll_cons]
      dsimp only
      have htl : ((sealB (stampN v k : Nat) q).take (dn s)).length = dn s := by rw [List.length_take]; have := hd s; omega
      have hb : (at_ + k) * 256 + ((sealB (stampN v k : Nat) q).take (dn s)).length ≤ img.length := by rw [htl]; have := hd s; omega
      cases j with
      | zero =>
        simp only [List.getElem?_cons_zero, Option.some.injEq] at hj
        subst hj
        refine ⟨dn s, hd s, ?_, fun h _ => h s⟩
        show cut _ ((at_ + k) * 256) 256 = tornB (sealB (stampN v k : Nat) q) (cut img ((at_ + k) * 256) 256) (dn s)
        rw [layAll_off N (at_ + k) _ _ (by rw [lay_length _ _ _ hb]; exact hl) (fun x hx => ?_)]
        · exact cut_lay_torn _ _ _ _ hS (hd s) (by omega)
        · obtain ⟨y, hy, e1, e2⟩ := cutP_in _ _ _ _ hx
          obtain ⟨h1, h2, h3⟩ := wsJ_in at_ v G (k + 1) (fun z hz => hp z (by simp [hz])) y (List.mem_of_mem_take hy)
          exact ⟨by omega, by omega, by omega⟩
      | succ j =>
        obtain ⟨d, h1, h2, h3⟩ := ih (k + 1) m (s + 1) (lay img ((at_ + k) * 256) ((sealB (stampN v k : Nat) q).take (dn s))) (by rw [lay_length _ _ _ hb]; exact hl) (by omega) (fun z hz => hp z (by simp [hz])) j p (by simpa using hj)
        refine ⟨d, h1, ?_, fun q1 q2 => h3 q1 (by simpa using q2)⟩
        have hbh : (at_ + k) * 256 + ((sealB (stampN v k : Nat) q).take (dn s)).length ≤ (at_ + (k + 1) + j) * 256 := by rw [htl]; have := hd s; omega
        rw [cut_lay_behind _ _ _ _ _ hb hbh] at h2
        rw [show at_ + k + (j + 1) = at_ + (k + 1) + j by omega, show k + (j + 1) = k + 1 + j by omega]
        exact h2
/-- the other sectors stay -/
theorem torn_ws_off (at_ v N : Nat) (dn : Nat → Nat) (G : List (List UInt8)) (k m s i : Nat) (img : List UInt8) (hl : img.length = 256 * N) (hn : at_ + k + G.length ≤ N) (hp : ∀ p ∈ G, p.length ≤ 234) (hi : i < at_ + k ∨ at_ + k + G.length ≤ i) :
    cut (layAll img (cutP dn ((wsJ at_ v k G).take m) s)) (i * 256) 256 = cut img (i * 256) 256 := by
  refine layAll_off N i _ _ hl fun x hx => ?_
  obtain ⟨y, hy, e1, e2⟩ := cutP_in _ _ _ _ hx
  obtain ⟨h1, h2, h3⟩ := wsJ_in at_ v G k hp y (List.mem_of_mem_take hy)
  exact ⟨by omega, by omega, by omega⟩

theorem wr_off {D : Dsk} (h : D.off = false) (i : Nat) (hi : i < D.n) (s : List UInt8) (hs : s.length = 256) : (D.writeE i s = 12 → (D.writeD i s).off = true) ∧ (D.writeD i s).life = D.life := by
  have hhas : D.has (i : Int) = true := by unfold Dsk.has; exact decide_eq_true (by omega)
  obtain ⟨n, img, und, off, armed, wr, fl, lf⟩ := D
  obtain rfl : off = false := h
  by_cases h0 : armed = 0
  · subst h0
    simp [Dsk.writeE, Dsk.writeD, Dsk.dead, Dsk.gone, hhas, hs]
  · by_cases hp : 0 < armed
    · simp [Dsk.writeE, Dsk.writeD, Dsk.dead, Dsk.gone, hhas, hs, h0, hp]
    · simp [Dsk.writeE, Dsk.writeD, Dsk.dead, Dsk.gone, hhas, hs, h0, hp]
theorem ap_ways (at_ v used : Nat) : ∀ (ps : List (List UInt8)) (i : Nat) (D : Dsk), D.off = false → D.ok → (∀ p ∈ ps, p.length ≤ 234) → at_ + used + i + ps.length ≤ D.n →
    (((apGo at_ v used ps i D).1 = true ∧ (apGo at_ v used ps i D).2.off = false ∧ (apGo at_ v used ps i D).2.und = D.und ++ wsJ at_ v (used + i) ps) ∨
      ((apGo at_ v used ps i D).1 = false ∧ (apGo at_ v used ps i D).2.off = true ∧ ∃ m, (apGo at_ v used ps i D).2.und = D.und ++ (wsJ at_ v (used + i) ps).take m)) ∧
    (apGo at_ v used ps i D).2.img = D.img ∧ (apGo at_ v used ps i D).2.n = D.n ∧ (apGo at_ v used ps i D).2.ok ∧ (apGo at_ v used ps i D).2.life = D.life := by
  intro ps
  induction ps with
  | nil => intro i D h1 h2 _ _; exact ⟨.inl ⟨rfl, h1, by show D.und = D.und ++ []; rw [List.append_nil]⟩, rfl, rfl, h2, rfl⟩
  | cons q ps ih =>
    intro i D h1 h2 hp hn
    rw [List.length_cons] at hn
    have hS := sealB_length (stampN v (used + i) : Nat) q (hp q (by simp))
    obtain ⟨w1, w2, w3, w4, -⟩ := write_ways h1 (at_ + used + i) (by omega) _ hS
    obtain ⟨w5, w6⟩ := wr_off h1 (at_ + used + i) (by omega) _ hS
    have hok := Dsk.writeD_ok h2 ((at_ + used + i : Nat) : Int) (sealB (stampN v (used + i) : Nat) q)
    have hadr : (at_ : Int) + (used : Nat) + (i : Nat) = ((at_ + used + i : Nat) : Int) := by omega
    have hu : apGo at_ v used (q :: ps) i D = if D.writeE ((at_ + used + i : Nat) : Int) (sealB (stampN v (used + i) : Nat) q) ≠ 0 then (false, D.writeD ((at_ + used + i : Nat) : Int) (sealB (stampN v (used + i) : Nat) q))
        else apGo at_ v used ps (i + 1) (D.writeD ((at_ + used + i : Nat) : Int) (sealB (stampN v (used + i) : Nat) q)) := by
      rw [← hadr]; rfl
    rw [hu]
    clear hu
    obtain ⟨D1, hD1⟩ : ∃ D1, D1 = D.writeD ((at_ + used + i : Nat) : Int) (sealB (stampN v (used + i) : Nat) q) := ⟨_, rfl⟩
    obtain ⟨e, he⟩ : ∃ e, e = D.writeE ((at_ + used + i : Nat) : Int) (sealB (stampN v (used + i) : Nat) q) := ⟨_, rfl⟩
    rw [← hD1] at w1 w2 w3 w4 w5 w6 hok ⊢
    rw [← he] at w1 w5 ⊢
    rcases w1 with ⟨a, b⟩ | a
    · rw [if_neg (by rw [a]; simp)]
      obtain ⟨r1, r2, r3, r4, r5⟩ := ih (i + 1) D1 b hok (fun x hx => hp x (by simp [hx])) (by rw [w4]; omega)
      have hcat : ∀ X : List (Nat × List UInt8), D1.und ++ X = D.und ++ ((at_ + (used + i), sealB (stampN v (used + i) : Nat) q) :: X) := fun X => by
        rw [w2, List.append_assoc, ← Nat.add_assoc at_ used i]; rfl
      refine ⟨?_, by rw [r2, w3], by rw [r3, w4], r4, by rw [r5, w6]⟩
      rcases r1 with ⟨c1, c2, c3⟩ | ⟨c1, c2, m, c3⟩
      · exact .inl ⟨c1, c2, by rw [c3, hcat]; rfl⟩
      · exact .inr ⟨c1, c2, m + 1, by rw [c3, hcat]; rfl⟩
    · rw [if_pos (by rw [a]; simp)]
      refine ⟨.inr ⟨rfl, w5 a, 1, ?_⟩, w3, w4, hok, w6⟩
      rw [w2, Nat.add_assoc at_ used i]
      rfl

/-- the sectors of a log: each piece whole, or it does not open -/
structure Seen (at_ n v : Nat) (rs : List (List UInt8)) (sy : Nat) (sec : Nat → List UInt8) : Prop where
  each : ∀ j p, (rs.flatMap pcsJ)[j]? = some p → sec (at_ + j) = sealB (stampN v j : Nat) p ∨ openS (stampN v j : Nat) (sec (at_ + j)) = none
  syn : ∀ j p, ((rs.take sy).flatMap pcsJ)[j]? = some p → sec (at_ + j) = sealB (stampN v j : Nat) p
  rest : ∀ j, (rs.flatMap pcsJ).length ≤ j → j < n → openS (stampN v j : Nat) (sec (at_ + j)) = none
  tails : ∀ j, j < n → getB ((sec (at_ + j)).drop 248) 8 ≤ (stampN v j : Nat)
theorem openS_tail {s : Nat} {raw : List UInt8} (hs : s < 2 ^ 64) (h : getB (raw.drop 248) 8 < (s : Int)) : openS s raw = none := by
  unfold openS
  split
  · rfl
  split
  · rfl
  split
  · rfl
  split
  · rename_i h234 heq
    exfalso
    have hpl : (openP raw).length ≤ 234 := by
      unfold openP
      rw [List.length_drop, List.length_take]
      omega
    have h1 := seal_getT s (openP raw) hpl hs
    rw [heq] at h1
    omega
  · rfl
theorem pcs_le_all (rs : List (List UInt8)) : ∀ p ∈ rs.flatMap pcsJ, p.length ≤ 234 := by
  intro p hp
  obtain ⟨r, _, hr⟩ := List.mem_flatMap.1 hp
  exact pcsJ_le r p hr
theorem stamp_lt {v j : Nat} (hv : v ≤ 1099511627776) (hj : j < 65536) : stampN v j < 2 ^ 64 := by unfold stampN; omega
/-- read back: some first ones, the synced ones among them, all if all is whole -/
theorem seen_read {at_ n v : Nat} {rs : List (List UInt8)} {sy : Nat} {sec : Nat → List UInt8} (hS : Seen at_ n v rs sy sec) (hv : 1 ≤ v ∧ v ≤ 1099511627776) (hn : n ≤ 60) (hG : (rs.flatMap pcsJ).length ≤ n) (hsm : ∀ r ∈ rs, r.length ≤ 3000) (hsy : sy ≤ rs.length)
    {D : Dsk} (hrd : ∀ j, j < n → D.readE ((at_ : Int) + (j : Nat)) = 0 ∧ D.readS ((at_ : Int) + (j : Nat)) = sec (at_ + j)) :
    ∃ m, sy ≤ m ∧ m ≤ rs.length ∧ rpGo D at_ (n : Nat) v (((n : Nat) : Int).toNat + 1) 0 [] = rs.take m ∧ ((∀ j p, (rs.flatMap pcsJ)[j]? = some p → sec (at_ + j) = sealB (stampN v j : Nat) p) → m = rs.length) := by
  have hpay : ∀ j, j < n → payO D at_ (n : Nat) v j = openS (stampN v j : Nat) (sec (at_ + j)) := by
    intro j hj
    obtain ⟨h1, h2⟩ := hrd j hj
    unfold payO
    rw [if_neg (by omega), h1, if_neg (by simp), h2]
  have hop : ∀ j p, p.length ≤ 234 → openS (stampN v j : Nat) (sealB (stampN v j : Nat) p) = some p := fun j p hp => seal_open (stampN v j) p hp (by unfold stampN; omega)
  have hlenr : rs.length ≤ (rs.flatMap pcsJ).length := by
    clear hS hrd hpay hop hG hsm hsy
    induction rs with
    | nil => simp
    | cons r rs ih =>
      rw [List.flatMap_cons, List.length_append, List.length_cons]
      have : 1 ≤ (pcsJ r).length := by unfold pcsJ; rw [List.length_cons]; omega
      omega
  have hz : payO D at_ (n : Nat) v (0 + (rs.flatMap pcsJ).length) = none := by
    rw [Nat.zero_add]
    by_cases h : (rs.flatMap pcsJ).length < n
    · rw [hpay _ h]; exact hS.rest _ (Nat.le_refl _) h
    · unfold payO; rw [if_pos (by omega)]
  obtain ⟨m, m1, m2, m3⟩ := rp_read (D := D) (at_ := at_) (n := (n : Nat)) (ver := v) rs 0 [] (((n : Nat) : Int).toNat + 1) (fun r hr => by have := hsm r hr; omega) (fun j p hj => by
    have hjl := (List.getElem?_eq_some_iff.1 hj).1
    rw [Nat.zero_add, hpay j (by omega)]
    rcases hS.each j p hj with h | h
    · rw [h]; exact .inl (hop j p (pcs_le_all rs p (List.mem_of_getElem? hj)))
    · exact .inr h) (by omega) hz (by omega)
  have hbad : ∀ j, j < ((rs.take (m + 1)).flatMap pcsJ).length → m < rs.length → payO D at_ (n : Nat) v (0 + j) = none → ∀ p, (rs.flatMap pcsJ)[j]? = some p → sec (at_ + j) ≠ sealB (stampN v j : Nat) p := by
    intro j hj hm hno p hp he
    have hjl := (List.getElem?_eq_some_iff.1 hp).1
    rw [Nat.zero_add, hpay j (by omega), he, hop j p (pcs_le_all rs p (List.mem_of_getElem? hp))] at hno
    cases hno
  have hsub : ∀ k j, j < ((rs.take k).flatMap pcsJ).length → (rs.flatMap pcsJ)[j]? = ((rs.take k).flatMap pcsJ)[j]? := by
    intro k j hj
    have e : rs.flatMap pcsJ = (rs.take k).flatMap pcsJ ++ (rs.drop k).flatMap pcsJ := by rw [← List.flatMap_append, List.take_append_drop]
    rw [e, List.getElem?_append_left hj]
  refine ⟨m, ?_, m1, by rw [m2]; rfl, fun hall => ?_⟩
  · rcases Nat.lt_or_ge m sy with h | h
    · exfalso
      obtain ⟨j, j1, j2⟩ := m3 (by omega)
      have hle : ((rs.take (m + 1)).flatMap pcsJ).length ≤ ((rs.take sy).flatMap pcsJ).length := by
        have e : (rs.take sy).flatMap pcsJ = (rs.take (m + 1)).flatMap pcsJ ++ ((rs.take sy).drop (m + 1)).flatMap pcsJ := by
          rw [← List.flatMap_append]
          congr 1
          conv => lhs; rw [← List.take_append_drop (m + 1) (rs.take sy)]
          rw [List.take_take, Nat.min_eq_left (by omega)]
        rw [e, List.length_append]; omega
      obtain ⟨p, hp⟩ : ∃ p, ((rs.take sy).flatMap pcsJ)[j]? = some p := ⟨_, List.getElem?_eq_getElem (by omega)⟩
      exact hbad j j1 (by omega) j2 p (by rw [hsub sy j (by omega)]; exact hp) (hS.syn j p hp)
    · exact h
  · rcases Nat.lt_or_ge m rs.length with h | h
    · exfalso
      obtain ⟨j, j1, j2⟩ := m3 h
      obtain ⟨p, hp⟩ : ∃ p, ((rs.take (m + 1)).flatMap pcsJ)[j]? = some p := ⟨_, List.getElem?_eq_getElem j1⟩
      have hp2 := (hsub (m + 1) j j1).trans hp
      exact hbad j j1 h j2 p hp2 (hall j p hp2)
    · omega
end Go.Proofs.YteklldbfdmaafaaDoor
/-
  A journal's life: the state, step by step, as plain data.
-/
namespace Go.Proofs.YteklldbfdmaafaaDoor
open Go Go.RowKit
structure JL (N at_ n v : Nat) (lf : Int) (rs : List (List UInt8)) (sy : Nat) (D : Dsk) : Prop where
  ok : D.ok
  n40 : D.n = N
  life : D.life = lf
  fit : (rs.flatMap pcsJ).length ≤ n
  small : ∀ r ∈ rs, r.length ≤ 3000
  syl : sy ≤ rs.length
  whole : ∀ j p, ((rs.take sy).flatMap pcsJ)[j]? = some p → D.sec (at_ + j) = sealB (stampN v j : Nat) p
  old : ∀ j, ((rs.take sy).flatMap pcsJ).length ≤ j → j < n → getB ((D.sec (at_ + j)).drop 248) 8 < (stampN v j : Nat)
  und : ∃ m, D.und = (wsJ at_ v ((rs.take sy).flatMap pcsJ).length ((rs.drop sy).flatMap pcsJ)).take m ∧ (D.off = false → ((rs.drop sy).flatMap pcsJ).length ≤ m)
section
variable {N at_ n v : Nat} {lf : Int} {rs : List (List UInt8)} {sy : Nat} {D : Dsk}
theorem JL.split (rs : List (List UInt8)) (sy : Nat) : rs.flatMap pcsJ = (rs.take sy).flatMap pcsJ ++ (rs.drop sy).flatMap pcsJ := by rw [← List.flatMap_append, List.take_append_drop]
theorem JL.seen (h : JL N at_ n v lf rs sy D) (hv : v ≤ 1099511627776) (hat : at_ + n ≤ N) (hn : n ≤ 60) (dn : Nat → Nat) (hd : ∀ k, dn k ≤ 256) :
    Seen at_ n v rs sy (fun i => cut (layAll D.img (cutP dn D.und 0)) (i * 256) 256) ∧ ((∀ k, dn k = 256) → D.off = false → ∀ j p, (rs.flatMap pcsJ)[j]? = some p → cut (layAll D.img (cutP dn D.und 0)) ((at_ + j) * 256) 256 = sealB (stampN v j : Nat) p) ∧
    (∀ j, (rs.flatMap pcsJ).length ≤ j → j < n → cut (layAll D.img (cutP dn D.und 0)) ((at_ + j) * 256) 256 = D.sec (at_ + j)) := by
  obtain ⟨m, hu, hm⟩ := h.und
  have hlen := h.ok.len
  rw [h.n40] at hlen
  have hfit := h.fit
  have hsp := JL.split rs sy
  have hple := pcs_le_all rs
  have hwhole := h.whole
  have hold := h.old
  obtain ⟨T, hT⟩ : ∃ T, T = (rs.take sy).flatMap pcsJ := ⟨_, rfl⟩
  obtain ⟨F, hF⟩ : ∃ F, F = (rs.drop sy).flatMap pcsJ := ⟨_, rfl⟩
  obtain ⟨G, hG⟩ : ∃ G, G = rs.flatMap pcsJ := ⟨_, rfl⟩
  rw [← hT, ← hF] at hu
  rw [← hF] at hm
  rw [← hT, ← hF, ← hG] at hsp
  rw [← hG] at hfit hple
  rw [← hT] at hwhole hold
  have hGl : G.length = T.length + F.length := by rw [hsp, List.length_append]
  have hFle : ∀ p ∈ F, p.length ≤ 234 := fun p hp => hple p (by rw [hsp]; simp [hp])
  rw [hu]
  have hsl : ∀ j, j < n → (D.sec (at_ + j)).length = 256 := fun j hj => cut_length _ _ _ (by omega)
  have hoff : ∀ j, j < T.length ∨ G.length ≤ j → cut (layAll D.img (cutP dn ((wsJ at_ v T.length F).take m) 0)) ((at_ + j) * 256) 256 = D.sec (at_ + j) := fun j hj =>
    torn_ws_off at_ v N dn F T.length m 0 (at_ + j) D.img hlen (by omega) hFle (by omega)
  have hin : ∀ j p, G[j]? = some p → T.length ≤ j → ∃ d, d ≤ 256 ∧ cut (layAll D.img (cutP dn ((wsJ at_ v T.length F).take m) 0)) ((at_ + j) * 256) 256 = tornB (sealB (stampN v j : Nat) p) (D.sec (at_ + j)) d ∧ ((∀ k, dn k = 256) → F.length ≤ m → d = 256) := fun j p hj hTj => by
    rw [hsp, List.getElem?_append_right hTj] at hj
    have := torn_ws at_ v N dn hd F T.length m 0 D.img hlen (by omega) hFle (j - T.length) p hj
    rw [show at_ + T.length + (j - T.length) = at_ + j by omega, show T.length + (j - T.length) = j by omega] at this
    exact this
  have htorn : ∀ j p d, G[j]? = some p → T.length ≤ j → d ≤ 256 → getB ((tornB (sealB (stampN v j : Nat) p) (D.sec (at_ + j)) d).drop 248) 8 ≤ (stampN v j : Nat) ∧ (tornB (sealB (stampN v j : Nat) p) (D.sec (at_ + j)) d = sealB (stampN v j : Nat) p ∨ openS (stampN v j : Nat) (tornB (sealB (stampN v j : Nat) p) (D.sec (at_ + j)) d) = none) := fun j p d hj hTj hd2 => by
    have hjl := (List.getElem?_eq_some_iff.1 hj).1
    have ho := hold j hTj (by omega)
    have hst : 1 ≤ stampN v j := by unfold stampN; omega
    exact torn_tail (t := stampN v j - 1) (stamp_lt hv (by omega)) (by omega) (hple p (List.mem_of_getElem? hj)) (hsl j (by omega)) hd2 (by omega)
  have hTG : ∀ j p, T[j]? = some p → G[j]? = some p := fun j p hj => by rw [hsp, List.getElem?_append_left (List.getElem?_eq_some_iff.1 hj).1]; exact hj
  refine ⟨⟨fun j p hj => ?_, fun j p hj => ?_, fun j hj1 hj2 => ?_, fun j hj => ?_⟩, fun h256 hon j p hj => ?_, fun j hj1 hj2 => ?_⟩
  · rw [← hG] at hj
    rcases Nat.lt_or_ge j T.length with hlt | hge
    · left
      rw [hoff j (.inl hlt)]
      exact hwhole j p (by rw [hsp, List.getElem?_append_left hlt] at hj; exact hj)
    · obtain ⟨d, d1, d2, d3⟩ := hin j p hj hge
      rw [d2]
      exact (htorn j p d hj hge d1).2
  · rw [← hT] at hj
    rw [hoff j (.inl (List.getElem?_eq_some_iff.1 hj).1)]
    exact hwhole j p hj
  · rw [← hG] at hj1
    rw [hoff j (.inr hj1)]
    exact openS_tail (stamp_lt hv (by omega)) (hold j (by omega) hj2)
  · rcases Nat.lt_or_ge j T.length with hlt | hge
    · rw [hoff j (.inl hlt)]
      have hp : T[j]? = some T[j] := List.getElem?_eq_getElem hlt
      rw [hwhole j _ hp, seal_getT (stampN v j) _ (hple _ (List.mem_of_getElem? (hTG j _ hp))) (stamp_lt hv (by omega))]
      omega
    · rcases Nat.lt_or_ge j G.length with hlt2 | hge2
      · have hp : G[j]? = some G[j] := List.getElem?_eq_getElem hlt2
        obtain ⟨d, d1, d2, d3⟩ := hin j _ hp hge
        rw [d2]
        exact (htorn j _ d hp hge d1).1
      · rw [hoff j (.inr hge2)]
        have := hold j hge hj
        omega
  · rw [← hG] at hj
    rcases Nat.lt_or_ge j T.length with hlt | hge
    · rw [hoff j (.inl hlt)]
      exact hwhole j p (by rw [hsp, List.getElem?_append_left hlt] at hj; exact hj)
    · obtain ⟨d, d1, d2, d3⟩ := hin j p hj hge
      have hjl := (List.getElem?_eq_some_iff.1 hj).1
      rw [d2, d3 h256 (hm hon), torn_full _ _ (sealB_length _ _ (hple p (List.mem_of_getElem? hj))) (hsl j (by omega))]
  · rw [← hG] at hj1
    exact hoff j (.inr hj1)
theorem JL.und_in (h : JL N at_ n v lf rs sy D) (hat : at_ + n ≤ N) (hn : n ≤ 60) : (∀ x ∈ D.und, x.1 < N ∧ x.2.length = 256) ∧ D.und.length ≤ 60 := by
  obtain ⟨m, hu, hm⟩ := h.und
  have hfit := h.fit
  have hsp := congrArg List.length (JL.split rs sy)
  rw [List.length_append] at hsp
  rw [hu]
  refine ⟨fun x hx => ?_, by rw [List.length_take, wsJ_length]; omega⟩
  obtain ⟨h1, h2, h3⟩ := wsJ_in at_ v _ _ (fun p hp => pcs_le_all (rs.drop sy) p hp) x (List.mem_of_mem_take hx)
  exact ⟨by omega, h3⟩
theorem JL.full (h : JL N at_ n v lf rs sy D) (hat : at_ + n ≤ N) (hn : n ≤ 60) : cutP (fun _ => 256) D.und 0 = D.und := cutP_full _ (fun _ => rfl) _ _ (fun x hx => ((h.und_in hat hn).1 x hx).2)
theorem JL.start (hok : D.ok) (hn : D.n = N) (hu : D.und = []) (ht : ∀ j, j < n → getB ((D.sec (at_ + j)).drop 248) 8 < (stampN v j : Nat)) : JL N at_ n v D.life [] 0 D :=
  ⟨hok, hn, rfl, by simp, fun r hr => by simp at hr, Nat.le_refl _, fun j p hj => by simp at hj, fun j _ hj => ht j hj, ⟨0, by rw [hu]; rfl, fun _ => Nat.le_refl _⟩⟩
/-- what stands there now -/
theorem JL.now (h : JL N at_ n v lf rs sy D) (ho : D.off = false) (hv : 1 ≤ v ∧ v ≤ 1099511627776) (hat : at_ + n ≤ N) (hn : n ≤ 60) : rpGo D at_ (n : Nat) v (((n : Nat) : Int).toNat + 1) 0 [] = rs := by
  obtain ⟨s1, s2, s3⟩ := h.seen hv.2 hat hn (fun _ => 256) (fun _ => Nat.le_refl _)
  obtain ⟨m, m1, m2, m3, m4⟩ := seen_read (D := D) s1 hv hn h.fit h.small h.syl (fun j hj => by
    have hhas : D.has ((at_ + j : Nat) : Int) = true := by unfold Dsk.has; exact decide_eq_true (by rw [h.n40]; omega)
    have hE : D.readE ((at_ + j : Nat) : Int) = 0 := by unfold Dsk.readE; rw [ho, hhas]; rfl
    have hS : D.readS ((at_ + j : Nat) : Int) = D.rd (at_ + j) := by unfold Dsk.readS; rw [ho, hhas]; rfl
    have hl := h.ok.len
    rw [h.n40] at hl
    refine ⟨hE, ?_⟩
    show D.readS ((at_ + j : Nat) : Int) = _
    rw [hS, h.full hat hn]
    exact rd_lay D.img N (at_ + j) (by omega) hl D.und (h.und_in hat hn).1)
  rw [m3, m4 (s2 (fun _ => rfl) ho)]
  exact List.take_length
/-- a record more -/
theorem JL.append (h : JL N at_ n v lf rs sy D) (ho : D.off = false) (hat : at_ + n ≤ N) (_ : n ≤ 60) (r : List UInt8) (hr : r.length ≤ 3000) (hfit : (rs.flatMap pcsJ).length + (pcsJ r).length ≤ n) :
    JL N at_ n v lf (rs ++ [r]) sy (apGo at_ v (rs.flatMap pcsJ).length (pcsJ r) 0 D).2 ∧ (apGo at_ v (rs.flatMap pcsJ).length (pcsJ r) 0 D).2.off = !(apGo at_ v (rs.flatMap pcsJ).length (pcsJ r) 0 D).1 := by
  obtain ⟨w1, w2, w3, w4, w5⟩ := ap_ways at_ v (rs.flatMap pcsJ).length (pcsJ r) 0 D ho h.ok (pcsJ_le r) (by rw [h.n40]; omega)
  obtain ⟨m, hu, hm⟩ := h.und
  have hm := hm ho
  have hsp := congrArg List.length (JL.split rs sy)
  rw [List.length_append] at hsp
  have htk : (rs ++ [r]).take sy = rs.take sy := List.take_append_of_le_length h.syl
  have hdr : ((rs ++ [r]).drop sy).flatMap pcsJ = (rs.drop sy).flatMap pcsJ ++ pcsJ r := by
    rw [List.drop_append_of_le_length h.syl, List.flatMap_append]
    simp
  rw [List.take_of_length_le (by rw [wsJ_length]; exact hm)] at hu
  have hws : wsJ at_ v ((rs.take sy).flatMap pcsJ).length ((rs.drop sy).flatMap pcsJ ++ pcsJ r) = D.und ++ wsJ at_ v (rs.flatMap pcsJ).length (pcsJ r) := by rw [wsJ_app, ← hu, ← hsp]
  have hul : D.und.length = ((rs.drop sy).flatMap pcsJ).length := by rw [hu, wsJ_length]
  obtain ⟨A, hA⟩ : ∃ A, A = apGo at_ v (rs.flatMap pcsJ).length (pcsJ r) 0 D := ⟨_, rfl⟩
  rw [← hA] at w1 w2 w3 w4 w5 ⊢
  rw [Nat.add_zero] at w1
  have hsec : ∀ i, A.2.sec i = D.sec i := fun i => by unfold Dsk.sec; rw [w2]
  refine ⟨⟨w4, by rw [w3, h.n40], by rw [w5, h.life], by rw [List.flatMap_append, List.length_append]; simpa using hfit, fun x hx => ?_, by rw [List.length_append]; have := h.syl; omega, fun j p hj => ?_, fun j hj1 hj2 => ?_, ?_⟩, ?_⟩
  · rcases List.mem_append.1 hx with hx | hx
    · exact h.small x hx
    · simp at hx; rw [hx]; exact hr
  · rw [htk] at hj
    rw [hsec]
    exact h.whole j p hj
  · rw [htk] at hj1
    rw [hsec]
    exact h.old j hj1 hj2
  · rw [htk, hdr, hws]
    rcases w1 with ⟨_, b, c⟩ | ⟨_, b, k, c⟩
    · refine ⟨D.und.length + (pcsJ r).length, ?_, fun _ => by rw [List.length_append, hul]; omega⟩
      rw [List.take_of_length_le (by rw [List.length_append, wsJ_length]; omega)]
      exact c
    · refine ⟨D.und.length + k, ?_, fun q => by rw [b] at q; cases q⟩
      rw [List.take_append, List.take_of_length_le (by omega), Nat.add_sub_cancel_left]
      exact c
  · rcases w1 with ⟨a, b, c⟩ | ⟨a, b, k, c⟩
    · rw [a, b]; rfl
    · rw [a, b]; rfl
/-- the crash: some first ones, the synced ones among them; the tails tell no later stamp; a later version tells nothing -/
theorem JL.crash (h : JL N at_ n v lf rs sy D) (hv : 1 ≤ v ∧ v + 1 ≤ 1099511627776) (hat : at_ + n ≤ N) (hn : n ≤ 60) (kept : List Bool) (torn bytes : Int) :
    (∃ m, sy ≤ m ∧ m ≤ rs.length ∧ rpGo (D.crash kept torn bytes) at_ (n : Nat) v (((n : Nat) : Int).toNat + 1) 0 [] = rs.take m) ∧ (∀ j, j < n → getB (((D.crash kept torn bytes).sec (at_ + j)).drop 248) 8 ≤ (stampN v j : Nat)) ∧
    rpGo (D.crash kept torn bytes) at_ (n : Nat) (v + 1) (((n : Nat) : Int).toNat + 1) 0 [] = [] ∧ (D.crash kept torn bytes).ok ∧ (D.crash kept torn bytes).n = N := by
  obtain ⟨s1, -, -⟩ := h.seen (by omega) hat hn (done kept torn bytes) (doneK_le kept torn bytes)
  have hsec : ∀ i, (D.crash kept torn bytes).sec i = cut (layAll D.img (cutP (done kept torn bytes) D.und 0)) (i * 256) 256 := fun i => by
    unfold Dsk.sec
    show cut (layDone _ _ _ _ _) _ _ = _
    rw [layDone_eq]
  have hok := Dsk.crash_ok h.ok kept torn bytes
  have hn40 : (D.crash kept torn bytes).n = N := h.n40
  have hcl : (D.crash kept torn bytes).off = false ∧ (D.crash kept torn bytes).und = [] := ⟨rfl, rfl⟩
  obtain ⟨D2, hD2⟩ : ∃ D2, D2 = D.crash kept torn bytes := ⟨_, rfl⟩
  rw [← hD2] at hok hn40 hcl ⊢
  simp only [← hD2] at hsec
  clear hD2
  have hrd : ∀ j, j < n → D2.readE ((at_ : Int) + (j : Nat)) = 0 ∧ D2.readS ((at_ : Int) + (j : Nat)) = D2.sec (at_ + j) := fun j hj => by
    have hhas : D2.has ((at_ + j : Nat) : Int) = true := by unfold Dsk.has; exact decide_eq_true (by rw [hn40]; omega)
    refine ⟨?_, ?_⟩
    · show D2.readE ((at_ + j : Nat) : Int) = 0
      unfold Dsk.readE; rw [hcl.1, hhas]; rfl
    · show D2.readS ((at_ + j : Nat) : Int) = _
      unfold Dsk.readS Dsk.rd; rw [hcl.1, hhas, hcl.2]; rfl
  refine ⟨?_, fun j hj => by rw [hsec]; exact s1.tails j hj, ?_, hok, hn40⟩
  · obtain ⟨m, m1, m2, m3, -⟩ := seen_read (D := D2) s1 ⟨hv.1, by omega⟩ hn h.fit h.small h.syl (fun j hj => by
      obtain ⟨a, b⟩ := hrd j hj
      exact ⟨a, by rw [b, hsec]⟩)
    exact ⟨m, m1, m2, m3⟩
  · have hp : payO D2 at_ (n : Nat) (v + 1) 0 = none := by
      unfold payO
      by_cases h0 : n = 0
      · rw [if_pos (by omega)]
      · rw [if_neg (by omega)]
        obtain ⟨a, b⟩ := hrd 0 (by omega)
        rw [a, if_neg (by simp), b, hsec]
        have ht := s1.tails 0 (by omega)
        exact openS_tail (stamp_lt (by omega) (by omega)) (by unfold stampN at ht ⊢; omega)
    have hr := recO_none (i := 0) hp
    show (match recO D2 at_ (n : Nat) (v + 1) 0 with | none => [] | some (s, u) => rpGo D2 at_ (n : Nat) (v + 1) ((n : Nat) : Int).toNat (0 + u.toNat) ([] ++ [s])) = []
    rw [hr]
end
end Go.Proofs.YteklldbfdmaafaaDoor
/-
  Sync, Append to a dead journal, the law's record for every fill, same: contracts.
-/
namespace Go.Proofs.YteklldbfdmaafaaDoor
open Go Go.RowKit
section
variable {P : Program} {W : World} {n : Nat} {k : KK} {E : Env} {H R : List SP} {x z : Operand} {t e : TypeId}
theorem KJ.row_shapeJ {v : Value} {e size m : Nat} {xs : List Value} (hsel : Sel (rowP v e size m xs) H R) (hm : 0 < m) (h : ∀ g c, v = .slice (some ⟨g, 0, none⟩) m c → KJ W n k E H) : KJ W n k E H :=
  ⟨fun a w p s => by
    rcases (s.left.row hsel).2 with ⟨_, q⟩ | ⟨g, c, _, q, _⟩
    · omega
    · exact (h g c q).go a w p s⟩
end
section
variable {W : World} {E : Nat → Addr} {p g : Nat} {D : Dsk}
set_option maxHeartbeats 400000 in
set_option maxRecDepth 100000 in
/-- alike: a list, and the beginning of another one -/
theorem same_ct (l L : List (List UInt8)) (a1 a2 : Option Addr) (c1 c2 : Nat) (hl : l.length ≤ L.length) (he : L.take l.length = l) (hL : L.length ≤ 1048576) : Ct Tryd.prog W 72 [.slice a1 l.length c1, .slice a2 l.length c2] [rowP (.slice a1 l.length c1) 9 1 l.length (l.map strV), rowP (.slice a2 L.length c2) 9 1 L.length (L.map strV)] (fun _ : Unit => .bool true) (fun _ => [rowP (.slice a1 l.length c1) 9 1 l.length (l.map strV), rowP (.slice a2 L.length c2) 9 1 L.length (L.map strV)]) := by
  by_cases h0 : l.length = 0
  · have ql : decide ((((0 : Nat)) : Int) < (l.length : Int)) = false := decide_eq_false (by omega)
    have ql' : decide ((0 : Int) < (l.length : Int)) = false := ql
    refine Ct.enter Tryd.func72 rfl Tryd.ntmps72 (by simp) (fun R => ?_)
    repeat' (first 
    | refine KJ_stp (by first | constructor | fail) ?_
    | (refine is_oper ?_; first | (refine KJ_ek rfl ?_) | (refine KJ_ek0 ?_))
    | (refine is_ek ?_; first | (refine xmv ?_) | (refine xas ?_) | (refine ek_load ?_; first | (refine EK_ev (Ev_loadAgg rfl xS xC) ?_) | (refine EK_ev (Ev_load rfl xS (by rfl)) ?_) | (refine EK_ev (Ev_loadOld rfl (by assumption)) ?_)) | (refine ek_indexAddr ?_; first | (refine EK_ev (Ev_indexSlice rfl rfl (by omega)) ?_) | (refine EK_ev (Ev_indexArr rfl rfl (by omega)) ?_)) | (refine ek_len ?_; first | (refine EK_ev (Ev_len_str rfl) ?_) | (refine EK_ev (Ev_len_slice rfl) ?_) | (refine EK_ev (Ev_len_arr rfl) ?_) | (refine EK_ev (Ev_len_map rfl xS) ?_)) | (refine ek_add ?_; first | (refine EK_ev (Ev_addI rfl rfl (by omega)) ?_) | (refine EK_ev (Ev_addS rfl rfl (by simp <;> omega)) ?_) | (refine EK_ev (Ev_add rfl rfl) ?_)) | (refine ek_neq ?_; first | (refine EK_ev (Ev_neqI_f rfl rfl rfl) ?_) | (refine EK_ev (Ev_neqI rfl rfl) ?_) | (refine EK_ev (Ev_neqS rfl rfl) ?_) | (refine EK_ev (Ev_neqNil rfl rfl) ?_) | (refine EK_ev (Ev_neqB rfl rfl) ?_) | (refine EK_ev (Ev_neqO rfl rfl rfl (fun _ => rfl)) ?_)) | (refine ek_lss ?_; first | (refine EK_ev (Ev_lssI rfl rfl) ?_) | (refine EK_ev (Ev_lssS rfl rfl) ?_)))
    | (refine is_ex ?_; first | (refine KJ_blk_exit' rfl ?_))
    | (refine is_code ?_; first | (refine KJ_cond_dec rfl (fun _ => ?_) (fun _ => ?_) <;> first | (exfalso; omega) | skip) | (refine KJ_cond_t rfl ?_) | (refine KJ_cond_f rfl ?_) | (refine KJ_draws (id := 6) (.op 0 (.op 1 (.op 2 (.op 3 (.op 4 (.op 5 (.op 6 (.op 7 (.op 8 .nil))))))))) (by kernel_rfl) (by kernel_rfl) ?_))
    | (refine is_fw ?_; first | (refine FW_open rfl ?_) | (refine FW_nil ?_) | (refine FW_ef rfl ?_) | (refine FW_efg rfl rfl rfl ?_) | (refine FW_alt ?_ ?_))
    | (refine is_fo ?_; first | (refine FO_dec_t rfl rfl (fun _ => ?_) (fun _ => ?_) <;> first | (exfalso; omega) | skip) | (refine FO_dec_f rfl rfl (fun _ => ?_) (fun _ => ?_) <;> first | (exfalso; omega) | skip) | (refine FO_no rfl rfl rfl rfl ?_) | (refine FO_ekg rfl rfl rfl ?_) | (refine FO_ek rfl ?_))
    | (refine is_ro ?_; first | (refine RO_no rfl rfl rfl rfl ?_) | (refine RO_ekg rfl rfl ?_) | (refine RO_ek ?_))
    | (refine is_raw ?_; first | (refine KJ_flow ?_ ?_))
    | (refine AtR_mk rfl ?_)
    | exact Rech.nil
    | (refine Rech_open rfl ?_))
    refine KJ_loop (fun i : {k : Nat // k = 0} => [(12, .int .i64 (l.length : Nat)), (13, .int .i64 (i.1 : Nat))]) (fun _ => [rowP (.slice a1 l.length c1) 9 1 l.length (l.map strV), rowP (.slice a2 L.length c2) 9 1 L.length (L.map strV)] ++ R) (fun i => 0) ⟨0, rfl⟩ xB (xN) (fun ⟨k, hk⟩ => ?_)
    subst hk
    dsimp only
    repeat' (first 
    | refine KJ_stp (by first | constructor | fail) ?_
    | (refine is_oper ?_; first | (refine KJ_ek rfl ?_) | (refine KJ_ek0 ?_))
    | (refine is_ek ?_; first | (refine xmv ?_) | (refine xas ?_) | (refine ek_load ?_; first | (refine EK_ev (Ev_loadAgg rfl xS xC) ?_) | (refine EK_ev (Ev_load rfl xS (by rfl)) ?_) | (refine EK_ev (Ev_loadOld rfl (by assumption)) ?_)) | (refine ek_indexAddr ?_; first | (refine EK_ev (Ev_indexSlice rfl rfl (by omega)) ?_) | (refine EK_ev (Ev_indexArr rfl rfl (by omega)) ?_)) | (refine ek_len ?_; first | (refine EK_ev (Ev_len_str rfl) ?_) | (refine EK_ev (Ev_len_slice rfl) ?_) | (refine EK_ev (Ev_len_arr rfl) ?_) | (refine EK_ev (Ev_len_map rfl xS) ?_)) | (refine ek_add ?_; first | (refine EK_ev (Ev_addI rfl rfl (by omega)) ?_) | (refine EK_ev (Ev_addS rfl rfl (by simp <;> omega)) ?_) | (refine EK_ev (Ev_add rfl rfl) ?_)) | (refine ek_neq ?_; first | (refine EK_ev (Ev_neqI rfl rfl) ?_) | (refine EK_ev (Ev_neqS rfl rfl) ?_) | (refine EK_ev (Ev_neqNil rfl rfl) ?_) | (refine EK_ev (Ev_neqB rfl rfl) ?_) | (refine EK_ev (Ev_neqO rfl rfl rfl (fun _ => rfl)) ?_)) | (refine ek_lss ?_; first | (refine EK_ev (Ev_lssI_q rfl rfl ql) ?_) | (refine EK_ev (Ev_lssI rfl rfl) ?_) | (refine EK_ev (Ev_lssS rfl rfl) ?_)))
    | (refine is_ex ?_; first | (refine KJ_blk_exit' rfl ?_))
    | (refine is_code ?_; first | (refine KJ_cond_dec rfl (fun _ => ?_) (fun _ => ?_) <;> first | (exfalso; omega) | skip) | (refine KJ_cond_t rfl ?_) | (refine KJ_cond_f rfl ?_) | (refine KJ_draws (id := 6) (.op 0 (.op 1 (.op 2 (.op 3 (.op 4 (.op 5 (.op 6 (.op 7 (.op 8 .nil))))))))) (by kernel_rfl) (by kernel_rfl) ?_))
    | (refine is_fw ?_; first | (refine FW_open rfl ?_) | (refine FW_nil ?_) | (refine FW_ef rfl ?_) | (refine FW_efg rfl rfl rfl ?_) | (refine FW_alt ?_ ?_))
    | (refine is_fo ?_; first | (refine FO_dec_t rfl rfl (fun _ => ?_) (fun _ => ?_) <;> first | (exfalso; omega) | skip) | (refine FO_dec_f rfl rfl (fun _ => ?_) (fun _ => ?_) <;> first | (exfalso; omega) | skip) | (refine FO_no rfl rfl rfl rfl ?_) | (refine FO_ekg rfl rfl rfl ?_) | (refine FO_ek rfl ?_))
    | (refine is_ro ?_; first | (refine RO_no rfl rfl rfl rfl ?_) | (refine RO_ekg rfl rfl ?_) | (refine RO_ek ?_))
    | (refine is_raw ?_; first | (refine KJ_flow ?_ ?_))
    | (refine AtR_mk rfl ?_)
    | exact Rech.nil
    | (refine Rech_open rfl ?_))
    all_goals (exact xdn ())
  refine Ct.enter Tryd.func72 rfl Tryd.ntmps72 (by simp) (fun R => ?_)
  refine KJ.row_shapeJ (v := .slice a1 l.length c1) xS (by omega) (fun g1 d1 e1 => ?_)
  simp only [Value.slice.injEq] at e1
  obtain ⟨rfl, -, rfl⟩ := e1
  refine KJ.row_shapeJ (v := .slice a2 L.length c2) xS (by omega) (fun g2 d2 e2 => ?_)
  simp only [Value.slice.injEq] at e2
  obtain ⟨rfl, -, rfl⟩ := e2
  repeat' (first 
    | refine KJ_stp (by first | constructor | fail) ?_
    | (refine is_oper ?_; first | (refine KJ_ek rfl ?_) | (refine KJ_ek0 ?_))
    | (refine is_ek ?_; first | (refine xmv ?_) | (refine xas ?_) | (refine ek_load ?_; first | (refine EK_ev (Ev_loadAgg rfl xS xC) ?_) | (refine EK_ev (Ev_load rfl xS (by rfl)) ?_) | (refine EK_ev (Ev_loadOld rfl (by assumption)) ?_)) | (refine ek_indexAddr ?_; first | (refine EK_ev (Ev_indexSlice rfl rfl (by omega)) ?_) | (refine EK_ev (Ev_indexArr rfl rfl (by omega)) ?_)) | (refine ek_len ?_; first | (refine EK_ev (Ev_len_str rfl) ?_) | (refine EK_ev (Ev_len_slice rfl) ?_) | (refine EK_ev (Ev_len_arr rfl) ?_) | (refine EK_ev (Ev_len_map rfl xS) ?_)) | (refine ek_add ?_; first | (refine EK_ev (Ev_addI rfl rfl (by omega)) ?_) | (refine EK_ev (Ev_addS rfl rfl (by simp <;> omega)) ?_) | (refine EK_ev (Ev_add rfl rfl) ?_)) | (refine ek_neq ?_; first | (refine EK_ev (Ev_neqI_f rfl rfl rfl) ?_) | (refine EK_ev (Ev_neqI rfl rfl) ?_) | (refine EK_ev (Ev_neqS rfl rfl) ?_) | (refine EK_ev (Ev_neqNil rfl rfl) ?_) | (refine EK_ev (Ev_neqB rfl rfl) ?_) | (refine EK_ev (Ev_neqO rfl rfl rfl (fun _ => rfl)) ?_)) | (refine ek_lss ?_; first | (refine EK_ev (Ev_lssI rfl rfl) ?_) | (refine EK_ev (Ev_lssS rfl rfl) ?_)))
    | (refine is_ex ?_; first | (refine KJ_blk_exit' rfl ?_))
    | (refine is_code ?_; first | (refine KJ_cond_dec rfl (fun _ => ?_) (fun _ => ?_) <;> first | (exfalso; omega) | skip) | (refine KJ_cond_t rfl ?_) | (refine KJ_cond_f rfl ?_) | (refine KJ_draws (id := 6) (.op 0 (.op 1 (.op 2 (.op 3 (.op 4 (.op 5 (.op 6 (.op 7 (.op 8 .nil))))))))) (by kernel_rfl) (by kernel_rfl) ?_))
    | (refine is_fw ?_; first | (refine FW_open rfl ?_) | (refine FW_nil ?_) | (refine FW_ef rfl ?_) | (refine FW_efg rfl rfl rfl ?_) | (refine FW_alt ?_ ?_))
    | (refine is_fo ?_; first | (refine FO_dec_t rfl rfl (fun _ => ?_) (fun _ => ?_) <;> first | (exfalso; omega) | skip) | (refine FO_dec_f rfl rfl (fun _ => ?_) (fun _ => ?_) <;> first | (exfalso; omega) | skip) | (refine FO_no rfl rfl rfl rfl ?_) | (refine FO_ekg rfl rfl rfl ?_) | (refine FO_ek rfl ?_))
    | (refine is_ro ?_; first | (refine RO_no rfl rfl rfl rfl ?_) | (refine RO_ekg rfl rfl ?_) | (refine RO_ek ?_))
    | (refine is_raw ?_; first | (refine KJ_flow ?_ ?_))
    | (refine AtR_mk rfl ?_)
    | exact Rech.nil
    | (refine Rech_open rfl ?_))
  refine KJ_loop (fun i : {k : Nat // k ≤ l.length} => [(0, .slice (some ⟨g1, 0, none⟩) l.length c1), (1, .slice (some ⟨g2, 0, none⟩) l.length c2), (12, .int .i64 (l.length : Nat)), (13, .int .i64 (i.1 : Nat))]) (fun _ => [rowP (.slice (some ⟨g1, 0, none⟩) l.length c1) 9 1 l.length (l.map strV), rowP (.slice (some ⟨g2, 0, none⟩) L.length c2) 9 1 L.length (L.map strV)] ++ R) (fun i => l.length - i.1) ⟨0, by omega⟩ xB (xN) (fun ⟨k, hk⟩ => ?_)
  dsimp only
  by_cases hlt : k < l.length
  rotate_left
  · have hkl : k = l.length := by omega
    subst hkl
    have ql : decide ((l.length : Int) < (l.length : Int)) = false := decide_eq_false (by omega)
    repeat' (first 
    | refine KJ_stp (by first | constructor | fail) ?_
    | (refine is_oper ?_; first | (refine KJ_ek rfl ?_) | (refine KJ_ek0 ?_))
    | (refine is_ek ?_; first | (refine xmv ?_) | (refine xas ?_) | (refine ek_load ?_; first | (refine EK_ev (Ev_loadAgg rfl xS xC) ?_) | (refine EK_ev (Ev_load rfl xS (by rfl)) ?_) | (refine EK_ev (Ev_loadOld rfl (by assumption)) ?_)) | (refine ek_indexAddr ?_; first | (refine EK_ev (Ev_indexSlice rfl rfl (by omega)) ?_) | (refine EK_ev (Ev_indexArr rfl rfl (by omega)) ?_)) | (refine ek_len ?_; first | (refine EK_ev (Ev_len_str rfl) ?_) | (refine EK_ev (Ev_len_slice rfl) ?_) | (refine EK_ev (Ev_len_arr rfl) ?_) | (refine EK_ev (Ev_len_map rfl xS) ?_)) | (refine ek_add ?_; first | (refine EK_ev (Ev_addI rfl rfl (by omega)) ?_) | (refine EK_ev (Ev_addS rfl rfl (by simp <;> omega)) ?_) | (refine EK_ev (Ev_add rfl rfl) ?_)) | (refine ek_neq ?_; first | (refine EK_ev (Ev_neqI rfl rfl) ?_) | (refine EK_ev (Ev_neqS rfl rfl) ?_) | (refine EK_ev (Ev_neqNil rfl rfl) ?_) | (refine EK_ev (Ev_neqB rfl rfl) ?_) | (refine EK_ev (Ev_neqO rfl rfl rfl (fun _ => rfl)) ?_)) | (refine ek_lss ?_; first | (refine EK_ev (Ev_lssI_q rfl rfl ql) ?_) | (refine EK_ev (Ev_lssI rfl rfl) ?_) | (refine EK_ev (Ev_lssS rfl rfl) ?_)))
    | (refine is_ex ?_; first | (refine KJ_blk_exit' rfl ?_))
    | (refine is_code ?_; first | (refine KJ_cond_dec rfl (fun _ => ?_) (fun _ => ?_) <;> first | (exfalso; omega) | skip) | (refine KJ_cond_t rfl ?_) | (refine KJ_cond_f rfl ?_) | (refine KJ_draws (id := 6) (.op 0 (.op 1 (.op 2 (.op 3 (.op 4 (.op 5 (.op 6 (.op 7 (.op 8 .nil))))))))) (by kernel_rfl) (by kernel_rfl) ?_))
    | (refine is_fw ?_; first | (refine FW_open rfl ?_) | (refine FW_nil ?_) | (refine FW_ef rfl ?_) | (refine FW_efg rfl rfl rfl ?_) | (refine FW_alt ?_ ?_))
    | (refine is_fo ?_; first | (refine FO_dec_t rfl rfl (fun _ => ?_) (fun _ => ?_) <;> first | (exfalso; omega) | skip) | (refine FO_dec_f rfl rfl (fun _ => ?_) (fun _ => ?_) <;> first | (exfalso; omega) | skip) | (refine FO_no rfl rfl rfl rfl ?_) | (refine FO_ekg rfl rfl rfl ?_) | (refine FO_ek rfl ?_))
    | (refine is_ro ?_; first | (refine RO_no rfl rfl rfl rfl ?_) | (refine RO_ekg rfl rfl ?_) | (refine RO_ek ?_))
    | (refine is_raw ?_; first | (refine KJ_flow ?_ ?_))
    | (refine AtR_mk rfl ?_)
    | exact Rech.nil
    | (refine Rech_open rfl ?_))
    all_goals (exact xdn ())
  have ql : decide ((k : Int) < (l.length : Int)) = true := decide_eq_true (by omega)
  obtain ⟨s, hs⟩ : ∃ s, l[k]? = some s := ⟨_, List.getElem?_eq_getElem hlt⟩
  have hs2 : L[k]? = some s := by
    rw [← he, List.getElem?_take, if_pos hlt] at hs
    exact hs
  have hg1 : (l.map strV)[0 + ((k : Nat) : Int).toNat * 1]? = some (strV s) := by rw [Int.toNat_natCast, Nat.mul_one, Nat.zero_add, List.getElem?_map, hs]; rfl
  have hg2 : (L.map strV)[0 + ((k : Nat) : Int).toNat * 1]? = some (strV s) := by rw [Int.toNat_natCast, Nat.mul_one, Nat.zero_add, List.getElem?_map, hs2]; rfl
  repeat' (first 
    | refine KJ_stp (by first | constructor | fail) ?_
    | (refine is_oper ?_; first | (refine KJ_ek rfl ?_) | (refine KJ_ek0 ?_))
    | (refine is_ek ?_; first | (refine xmv ?_) | (refine xas ?_) | (refine ek_load ?_; first | (refine EK_ev (Ev_loadAgg rfl xS xC) ?_) | (refine EK_ev (Ev_load rfl xS (by rfl)) ?_) | (refine EK_ev (Ev_loadRow (g := g2) (i := L.length) rfl xS hg2) ?_) | (refine EK_ev (Ev_loadRow (g := g1) (i := l.length) (c := c1) rfl xS hg1) ?_) | (refine EK_ev (Ev_loadOld rfl (by assumption)) ?_)) | (refine ek_indexAddr ?_; first | (refine EK_ev (Ev_indexSlice rfl rfl (by omega)) ?_) | (refine EK_ev (Ev_indexArr rfl rfl (by omega)) ?_)) | (refine ek_len ?_; first | (refine EK_ev (Ev_len_str rfl) ?_) | (refine EK_ev (Ev_len_slice rfl) ?_) | (refine EK_ev (Ev_len_arr rfl) ?_) | (refine EK_ev (Ev_len_map rfl xS) ?_)) | (refine ek_add ?_; first | (refine EK_ev (Ev_addI_v (r := ((k + 1 : Nat) : Int)) rfl rfl (by omega) (by omega)) ?_) | (refine EK_ev (Ev_addI rfl rfl (by omega)) ?_) | (refine EK_ev (Ev_addS rfl rfl (by simp <;> omega)) ?_) | (refine EK_ev (Ev_add rfl rfl) ?_)) | (refine ek_neq ?_; first | (refine EK_ev (Ev_neqS_f rfl rfl rfl) ?_) | (refine EK_ev (Ev_neqI rfl rfl) ?_) | (refine EK_ev (Ev_neqS rfl rfl) ?_) | (refine EK_ev (Ev_neqNil rfl rfl) ?_) | (refine EK_ev (Ev_neqB rfl rfl) ?_) | (refine EK_ev (Ev_neqO rfl rfl rfl (fun _ => rfl)) ?_)) | (refine ek_lss ?_; first | (refine EK_ev (Ev_lssI_q rfl rfl ql) ?_) | (refine EK_ev (Ev_lssI rfl rfl) ?_) | (refine EK_ev (Ev_lssS rfl rfl) ?_)))
    | (refine is_ex ?_; first | (refine KJ_blk_exit' rfl ?_))
    | (refine is_code ?_; first | (refine KJ_cond_dec rfl (fun _ => ?_) (fun _ => ?_) <;> first | (exfalso; omega) | skip) | (refine KJ_cond_t rfl ?_) | (refine KJ_cond_f rfl ?_) | (refine KJ_draws (id := 6) (.op 0 (.op 1 (.op 2 (.op 3 (.op 4 (.op 5 (.op 6 (.op 7 (.op 8 .nil))))))))) (by kernel_rfl) (by kernel_rfl) ?_))
    | (refine is_fw ?_; first | (refine FW_open rfl ?_) | (refine FW_nil ?_) | (refine FW_ef rfl ?_) | (refine FW_efg rfl rfl rfl ?_) | (refine FW_alt ?_ ?_))
    | (refine is_fo ?_; first | (refine FO_dec_t rfl rfl (fun _ => ?_) (fun _ => ?_) <;> first | (exfalso; omega) | skip) | (refine FO_dec_f rfl rfl (fun _ => ?_) (fun _ => ?_) <;> first | (exfalso; omega) | skip) | (refine FO_no rfl rfl rfl rfl ?_) | (refine FO_ekg rfl rfl rfl ?_) | (refine FO_ek rfl ?_))
    | (refine is_ro ?_; first | (refine RO_no rfl rfl rfl rfl ?_) | (refine RO_ekg rfl rfl ?_) | (refine RO_ek ?_))
    | (refine is_raw ?_; first | (refine KJ_flow ?_ ?_))
    | (refine AtR_mk rfl ?_)
    | exact Rech.nil
    | (refine Rech_open rfl ?_))
  all_goals exact KJ_again ⟨k + 1, by omega⟩ (by show l.length - (k + 1) < l.length - k; omega) xB (xN)
end
end Go.Proofs.YteklldbfdmaafaaDoor
/-
  Range over a function: the rounds' contract, the statement, the rounds' own walk.
-/
namespace Go.Proofs.YteklldbfdmaafaaDoor
open Go Go.RowKit
/-- the value of yield -/
abbrev yv (l : Nat) : Value := .func (.yield l) #[] #[]
/-- the loop's record: in what state, with what jump; the slots asg E says -/
def recP (l : Nat) (st : LoopState) (pe : Option Code) (n : Nat) (E : Env) (ps : Array Tmp) (asg bd : Code) : SP :=
  ⟨4, l, fun h => ∃ fn tmps D, h l = some (.loop { state := st, pending := pe, fn, tmps, params := ps, assign := asg, body := bd, defers := D }) ∧ tmps.size = n ∧ ∀ t v, Env.at E t = some v → tmps[t]? = some v⟩
theorem recP_up {l : Nat} {st : LoopState} {pe : Option Code} {n : Nat} {E : Env} {ps : Array Tmp} {asg bd : Code} : ∀ h g, Hl.le h g → (recP l st pe n E ps asg bd).ok h → (recP l st pe n E ps asg bd).ok g :=
  fun _ _ le ⟨fn, tmps, D, a, b, c⟩ => ⟨fn, tmps, D, le _ _ a, b, c⟩
section
variable {P : Program} {W w : World} {n : Nat} {q : QQ} {k : KK} {E : Env} {H H' R : List SP} {l : Nat} {st : LoopState} {pe : Option Code} {ps : Array Tmp} {asg bd : Code} {X : Type}
theorem St.recd (s : St W H w) (p : Sel (recP l st pe n E ps asg bd) H R) : ∃ fn tmps D, w.heap[l]? = some (.loop { state := st, pending := pe, fn, tmps, params := ps, assign := asg, body := bd, defers := D }) ∧ tmps.size = n ∧ ∀ t v, Env.at E t = some v → tmps[t]? = some v := by
  obtain ⟨h, ⟨fn, tmps, D, a, b⟩, lies⟩ := s.sel p recP_up
  exact ⟨fn, tmps, D, (lies l _ a).2, b⟩
/-- the record turns -/
theorem St.recTurn {st' : LoopState} {pe' : Option Code} {fn : FuncId} {tmps : Array Value} {D : Nat} (s : St W H w) (p : Sel (recP l st pe n E ps asg bd) H R) (hh : w.heap[l]? = some (.loop { state := st, pending := pe, fn, tmps, params := ps, assign := asg, body := bd, defers := D })) :
    St W (recP l st' pe' n E ps asg bd :: R) (w.putObj l (.loop { state := st', pending := pe', fn, tmps, params := ps, assign := asg, body := bd, defers := D })) := by
  have hlt := (Array.getElem?_eq_some_iff.1 hh).1
  refine St.act (A := [recP l st pe n E ps asg bd]) (B := [recP l st' pe' n E ps asg bd]) (H := R) (s.perm p.perm) rfl rfl rfl (by simp) ?_
  intro h1 ⟨h, _, _, le, _, ⟨fn', tmps', D', a, b⟩, _⟩ lies
  have ha := (lies l _ (le _ _ a)).2
  rw [hh] at ha; cases ha
  refine ⟨Hl.one l _, starL_one ⟨fn, tmps, D, Hl.one_self _ _, b⟩, fun k x hx => ?_, fun k x hx => ?_, fun k _ hn => World.putObj_heap_other ?_⟩
  · obtain ⟨rfl, rfl⟩ := Hl.one_some hx; exact World.putObj_heap_same hlt
  · obtain ⟨rfl, rfl⟩ := Hl.one_some hx; exact .inl ⟨_, le _ _ a⟩
  · intro e; subst e; rw [le _ _ a] at hn; cases hn

/-- what a round's end must show -/
def RPost (W : World) {X : Type} (r : X → Bool) (H' : X → List SP) (R : List SP) : Ending → World → Prop := fun e w => ∃ x, e = .returned (.bool (r x)) ∧ St W (H' x ++ R) w
/-- a round's contract: yield, called with args where Hpre is owned -/
structure Yt (P : Program) (W : World) (l : Nat) (args : List Value) (Hpre : List SP) {X : Type} (r : X → Bool) (H' : X → List SP) : Prop where
  go : ∀ R w, St W (Hpre ++ R) w → ∃ f tmps asg bd, (Instr.yield l args.toArray).run P w = .ok (.round l f tmps asg bd) w ∧ RoundIn Fence.wide 0 P l f tmps asg bd w (RPost W r H' R)
/-- yield is called -/
theorem KJ_yield {x : Operand} {xs : List Operand} {ts : Array TypeId} {vs : List Value} {dd : Option Tmp} {Hpre : List SP} {r : X → Bool} {Hp : X → List SP} (hf : Env.ev E x = some (yv l)) (hx : Evs E xs vs) (hc : Yt P W l vs Hpre r Hp) (hp : Pick Hpre H R) (hn : dstOk n dd = true)
    (h : ∀ c, KJ W n k (Env.put E dd (.bool (r c))) (Hp c ++ R)) : KJ W n (.oper P (.call { callee := .value x, args := xs.toArray, argTypes := ts }) dd k) E H := by
  refine ⟨fun a w p s o ho hd => ?_⟩
  subst hd
  show uponP P o a _ ((execOp a.eval o).run P w)
  obtain ⟨f, tmps, asg, bd, hy, hr⟩ := hc.go (R ++ dm a.defers) w (s.perm ((hp.perm.append_right _).trans (by rw [List.append_assoc])))
  have hv := p.evs hx
  have hrun : (execOp a.eval o).run P w = .ok (.round l f tmps asg bd) w := by
    have : (execOp a.eval o).run P w = (Instr.yield l vs.toArray).run P w := by
      simp [execOp, ho, resolve, p.ev hf, Deferred.ofValue, invoke, hv, callFunc]
    rw [this, hy]
  rw [hrun]
  refine RoundIn.mono hr ?_
  rintro e w' ⟨c, rfl, s⟩
  refine ⟨_, rfl, (h c).go _ w' (p.put hn _) ?_⟩
  show St W (_ ++ dm (a.put o.dst _).defers) w'
  rw [put_defers, List.append_assoc]; exact s
theorem Yt.frame {args : List Value} {Hpre : List SP} {r : X → Bool} {Hp : X → List SP} (h : Yt P W l args Hpre r Hp) (F : List SP) : Yt P W l args (Hpre ++ F) r (fun x => Hp x ++ F) :=
  ⟨fun R w s => by
    obtain ⟨f, tmps, asg, bd, h1, h2⟩ := h.go (F ++ R) w (by rw [← List.append_assoc]; exact s)
    exact ⟨f, tmps, asg, bd, h1, h2.mono fun e w' ⟨x, he, s⟩ => ⟨x, he, by rw [List.append_assoc]; exact s⟩⟩⟩
theorem Pick.all (H : List SP) : Pick H H [] := by
  induction H with
  | nil => exact .nil
  | cons A H ih => exact .cons .here ih
/-- yield is called with all that is owned -/
theorem KJ_yield_all {x : Operand} {xs : List Operand} {ts : Array TypeId} {vs : List Value} {dd : Option Tmp} {H0 : List SP} {r : X → Bool} {Hp : X → List SP} (hf : Env.ev E x = some (yv l)) (hx : Evs E xs vs) (hc : Yt P W l vs H0 r Hp) (hp : H.Perm H0) (hn : dstOk n dd = true)
    (h : ∀ c, KJ W n k (Env.put E dd (.bool (r c))) (Hp c)) : KJ W n (.oper P (.call { callee := .value x, args := xs.toArray, argTypes := ts }) dd k) E H :=
  KJ.perm (KJ_yield hf hx hc (Pick.all H0) hn (fun c => by rw [List.append_nil]; exact h c)) hp
theorem KJ_cond_b {c : Operand} {x y : Code} {t : Bool} (hc : Env.ev E c = some (.bool t)) (ht : t = true → KJ W n (.code P x q) E H) (hf : t = false → KJ W n (.code P y q) E H) : KJ W n (.code P (Code.cond c x y) q) E H := KJ_cond hc ht hf

/-- the slots of a round: yield's arguments in the parameters -/
def Env.ofPs : List Tmp → List Value → Env → Env
  | p :: ps, v :: vs, E => Env.ofPs ps vs ((p, v) :: E)
  | _, _, E => E
theorem Hd.ofPs : ∀ (ps : List Tmp) (vs : List Value) (E : Env) (tmps : Array Value), (∀ p ∈ ps, p < n) → tmps.size = n → (∀ t v, Env.at E t = some v → tmps[t]? = some v) →
    Hd n (Env.ofPs ps vs E) { tmps := (ps.zip vs).foldl (fun t (p, v) => t.setIfInBounds p v) tmps, defers := [] }
  | [], vs, E, tmps, _, h1, h2 => ⟨by simpa using h1, fun t v q => by simpa using h2 t v (by simpa [Env.ofPs] using q)⟩
  | p :: ps, [], E, tmps, _, h1, h2 => ⟨by simpa using h1, fun t v q => by simpa using h2 t v (by simpa [Env.ofPs] using q)⟩
  | p :: ps, v :: vs, E, tmps, hp, h1, h2 => by
    have := Hd.ofPs ps vs ((p, v) :: E) (tmps.setIfInBounds p v) (fun x hx => hp x (by simp [hx])) (by simpa using h1) (fun t u q => by
      rw [Env.at_cons] at q
      split at q
      · rename_i e; subst e; cases q
        have : p < tmps.size := by rw [h1]; exact hp p (by simp)
        simp [this]
      · rename_i e
        rw [Array.getElem?_setIfInBounds_ne e]
        exact h2 t u q)
    simpa [Env.ofPs] using this

/-- behind the assignment: the round begins; the body is walked in the round's frame -/
def BeginK (P : Program) (l : Nat) (bd : Code) (Q : Exit → Act → World → Prop) : Act → World → Prop := fun a₁ w₁ => ∃ w₂, (Instr.beginRound l).run P w₁ = .ok () w₂ ∧ bd.wpIn (fen (some l)) 0 P Q a₁ w₂
abbrev asgQ (P : Program) (l : Nat) (bd : Code) (Q : Exit → Act → World → Prop) : QQ := .thn (BeginK P l bd Q) (.rnd l fun _ _ _ => False)
theorem is_begin {bd : Code} {Q : Exit → Act → World → Prop} (h : KJ W n (.raw (BeginK P l bd Q)) E H) : KJ W n (.raw (BeginK P l bd Q)) E H := h
theorem KJ_begin {Q : Exit → Act → World → Prop} {E' : Env} {bd' : Code} (hs : Sel (recP l .ready pe n E' ps asg bd') H R) (h : KJ W n (.code P bd (.rnd l Q)) E (recP l .busy pe n E' ps asg bd' :: R)) : KJ W n (.raw (BeginK P l bd Q)) E H :=
  ⟨fun a w p s => by
    obtain ⟨fn, tmps, D, hh, _⟩ := s.left.recd hs
    exact ⟨_, run_beginRound hh rfl, h.go a _ p (St.recTurn s (hs.app _) hh)⟩⟩
/-- a round is over: jump: how it is left -/
theorem KJ_round {r : X → Bool} {Hp : X → List SP} {ex : Exit} {jump : Option Code} {E' : Env} (hj : ex = .normal ∧ jump = none ∨ ex = .ret ∧ jump = some .ret ∨ ∃ id, ex = .exit id ∧ jump = some (.exit id)) (hs : Sel (recP l .busy pe n E' ps asg bd) H H') (c : X) (hc : jump.isNone = r c)
    (hE : ∀ g, starL (recP l (if jump.isNone then .ready else .done) jump n E' ps asg bd :: H') g → starL (Hp c ++ R) g) : KJ W n (.ex (.rnd l (roundPost P l (RPost W r Hp R))) ex) E H :=
  ⟨fun a w p s => by
    obtain ⟨fn, tmps, D, hh, _⟩ := s.left.recd hs
    have hrun := run_endRound (P := P) jump hh
    have st : St W (recP l (if jump.isNone then .ready else .done) jump n E' ps asg bd :: H') _ := (St.recTurn (st' := if jump.isNone then .ready else .done) (pe' := jump) s (hs.app _) hh).left (B := dm a.defers)
    have fin : ∃ v w', (Instr.endRound l jump).run P w = .ok v w' ∧ RPost W r Hp R (.returned v) w' := ⟨_, _, hrun, c, by rw [hc], st.mono hE⟩
    rcases hj with ⟨rfl, rfl⟩ | ⟨rfl, rfl⟩ | ⟨id, rfl, rfl⟩
    · exact fin
    · exact fin
    · exact fin⟩
theorem KJ_round_t {A B : List SP} {E' : Env} (hs : Sel (recP l .busy pe n E' ps asg bd) H H') (hE : ∀ g, starL (recP l .ready none n E' ps asg bd :: H') g → starL (A ++ R) g) : KJ W n (.ex (.rnd l (roundPost P l (RPost W (fun b : Bool => b) (fun b => if b then A else B) R))) .normal) E H :=
  KJ_round (.inl ⟨rfl, rfl⟩) hs true rfl hE
/-- a round's contract from its walk -/
theorem Yt.of {args : List Value} {psl : List Tmp} {Hpre : List SP} {r : X → Bool} {Hp : X → List SP} (hl : args.length = psl.length) (hp : ∀ p ∈ psl, p < n)
    (h : ∀ R, KJ W n (.code P asg (asgQ P l bd (roundPost P l (RPost W r Hp R)))) (Env.ofPs psl args E) (recP l .ready pe n E psl.toArray asg bd :: Hpre ++ R)) : Yt P W l args (recP l .ready pe n E psl.toArray asg bd :: Hpre) r Hp :=
  ⟨fun R w s => by
    obtain ⟨fn, tmps, D, hh, h1, h2⟩ := s.recd .here
    refine ⟨_, _, _, _, run_yield hh (by simpa using hl), ?_⟩
    refine roundIn_of_wpIn (F := Fence.wide) (n := 0) trivial ?_
    have hd := Hd.ofPs psl args E tmps hp h1 h2
    have := (h R).go _ w hd (s.perm (by show _; simp [dm]))
    simp only [List.zip_toArray, List.foldl_toArray', List.size_toArray]
    exact this⟩
/-- the statement -/
theorem KJ_range {g : Operand} {gf : FuncId} {lb : List Value} {Hpre : List SP} {pe : X → Option Code} {Hp : X → List SP} {v : X → Value} (hro : q.ro = none) (hg : Env.ev E g = some (.func (.func gf) #[] lb.toArray)) [hf : FnIs P gf]
    (hc : ∀ l, Ct P W gf (yv l :: lb) (recP l .ready none n E ps asg bd :: Hpre) v (fun x => recP l (if (pe x).isNone then .ready else .done) (pe x) n E ps asg bd :: Hp x)) (hp : Pick Hpre H R)
    (h0 : ∀ x, pe x = none → KJ W n (.ex q .normal) E (Hp x ++ R)) (h1 : ∀ x c, pe x = some c → KJ W n (.code P c q) E (Hp x ++ R)) : KJ W n (.code P (Code.rangeFunc g ps asg bd) q) E H := by
  refine ⟨fun a w p s => ?_⟩
  show (Code.rangeFunc g ps asg bd).wpIn (fen q.ro) 0 P q.den a w
  rw [hro]
  refine wpIn_rangeFunc fun fn _ => ?_
  obtain ⟨W1, hW1⟩ : ∃ W1, ((w.alloc (.deferred (some []))).alloc (.loop { state := .ready, pending := none, fn, tmps := a.tmps, params := ps, assign := asg, body := bd, defers := w.heap.size })) = W1 := ⟨_, rfl⟩
  have hev := p.ev hg
  have hb : FnIs P gf := hf
  refine ⟨w.heap.size + 1, [{ target := .collected w.heap.size, args := #[] }], W1, { target := .fn (.func gf) lb.toArray, args := #[yv (w.heap.size + 1)] }, W1, gf, (yv (w.heap.size + 1) :: lb).toArray, W1, ?_, ?_, fun _ _ => trivial, ?_, fun e => by simp at e, ?_⟩
  · rw [← hW1]; exact run_enterLoop_outer _ _ _ _ _
  · simp only [resolve, hev]
    simp [go_sem]
  · have hf := hf.h
    cases hq : P.funcs[gf]? with
    | none => simp [hq] at hf
    | some fnn =>
      simp [hq] at hf
      obtain ⟨h1, h2⟩ := hf
      have hb : ¬ fnn.body = none := by cases h : fnn.body <;> simp_all
      simp [invoke, callFunc, Go.program, Sem.run, hq, h2, hb, Result.andThen]
  · have s1 : St W (recP (w.heap.size + 1) .ready none n E ps asg bd :: objP w.heap.size (.deferred (some [])) :: (H ++ dm a.defers)) W1 := by
      rw [← hW1]
      have := (St.alloc (A := objP w.heap.size (.deferred (some []))) (o := .deferred (some [])) s (Hl.one_self _ _))
      refine this.alloc (A := recP (w.heap.size + 1) .ready none n E ps asg bd) ?_
      rw [World.size_alloc]
      exact ⟨fn, a.tmps, w.heap.size, Hl.one_self _ _, p.size, p.at_⟩
    have hpm : (recP (w.heap.size + 1) .ready none n E ps asg bd :: objP w.heap.size (.deferred (some [])) :: (H ++ dm a.defers)).Perm ((recP (w.heap.size + 1) .ready none n E ps asg bd :: Hpre) ++ (R ++ (objP w.heap.size (.deferred (some [])) :: dm a.defers))) := by
      refine List.Perm.cons _ ?_
      refine (List.perm_middle (l₁ := H)).symm.trans ?_
      refine List.Perm.trans (hp.perm.append_right _) ?_
      show ((Hpre ++ R) ++ _).Perm (Hpre ++ (R ++ _))
      rw [List.append_assoc]
    refine (callsIn_wide (n := 0)).2 (((hc (w.heap.size + 1)).go _ W1 (s1.perm hpm)).mono ?_)
    rintro e w2 ⟨x, rfl, s2⟩
    obtain ⟨fn', tmps', D', hh, _⟩ := s2.recd .here
    have hne : (if (pe x).isNone then LoopState.ready else LoopState.done) ≠ .busy := by split <;> simp
    have s3 := St.recTurn (st' := .exhausted) (pe' := pe x) s2 .here hh
    have s4 : St W ((Hp x ++ R) ++ (objP w.heap.size (.deferred (some [])) :: dm a.defers)) (w2.putObj (w.heap.size + 1) (.loop { state := .exhausted, pending := pe x, fn := fn', tmps := tmps', params := ps, assign := asg, body := bd, defers := D' })) := by
      have := s3.right (A := [recP (w.heap.size + 1) .exhausted (pe x) n E ps asg bd])
      rw [List.append_assoc]; exact this
    refine ⟨pe x, _, run_endLoop hh hne, ?_⟩
    have p2 : Hd n E { a with defers := [{ target := .collected w.heap.size, args := #[] }] ++ a.defers } := ⟨p.size, p.at_⟩
    cases hpe : pe x with
    | none =>
      rw [hpe] at s4
      exact (h0 x hpe).go _ _ p2 s4
    | some c =>
      rw [hpe] at s4
      have := (h1 x c hpe).go _ _ p2 s4
      have e2 : KK.den (.code P c q) = c.wpIn (fen q.ro) 0 P q.den := rfl
      rw [e2, hro] at this
      exact this
end
end Go.Proofs.YteklldbfdmaafaaDoor
/-
  journal.Each, its iterator, and a range over it.
-/
namespace Go.Proofs.YteklldbfdmaafaaDoor
open Go Go.RowKit
theorem Ev_makeFunc {P : Program} {W : World} {n : Nat} {E : Env} {H : List SP} {f : Fn} {xs ys : List Operand} {us vs : List Value} (hx : Evs E xs us) (hy : Evs E ys vs) (hc : (Instr.makeFunc f us.toArray vs.toArray) = pure (.func f us.toArray vs.toArray)) : Ev P W n E H (.makeFunc f xs.toArray ys.toArray) (.func f us.toArray vs.toArray) :=
  Ev.mk fun o ho a w p _ => by
    have h1 := p.evs hx
    have h2 := p.evs hy
    simp [execOp, ho, h1, h2, hc]
/-- a function is not nil -/
theorem Ev_eqlFn {P : Program} {W : World} {n : Nat} {E : Env} {H : List SP} {t u : TypeId} {x y : Operand} {f : Fn} {us vs : Array Value} {ps rs : Array TypeId} {vr : Bool} (hx : Env.ev E x = some (.func f us vs)) (hy : Env.ev E y = some .nilFunc) [hu : UIs P t (.func ps rs vr)] : Ev P W n E H (.binOp .eql t x y u) (.bool false) := by
  refine Ev_bin hx hy (fun w => ?_) (fun w => ?_)
  · cases x <;> cases y <;> simp [eqGuard]
  · have e : (Op.equal t (.func f us vs) .nilFunc).run P w = .ok false w := by
      unfold Op.equal Op.maxDepth
      have key : ∀ m, (Op.equalIn (m + 1) t (.func f us vs) .nilFunc).run P w = .ok false w := by
        intro m
        simp [Op.equalIn, run_underlying hu.h]
      exact key 9999
    simp [binOp, e, Result.andThen]
theorem KJ_absurd {W : World} {n : Nat} {k : KK} {E : Env} {H R : List SP} (hs : Sel (factP False) H R) : KJ W n k E H := ⟨fun _ _ _ s => (s.left.fact hs).elim⟩
theorem KJ.fact {W : World} {n : Nat} {k : KK} {E : Env} {H R : List SP} {p : Prop} (hs : Sel (factP p) H R) (h : p → KJ W n k E H) : KJ W n k E H := ⟨fun a w q s => (h (s.left.fact hs)).go a w q s⟩
theorem Ct.post_eq {P : Program} {W : World} {f : FuncId} {args : List Value} {Hpre : List SP} {X : Type} {r : X → Value} {H' H'' : X → List SP} (h : Ct P W f args Hpre r H') (e : ∀ x, H' x = H'' x) : Ct P W f args Hpre r H'' := by
  have : H' = H'' := funext e
  subst this; exact h
section
variable {W : World} {E : Nat → Addr} {p g l : Nat} {D : Dsk}
/-- a slot that holds a list of texts -/
abbrev lstP (g : Nat) (a : Option Addr) (c : Nat) (L : List (List UInt8)) : List SP := [cellsP g [.slice a L.length c] 47, rowP (.slice a L.length c) 9 1 L.length (L.map strV)]
set_option maxHeartbeats 400000 in
theorem each1_ct (L : List (List UInt8)) (a : Option Addr) (c : Nat) (J S : Nat → List SP) (hL : L.length ≤ 1048576)
    (hy : ∀ i s, L[i]? = some s → Yt Tryd.prog W l [.int .i64 (i : Nat), strV s] (J i) (fun b : Bool => b) (fun b => if b then J (i + 1) else S i)) :
    Ct Tryd.prog W 103 [yv l, .pointer (some ⟨g, 0, none⟩)] (J 0 ++ lstP g a c L) (fun _ : Option {i // i < L.length} => .tuple #[]) (fun x => (match x with | none => J L.length | some i => S i.1) ++ lstP g a c L) := by
  by_cases h0 : L.length = 0
  · have ql : decide ((((0 : Nat)) : Int) < (L.length : Int)) = false := decide_eq_false (by omega)
    have ql' : decide ((0 : Int) < (L.length : Int)) = false := ql
    refine Ct.enter Tryd.func103 rfl Tryd.ntmps103 (by simp) (fun R => ?_)
    obtain ⟨H0, hH0⟩ : ∃ H0, H0 = lstP g a c L ++ (J 0 ++ R) := ⟨_, rfl⟩
    refine KJ.perm (H' := lstP g a c L ++ (J 0 ++ R)) ?_ (by rw [List.append_assoc]; exact List.perm_append_comm_assoc _ _ _)
    repeat' (first 
    | refine KJ_stp (by first | constructor | fail) ?_
    | (refine is_oper ?_; first | (refine KJ_ek rfl ?_) | (refine KJ_ek0 ?_))
    | (refine is_ek ?_; first | (refine xmv ?_) | (refine xas ?_) | (refine ek_load ?_; first | (refine EK_ev (Ev_load rfl xS (by rfl)) ?_) | (refine EK_ev (Ev_loadOld rfl (by assumption)) ?_) | (refine EK_ev (Ev_loadAgg rfl xS xC) ?_)) | (refine ek_un ?_; first | (refine EK_ev (Ev_notD rfl) ?_) | (refine EK_ev (Ev_not rfl) ?_) | (refine EK_ev (Ev_neg rfl) ?_)) | (refine ek_indexAddr ?_; first | (refine EK_ev (Ev_indexSlice rfl rfl (by omega)) ?_) | (refine EK_ev (Ev_indexArr rfl rfl (by omega)) ?_)) | (refine ek_len ?_; first | (refine EK_ev (Ev_len_str rfl) ?_) | (refine EK_ev (Ev_len_slice rfl) ?_) | (refine EK_ev (Ev_len_arr rfl) ?_) | (refine EK_ev (Ev_len_map rfl xS) ?_)) | (refine ek_add ?_; first | (refine EK_ev (Ev_addI rfl rfl (by omega)) ?_) | (refine EK_ev (Ev_addS rfl rfl (by simp <;> omega)) ?_) | (refine EK_ev (Ev_add rfl rfl) ?_)) | (refine ek_lss ?_; first | (refine EK_ev (Ev_lssI rfl rfl) ?_) | (refine EK_ev (Ev_lssS rfl rfl) ?_)))
    | (refine is_ex ?_; first | (refine KJ_blk_exit' rfl ?_))
    | (refine is_code ?_; first | (refine KJ_cond_dec rfl (fun _ => ?_) (fun _ => ?_) <;> first | (exfalso; omega) | skip) | (refine KJ_cond_t rfl ?_) | (refine KJ_cond_f rfl ?_)))
    refine KJ_loop (fun i : {k : Nat // k = 0} => [(5, .slice a L.length c), (6, .int .i64 (L.length : Nat)), (7, .int .i64 (i.1 : Nat))]) (fun _ => lstP g a c L ++ (J 0 ++ R)) (fun i => 0) ⟨0, rfl⟩ xB (fun _ q => q) (fun ⟨k, hk⟩ => ?_)
    subst hk
    dsimp only
    repeat' (first 
    | refine KJ_stp (by first | constructor | fail) ?_
    | (refine is_oper ?_; first | (refine KJ_ek rfl ?_) | (refine KJ_ek0 ?_))
    | (refine is_ek ?_; first | (refine xmv ?_) | (refine xas ?_) | (refine ek_load ?_; first | (refine EK_ev (Ev_load rfl xS (by rfl)) ?_) | (refine EK_ev (Ev_loadOld rfl (by assumption)) ?_) | (refine EK_ev (Ev_loadAgg rfl xS xC) ?_)) | (refine ek_un ?_; first | (refine EK_ev (Ev_notD rfl) ?_) | (refine EK_ev (Ev_not rfl) ?_) | (refine EK_ev (Ev_neg rfl) ?_)) | (refine ek_indexAddr ?_; first | (refine EK_ev (Ev_indexSlice rfl rfl (by omega)) ?_) | (refine EK_ev (Ev_indexArr rfl rfl (by omega)) ?_)) | (refine ek_len ?_; first | (refine EK_ev (Ev_len_str rfl) ?_) | (refine EK_ev (Ev_len_slice rfl) ?_) | (refine EK_ev (Ev_len_arr rfl) ?_) | (refine EK_ev (Ev_len_map rfl xS) ?_)) | (refine ek_add ?_; first | (refine EK_ev (Ev_addI rfl rfl (by omega)) ?_) | (refine EK_ev (Ev_addS rfl rfl (by simp <;> omega)) ?_) | (refine EK_ev (Ev_add rfl rfl) ?_)) | (refine ek_lss ?_; first | (refine EK_ev (Ev_lssI_q rfl rfl ql) ?_) | (refine EK_ev (Ev_lssI rfl rfl) ?_) | (refine EK_ev (Ev_lssS rfl rfl) ?_)))
    | (refine is_ex ?_; first | (refine KJ_blk_exit' rfl ?_))
    | (refine is_code ?_; first | (refine KJ_cond_dec rfl (fun _ => ?_) (fun _ => ?_) <;> first | (exfalso; omega) | skip) | (refine KJ_cond_t rfl ?_) | (refine KJ_cond_f rfl ?_)))
    (refine is_ex ?_; exact KJ_done (by first | exact Or.inl rfl | exact Or.inr rfl) rfl Rvs.nil none (by rfl) (fun gg q => by
      have q2 := starL_perm (List.perm_append_comm_assoc _ _ _) gg q
      show starL ((J L.length ++ _) ++ R) gg
      rw [h0, List.append_assoc]
      exact q2))
  refine Ct.enter Tryd.func103 rfl Tryd.ntmps103 (by simp) (fun R => ?_)
  refine KJ.perm (H' := lstP g a c L ++ (J 0 ++ R)) ?_ (by rw [List.append_assoc]; exact List.perm_append_comm_assoc _ _ _)
  refine KJ.row_shapeJ (v := .slice a L.length c) (e := 9) (size := 1) (m := L.length) (xs := L.map strV) (R := cellsP g [.slice a L.length c] 47 :: (J 0 ++ R)) xS (by omega) (fun g1 d1 e1 => ?_)
  simp only [Value.slice.injEq] at e1
  obtain ⟨rfl, -, rfl⟩ := e1
  repeat' (first 
    | refine KJ_stp (by first | constructor | fail) ?_
    | (refine is_oper ?_; first | (refine KJ_ek rfl ?_) | (refine KJ_ek0 ?_))
    | (refine is_ek ?_; first | (refine xmv ?_) | (refine xas ?_) | (refine ek_load ?_; first | (refine EK_ev (Ev_load rfl xS (by rfl)) ?_) | (refine EK_ev (Ev_loadOld rfl (by assumption)) ?_) | (refine EK_ev (Ev_loadAgg rfl xS xC) ?_)) | (refine ek_un ?_; first | (refine EK_ev (Ev_notD rfl) ?_) | (refine EK_ev (Ev_not rfl) ?_) | (refine EK_ev (Ev_neg rfl) ?_)) | (refine ek_indexAddr ?_; first | (refine EK_ev (Ev_indexSlice rfl rfl (by omega)) ?_) | (refine EK_ev (Ev_indexArr rfl rfl (by omega)) ?_)) | (refine ek_len ?_; first | (refine EK_ev (Ev_len_str rfl) ?_) | (refine EK_ev (Ev_len_slice rfl) ?_) | (refine EK_ev (Ev_len_arr rfl) ?_) | (refine EK_ev (Ev_len_map rfl xS) ?_)) | (refine ek_add ?_; first | (refine EK_ev (Ev_addI rfl rfl (by omega)) ?_) | (refine EK_ev (Ev_addS rfl rfl (by simp <;> omega)) ?_) | (refine EK_ev (Ev_add rfl rfl) ?_)) | (refine ek_lss ?_; first | (refine EK_ev (Ev_lssI rfl rfl) ?_) | (refine EK_ev (Ev_lssS rfl rfl) ?_)))
    | (refine is_ex ?_; first | (refine KJ_blk_exit' rfl ?_))
    | (refine is_code ?_; first | (refine KJ_cond_dec rfl (fun _ => ?_) (fun _ => ?_) <;> first | (exfalso; omega) | skip) | (refine KJ_cond_t rfl ?_) | (refine KJ_cond_f rfl ?_)))
  refine KJ_loop (fun i : {k : Nat // k ≤ L.length} => [(0, yv l), (5, .slice (some ⟨g1, 0, none⟩) L.length c), (6, .int .i64 (L.length : Nat)), (7, .int .i64 (i.1 : Nat))]) (fun i => lstP g (some ⟨g1, 0, none⟩) c L ++ (J i.1 ++ R)) (fun i => L.length - i.1) ⟨0, by omega⟩ xB (fun _ q => q) (fun ⟨k, hk⟩ => ?_)
  dsimp only
  by_cases hlt : k < L.length
  rotate_left
  · have hkl : k = L.length := by omega
    subst hkl
    have ql : decide ((L.length : Int) < (L.length : Int)) = false := decide_eq_false (by omega)
    repeat' (first 
    | refine KJ_stp (by first | constructor | fail) ?_
    | (refine is_oper ?_; first | (refine KJ_ek rfl ?_) | (refine KJ_ek0 ?_))
    | (refine is_ek ?_; first | (refine xmv ?_) | (refine xas ?_) | (refine ek_load ?_; first | (refine EK_ev (Ev_load rfl xS (by rfl)) ?_) | (refine EK_ev (Ev_loadOld rfl (by assumption)) ?_) | (refine EK_ev (Ev_loadAgg rfl xS xC) ?_)) | (refine ek_un ?_; first | (refine EK_ev (Ev_notD rfl) ?_) | (refine EK_ev (Ev_not rfl) ?_) | (refine EK_ev (Ev_neg rfl) ?_)) | (refine ek_indexAddr ?_; first | (refine EK_ev (Ev_indexSlice rfl rfl (by omega)) ?_) | (refine EK_ev (Ev_indexArr rfl rfl (by omega)) ?_)) | (refine ek_len ?_; first | (refine EK_ev (Ev_len_str rfl) ?_) | (refine EK_ev (Ev_len_slice rfl) ?_) | (refine EK_ev (Ev_len_arr rfl) ?_) | (refine EK_ev (Ev_len_map rfl xS) ?_)) | (refine ek_add ?_; first | (refine EK_ev (Ev_addI rfl rfl (by omega)) ?_) | (refine EK_ev (Ev_addS rfl rfl (by simp <;> omega)) ?_) | (refine EK_ev (Ev_add rfl rfl) ?_)) | (refine ek_lss ?_; first | (refine EK_ev (Ev_lssI_q rfl rfl ql) ?_) | (refine EK_ev (Ev_lssI rfl rfl) ?_) | (refine EK_ev (Ev_lssS rfl rfl) ?_)))
    | (refine is_ex ?_; first | (refine KJ_blk_exit' rfl ?_))
    | (refine is_code ?_; first | (refine KJ_cond_dec rfl (fun _ => ?_) (fun _ => ?_) <;> first | (exfalso; omega) | skip) | (refine KJ_cond_t rfl ?_) | (refine KJ_cond_f rfl ?_)))
    (refine is_ex ?_; exact KJ_done (by first | exact Or.inl rfl | exact Or.inr rfl) rfl Rvs.nil none (by rfl) (fun gg q => by
      have q2 := starL_perm (List.perm_append_comm_assoc _ _ _) gg q
      show starL ((J L.length ++ _) ++ R) gg
      rw [List.append_assoc]
      exact q2))
  have ql : decide ((k : Int) < (L.length : Int)) = true := decide_eq_true (by omega)
  obtain ⟨s, hs⟩ : ∃ s, L[k]? = some s := ⟨_, List.getElem?_eq_getElem hlt⟩
  have hg1 : (L.map strV)[0 + ((k : Nat) : Int).toNat * 1]? = some (strV s) := by rw [Int.toNat_natCast, Nat.mul_one, Nat.zero_add, List.getElem?_map, hs]; rfl
  have hyk : Yt Tryd.prog W l [.int .i64 (k : Nat), strV s] (J k ++ (lstP g (some ⟨g1, 0, none⟩) c L ++ R)) (fun b : Bool => b) (fun b => (if b then J (k + 1) else S k) ++ (lstP g (some ⟨g1, 0, none⟩) c L ++ R)) := (hy k s hs).frame _
  have hpk : (lstP g (some ⟨g1, 0, none⟩) c L ++ (J k ++ R)).Perm (J k ++ (lstP g (some ⟨g1, 0, none⟩) c L ++ R)) := List.perm_append_comm_assoc _ _ _
  repeat' (first 
    | (refine KJ_yield_all (l := l) rfl xE hyk hpk rfl (fun b => ?_))
    | (refine KJ_cond_b rfl (fun q => ?_) (fun q => ?_))
    | refine KJ_stp (by first | constructor | fail) ?_
    | (refine is_oper ?_; first | (refine KJ_ek rfl ?_) | (refine KJ_ek0 ?_))
    | (refine is_ek ?_; first | (refine xmv ?_) | (refine xas ?_) | (refine ek_load ?_; first | (refine EK_ev (Ev_loadRow (g := g1) (i := L.length) (c := c) rfl xS hg1) ?_) | (refine EK_ev (Ev_load rfl xS (by rfl)) ?_) | (refine EK_ev (Ev_loadOld rfl (by assumption)) ?_) | (refine EK_ev (Ev_loadAgg rfl xS xC) ?_)) | (refine ek_un ?_; first | (refine EK_ev (Ev_notD rfl) ?_) | (refine EK_ev (Ev_not rfl) ?_) | (refine EK_ev (Ev_neg rfl) ?_)) | (refine ek_indexAddr ?_; first | (refine EK_ev (Ev_indexSlice rfl rfl (by omega)) ?_) | (refine EK_ev (Ev_indexArr rfl rfl (by omega)) ?_)) | (refine ek_len ?_; first | (refine EK_ev (Ev_len_str rfl) ?_) | (refine EK_ev (Ev_len_slice rfl) ?_) | (refine EK_ev (Ev_len_arr rfl) ?_) | (refine EK_ev (Ev_len_map rfl xS) ?_)) | (refine ek_add ?_; first | (refine EK_ev (Ev_addI_v (r := ((k + 1 : Nat) : Int)) rfl rfl (by omega) (by omega)) ?_) | (refine EK_ev (Ev_addI rfl rfl (by omega)) ?_) | (refine EK_ev (Ev_addS rfl rfl (by simp <;> omega)) ?_) | (refine EK_ev (Ev_add rfl rfl) ?_)) | (refine ek_lss ?_; first | (refine EK_ev (Ev_lssI_q rfl rfl ql) ?_) | (refine EK_ev (Ev_lssI rfl rfl) ?_) | (refine EK_ev (Ev_lssS rfl rfl) ?_)))
    | (refine is_ex ?_; first | (refine KJ_blk_exit' rfl ?_))
    | (refine is_code ?_; first | (refine KJ_cond_dec rfl (fun _ => ?_) (fun _ => ?_) <;> first | (exfalso; omega) | skip) | (refine KJ_cond_t rfl ?_) | (refine KJ_cond_f rfl ?_)))
  · have hb : b = false := by cases b <;> simp_all
    subst hb
    refine is_ex ?_
    exact KJ_done (by first | exact Or.inl rfl | exact Or.inr rfl) rfl Rvs.nil (some ⟨k, hlt⟩) (by rfl) (fun gg q => by
      show starL ((S k ++ _) ++ R) gg
      rw [List.append_assoc]
      exact q)
  · have hb : b = true := by cases b <;> simp_all
    subst hb
    refine KJ_again ⟨k + 1, hlt⟩ (by show L.length - (k + 1) < L.length - k; omega) (by refine Subs.cons rfl (Subs.cons rfl (Subs.cons rfl (Subs.cons rfl Subs.nil)))) (fun gg q => ?_)
    exact starL_perm (List.perm_append_comm_assoc _ _ _) gg q
  · cases q
/-- a range over a list that journal.Each has made; jump: how a round leaves -/
theorem KJ_rangeEach {n : Nat} {q : QQ} {gop : Operand} {En : Env} {H R : List SP} {psl : List Tmp} {asg bd : Code} {L : List (List UInt8)} {a : Option Addr} {c : Nat} (hro : q.ro = none) (hg : Env.ev En gop = some (.func (.func 103) #[] #[.pointer (some ⟨g, 0, none⟩)])) (hL : L.length ≤ 1048576) (hpl : psl.length = 2) (hpn : ∀ p ∈ psl, p < n)
    (J S : Nat → List SP) (jump : Code) (hp : Pick (J 0 ++ lstP g a c L) H R)
    (hb : ∀ l i s, L[i]? = some s → ∀ R, KJ W n (.code Tryd.prog asg (asgQ Tryd.prog l bd (roundPost Tryd.prog l (RPost W (fun b : Bool => b) (fun b => if b then recP l .ready none n En psl.toArray asg bd :: J (i + 1) else recP l .done (some jump) n En psl.toArray asg bd :: S i) R)))) (Env.ofPs psl [.int .i64 (i : Nat), strV s] En) (recP l .ready none n En psl.toArray asg bd :: J i ++ R))
    (h0 : KJ W n (.ex q .normal) En ((J L.length ++ lstP g a c L) ++ R)) (h1 : ∀ i, i < L.length → KJ W n (.code Tryd.prog jump q) En ((S i ++ lstP g a c L) ++ R)) : KJ W n (.code Tryd.prog (Code.rangeFunc gop psl.toArray asg bd) q) En H := by
  refine KJ_range (X := Option {i // i < L.length}) (lb := [.pointer (some ⟨g, 0, none⟩)]) (pe := fun x => match x with | none => none | some _ => some jump) (Hp := fun x => (match x with | none => J L.length | some i => S i.1) ++ lstP g a c L) (v := fun _ => .tuple #[]) hro hg (fun l => ?_) hp (fun x hx => ?_) (fun x cc hx => ?_)
  · refine Ct.post_eq (each1_ct (l := l) (g := g) L a c (fun i => recP l .ready none n En psl.toArray asg bd :: J i) (fun i => recP l .done (some jump) n En psl.toArray asg bd :: S i) hL (fun i s hs => ?_)) (fun x => by cases x <;> rfl)
    exact Yt.of (n := n) (by rw [hpl]; rfl) hpn (fun R => hb l i s hs R)
  · cases x with
    | none => exact h0
    | some i => cases hx
  · cases x with
    | none => cases hx
    | some i =>
      cases hx
      exact h1 i.1 i.2
set_option maxHeartbeats 400000 in
set_option maxRecDepth 100000 in
/-- Each, where Replay tells L -/
theorem each_ct (L : List (List UInt8)) (e : Value) (at_ n ver : Int) (hr : Ct Tryd.prog W 70 [.pointer (some ⟨p, 0, none⟩), .int .i64 at_, .int .i64 n, .int .i64 ver] [DiskP p D] (fun x : Option Addr × Nat => .tuple #[.slice x.1 L.length x.2, e]) (fun x => [DiskP p D, rowP (.slice x.1 L.length x.2) 9 1 L.length (L.map strV)])) :
    Ct Tryd.prog W 71 [.pointer (some ⟨p, 0, none⟩), .int .i64 at_, .int .i64 n, .int .i64 ver] [DiskP p D] (fun x : Nat × Option Addr × Nat => .func (.func 103) #[] #[.pointer (some ⟨x.1, 0, none⟩)]) (fun x => DiskP p D :: lstP x.1 x.2.1 x.2.2 L) := by
  refine Ct.enter Tryd.func71 rfl Tryd.ntmps71 (by simp) (fun R => ?_)
  repeat' (first 
    | refine KJ_stp (by first | constructor | fail) ?_
    | (refine is_oper ?_; first | (refine is_store ?_; first | (refine KJ_store rfl rfl xS xF (by rfl) xO xL xR ?_)) | (refine is_alloc ?_; first | (refine KJ_alloc rfl (fun gl => ?_)) | (refine KJ_alloc rfl (fun _ => ?_))) | (refine is_call ?_; first | (refine KJ_call xE hr xP rfl (fun x => ?_))) | (refine KJ_ek rfl ?_) | (refine KJ_ek0 ?_))
    | (refine is_ek ?_; first | (refine xmv ?_) | (refine xas ?_) | (refine xex ?_) | (refine ek_mkFunc ?_; first | (refine EK_ev (Ev_makeFunc (us := []) (vs := [.pointer (some ⟨gl, 0, none⟩)]) xE xE rfl) ?_)))
    | (refine is_ex ?_; first | (refine KJ_blk_exit' rfl ?_))
    | (refine is_code ?_; first | (refine KJ_cond_dec rfl (fun _ => ?_) (fun _ => ?_) <;> first | (exfalso; omega) | skip) | (refine KJ_cond_t rfl ?_) | (refine KJ_cond_f rfl ?_)))
  all_goals (exact xdn (gl, x.1, x.2))
end
end Go.Proofs.YteklldbfdmaafaaDoor
/-
  The document's disk (remitref06) over the same plain data as the program's: its methods as contracts.
-/
namespace Go.Proofs.YteklldbfdmaafaaDoor
open Go Go.RowKit
section
variable {W : World} {n : Nat} {k : KK} {E : Env} {H R : List SP}
theorem KJ.row_shape {v : Value} {e size m : Nat} {xs : List Value} (hsel : Sel (rowP v e size m xs) H R) (hm : 0 < m) (h : ∀ g c, v = .slice (some ⟨g, 0, none⟩) m c → KJ W n k E H) : KJ W n k E H :=
  ⟨fun a w p s => by
    rcases (s.left.row hsel).2 with ⟨_, q⟩ | ⟨g, c, _, q, _⟩
    · omega
    · exact (h g c q).go a w p s⟩
theorem KJ.row_slice {v : Value} {e size m : Nat} {xs : List Value} (hsel : Sel (rowP v e size m xs) H R) (h : ∀ ad c, v = .slice ad m c → KJ W n k E H) : KJ W n k E H :=
  ⟨fun a w p s => by
    rcases (s.left.row hsel).2 with ⟨q, q2⟩ | ⟨g, c, _, q, _⟩
    · subst q2; exact (h none 0 q).go a w p s
    · exact (h _ c q).go a w p s⟩
end
def secsV (img : List UInt8) (n : Nat) : List Value := (List.range n).map fun i => strV (cut img (i * 256) 256)
def waysV (u : List (Nat × List UInt8)) : List Value := u.flatMap fun x => [.int .i64 (x.1 : Nat), strV x.2]
theorem secsV_get (img : List UInt8) (n i : Nat) (h : i < n) : (secsV img n)[i]? = some (strV (cut img (i * 256) 256)) := by simp [secsV, h]
theorem waysV_get (u : List (Nat × List UInt8)) (k j : Nat) (b : List UInt8) (h : u[k]? = some (j, b)) (z : Nat) (v : Value) (hv : [Value.int .i64 (j : Nat), strV b][z]? = some v) : (waysV u)[k * 2 + z]? = some v := by
  have hz : z < 2 := by have := (List.getElem?_eq_some_iff.1 hv).1; simpa using this
  rw [← hv]
  exact flat_get _ 2 u (fun _ _ => rfl) k (j, b) h z hz
/-- the document's disk at p -/
def refC (sv wv : Value) (D : Dsk) : List Value := [sv, wv, .bool D.off, .bool (decide (0 ≤ D.armed)), .int .i64 (max D.armed 0), .int .i64 D.writes, .int .i64 D.flushes, .int .i64 D.life]
def RefF (p : Nat) (D : Dsk) (x : Value × Value) : List SP := [cellsP p (refC x.1 x.2 D) 97, rowP x.1 9 1 D.n (secsV D.img D.n), rowP x.2 192 2 D.und.length (waysV D.und)]
def RefP (p : Nat) (D : Dsk) : SP := packP 21 p (RefF p D)

end Go.Proofs.YteklldbfdmaafaaDoor
/-
  The document's disk (remitref06): its methods over plain data.
-/
namespace Go.Proofs.YteklldbfdmaafaaDoor
open Go Go.RowKit
theorem RefF_eq (p : Nat) (D : Dsk) (sv wv : Value) : RefF p D (sv, wv) = [cellsP p [sv, wv, .bool D.off, .bool (decide (0 ≤ D.armed)), .int .i64 (max D.armed 0), .int .i64 D.writes, .int .i64 D.flushes, .int .i64 D.life] 97, rowP (sv) 9 1 D.n (secsV D.img D.n), rowP (wv) 192 2 D.und.length (waysV D.und)] := rfl
theorem Ct_ref {P : Program} {W : World} {f : FuncId} {args : List Value} {X : Type} {r : X → Value} {H' : X → List SP} {p : Nat} {D : Dsk} (h : ∀ sv wv, Ct P W f args (RefF p D (sv, wv)) r H') : Ct P W f args [RefP p D] r H' :=
  Ct_unpack (Hs := []) (fun ⟨sv, wv⟩ => by rw [List.append_nil]; exact h sv wv)
theorem KJ_doneR {P : Program} {W : World} {n : Nat} {E : Env} {H R : List SP} {r : Unit → Value} {fn : Func} {rs : List ResultVar} {vs : List Value} {ex : Exit} {p : Nat} {D : Dsk} (hex : ex = .ret ∨ ex = .normal) (hr : fn.results = rs.toArray) (hv : Rvs P E H rs vs) (hc : tupleV vs = r ()) (sv wv : Value) (h : ∀ g, starL H g → starL (RefF p D (sv, wv) ++ R) g) : KJ W n (.ex (.top (bodyPostM Fence.wide 0 P fn (Post W r (fun _ => [RefP p D]) R))) ex) E H :=
  KJ_done hex hr hv () hc (fun g q => pack_star (F := RefF p D) (sv, wv) g (h g q))
end Go.Proofs.YteklldbfdmaafaaDoor
/-
  The document's disk (remitref06): Read, Flush, Crash, Image over plain data.
-/
namespace Go.Proofs.YteklldbfdmaafaaDoor
open Go Go.RowKit
theorem lastW_take (u : List (Nat × List UInt8)) (k j : Nat) (b : List UInt8) (i : Nat) (h : u[k]? = some (j, b)) : lastW (u.take (k + 1)) i = if j = i then some b else lastW (u.take k) i := by
  have h1 := (List.getElem?_eq_some_iff.1 h).1
  have h2 : u[k] = (j, b) := (List.getElem?_eq_some_iff.1 h).2
  rw [List.take_succ_eq_append_getElem h1, h2, lastW_snoc]
theorem starL_nilrow {e size : Nat} {H R : List SP} : ∀ g, starL (H ++ R) g → starL (H ++ [rowP (.slice none 0 0) e size 0 []] ++ R) g := by
  intro g q
  have q2 : starL (rowP (.slice none 0 0) e size 0 [] :: (H ++ R)) g := ⟨fun _ => none, g, (fun _ _ q => by cases q), (fun _ _ q => by cases q), .rfl, ⟨by simp, .inl ⟨rfl, rfl⟩⟩, q⟩
  refine starL_perm ?_ g q2
  have : (H ++ [rowP (.slice none 0 0) e size 0 []] ++ R) = H ++ rowP (.slice none 0 0) e size 0 [] :: R := by simp
  rw [this]
  exact List.perm_middle.symm
section
variable {W : World} {p : Nat} {D : Dsk}
set_option maxHeartbeats 1000000 in
theorem rread_ct (hok : D.ok) (i : Int) (hul : D.und.length < 1073741824) : Ct Tryd.prog W 96 [.pointer (some ⟨p, 0, none⟩), .int .i64 i] [RefP p D] (fun _ : Unit => .tuple #[strV (D.readS i), .int .i64 (D.readE i)]) (fun _ => [RefP p D]) := by
  refine Ct_ref (fun sv wv => ?_)
  have hn1 := hok.n1
  have hn2 := hok.n2
  by_cases hoff : D.off = true
  · have e1 : D.readE i = 12 := by unfold Dsk.readE; rw [if_pos hoff]
    have e2 : D.readS i = [] := by unfold Dsk.readS; rw [if_pos hoff]
    rw [e1, e2]
    show Ct _ _ _ _ [cellsP p [sv, wv, .bool D.off, .bool (decide (0 ≤ D.armed)), .int .i64 (max D.armed 0), .int .i64 D.writes, .int .i64 D.flushes, .int .i64 D.life] 97, rowP (sv) 9 1 D.n (secsV D.img D.n), rowP (wv) 192 2 D.und.length (waysV D.und)] _ _
    rw [hoff]
    refine Ct.enter Tryd.func96 rfl Tryd.ntmps96 (by simp) (fun R => ?_)
    repeat' (first 
    | refine KJ_stp (by first | constructor | fail) ?_
    | (refine is_list ?_; first | (refine KJ_guard_dec_t rfl rfl rfl (fun _ => ?_) (fun _ => ?_) <;> first | (exfalso; omega) | skip) | (refine KJ_guard_dec_f rfl rfl rfl (fun _ => ?_) (fun _ => ?_) <;> first | (exfalso; omega) | skip) | (refine KJ_guard_yes rfl rfl ?_) | (refine KJ_guard_no rfl rfl rfl rfl ?_))
    | (refine is_oper ?_; first | (refine is_store ?_; first | (refine KJ_store rfl rfl xS xF (by rfl) xO xL xR ?_)) | (refine is_alloc ?_; first | (refine KJ_alloc rfl (fun _ => ?_))) | (refine KJ_ek rfl ?_) | (refine KJ_ek0 ?_))
    | (refine is_ek ?_; first | (refine xmv ?_) | (refine xas ?_) | (refine xpt ?_) | (refine xpf ?_) | (refine xnc ?_) | (refine xfa ?_) | (refine ek_load ?_; first | (refine EK_ev (Ev_load rfl xS (by rfl)) ?_) | (refine EK_ev (Ev_loadOld rfl (by assumption)) ?_) | (refine EK_ev (Ev_loadAgg rfl xS xC) ?_)) | (refine ek_indexAddr ?_; first | (refine EK_ev (Ev_indexSlice rfl rfl (by omega)) ?_) | (refine EK_ev (Ev_indexArr rfl rfl (by omega)) ?_)) | (refine ek_len ?_; first | (refine EK_ev (Ev_len_str rfl) ?_) | (refine EK_ev (Ev_len_slice rfl) ?_) | (refine EK_ev (Ev_len_arr rfl) ?_) | (refine EK_ev (Ev_len_map rfl xS) ?_)) | (refine ek_add ?_; first | (refine EK_ev (Ev_addI rfl rfl (by omega)) ?_) | (refine EK_ev (Ev_addS rfl rfl (by simp <;> omega)) ?_) | (refine EK_ev (Ev_add rfl rfl) ?_)) | (refine ek_eql ?_; first | (refine EK_ev (Ev_eqlI rfl rfl) ?_) | (refine EK_ev (Ev_eqlS rfl rfl) ?_) | (refine EK_ev (Ev_eqlNil rfl rfl) ?_) | (refine EK_ev (Ev_eqlB rfl rfl) ?_) | (refine EK_ev (Ev_eqlO rfl rfl rfl (fun _ => rfl)) ?_)) | (refine ek_lss ?_; first | (refine EK_ev (Ev_lssI rfl rfl) ?_) | (refine EK_ev (Ev_lssS rfl rfl) ?_)) | (refine ek_geq ?_; first | (refine EK_ev (Ev_geqI rfl rfl) ?_) | (refine EK_ev (Ev_geqS rfl rfl) ?_)))
    | (refine is_ex ?_; first | (refine KJ_blk_exit' rfl ?_))
    | (refine is_code ?_; first | (refine KJ_cond_dec rfl (fun _ => ?_) (fun _ => ?_) <;> first | (exfalso; omega) | skip) | (refine KJ_cond_t rfl ?_) | (refine KJ_cond_f rfl ?_)))
    all_goals refine KJ_doneR (by first | exact Or.inl rfl | exact Or.inr rfl) rfl (by (repeat' (first | exact Rvs.nil | (apply Rvs.tmp; exact rfl))); first | done | fail) (by rfl) (sv) (wv) (fun g q => ?_)
    all_goals (show starL ([cellsP p [sv, wv, .bool D.off, .bool (decide (0 ≤ D.armed)), .int .i64 (max D.armed 0), .int .i64 D.writes, .int .i64 D.flushes, .int .i64 D.life] 97, rowP (sv) 9 1 D.n (secsV D.img D.n), rowP (wv) 192 2 D.und.length (waysV D.und)] ++ R) g; rw [hoff]; exact (xN) g q)
  have hoff : D.off = false := by simpa using hoff
  by_cases hh : D.has i = true
  rotate_left
  · have hh : D.has i = false := by simpa using hh
    have e1 : D.readE i = 6 := by unfold Dsk.readE; rw [if_neg (by rw [hoff]; simp), if_neg (by rw [hh]; simp)]
    have e2 : D.readS i = [] := by unfold Dsk.readS; rw [if_neg (by rw [hoff]; simp), if_neg (by rw [hh]; simp)]
    rw [e1, e2]
    have hc' : ¬ (0 ≤ i ∧ i < D.n) := by unfold Dsk.has at hh; exact of_decide_eq_false hh
    show Ct _ _ _ _ [cellsP p [sv, wv, .bool D.off, .bool (decide (0 ≤ D.armed)), .int .i64 (max D.armed 0), .int .i64 D.writes, .int .i64 D.flushes, .int .i64 D.life] 97, rowP (sv) 9 1 D.n (secsV D.img D.n), rowP (wv) 192 2 D.und.length (waysV D.und)] _ _
    rw [hoff]
    by_cases hi : i < 0
    · have q1 : decide (i < 0) = true := decide_eq_true hi
      refine Ct.enter Tryd.func96 rfl Tryd.ntmps96 (by simp) (fun R => ?_)
      repeat' (first 
    | refine KJ_stp (by first | constructor | fail) ?_
    | (refine is_list ?_; first | (refine KJ_guard_dec_t rfl rfl rfl (fun _ => ?_) (fun _ => ?_) <;> first | (exfalso; omega) | skip) | (refine KJ_guard_dec_f rfl rfl rfl (fun _ => ?_) (fun _ => ?_) <;> first | (exfalso; omega) | skip) | (refine KJ_guard_yes rfl rfl ?_) | (refine KJ_guard_no rfl rfl rfl rfl ?_))
    | (refine is_oper ?_; first | (refine is_store ?_; first | (refine KJ_store rfl rfl xS xF (by rfl) xO xL xR ?_)) | (refine is_alloc ?_; first | (refine KJ_alloc rfl (fun _ => ?_))) | (refine KJ_ek rfl ?_) | (refine KJ_ek0 ?_))
    | (refine is_ek ?_; first | (refine xmv ?_) | (refine xas ?_) | (refine xpt ?_) | (refine xpf ?_) | (refine xnc ?_) | (refine xfa ?_) | (refine ek_load ?_; first | (refine EK_ev (Ev_load rfl xS (by rfl)) ?_) | (refine EK_ev (Ev_loadOld rfl (by assumption)) ?_) | (refine EK_ev (Ev_loadAgg rfl xS xC) ?_)) | (refine ek_indexAddr ?_; first | (refine EK_ev (Ev_indexSlice rfl rfl (by omega)) ?_) | (refine EK_ev (Ev_indexArr rfl rfl (by omega)) ?_)) | (refine ek_len ?_; first | (refine EK_ev (Ev_len_str rfl) ?_) | (refine EK_ev (Ev_len_slice rfl) ?_) | (refine EK_ev (Ev_len_arr rfl) ?_) | (refine EK_ev (Ev_len_map rfl xS) ?_)) | (refine ek_add ?_; first | (refine EK_ev (Ev_addI rfl rfl (by omega)) ?_) | (refine EK_ev (Ev_addS rfl rfl (by simp <;> omega)) ?_) | (refine EK_ev (Ev_add rfl rfl) ?_)) | (refine ek_eql ?_; first | (refine EK_ev (Ev_eqlI rfl rfl) ?_) | (refine EK_ev (Ev_eqlS rfl rfl) ?_) | (refine EK_ev (Ev_eqlNil rfl rfl) ?_) | (refine EK_ev (Ev_eqlB rfl rfl) ?_) | (refine EK_ev (Ev_eqlO rfl rfl rfl (fun _ => rfl)) ?_)) | (refine ek_lss ?_; first | (refine EK_ev (Ev_lssI_q rfl rfl q1) ?_) | (refine EK_ev (Ev_lssI rfl rfl) ?_) | (refine EK_ev (Ev_lssS rfl rfl) ?_)) | (refine ek_geq ?_; first | (refine EK_ev (Ev_geqI rfl rfl) ?_) | (refine EK_ev (Ev_geqS rfl rfl) ?_)))
    | (refine is_ex ?_; first | (refine KJ_blk_exit' rfl ?_))
    | (refine is_code ?_; first | (refine KJ_cond_dec rfl (fun _ => ?_) (fun _ => ?_) <;> first | (exfalso; omega) | skip) | (refine KJ_cond_t rfl ?_) | (refine KJ_cond_f rfl ?_)))
      all_goals refine KJ_doneR (by first | exact Or.inl rfl | exact Or.inr rfl) rfl (by (repeat' (first | exact Rvs.nil | (apply Rvs.tmp; exact rfl))); first | done | fail) (by rfl) (sv) (wv) (fun g q => ?_)
      all_goals (show starL ([cellsP p [sv, wv, .bool D.off, .bool (decide (0 ≤ D.armed)), .int .i64 (max D.armed 0), .int .i64 D.writes, .int .i64 D.flushes, .int .i64 D.life] 97, rowP (sv) 9 1 D.n (secsV D.img D.n), rowP (wv) 192 2 D.und.length (waysV D.und)] ++ R) g; rw [hoff]; exact (xN) g q)
    · have q1 : decide (i < 0) = false := decide_eq_false hi
      have q2 : decide ((D.n : Int) ≤ i) = true := decide_eq_true (by omega)
      refine Ct.enter Tryd.func96 rfl Tryd.ntmps96 (by simp) (fun R => ?_)
      refine KJ.row_shape (v := sv) xS (by omega) (fun gs c e => ?_)
      subst e
      repeat' (first 
    | refine KJ_stp (by first | constructor | fail) ?_
    | (refine is_list ?_; first | (refine KJ_guard_dec_t rfl rfl rfl (fun _ => ?_) (fun _ => ?_) <;> first | (exfalso; omega) | skip) | (refine KJ_guard_dec_f rfl rfl rfl (fun _ => ?_) (fun _ => ?_) <;> first | (exfalso; omega) | skip) | (refine KJ_guard_yes rfl rfl ?_) | (refine KJ_guard_no rfl rfl rfl rfl ?_))
    | (refine is_oper ?_; first | (refine is_store ?_; first | (refine KJ_store rfl rfl xS xF (by rfl) xO xL xR ?_)) | (refine is_alloc ?_; first | (refine KJ_alloc rfl (fun _ => ?_))) | (refine KJ_ek rfl ?_) | (refine KJ_ek0 ?_))
    | (refine is_ek ?_; first | (refine xmv ?_) | (refine xas ?_) | (refine xpt ?_) | (refine xpf ?_) | (refine xnc ?_) | (refine xfa ?_) | (refine ek_load ?_; first | (refine EK_ev (Ev_load rfl xS (by rfl)) ?_) | (refine EK_ev (Ev_loadOld rfl (by assumption)) ?_) | (refine EK_ev (Ev_loadAgg rfl xS xC) ?_)) | (refine ek_indexAddr ?_; first | (refine EK_ev (Ev_indexSlice rfl rfl (by omega)) ?_) | (refine EK_ev (Ev_indexArr rfl rfl (by omega)) ?_)) | (refine ek_len ?_; first | (refine EK_ev (Ev_len_str rfl) ?_) | (refine EK_ev (Ev_len_slice rfl) ?_) | (refine EK_ev (Ev_len_arr rfl) ?_) | (refine EK_ev (Ev_len_map rfl xS) ?_)) | (refine ek_add ?_; first | (refine EK_ev (Ev_addI rfl rfl (by omega)) ?_) | (refine EK_ev (Ev_addS rfl rfl (by simp <;> omega)) ?_) | (refine EK_ev (Ev_add rfl rfl) ?_)) | (refine ek_eql ?_; first | (refine EK_ev (Ev_eqlI rfl rfl) ?_) | (refine EK_ev (Ev_eqlS rfl rfl) ?_) | (refine EK_ev (Ev_eqlNil rfl rfl) ?_) | (refine EK_ev (Ev_eqlB rfl rfl) ?_) | (refine EK_ev (Ev_eqlO rfl rfl rfl (fun _ => rfl)) ?_)) | (refine ek_lss ?_; first | (refine EK_ev (Ev_lssI_q rfl rfl q1) ?_) | (refine EK_ev (Ev_lssI rfl rfl) ?_) | (refine EK_ev (Ev_lssS rfl rfl) ?_)) | (refine ek_geq ?_; first | (refine EK_ev (Ev_geqI_q rfl rfl q2) ?_) | (refine EK_ev (Ev_geqI rfl rfl) ?_) | (refine EK_ev (Ev_geqS rfl rfl) ?_)))
    | (refine is_ex ?_; first | (refine KJ_blk_exit' rfl ?_))
    | (refine is_code ?_; first | (refine KJ_cond_dec rfl (fun _ => ?_) (fun _ => ?_) <;> first | (exfalso; omega) | skip) | (refine KJ_cond_t rfl ?_) | (refine KJ_cond_f rfl ?_)))
      all_goals refine KJ_doneR (by first | exact Or.inl rfl | exact Or.inr rfl) rfl (by (repeat' (first | exact Rvs.nil | (apply Rvs.tmp; exact rfl))); first | done | fail) (by rfl) (.slice (some ⟨gs, 0, none⟩) D.n c) (wv) (fun g q => ?_)
      all_goals (show starL ([cellsP p [.slice (some ⟨gs, 0, none⟩) D.n c, wv, .bool D.off, .bool (decide (0 ≤ D.armed)), .int .i64 (max D.armed 0), .int .i64 D.writes, .int .i64 D.flushes, .int .i64 D.life] 97, rowP (.slice (some ⟨gs, 0, none⟩) D.n c) 9 1 D.n (secsV D.img D.n), rowP (wv) 192 2 D.und.length (waysV D.und)] ++ R) g; rw [hoff]; exact (xN) g q)
  have hc' : 0 ≤ i ∧ i < D.n := by unfold Dsk.has at hh; exact of_decide_eq_true hh
  have q1 : decide (i < 0) = false := decide_eq_false (by omega)
  have q2 : decide ((D.n : Int) ≤ i) = false := decide_eq_false (by omega)
  obtain ⟨j, rfl⟩ : ∃ j : Nat, i = (j : Int) := ⟨i.toNat, by omega⟩
  have hj : j < D.n := by omega
  have e1 : D.readE (j : Int) = 0 := by unfold Dsk.readE; rw [if_neg (by rw [hoff]; simp), if_pos hh]
  have e2 : D.readS (j : Int) = (lastW (D.und.take D.und.length) j).getD (D.sec j) := by unfold Dsk.readS; rw [if_neg (by rw [hoff]; simp), if_pos hh, Int.toNat_natCast, List.take_length]; rfl
  obtain ⟨A, hA⟩ : ∃ A : Nat → List UInt8, A = fun k => (lastW (D.und.take k) j).getD (D.sec j) := ⟨_, rfl⟩
  have hA0 : D.sec j = A 0 := by rw [hA]; simp [lastW_nil]
  have hAl : (lastW (D.und.take D.und.length) j).getD (D.sec j) = A D.und.length := by rw [hA]
  have hAn : ∀ k i b, D.und[k]? = some (i, b) → A (k + 1) = if i = j then b else A k := fun k i b h => by
    rw [hA]
    show (lastW (D.und.take (k + 1)) j).getD _ = _
    rw [lastW_take _ _ _ _ _ h]
    split <;> rfl
  have hS : (secsV D.img D.n)[0 + (j : Int).toNat * 1]? = some (strV (A 0)) := by
    rw [Int.toNat_natCast, Nat.mul_one, Nat.zero_add, secsV_get _ _ _ hj, ← hA0]; rfl
  rw [e1, e2, hAl]
  clear hA hAl e1 e2 hA0
  show Ct _ _ _ _ [cellsP p [sv, wv, .bool D.off, .bool (decide (0 ≤ D.armed)), .int .i64 (max D.armed 0), .int .i64 D.writes, .int .i64 D.flushes, .int .i64 D.life] 97, rowP (sv) 9 1 D.n (secsV D.img D.n), rowP (wv) 192 2 D.und.length (waysV D.und)] _ _
  rw [hoff]
  refine Ct.enter Tryd.func96 rfl Tryd.ntmps96 (by simp) (fun R => ?_)
  refine KJ.row_shape (v := sv) xS (by omega) (fun gs c e => ?_)
  subst e
  refine KJ.row_slice (v := wv) xS (fun wa wc e => ?_)
  subst e
  repeat' (first 
    | refine KJ_stp (by first | constructor | fail) ?_
    | (refine is_list ?_; first | (refine KJ_guard_dec_t rfl rfl rfl (fun _ => ?_) (fun _ => ?_) <;> first | (exfalso; omega) | skip) | (refine KJ_guard_dec_f rfl rfl rfl (fun _ => ?_) (fun _ => ?_) <;> first | (exfalso; omega) | skip) | (refine KJ_guard_yes rfl rfl ?_) | (refine KJ_guard_no rfl rfl rfl rfl ?_))
    | (refine is_oper ?_; first | (refine is_store ?_; first | (refine KJ_store rfl rfl xS xF (by rfl) xO xL xR ?_)) | (refine is_alloc ?_; first | (refine KJ_alloc rfl (fun _ => ?_))) | (refine KJ_ek rfl ?_) | (refine KJ_ek0 ?_))
    | (refine is_ek ?_; first | (refine xmv ?_) | (refine xas ?_) | (refine xpt ?_) | (refine xpf ?_) | (refine xnc ?_) | (refine xfa ?_) | (refine ek_load ?_; first | (refine EK_ev (Ev_loadRow rfl xS hS) ?_) | (refine EK_ev (Ev_load rfl xS (by rfl)) ?_) | (refine EK_ev (Ev_loadOld rfl (by assumption)) ?_) | (refine EK_ev (Ev_loadAgg rfl xS xC) ?_)) | (refine ek_indexAddr ?_; first | (refine EK_ev (Ev_indexSlice rfl rfl (by omega)) ?_) | (refine EK_ev (Ev_indexArr rfl rfl (by omega)) ?_)) | (refine ek_len ?_; first | (refine EK_ev (Ev_len_str rfl) ?_) | (refine EK_ev (Ev_len_slice rfl) ?_) | (refine EK_ev (Ev_len_arr rfl) ?_) | (refine EK_ev (Ev_len_map rfl xS) ?_)) | (refine ek_add ?_; first | (refine EK_ev (Ev_addI rfl rfl (by omega)) ?_) | (refine EK_ev (Ev_addS rfl rfl (by simp <;> omega)) ?_) | (refine EK_ev (Ev_add rfl rfl) ?_)) | (refine ek_eql ?_; first | (refine EK_ev (Ev_eqlI rfl rfl) ?_) | (refine EK_ev (Ev_eqlS rfl rfl) ?_) | (refine EK_ev (Ev_eqlNil rfl rfl) ?_) | (refine EK_ev (Ev_eqlB rfl rfl) ?_) | (refine EK_ev (Ev_eqlO rfl rfl rfl (fun _ => rfl)) ?_)) | (refine ek_lss ?_; first | (refine EK_ev (Ev_lssI_q rfl rfl q1) ?_) | (refine EK_ev (Ev_lssI rfl rfl) ?_) | (refine EK_ev (Ev_lssS rfl rfl) ?_)) | (refine ek_geq ?_; first | (refine EK_ev (Ev_geqI_q rfl rfl q2) ?_) | (refine EK_ev (Ev_geqI rfl rfl) ?_) | (refine EK_ev (Ev_geqS rfl rfl) ?_)))
    | (refine is_ex ?_; first | (refine KJ_blk_exit' rfl ?_))
    | (refine is_code ?_; first | (refine KJ_cond_dec rfl (fun _ => ?_) (fun _ => ?_) <;> first | (exfalso; omega) | skip) | (refine KJ_cond_t rfl ?_) | (refine KJ_cond_f rfl ?_)))
  refine KJ_loop (fun i : {k : Nat // k ≤ D.und.length} => [(1, .int .i64 (j : Nat)), (6, strV (A i.1)), (34, .slice wa D.und.length wc), (35, .int .i64 D.und.length), (36, .int .i64 (i.1 : Nat))]) (fun _ => [cellsP p [.slice (some ⟨gs, 0, none⟩) D.n c, .slice wa D.und.length wc, .bool false, .bool (decide (0 ≤ D.armed)), .int .i64 (max D.armed 0), .int .i64 D.writes, .int .i64 D.flushes, .int .i64 D.life] 97, rowP (.slice (some ⟨gs, 0, none⟩) D.n c) 9 1 D.n (secsV D.img D.n), rowP (.slice wa D.und.length wc) 192 2 D.und.length (waysV D.und)] ++ R) (fun i => D.und.length - i.1) ⟨0, by omega⟩ xB (xN) (fun ⟨k, hk⟩ => ?_)
  dsimp only
  by_cases hlt : k < D.und.length
  · obtain ⟨x, b, hx⟩ : ∃ x b, D.und[k]? = some (x, b) := ⟨(D.und[k]).1, (D.und[k]).2, by rw [List.getElem?_eq_getElem hlt]⟩
    have hnx := hAn k x b hx
    have hW : ∀ z v, [Value.int .i64 (x : Nat), strV b][z]? = some v → (waysV D.und)[0 + (k : Int).toNat * 2 + z]? = some v := fun z v hv => by rw [Int.toNat_natCast, Nat.zero_add]; exact waysV_get _ _ _ _ hx z v hv
    refine KJ.row_shape (v := .slice wa D.und.length wc) xS (by omega) (fun gw c' e => ?_)
    obtain ⟨rfl, rfl⟩ : wa = some ⟨gw, 0, none⟩ ∧ wc = c' := by cases e; exact ⟨rfl, rfl⟩
    by_cases hxj : x = j
    · have hq : ((x : Nat) : Int) = ((j : Nat) : Int) := by omega
      rw [if_pos hxj] at hnx
      repeat' (first 
    | refine KJ_stp (by first | constructor | fail) ?_
    | (refine is_list ?_; first | (refine KJ_guard_dec_t rfl rfl rfl (fun _ => ?_) (fun _ => ?_) <;> first | (exfalso; omega) | skip) | (refine KJ_guard_dec_f rfl rfl rfl (fun _ => ?_) (fun _ => ?_) <;> first | (exfalso; omega) | skip) | (refine KJ_guard_yes rfl rfl ?_) | (refine KJ_guard_no rfl rfl rfl rfl ?_))
    | (refine is_oper ?_; first | (refine is_store ?_; first | (refine KJ_store rfl rfl xS xF (by rfl) xO xL xR ?_)) | (refine is_alloc ?_; first | (refine KJ_alloc rfl (fun _ => ?_))) | (refine KJ_ek rfl ?_) | (refine KJ_ek0 ?_))
    | (refine is_ek ?_; first | (refine xmv ?_) | (refine xas ?_) | (refine xpt ?_) | (refine xpf ?_) | (refine xnc ?_) | (refine xfa ?_) | (refine ek_load ?_; first | (refine EK_ev (Ev_load rfl xS (by rfl)) ?_) | (refine EK_ev (Ev_loadRowAgg rfl xS hW (by rfl)) ?_) | (refine EK_ev (Ev_loadOld rfl (by assumption)) ?_) | (refine EK_ev (Ev_loadAgg rfl xS xC) ?_)) | (refine ek_indexAddr ?_; first | (refine EK_ev (Ev_indexSlice rfl rfl (by omega)) ?_) | (refine EK_ev (Ev_indexArr rfl rfl (by omega)) ?_)) | (refine ek_len ?_; first | (refine EK_ev (Ev_len_str rfl) ?_) | (refine EK_ev (Ev_len_slice rfl) ?_) | (refine EK_ev (Ev_len_arr rfl) ?_) | (refine EK_ev (Ev_len_map rfl xS) ?_)) | (refine ek_add ?_; first | (refine EK_ev (Ev_addI_v (r := ((k + 1 : Nat) : Int)) rfl rfl (by omega) (by omega)) ?_) | (refine EK_ev (Ev_addI rfl rfl (by omega)) ?_) | (refine EK_ev (Ev_addS rfl rfl (by simp <;> omega)) ?_) | (refine EK_ev (Ev_add rfl rfl) ?_)) | (refine ek_eql ?_; first | (refine EK_ev (Ev_eqlI_t rfl rfl hq) ?_) | (refine EK_ev (Ev_eqlI rfl rfl) ?_) | (refine EK_ev (Ev_eqlS rfl rfl) ?_) | (refine EK_ev (Ev_eqlNil rfl rfl) ?_) | (refine EK_ev (Ev_eqlB rfl rfl) ?_) | (refine EK_ev (Ev_eqlO rfl rfl rfl (fun _ => rfl)) ?_)) | (refine ek_lss ?_; first | (refine EK_ev (Ev_lssI rfl rfl) ?_) | (refine EK_ev (Ev_lssS rfl rfl) ?_)) | (refine ek_geq ?_; first | (refine EK_ev (Ev_geqI rfl rfl) ?_) | (refine EK_ev (Ev_geqS rfl rfl) ?_)))
    | (refine is_ex ?_; first | (refine KJ_blk_exit' rfl ?_))
    | (refine is_code ?_; first | (refine KJ_cond_dec rfl (fun _ => ?_) (fun _ => ?_) <;> first | (exfalso; omega) | skip) | (refine KJ_cond_t rfl ?_) | (refine KJ_cond_f rfl ?_)))
      refine KJ_again ⟨k + 1, by omega⟩ (by show D.und.length - (k + 1) < D.und.length - k; omega) ?_ (xN)
      rw [hnx]
      exact xB
    · have hq : ((x : Nat) : Int) ≠ ((j : Nat) : Int) := by omega
      rw [if_neg hxj] at hnx
      repeat' (first 
    | refine KJ_stp (by first | constructor | fail) ?_
    | (refine is_list ?_; first | (refine KJ_guard_dec_t rfl rfl rfl (fun _ => ?_) (fun _ => ?_) <;> first | (exfalso; omega) | skip) | (refine KJ_guard_dec_f rfl rfl rfl (fun _ => ?_) (fun _ => ?_) <;> first | (exfalso; omega) | skip) | (refine KJ_guard_yes rfl rfl ?_) | (refine KJ_guard_no rfl rfl rfl rfl ?_))
    | (refine is_oper ?_; first | (refine is_store ?_; first | (refine KJ_store rfl rfl xS xF (by rfl) xO xL xR ?_)) | (refine is_alloc ?_; first | (refine KJ_alloc rfl (fun _ => ?_))) | (refine KJ_ek rfl ?_) | (refine KJ_ek0 ?_))
    | (refine is_ek ?_; first | (refine xmv ?_) | (refine xas ?_) | (refine xpt ?_) | (refine xpf ?_) | (refine xnc ?_) | (refine xfa ?_) | (refine ek_load ?_; first | (refine EK_ev (Ev_load rfl xS (by rfl)) ?_) | (refine EK_ev (Ev_loadRowAgg rfl xS hW (by rfl)) ?_) | (refine EK_ev (Ev_loadOld rfl (by assumption)) ?_) | (refine EK_ev (Ev_loadAgg rfl xS xC) ?_)) | (refine ek_indexAddr ?_; first | (refine EK_ev (Ev_indexSlice rfl rfl (by omega)) ?_) | (refine EK_ev (Ev_indexArr rfl rfl (by omega)) ?_)) | (refine ek_len ?_; first | (refine EK_ev (Ev_len_str rfl) ?_) | (refine EK_ev (Ev_len_slice rfl) ?_) | (refine EK_ev (Ev_len_arr rfl) ?_) | (refine EK_ev (Ev_len_map rfl xS) ?_)) | (refine ek_add ?_; first | (refine EK_ev (Ev_addI_v (r := ((k + 1 : Nat) : Int)) rfl rfl (by omega) (by omega)) ?_) | (refine EK_ev (Ev_addI rfl rfl (by omega)) ?_) | (refine EK_ev (Ev_addS rfl rfl (by simp <;> omega)) ?_) | (refine EK_ev (Ev_add rfl rfl) ?_)) | (refine ek_eql ?_; first | (refine EK_ev (Ev_eqlI_f rfl rfl hq) ?_) | (refine EK_ev (Ev_eqlI rfl rfl) ?_) | (refine EK_ev (Ev_eqlS rfl rfl) ?_) | (refine EK_ev (Ev_eqlNil rfl rfl) ?_) | (refine EK_ev (Ev_eqlB rfl rfl) ?_) | (refine EK_ev (Ev_eqlO rfl rfl rfl (fun _ => rfl)) ?_)) | (refine ek_lss ?_; first | (refine EK_ev (Ev_lssI rfl rfl) ?_) | (refine EK_ev (Ev_lssS rfl rfl) ?_)) | (refine ek_geq ?_; first | (refine EK_ev (Ev_geqI rfl rfl) ?_) | (refine EK_ev (Ev_geqS rfl rfl) ?_)))
    | (refine is_ex ?_; first | (refine KJ_blk_exit' rfl ?_))
    | (refine is_code ?_; first | (refine KJ_cond_dec rfl (fun _ => ?_) (fun _ => ?_) <;> first | (exfalso; omega) | skip) | (refine KJ_cond_t rfl ?_) | (refine KJ_cond_f rfl ?_)))
      refine KJ_again ⟨k + 1, by omega⟩ (by show D.und.length - (k + 1) < D.und.length - k; omega) ?_ (xN)
      rw [hnx]
      exact xB
  · have hkl : k = D.und.length := by omega
    subst hkl
    repeat' (first 
    | refine KJ_stp (by first | constructor | fail) ?_
    | (refine is_list ?_; first | (refine KJ_guard_dec_t rfl rfl rfl (fun _ => ?_) (fun _ => ?_) <;> first | (exfalso; omega) | skip) | (refine KJ_guard_dec_f rfl rfl rfl (fun _ => ?_) (fun _ => ?_) <;> first | (exfalso; omega) | skip) | (refine KJ_guard_yes rfl rfl ?_) | (refine KJ_guard_no rfl rfl rfl rfl ?_))
    | (refine is_oper ?_; first | (refine is_store ?_; first | (refine KJ_store rfl rfl xS xF (by rfl) xO xL xR ?_)) | (refine is_alloc ?_; first | (refine KJ_alloc rfl (fun _ => ?_))) | (refine KJ_ek rfl ?_) | (refine KJ_ek0 ?_))
    | (refine is_ek ?_; first | (refine xmv ?_) | (refine xas ?_) | (refine xpt ?_) | (refine xpf ?_) | (refine xnc ?_) | (refine xfa ?_) | (refine ek_load ?_; first | (refine EK_ev (Ev_load rfl xS (by rfl)) ?_) | (refine EK_ev (Ev_loadOld rfl (by assumption)) ?_) | (refine EK_ev (Ev_loadAgg rfl xS xC) ?_)) | (refine ek_indexAddr ?_; first | (refine EK_ev (Ev_indexSlice rfl rfl (by omega)) ?_) | (refine EK_ev (Ev_indexArr rfl rfl (by omega)) ?_)) | (refine ek_len ?_; first | (refine EK_ev (Ev_len_str rfl) ?_) | (refine EK_ev (Ev_len_slice rfl) ?_) | (refine EK_ev (Ev_len_arr rfl) ?_) | (refine EK_ev (Ev_len_map rfl xS) ?_)) | (refine ek_add ?_; first | (refine EK_ev (Ev_addI rfl rfl (by omega)) ?_) | (refine EK_ev (Ev_addS rfl rfl (by simp <;> omega)) ?_) | (refine EK_ev (Ev_add rfl rfl) ?_)) | (refine ek_eql ?_; first | (refine EK_ev (Ev_eqlI rfl rfl) ?_) | (refine EK_ev (Ev_eqlS rfl rfl) ?_) | (refine EK_ev (Ev_eqlNil rfl rfl) ?_) | (refine EK_ev (Ev_eqlB rfl rfl) ?_) | (refine EK_ev (Ev_eqlO rfl rfl rfl (fun _ => rfl)) ?_)) | (refine ek_lss ?_; first | (refine EK_ev (Ev_lssI rfl rfl) ?_) | (refine EK_ev (Ev_lssS rfl rfl) ?_)) | (refine ek_geq ?_; first | (refine EK_ev (Ev_geqI rfl rfl) ?_) | (refine EK_ev (Ev_geqS rfl rfl) ?_)))
    | (refine is_ex ?_; first | (refine KJ_blk_exit' rfl ?_))
    | (refine is_code ?_; first | (refine KJ_cond_dec rfl (fun _ => ?_) (fun _ => ?_) <;> first | (exfalso; omega) | skip) | (refine KJ_cond_t rfl ?_) | (refine KJ_cond_f rfl ?_)))
    all_goals refine KJ_doneR (by first | exact Or.inl rfl | exact Or.inr rfl) rfl (by (repeat' (first | exact Rvs.nil | (apply Rvs.tmp; exact rfl))); first | done | fail) (by rfl) (.slice (some ⟨gs, 0, none⟩) D.n c) (.slice wa D.und.length wc) (fun g q => ?_)
    all_goals (show starL ([cellsP p [.slice (some ⟨gs, 0, none⟩) D.n c, .slice wa D.und.length wc, .bool D.off, .bool (decide (0 ≤ D.armed)), .int .i64 (max D.armed 0), .int .i64 D.writes, .int .i64 D.flushes, .int .i64 D.life] 97, rowP (.slice (some ⟨gs, 0, none⟩) D.n c) 9 1 D.n (secsV D.img D.n), rowP (.slice wa D.und.length wc) 192 2 D.und.length (waysV D.und)] ++ R) g; rw [hoff]; exact (xN) g q)
end
end Go.Proofs.YteklldbfdmaafaaDoor
/-
  The document's disk (remitref06): New and From.
-/
namespace Go.Proofs.YteklldbfdmaafaaDoor
open Go Go.RowKit
section
variable {P : Program} {W : World} {n : Nat} {E : Env} {H : List SP} {x y z : Operand} {t : TypeId}
theorem Ev_quoI_v {u : TypeId} {i j r : Int} (hx : Env.ev E x = some (.int .i64 i)) (hy : Env.ev E y = some (.int .i64 j)) (hb : 0 ≤ i ∧ i ≤ 9223372036854775807 ∧ 0 < j) (h : i / j = r) : Ev P W n E H (.binOp .quo t x y u) (.int .i64 r) := by
  subst h; exact Ev_quoI hx hy hb
theorem Ev_sliceStr_v {l r : List UInt8} {i j : Int} {ki kj : IntKind} (hx : Env.ev E x = some (strV l)) (hy : Env.ev E y = some (.int ki i)) (hz : Env.ev E z = some (.int kj j)) [hu : UIs P t .string] (hb : 0 ≤ i ∧ i ≤ j ∧ j ≤ l.length) (h : (l.take j.toNat).drop i.toNat = r) : Ev P W n E H (.slice t x (some y) (some z) none) (strV r) := by
  subst h; exact Ev_sliceStr hx hy hz hb
end
theorem secsV_succ (l : List UInt8) (i : Nat) : secsV l (i + 1) = secsV l i ++ [strV (cut l (i * 256) 256)] := by simp [secsV, List.range_succ]
section
variable {W : World}
theorem rfrom_form (l : List UInt8) (hl : l.length % 256 ≠ 0) : Ct Tryd.prog W 42 [strV l] [] (fun _ : Unit => .tuple #[.pointer none, .int .i64 7]) (fun _ => []) := by
  have q1 : ((l.length : Nat) : Int) % 256 ≠ 0 := by omega
  refine Ct.enter Tryd.func42 rfl Tryd.ntmps42 (by simp) (fun R => ?_)
  repeat' (first 
    | refine KJ_stp (by first | constructor | fail) ?_
    | (refine is_list ?_; first | (refine KJ_guard_dec_t rfl rfl rfl (fun _ => ?_) (fun _ => ?_) <;> first | (exfalso; omega) | skip) | (refine KJ_guard_dec_f rfl rfl rfl (fun _ => ?_) (fun _ => ?_) <;> first | (exfalso; omega) | skip) | (refine KJ_guard_yes rfl rfl ?_) | (refine KJ_guard_no rfl rfl rfl rfl ?_))
    | (refine is_oper ?_; first | (refine is_store ?_; first | (refine KJ_store rfl rfl xS xF (by rfl) xO xL xR ?_)) | (refine is_box ?_; first | (refine KJ_box rfl xF rfl (fun _ => ?_))) | (refine KJ_ek rfl ?_) | (refine KJ_ek0 ?_))
    | (refine is_ek ?_; first | (refine xmv ?_) | (refine xas ?_) | (refine xpt ?_) | (refine xpf ?_) | (refine xnc ?_) | (refine xfa ?_) | (refine ek_load ?_; first | (refine EK_ev (Ev_load rfl xS (by rfl)) ?_) | (refine EK_ev (Ev_loadOld rfl (by assumption)) ?_) | (refine EK_ev (Ev_loadAgg rfl xS xC) ?_)) | (refine ek_len ?_; first | (refine EK_ev (Ev_len_str rfl) ?_) | (refine EK_ev (Ev_len_slice rfl) ?_) | (refine EK_ev (Ev_len_arr rfl) ?_) | (refine EK_ev (Ev_len_map rfl xS) ?_)) | (refine ek_add ?_; first | (refine EK_ev (Ev_addI rfl rfl (by omega)) ?_) | (refine EK_ev (Ev_addS rfl rfl (by simp <;> omega)) ?_) | (refine EK_ev (Ev_add rfl rfl) ?_)) | (refine ek_mul ?_; first | (refine EK_ev (Ev_mulI rfl rfl (by omega)) ?_) | (refine EK_ev (Ev_mul rfl rfl) ?_)) | (refine ek_quo ?_; first | (refine EK_ev (Ev_quoI rfl rfl (by omega)) ?_) | (refine EK_ev (Ev_quo rfl rfl (by omega)) ?_)) | (refine ek_rem ?_; first | (refine EK_ev (Ev_remI rfl rfl (by omega)) ?_) | (refine EK_ev (Ev_rem rfl rfl (by omega)) ?_)) | (refine ek_neq ?_; first | (refine EK_ev (Ev_neqI_t rfl rfl q1) ?_) | (refine EK_ev (Ev_neqI rfl rfl) ?_) | (refine EK_ev (Ev_neqS rfl rfl) ?_) | (refine EK_ev (Ev_neqNil rfl rfl) ?_) | (refine EK_ev (Ev_neqB rfl rfl) ?_) | (refine EK_ev (Ev_neqO rfl rfl rfl (fun _ => rfl)) ?_)) | (refine ek_lss ?_; first | (refine EK_ev (Ev_lssI rfl rfl) ?_) | (refine EK_ev (Ev_lssS rfl rfl) ?_)) | (refine ek_gtr ?_; first | (refine EK_ev (Ev_gtrI rfl rfl) ?_) | (refine EK_ev (Ev_gtrS rfl rfl) ?_)))
    | (refine is_ex ?_; first | (refine KJ_blk_exit' rfl ?_))
    | (refine is_code ?_; first | (refine KJ_cond_dec rfl (fun _ => ?_) (fun _ => ?_) <;> first | (exfalso; omega) | skip) | (refine KJ_cond_t rfl ?_) | (refine KJ_cond_f rfl ?_) | (refine KJ_draws (id := 10) (.op 0 (.op 1 (.op 2 (.op 3 (.op 4 (.op 5 (.op 6 (.op 7 (.op 8 (.op 9 (.op 10 (.op 11 (.ef 12 [4, 3, 2, 1, 0] (.ef 13 [0] (.op 14 (.op 15 (.ef 16 [] .nil))))))))))))))))) (by kernel_rfl) (by kernel_rfl) ?_))
    | (refine is_fw ?_; first | (refine FW_open rfl ?_) | (refine FW_nil ?_) | (refine FW_ef rfl ?_) | (refine FW_efg rfl rfl rfl ?_) | (refine FW_alt ?_ ?_))
    | (refine is_fo ?_; first | (refine FO_dec_t rfl rfl (fun _ => ?_) (fun _ => ?_) <;> first | (exfalso; omega) | skip) | (refine FO_dec_f rfl rfl (fun _ => ?_) (fun _ => ?_) <;> first | (exfalso; omega) | skip) | (refine FO_no rfl rfl rfl rfl ?_) | (refine FO_ekg rfl rfl rfl ?_) | (refine FO_ek rfl ?_))
    | (refine is_ro ?_; first | (refine RO_no rfl rfl rfl rfl ?_) | (refine RO_ekg rfl rfl ?_) | (refine RO_ek ?_))
    | (refine is_raw ?_; first | (refine KJ_flow ?_ ?_))
    | (refine AtR_mk rfl ?_)
    | exact Rech.nil
    | (refine Rech_open rfl ?_))
  all_goals (exact xdn ())
theorem rfrom_range (l : List UInt8) (hl : l.length % 256 = 0) (hlb : l.length ≤ 9223372036854775807) (h : l.length / 256 < 1 ∨ 65536 < l.length / 256) : Ct Tryd.prog W 42 [strV l] [] (fun _ : Unit => .tuple #[.pointer none, .int .i64 6]) (fun _ => []) := by
  have q1 : ((l.length : Nat) : Int) % 256 = 0 := by omega
  by_cases h1 : l.length / 256 < 1
  · have q2 : decide (((l.length : Nat) : Int) / 256 < 1) = true := decide_eq_true (by omega)
    refine Ct.enter Tryd.func42 rfl Tryd.ntmps42 (by simp) (fun R => ?_)
    repeat' (first 
    | refine KJ_stp (by first | constructor | fail) ?_
    | (refine is_list ?_; first | (refine KJ_guard_dec_t rfl rfl rfl (fun _ => ?_) (fun _ => ?_) <;> first | (exfalso; omega) | skip) | (refine KJ_guard_dec_f rfl rfl rfl (fun _ => ?_) (fun _ => ?_) <;> first | (exfalso; omega) | skip) | (refine KJ_guard_yes rfl rfl ?_) | (refine KJ_guard_no rfl rfl rfl rfl ?_))
    | (refine is_oper ?_; first | (refine is_store ?_; first | (refine KJ_store rfl rfl xS xF (by rfl) xO xL xR ?_)) | (refine is_box ?_; first | (refine KJ_box rfl xF rfl (fun _ => ?_))) | (refine KJ_ek rfl ?_) | (refine KJ_ek0 ?_))
    | (refine is_ek ?_; first | (refine xmv ?_) | (refine xas ?_) | (refine xpt ?_) | (refine xpf ?_) | (refine xnc ?_) | (refine xfa ?_) | (refine ek_load ?_; first | (refine EK_ev (Ev_load rfl xS (by rfl)) ?_) | (refine EK_ev (Ev_loadOld rfl (by assumption)) ?_) | (refine EK_ev (Ev_loadAgg rfl xS xC) ?_)) | (refine ek_len ?_; first | (refine EK_ev (Ev_len_str rfl) ?_) | (refine EK_ev (Ev_len_slice rfl) ?_) | (refine EK_ev (Ev_len_arr rfl) ?_) | (refine EK_ev (Ev_len_map rfl xS) ?_)) | (refine ek_add ?_; first | (refine EK_ev (Ev_addI rfl rfl (by omega)) ?_) | (refine EK_ev (Ev_addS rfl rfl (by simp <;> omega)) ?_) | (refine EK_ev (Ev_add rfl rfl) ?_)) | (refine ek_mul ?_; first | (refine EK_ev (Ev_mulI rfl rfl (by omega)) ?_) | (refine EK_ev (Ev_mul rfl rfl) ?_)) | (refine ek_quo ?_; first | (refine EK_ev (Ev_quoI rfl rfl (by omega)) ?_) | (refine EK_ev (Ev_quo rfl rfl (by omega)) ?_)) | (refine ek_rem ?_; first | (refine EK_ev (Ev_remI rfl rfl (by omega)) ?_) | (refine EK_ev (Ev_rem rfl rfl (by omega)) ?_)) | (refine ek_neq ?_; first | (refine EK_ev (Ev_neqI_f rfl rfl q1) ?_) | (refine EK_ev (Ev_neqI rfl rfl) ?_) | (refine EK_ev (Ev_neqS rfl rfl) ?_) | (refine EK_ev (Ev_neqNil rfl rfl) ?_) | (refine EK_ev (Ev_neqB rfl rfl) ?_) | (refine EK_ev (Ev_neqO rfl rfl rfl (fun _ => rfl)) ?_)) | (refine ek_lss ?_; first | (refine EK_ev (Ev_lssI_q rfl rfl q2) ?_) | (refine EK_ev (Ev_lssI rfl rfl) ?_) | (refine EK_ev (Ev_lssS rfl rfl) ?_)) | (refine ek_gtr ?_; first | (refine EK_ev (Ev_gtrI rfl rfl) ?_) | (refine EK_ev (Ev_gtrS rfl rfl) ?_)))
    | (refine is_ex ?_; first | (refine KJ_blk_exit' rfl ?_))
    | (refine is_code ?_; first | (refine KJ_cond_dec rfl (fun _ => ?_) (fun _ => ?_) <;> first | (exfalso; omega) | skip) | (refine KJ_cond_t rfl ?_) | (refine KJ_cond_f rfl ?_) | (refine KJ_draws (id := 10) (.op 0 (.op 1 (.op 2 (.op 3 (.op 4 (.op 5 (.op 6 (.op 7 (.op 8 (.op 9 (.op 10 (.op 11 (.ef 12 [4, 3, 2, 1, 0] (.ef 13 [0] (.op 14 (.op 15 (.ef 16 [] .nil))))))))))))))))) (by kernel_rfl) (by kernel_rfl) ?_))
    | (refine is_fw ?_; first | (refine FW_open rfl ?_) | (refine FW_nil ?_) | (refine FW_ef rfl ?_) | (refine FW_efg rfl rfl rfl ?_) | (refine FW_alt ?_ ?_))
    | (refine is_fo ?_; first | (refine FO_dec_t rfl rfl (fun _ => ?_) (fun _ => ?_) <;> first | (exfalso; omega) | skip) | (refine FO_dec_f rfl rfl (fun _ => ?_) (fun _ => ?_) <;> first | (exfalso; omega) | skip) | (refine FO_no rfl rfl rfl rfl ?_) | (refine FO_ekg rfl rfl rfl ?_) | (refine FO_ek rfl ?_))
    | (refine is_ro ?_; first | (refine RO_no rfl rfl rfl rfl ?_) | (refine RO_ekg rfl rfl ?_) | (refine RO_ek ?_))
    | (refine is_raw ?_; first | (refine KJ_flow ?_ ?_))
    | (refine AtR_mk rfl ?_)
    | exact Rech.nil
    | (refine Rech_open rfl ?_))
    all_goals (exact xdn ())
  · have q2 : decide (((l.length : Nat) : Int) / 256 < 1) = false := decide_eq_false (by omega)
    have q3 : decide (65536 < ((l.length : Nat) : Int) / 256) = true := decide_eq_true (by omega)
    refine Ct.enter Tryd.func42 rfl Tryd.ntmps42 (by simp) (fun R => ?_)
    repeat' (first 
    | refine KJ_stp (by first | constructor | fail) ?_
    | (refine is_list ?_; first | (refine KJ_guard_dec_t rfl rfl rfl (fun _ => ?_) (fun _ => ?_) <;> first | (exfalso; omega) | skip) | (refine KJ_guard_dec_f rfl rfl rfl (fun _ => ?_) (fun _ => ?_) <;> first | (exfalso; omega) | skip) | (refine KJ_guard_yes rfl rfl ?_) | (refine KJ_guard_no rfl rfl rfl rfl ?_))
    | (refine is_oper ?_; first | (refine is_store ?_; first | (refine KJ_store rfl rfl xS xF (by rfl) xO xL xR ?_)) | (refine is_box ?_; first | (refine KJ_box rfl xF rfl (fun _ => ?_))) | (refine KJ_ek rfl ?_) | (refine KJ_ek0 ?_))
    | (refine is_ek ?_; first | (refine xmv ?_) | (refine xas ?_) | (refine xpt ?_) | (refine xpf ?_) | (refine xnc ?_) | (refine xfa ?_) | (refine ek_load ?_; first | (refine EK_ev (Ev_load rfl xS (by rfl)) ?_) | (refine EK_ev (Ev_loadOld rfl (by assumption)) ?_) | (refine EK_ev (Ev_loadAgg rfl xS xC) ?_)) | (refine ek_len ?_; first | (refine EK_ev (Ev_len_str rfl) ?_) | (refine EK_ev (Ev_len_slice rfl) ?_) | (refine EK_ev (Ev_len_arr rfl) ?_) | (refine EK_ev (Ev_len_map rfl xS) ?_)) | (refine ek_add ?_; first | (refine EK_ev (Ev_addI rfl rfl (by omega)) ?_) | (refine EK_ev (Ev_addS rfl rfl (by simp <;> omega)) ?_) | (refine EK_ev (Ev_add rfl rfl) ?_)) | (refine ek_mul ?_; first | (refine EK_ev (Ev_mulI rfl rfl (by omega)) ?_) | (refine EK_ev (Ev_mul rfl rfl) ?_)) | (refine ek_quo ?_; first | (refine EK_ev (Ev_quoI rfl rfl (by omega)) ?_) | (refine EK_ev (Ev_quo rfl rfl (by omega)) ?_)) | (refine ek_rem ?_; first | (refine EK_ev (Ev_remI rfl rfl (by omega)) ?_) | (refine EK_ev (Ev_rem rfl rfl (by omega)) ?_)) | (refine ek_neq ?_; first | (refine EK_ev (Ev_neqI_f rfl rfl q1) ?_) | (refine EK_ev (Ev_neqI rfl rfl) ?_) | (refine EK_ev (Ev_neqS rfl rfl) ?_) | (refine EK_ev (Ev_neqNil rfl rfl) ?_) | (refine EK_ev (Ev_neqB rfl rfl) ?_) | (refine EK_ev (Ev_neqO rfl rfl rfl (fun _ => rfl)) ?_)) | (refine ek_lss ?_; first | (refine EK_ev (Ev_lssI_q rfl rfl q2) ?_) | (refine EK_ev (Ev_lssI rfl rfl) ?_) | (refine EK_ev (Ev_lssS rfl rfl) ?_)) | (refine ek_gtr ?_; first | (refine EK_ev (Ev_gtrI_q rfl rfl q3) ?_) | (refine EK_ev (Ev_gtrI rfl rfl) ?_) | (refine EK_ev (Ev_gtrS rfl rfl) ?_)))
    | (refine is_ex ?_; first | (refine KJ_blk_exit' rfl ?_))
    | (refine is_code ?_; first | (refine KJ_cond_dec rfl (fun _ => ?_) (fun _ => ?_) <;> first | (exfalso; omega) | skip) | (refine KJ_cond_t rfl ?_) | (refine KJ_cond_f rfl ?_) | (refine KJ_draws (id := 10) (.op 0 (.op 1 (.op 2 (.op 3 (.op 4 (.op 5 (.op 6 (.op 7 (.op 8 (.op 9 (.op 10 (.op 11 (.ef 12 [4, 3, 2, 1, 0] (.ef 13 [0] (.op 14 (.op 15 (.ef 16 [] .nil))))))))))))))))) (by kernel_rfl) (by kernel_rfl) ?_))
    | (refine is_fw ?_; first | (refine FW_open rfl ?_) | (refine FW_nil ?_) | (refine FW_ef rfl ?_) | (refine FW_efg rfl rfl rfl ?_) | (refine FW_alt ?_ ?_))
    | (refine is_fo ?_; first | (refine FO_dec_t rfl rfl (fun _ => ?_) (fun _ => ?_) <;> first | (exfalso; omega) | skip) | (refine FO_dec_f rfl rfl (fun _ => ?_) (fun _ => ?_) <;> first | (exfalso; omega) | skip) | (refine FO_no rfl rfl rfl rfl ?_) | (refine FO_ekg rfl rfl rfl ?_) | (refine FO_ek rfl ?_))
    | (refine is_ro ?_; first | (refine RO_no rfl rfl rfl rfl ?_) | (refine RO_ekg rfl rfl ?_) | (refine RO_ek ?_))
    | (refine is_raw ?_; first | (refine KJ_flow ?_ ?_))
    | (refine AtR_mk rfl ?_)
    | exact Rech.nil
    | (refine Rech_open rfl ?_))
    all_goals (exact xdn ())
theorem rfrom_ct (l : List UInt8) (n : Nat) (hl : l.length = n * 256) (h1 : 1 ≤ n) (h2 : n ≤ 65536) : Ct Tryd.prog W 42 [strV l] [] (fun p : Nat => .tuple #[.pointer (some ⟨p, 0, none⟩), .int .i64 0]) (fun p => [RefP p (Dsk.of l)]) := by
  have q1 : ((l.length : Nat) : Int) % 256 = 0 := by omega
  have qn : ((l.length : Nat) : Int) / 256 = (n : Nat) := by omega
  have q2 : decide ((n : Int) < 1) = false := decide_eq_false (by omega)
  have q3 : decide (65536 < (n : Int)) = false := decide_eq_false (by omega)
  refine Ct.enter Tryd.func42 rfl Tryd.ntmps42 (by simp) (fun R => ?_)
  repeat' (first 
    | refine KJ_stp (by first | constructor | fail) ?_
    | (refine is_list ?_; first | (refine KJ_guard_dec_t rfl rfl rfl (fun _ => ?_) (fun _ => ?_) <;> first | (exfalso; omega) | skip) | (refine KJ_guard_dec_f rfl rfl rfl (fun _ => ?_) (fun _ => ?_) <;> first | (exfalso; omega) | skip) | (refine KJ_guard_yes rfl rfl ?_) | (refine KJ_guard_no rfl rfl rfl rfl ?_))
    | (refine is_oper ?_; first | (refine is_store ?_; first | (refine KJ_store rfl rfl xS xF (by rfl) xO xL xR ?_)) | (refine is_box ?_; first | (refine KJ_box rfl xF rfl (fun p => ?_)) | (refine KJ_box rfl xF rfl (fun _ => ?_))) | (refine KJ_ek rfl ?_) | (refine KJ_ek0 ?_))
    | (refine is_ek ?_; first | (refine xmv ?_) | (refine xas ?_) | (refine xpt ?_) | (refine xpf ?_) | (refine xnc ?_) | (refine xfa ?_) | (refine ek_load ?_; first | (refine EK_ev (Ev_load rfl xS (by rfl)) ?_) | (refine EK_ev (Ev_loadOld rfl (by assumption)) ?_) | (refine EK_ev (Ev_loadAgg rfl xS xC) ?_)) | (refine ek_build ?_; first | (refine EK_ev (Ev_build xV xW) ?_)) | (refine ek_len ?_; first | (refine EK_ev (Ev_len_str rfl) ?_) | (refine EK_ev (Ev_len_slice rfl) ?_) | (refine EK_ev (Ev_len_arr rfl) ?_) | (refine EK_ev (Ev_len_map rfl xS) ?_)) | (refine ek_add ?_; first | (refine EK_ev (Ev_addI rfl rfl (by omega)) ?_) | (refine EK_ev (Ev_addS rfl rfl (by simp <;> omega)) ?_) | (refine EK_ev (Ev_add rfl rfl) ?_)) | (refine ek_mul ?_; first | (refine EK_ev (Ev_mulI rfl rfl (by omega)) ?_) | (refine EK_ev (Ev_mul rfl rfl) ?_)) | (refine ek_quo ?_; first | (refine EK_ev (Ev_quoI_v rfl rfl (by omega) qn) ?_) | (refine EK_ev (Ev_quoI rfl rfl (by omega)) ?_) | (refine EK_ev (Ev_quo rfl rfl (by omega)) ?_)) | (refine ek_rem ?_; first | (refine EK_ev (Ev_remI rfl rfl (by omega)) ?_) | (refine EK_ev (Ev_rem rfl rfl (by omega)) ?_)) | (refine ek_neq ?_; first | (refine EK_ev (Ev_neqI_f rfl rfl q1) ?_) | (refine EK_ev (Ev_neqI rfl rfl) ?_) | (refine EK_ev (Ev_neqS rfl rfl) ?_) | (refine EK_ev (Ev_neqNil rfl rfl) ?_) | (refine EK_ev (Ev_neqB rfl rfl) ?_) | (refine EK_ev (Ev_neqO rfl rfl rfl (fun _ => rfl)) ?_)) | (refine ek_lss ?_; first | (refine EK_ev (Ev_lssI_q rfl rfl q2) ?_) | (refine EK_ev (Ev_lssI rfl rfl) ?_) | (refine EK_ev (Ev_lssS rfl rfl) ?_)) | (refine ek_gtr ?_; first | (refine EK_ev (Ev_gtrI_q rfl rfl q3) ?_) | (refine EK_ev (Ev_gtrI rfl rfl) ?_) | (refine EK_ev (Ev_gtrS rfl rfl) ?_)))
    | (refine is_ex ?_; first | (refine KJ_blk_exit' rfl ?_))
    | (refine is_code ?_; first | (refine KJ_cond_dec rfl (fun _ => ?_) (fun _ => ?_) <;> first | (exfalso; omega) | skip) | (refine KJ_cond_t rfl ?_) | (refine KJ_cond_f rfl ?_) | (refine KJ_draws (id := 10) (.op 0 (.op 1 (.op 2 (.op 3 (.op 4 (.op 5 (.op 6 (.op 7 (.op 8 (.op 9 (.op 10 (.op 11 (.ef 12 [4, 3, 2, 1, 0] (.ef 13 [0] (.op 14 (.op 15 (.ef 16 [] .nil))))))))))))))))) (by kernel_rfl) (by kernel_rfl) ?_))
    | (refine is_fw ?_; first | (refine FW_open rfl ?_) | (refine FW_nil ?_) | (refine FW_ef rfl ?_) | (refine FW_efg rfl rfl rfl ?_) | (refine FW_alt ?_ ?_))
    | (refine is_fo ?_; first | (refine FO_dec_t rfl rfl (fun _ => ?_) (fun _ => ?_) <;> first | (exfalso; omega) | skip) | (refine FO_dec_f rfl rfl (fun _ => ?_) (fun _ => ?_) <;> first | (exfalso; omega) | skip) | (refine FO_no rfl rfl rfl rfl ?_) | (refine FO_ekg rfl rfl rfl ?_) | (refine FO_ek rfl ?_))
    | (refine is_ro ?_; first | (refine RO_no rfl rfl rfl rfl ?_) | (refine RO_ekg rfl rfl ?_) | (refine RO_ek ?_))
    | (refine is_raw ?_; first | (refine KJ_flow ?_ ?_))
    | (refine AtR_mk rfl ?_)
    | exact Rech.nil
    | (refine Rech_open rfl ?_))
  refine KJ_loop (fun i : {x : Nat × Value // x.1 ≤ n} => [(0, strV l), (4, .int .i64 (n : Nat)), (5, .pointer (some ⟨p, 0, none⟩)), (6, .int .i64 (i.1.1 : Nat))])
    (fun i => [cellsP p [i.1.2, .slice none 0 0, .bool false, .bool false, .int .i64 0, .int .i64 0, .int .i64 0, .int .i64 0] 97] ++ [rowP i.1.2 9 1 i.1.1 (secsV l i.1.1)] ++ R) (fun i => n - i.1.1) ⟨(0, .slice none 0 0), by omega⟩ xB (fun g q => starL_nilrow (H := [cellsP p [.slice none 0 0, .slice none 0 0, .bool false, .bool false, .int .i64 0, .int .i64 0, .int .i64 0, .int .i64 0] 97]) g ((xN) g q)) (fun ⟨⟨k, sv⟩, hk⟩ => ?_)
  dsimp only at hk ⊢
  by_cases hlt : k < n
  · have hnx := (secsV_succ l k).symm
    have hcut : (l.take (((k * 256 + 256 : Nat) : Int)).toNat).drop (((k * 256 : Nat) : Int)).toNat = cut l (k * 256) 256 := by
      rw [Int.toNat_natCast, Int.toNat_natCast, List.drop_take]
      unfold cut
      congr 1
      omega
    repeat' (first 
    | refine KJ_stp (by first | constructor | fail) ?_
    | (refine is_list ?_; first | (refine KJ_guard_dec_t rfl rfl rfl (fun _ => ?_) (fun _ => ?_) <;> first | (exfalso; omega) | skip) | (refine KJ_guard_dec_f rfl rfl rfl (fun _ => ?_) (fun _ => ?_) <;> first | (exfalso; omega) | skip) | (refine KJ_guard_yes rfl rfl ?_) | (refine KJ_guard_no rfl rfl rfl rfl ?_))
    | (refine is_oper ?_; first | (refine is_store ?_; first | (refine KJ_store rfl rfl xS xF (by rfl) xO xL xR ?_)) | (refine is_box ?_; first | (refine KJ_box rfl xF rfl (fun _ => ?_))) | (refine is_append ?_; first | (refine KJ_append (a2 := 0) rfl rfl (by rfl) (by omega) xS (Src.cells (i := 1) xS xC) (by rfl) (by omega) xO (by omega) (by omega) rfl rfl (fun gw cw => ?_))) | (refine is_bslice ?_; first | (refine KJ_bslice1 rfl xF (by rfl) (by omega) rfl (fun _ => ?_))) | (refine KJ_ek rfl ?_) | (refine KJ_ek0 ?_))
    | (refine is_ek ?_; first | (refine xmv ?_) | (refine xas ?_) | (refine xpt ?_) | (refine xpf ?_) | (refine xnc ?_) | (refine xfa ?_) | (refine ek_load ?_; first | (refine EK_ev (Ev_load rfl xS (by rfl)) ?_) | (refine EK_ev (Ev_loadOld rfl (by assumption)) ?_) | (refine EK_ev (Ev_loadAgg rfl xS xC) ?_)) | (refine ek_slice ?_; first | (refine EK_ev (Ev_sliceStr_v rfl rfl rfl (by omega) hcut) ?_)) | (refine ek_len ?_; first | (refine EK_ev (Ev_len_str rfl) ?_) | (refine EK_ev (Ev_len_slice rfl) ?_) | (refine EK_ev (Ev_len_arr rfl) ?_) | (refine EK_ev (Ev_len_map rfl xS) ?_)) | (refine ek_add ?_; first | (refine EK_ev (Ev_addI_v (r := ((k * 256 + 256 : Nat) : Int)) rfl rfl (by omega) (by omega)) ?_) | (refine EK_ev (Ev_addI rfl rfl (by omega)) ?_) | (refine EK_ev (Ev_addS rfl rfl (by simp <;> omega)) ?_) | (refine EK_ev (Ev_add rfl rfl) ?_)) | (refine ek_mul ?_; first | (refine EK_ev (Ev_mulI_v (r := ((k * 256 : Nat) : Int)) rfl rfl (by omega) (by omega)) ?_) | (refine EK_ev (Ev_mulI rfl rfl (by omega)) ?_) | (refine EK_ev (Ev_mul rfl rfl) ?_)) | (refine ek_quo ?_; first | (refine EK_ev (Ev_quoI rfl rfl (by omega)) ?_) | (refine EK_ev (Ev_quo rfl rfl (by omega)) ?_)) | (refine ek_rem ?_; first | (refine EK_ev (Ev_remI rfl rfl (by omega)) ?_) | (refine EK_ev (Ev_rem rfl rfl (by omega)) ?_)) | (refine ek_neq ?_; first | (refine EK_ev (Ev_neqI rfl rfl) ?_) | (refine EK_ev (Ev_neqS rfl rfl) ?_) | (refine EK_ev (Ev_neqNil rfl rfl) ?_) | (refine EK_ev (Ev_neqB rfl rfl) ?_) | (refine EK_ev (Ev_neqO rfl rfl rfl (fun _ => rfl)) ?_)) | (refine ek_lss ?_; first | (refine EK_ev (Ev_lssI rfl rfl) ?_) | (refine EK_ev (Ev_lssS rfl rfl) ?_)) | (refine ek_gtr ?_; first | (refine EK_ev (Ev_gtrI rfl rfl) ?_) | (refine EK_ev (Ev_gtrS rfl rfl) ?_)))
    | (refine is_ex ?_; first | (refine KJ_blk_exit' rfl ?_))
    | (refine is_code ?_; first | (refine KJ_cond_dec rfl (fun _ => ?_) (fun _ => ?_) <;> first | (exfalso; omega) | skip) | (refine KJ_cond_t rfl ?_) | (refine KJ_cond_f rfl ?_) | (refine KJ_draws (id := 10) (.op 0 (.op 1 (.op 2 (.op 3 (.op 4 (.op 5 (.op 6 (.op 7 (.op 8 (.op 9 (.op 10 (.op 11 (.ef 12 [4, 3, 2, 1, 0] (.ef 13 [0] (.op 14 (.op 15 (.ef 16 [] .nil))))))))))))))))) (by kernel_rfl) (by kernel_rfl) ?_))
    | (refine is_fw ?_; first | (refine FW_open rfl ?_) | (refine FW_nil ?_) | (refine FW_ef rfl ?_) | (refine FW_efg rfl rfl rfl ?_) | (refine FW_alt ?_ ?_))
    | (refine is_fo ?_; first | (refine FO_dec_t rfl rfl (fun _ => ?_) (fun _ => ?_) <;> first | (exfalso; omega) | skip) | (refine FO_dec_f rfl rfl (fun _ => ?_) (fun _ => ?_) <;> first | (exfalso; omega) | skip) | (refine FO_no rfl rfl rfl rfl ?_) | (refine FO_ekg rfl rfl rfl ?_) | (refine FO_ek rfl ?_))
    | (refine is_ro ?_; first | (refine RO_no rfl rfl rfl rfl ?_) | (refine RO_ekg rfl rfl ?_) | (refine RO_ek ?_))
    | (refine is_raw ?_; first | (refine KJ_flow ?_ ?_))
    | (refine AtR_mk rfl ?_)
    | exact Rech.nil
    | (refine Rech_open rfl ?_))
    all_goals rw [hnx]
    all_goals refine KJ_again ⟨(k + 1, _), by omega⟩ (by show n - (k + 1) < n - k; omega) xB (xN)
  · have hkn : k = n := by omega
    subst hkn
    have en : (Dsk.of l).n = k := by show l.length / 256 = k; omega
    have e9 : RefF p (Dsk.of l) (sv, .slice none 0 0) = [cellsP p [sv, .slice none 0 0, .bool false, .bool false, .int .i64 0, .int .i64 0, .int .i64 0, .int .i64 0] 97, rowP sv 9 1 k (secsV l k)] ++ [rowP (.slice none 0 0) 192 2 0 []] := by
      simp only [RefF, refC, en]; rfl
    repeat' (first 
    | refine KJ_stp (by first | constructor | fail) ?_
    | (refine is_list ?_; first | (refine KJ_guard_dec_t rfl rfl rfl (fun _ => ?_) (fun _ => ?_) <;> first | (exfalso; omega) | skip) | (refine KJ_guard_dec_f rfl rfl rfl (fun _ => ?_) (fun _ => ?_) <;> first | (exfalso; omega) | skip) | (refine KJ_guard_yes rfl rfl ?_) | (refine KJ_guard_no rfl rfl rfl rfl ?_))
    | (refine is_oper ?_; first | (refine is_store ?_; first | (refine KJ_store rfl rfl xS xF (by rfl) xO xL xR ?_)) | (refine is_box ?_; first | (refine KJ_box rfl xF rfl (fun _ => ?_))) | (refine KJ_ek rfl ?_) | (refine KJ_ek0 ?_))
    | (refine is_ek ?_; first | (refine xmv ?_) | (refine xas ?_) | (refine xpt ?_) | (refine xpf ?_) | (refine xnc ?_) | (refine xfa ?_) | (refine ek_load ?_; first | (refine EK_ev (Ev_load rfl xS (by rfl)) ?_) | (refine EK_ev (Ev_loadOld rfl (by assumption)) ?_) | (refine EK_ev (Ev_loadAgg rfl xS xC) ?_)) | (refine ek_len ?_; first | (refine EK_ev (Ev_len_str rfl) ?_) | (refine EK_ev (Ev_len_slice rfl) ?_) | (refine EK_ev (Ev_len_arr rfl) ?_) | (refine EK_ev (Ev_len_map rfl xS) ?_)) | (refine ek_add ?_; first | (refine EK_ev (Ev_addI rfl rfl (by omega)) ?_) | (refine EK_ev (Ev_addS rfl rfl (by simp <;> omega)) ?_) | (refine EK_ev (Ev_add rfl rfl) ?_)) | (refine ek_mul ?_; first | (refine EK_ev (Ev_mulI rfl rfl (by omega)) ?_) | (refine EK_ev (Ev_mul rfl rfl) ?_)) | (refine ek_quo ?_; first | (refine EK_ev (Ev_quoI rfl rfl (by omega)) ?_) | (refine EK_ev (Ev_quo rfl rfl (by omega)) ?_)) | (refine ek_rem ?_; first | (refine EK_ev (Ev_remI rfl rfl (by omega)) ?_) | (refine EK_ev (Ev_rem rfl rfl (by omega)) ?_)) | (refine ek_neq ?_; first | (refine EK_ev (Ev_neqI rfl rfl) ?_) | (refine EK_ev (Ev_neqS rfl rfl) ?_) | (refine EK_ev (Ev_neqNil rfl rfl) ?_) | (refine EK_ev (Ev_neqB rfl rfl) ?_) | (refine EK_ev (Ev_neqO rfl rfl rfl (fun _ => rfl)) ?_)) | (refine ek_lss ?_; first | (refine EK_ev (Ev_lssI rfl rfl) ?_) | (refine EK_ev (Ev_lssS rfl rfl) ?_)) | (refine ek_gtr ?_; first | (refine EK_ev (Ev_gtrI rfl rfl) ?_) | (refine EK_ev (Ev_gtrS rfl rfl) ?_)))
    | (refine is_ex ?_; first | (refine KJ_blk_exit' rfl ?_))
    | (refine is_code ?_; first | (refine KJ_cond_dec rfl (fun _ => ?_) (fun _ => ?_) <;> first | (exfalso; omega) | skip) | (refine KJ_cond_t rfl ?_) | (refine KJ_cond_f rfl ?_) | (refine KJ_draws (id := 10) (.op 0 (.op 1 (.op 2 (.op 3 (.op 4 (.op 5 (.op 6 (.op 7 (.op 8 (.op 9 (.op 10 (.op 11 (.ef 12 [4, 3, 2, 1, 0] (.ef 13 [0] (.op 14 (.op 15 (.ef 16 [] .nil))))))))))))))))) (by kernel_rfl) (by kernel_rfl) ?_))
    | (refine is_fw ?_; first | (refine FW_open rfl ?_) | (refine FW_nil ?_) | (refine FW_ef rfl ?_) | (refine FW_efg rfl rfl rfl ?_) | (refine FW_alt ?_ ?_))
    | (refine is_fo ?_; first | (refine FO_dec_t rfl rfl (fun _ => ?_) (fun _ => ?_) <;> first | (exfalso; omega) | skip) | (refine FO_dec_f rfl rfl (fun _ => ?_) (fun _ => ?_) <;> first | (exfalso; omega) | skip) | (refine FO_no rfl rfl rfl rfl ?_) | (refine FO_ekg rfl rfl rfl ?_) | (refine FO_ek rfl ?_))
    | (refine is_ro ?_; first | (refine RO_no rfl rfl rfl rfl ?_) | (refine RO_ekg rfl rfl ?_) | (refine RO_ek ?_))
    | (refine is_raw ?_; first | (refine KJ_flow ?_ ?_))
    | (refine AtR_mk rfl ?_)
    | exact Rech.nil
    | (refine Rech_open rfl ?_))
    all_goals refine KJ_done (by first | exact Or.inl rfl | exact Or.inr rfl) rfl (by (repeat' (first | exact Rvs.nil | (apply Rvs.tmp; exact rfl))); first | done | fail) p (by rfl) (fun g q => pack_star (F := RefF p (Dsk.of l)) (sv, .slice none 0 0) g ?_)
    all_goals rw [e9]
    all_goals exact starL_nilrow g ((xN) g q)
end
end Go.Proofs.YteklldbfdmaafaaDoor
/-
  The check sum bit by bit is the one by nibbles; plain data.
-/
namespace Go.Proofs.YteklldbfdmaafaaDoor
open Go Go.RowKit
theorem u32_of_lt (n : Nat) (h : n < 2 ^ 32) : IntKind.u32.wrap (n : Int) = (n : Int) := by
  have e : IntKind.u32.wrap (n : Int) = (n : Int) % 4294967296 := rfl
  rw [e]; omega
theorem xor32 (x y : Nat) (hx : x < 2 ^ 32) (hy : y < 2 ^ 32) : bits .xor .u32 (x : Int) (y : Int) = ((x ^^^ y : Nat) : Int) := by
  have e : bits .xor .u32 (x : Int) (y : Int) = IntKind.u32.wrap ((BitVec.ofInt 32 (x : Int) ^^^ BitVec.ofInt 32 (y : Int)).toNat : Int) := rfl
  have b1 : (BitVec.ofInt 32 (x : Int)).toNat = x := by rw [BitVec.toNat_ofInt]; omega
  have b2 : (BitVec.ofInt 32 (y : Int)).toNat = y := by rw [BitVec.toNat_ofInt]; omega
  rw [e, BitVec.toNat_xor, b1, b2]
  exact u32_of_lt _ (Nat.xor_lt_two_pow hx hy)
theorem and32_15 (x : Nat) (hx : x < 2 ^ 32) : bits .and .u32 (x : Int) 15 = ((x % 16 : Nat) : Int) := by
  have e : bits .and .u32 (x : Int) 15 = IntKind.u32.wrap ((BitVec.ofInt 32 (x : Int) &&& BitVec.ofInt 32 15).toNat : Int) := rfl
  have b1 : (BitVec.ofInt 32 (x : Int)).toNat = x := by rw [BitVec.toNat_ofInt]; omega
  have b2 : (BitVec.ofInt 32 15).toNat = 2 ^ 4 - 1 := rfl
  rw [e, BitVec.toNat_and, b1, b2, Nat.and_two_pow_sub_one_eq_mod]
  exact u32_of_lt _ (by omega)
def bitN (a : Nat) : Nat := (a / 2) ^^^ (if a % 2 = 1 then 2197175160 else 0)
theorem bitN_lt (a : Nat) (h : a < 2 ^ 32) : bitN a < 2 ^ 32 := by
  unfold bitN
  exact Nat.xor_lt_two_pow (by omega) (by split <;> omega)
theorem xor_half (x y : Nat) : (x ^^^ y) / 2 = x / 2 ^^^ y / 2 := by
  have := Nat.shiftRight_xor_distrib (a := x) (b := y) (i := 1)
  simpa [Nat.shiftRight_eq_div_pow] using this
theorem xor_low (x y : Nat) : (x ^^^ y) % 2 = (x % 2 ^^^ y % 2) := by
  have := Nat.xor_mod_two_pow (a := x) (b := y) (n := 1)
  simpa using this
theorem bitN_lin (x y : Nat) : bitN (x ^^^ y) = bitN x ^^^ bitN y := by
  unfold bitN
  rw [xor_half, xor_low]
  obtain ⟨p, hp⟩ : ∃ p : Nat, p = 2197175160 := ⟨_, rfl⟩
  rw [← hp]
  obtain ⟨u, hu⟩ : ∃ u, u = x / 2 := ⟨_, rfl⟩
  obtain ⟨v, hv⟩ : ∃ v, v = y / 2 := ⟨_, rfl⟩
  rw [← hu, ← hv]
  rcases Nat.mod_two_eq_zero_or_one x with h1 | h1 <;> rcases Nat.mod_two_eq_zero_or_one y with h2 | h2 <;> rw [h1, h2]
  · simp
  · simp [Nat.xor_assoc]
  · have e : u ^^^ v ^^^ p = u ^^^ p ^^^ v := by rw [Nat.xor_assoc, Nat.xor_comm v p, ← Nat.xor_assoc]
    simpa using e
  · have e : (u ^^^ p) ^^^ (v ^^^ p) = u ^^^ v := by
      rw [Nat.xor_assoc, Nat.xor_comm v p, ← Nat.xor_assoc p p v, Nat.xor_self, Nat.zero_xor]
    simp [e]
def bitIt : Nat → Nat → Nat
  | 0, r => r
  | k + 1, r => bitN (bitIt k r)
theorem bitIt_lt (k a : Nat) (h : a < 2 ^ 32) : bitIt k a < 2 ^ 32 := by
  induction k with
  | zero => exact h
  | succ k ih => exact bitN_lt _ ih
theorem bitIt_lin (k x y : Nat) : bitIt k (x ^^^ y) = bitIt k x ^^^ bitIt k y := by
  induction k with
  | zero => rfl
  | succ k ih => show bitN (bitIt k (x ^^^ y)) = _; rw [ih, bitN_lin]; rfl
theorem bitIt_add (j k a : Nat) : bitIt (j + k) a = bitIt j (bitIt k a) := by
  induction j with
  | zero => rw [Nat.zero_add]; rfl
  | succ j ih => rw [Nat.add_right_comm]; show bitN (bitIt (j + k) a) = _; rw [ih]; rfl
theorem bitN_even (m : Nat) : bitN (2 * m) = m := by
  unfold bitN
  have h1 : 2 * m / 2 = m := by omega
  have h2 : ¬ (2 * m % 2 = 1) := by omega
  rw [h1, if_neg h2, Nat.xor_zero]
theorem bit4_high (h : Nat) : bitIt 4 (16 * h) = h := by
  show bitN (bitN (bitN (bitN (16 * h)))) = h
  rw [show 16 * h = 2 * (2 * (2 * (2 * h))) by omega, bitN_even, bitN_even, bitN_even, bitN_even]
theorem bit4_low : ∀ l, l < 16 → nibT.getD l 0 = ((bitIt 4 l : Nat) : Int) := by decide
theorem xor_add (h l : Nat) (hl : l < 16) : (16 * h) ^^^ l = 16 * h + l := by
  apply Nat.eq_of_testBit_eq
  intro j
  rw [Nat.testBit_xor, show 16 * h = 2 ^ 4 * h from rfl, Nat.testBit_two_pow_mul_add h (i := 4) hl, Nat.testBit_two_pow_mul]
  by_cases hj : j < 4
  · simp [hj, show ¬ 4 ≤ j by omega]
  · have : l.testBit j = false := Nat.testBit_lt_two_pow (Nat.lt_of_lt_of_le hl (show 2 ^ 4 ≤ 2 ^ j from Nat.pow_le_pow_right (by omega) (by omega)))
    simp [hj, this]
    omega
theorem nib_bits (a : Nat) (h : a < 2 ^ 32) : nibStep (a : Int) = ((bitIt 4 a : Nat) : Int) := by
  unfold nibStep
  have e1 : (a : Int).fdiv (2 ^ (min (4 : Int).toNat IntKind.u32.bits)) = ((a / 16 : Nat) : Int) := by
    rw [Int.fdiv_eq_ediv_of_nonneg _ (by exact Int.pow_nonneg (by decide))]
    rfl
  rw [e1, and32_15 a h, Int.toNat_natCast, bit4_low _ (Nat.mod_lt _ (by omega)), xor32 _ _ (by omega) (bitIt_lt _ _ (by omega))]
  congr 1
  have e2 : a = (16 * (a / 16)) ^^^ (a % 16) := by rw [xor_add _ _ (Nat.mod_lt _ (by omega))]; omega
  conv => rhs; rw [e2, bitIt_lin, bit4_high]
/-- one byte, bit by bit -/
def byteN (r : Nat) (c : UInt8) : Nat := bitIt 8 (r ^^^ c.toNat)
theorem byteN_lt (r : Nat) (c : UInt8) (h : r < 2 ^ 32) : byteN r c < 2 ^ 32 := by
  have := UInt8.toNat_lt c
  exact bitIt_lt _ _ (Nat.xor_lt_two_pow h (by omega))
theorem crcStep_bits (r : Nat) (c : UInt8) (h : r < 2 ^ 32) : crcStep (r : Int) c = ((byteN r c : Nat) : Int) := by
  have hc := UInt8.toNat_lt c
  have hx : r ^^^ c.toNat < 2 ^ 32 := Nat.xor_lt_two_pow h (by omega)
  unfold crcStep byteN
  rw [u32_of_lt _ (by omega), xor32 _ _ h (by omega), nib_bits _ hx, nib_bits _ (bitIt_lt _ _ hx), ← bitIt_add]
def crcN (r : Nat) (l : List UInt8) : Nat := l.foldl byteN r
theorem crcN_bits (l : List UInt8) : ∀ (r : Nat), r < 2 ^ 32 → crcAll (r : Int) l = ((crcN r l : Nat) : Int) ∧ crcN r l < 2 ^ 32 := by
  unfold crcAll crcN
  induction l with
  | nil => intro r h; exact ⟨rfl, h⟩
  | cons c l ih =>
    intro r h
    simp only [List.foldl_cons]
    rw [crcStep_bits r c h]
    exact ih _ (byteN_lt r c h)
theorem crcN_next (s : Nat) (l : List UInt8) (i : Nat) (c : UInt8) (h : l[i]? = some c) : crcN s (l.take (i + 1)) = byteN (crcN s (l.take i)) c := by
  unfold crcN
  rw [List.take_add_one, h]
  simp
def notN (s : Nat) : Nat := s ^^^ 4294967295
theorem notN_lt (s : Nat) (h : s < 2 ^ 32) : notN s < 2 ^ 32 := Nat.xor_lt_two_pow h (by omega)
theorem crcNot_bits (s : Nat) (h : s < 2 ^ 32) : crcNot (s : Int) = ((notN s : Nat) : Int) := by
  have := xor32 4294967295 s (by omega) h
  unfold crcNot notN
  rw [Nat.xor_comm]
  exact this
theorem crcSum_bits (l : List UInt8) : crcSum l = ((notN (crcN (notN 0) l) : Nat) : Int) := by
  unfold crcSum
  have h0 := crcNot_bits 0 (by omega)
  have h1 := crcN_bits l (notN 0) (notN_lt 0 (by omega))
  rw [show (0 : Int) = ((0 : Nat) : Int) from rfl, h0, h1.1, crcNot_bits _ h1.2]
theorem crcSum_bounds (l : List UInt8) : 0 ≤ crcSum l ∧ crcSum l < 4294967296 := by
  have h1 := crcN_bits l (notN 0) (notN_lt 0 (by omega))
  have h2 := notN_lt _ h1.2
  rw [crcSum_bits]
  omega
end Go.Proofs.YteklldbfdmaafaaDoor
/-
  A sealed sector as the pieces that the document lays one behind the other; plain data.
-/
namespace Go.Proofs.YteklldbfdmaafaaDoor
open Go Go.RowKit
theorem lay_app (a z b : List UInt8) : lay (a ++ z) a.length b = a ++ (b ++ z.drop b.length) := by
  unfold lay
  rw [List.take_left' rfl, List.drop_append, List.drop_of_length_le (by omega), Nat.add_sub_cancel_left, List.nil_append]
def sealHead (v : Int) (s : List UInt8) : List UInt8 := putB v 8 ++ (putB (IntKind.u64.wrap s.length) 2 ++ (s ++ zs (234 - s.length)))
theorem sealHead_length (v : Int) (s : List UInt8) (h : s.length ≤ 234) : (sealHead v s).length = 244 := by
  unfold sealHead
  simp only [List.length_append, putB_length, zs_length]
  omega
theorem zs_drop (n m : Nat) : (zs n).drop m = zs (n - m) := by simp [zs]
theorem seal_concat (v : Int) (s : List UInt8) (h : s.length ≤ 234) : sealB v s = sealHead v s ++ (putB (IntKind.u64.wrap (crcSum (sealHead v s))) 4 ++ putB v 8) := by
  have e1 : sealB1 v = putB v 8 ++ zs 248 := by
    have := lay_app [] (zs 256) (putB v 8)
    rw [putB_length, zs_drop] at this
    exact this
  have e2 : sealB2 v s = putB v 8 ++ (putB (IntKind.u64.wrap s.length) 2 ++ zs 246) := by
    unfold sealB2
    rw [e1]
    have := lay_app (putB v 8) (zs 248) (putB (IntKind.u64.wrap s.length) 2)
    rw [putB_length, putB_length, zs_drop] at this
    exact this
  have e3 : sealB3 v s = sealHead v s ++ zs 12 := by
    unfold sealB3
    rw [e2, ← List.append_assoc]
    have := lay_app (putB v 8 ++ putB (IntKind.u64.wrap s.length) 2) (zs 246) s
    rw [List.length_append, putB_length, putB_length, zs_drop] at this
    rw [this]
    unfold sealHead
    simp only [List.append_assoc]
    congr 3
    have : zs (246 - s.length) = zs (234 - s.length) ++ zs 12 := by
      unfold zs; rw [List.replicate_append_replicate]; congr 1; omega
    rw [this]
  have hl := sealHead_length v s h
  have e3t : (sealB3 v s).take 244 = sealHead v s := by rw [e3, List.take_left' hl]
  have e4 : sealB4 v s = sealHead v s ++ (putB (IntKind.u64.wrap (crcSum (sealHead v s))) 4 ++ zs 8) := by
    unfold sealB4
    rw [e3t, e3]
    have := lay_app (sealHead v s) (zs 12) (putB (IntKind.u64.wrap (crcSum (sealHead v s))) 4)
    rw [hl, putB_length, zs_drop] at this
    exact this
  unfold sealB
  rw [e4, ← List.append_assoc]
  have := lay_app (sealHead v s ++ putB (IntKind.u64.wrap (crcSum (sealHead v s))) 4) (zs 8) (putB v 8)
  rw [List.length_append, hl, putB_length, putB_length, zs_drop] at this
  rw [this]
  simp [zs]
/-- two bytes' number -/
theorem getB_two_val (l : List UInt8) : getB l 2 = (((l.getD 0 0).toNat + 256 * (l.getD 1 0).toNat : Nat) : Int) := by
  have h0 := UInt8.toNat_lt (l.getD 0 0)
  obtain ⟨a, ha⟩ : ∃ a, a = l.getD 0 0 := ⟨_, rfl⟩
  obtain ⟨b, hb⟩ : ∃ b, b = l.getD 1 0 := ⟨_, rfl⟩
  rw [← ha] at h0
  have h1 := getPart_val 0 0 a (by omega) (by omega)
  have h2 := getPart_val (0 + a.toNat * 2 ^ (8 * 0)) 1 b (by omega) (by show 0 + a.toNat * 1 < 256; omega)
  show getPart (getPart 0 0 (l.getD 0 0)) 1 (l.getD 1 0) = _
  rw [← ha, ← hb]
  rw [show (0 : Int) = ((0 : Nat) : Int) from rfl, h1, h2]
  show ((0 + a.toNat * 1 + b.toNat * 256 : Nat) : Int) = _
  omega
theorem openN_val (raw : List UInt8) : openN raw = (raw.getD 8 0).toNat + 256 * (raw.getD 9 0).toNat := by
  unfold openN
  rw [getB_two_val, getD_drop, getD_drop, Int.toNat_natCast]
/-- a byte of a number, by division -/
theorem byteAt_div (v i : Nat) (hi : i < 8) : byteAt (v : Int) i = UInt8.ofNat (v / 256 ^ i % 256) := by
  apply UInt8.toNat_inj.1
  rw [byteAt_val v i hi, UInt8.toNat_ofNat', show (256 : Nat) ^ i = 2 ^ (8 * i) by rw [show (256 : Nat) = 2 ^ 8 from rfl, ← Nat.pow_mul]]
  omega
end Go.Proofs.YteklldbfdmaafaaDoor
/-
  The document's sectors (remitref03's sum, remitref07): contracts over the plain data of the program's own.
-/
namespace Go.Proofs.YteklldbfdmaafaaDoor
open Go Go.RowKit
section
variable {P : Program} {W : World} {n : Nat} {k : KK} {E : Env} {H R : List SP} {x y z : Operand} {t u : TypeId} {kd : IntKind}
theorem Ev_xor_v {i j r : Int} (hx : Env.ev E x = some (.int kd i)) (hy : Env.ev E y = some (.int kd j)) (h : bits .xor kd i j = r) : Ev P W n E H (.binOp .xor t x y u) (.int kd r) := by subst h; exact Ev_xor hx hy
theorem Ev_rem_v {i j r : Int} (hx : Env.ev E x = some (.int kd i)) (hy : Env.ev E y = some (.int kd j)) (hb : 0 ≤ i ∧ 0 < j) (h : i % j = r) : Ev P W n E H (.binOp .rem t x y u) (.int kd r) := by subst h; exact Ev_remI hx hy hb
theorem Ev_quo_v {i j r : Int} (hx : Env.ev E x = some (.int kd i)) (hy : Env.ev E y = some (.int kd j)) (hj : j ≠ 0) (h : kd.wrap (i.tdiv j) = r) : Ev P W n E H (.binOp .quo t x y u) (.int kd r) := by subst h; exact Ev_quo hx hy hj
theorem Ev_mul_v {i j r : Int} (hx : Env.ev E x = some (.int kd i)) (hy : Env.ev E y = some (.int kd j)) (h : kd.wrap (i * j) = r) : Ev P W n E H (.binOp .mul t x y u) (.int kd r) := by subst h; exact Ev_mul hx hy
theorem KJ.row_shape3 {v : Value} {e size m : Nat} {xs : List Value} (hsel : Sel (rowP v e size m xs) H R) (hm : 0 < m) (h : ∀ g c, v = .slice (some ⟨g, 0, none⟩) m c → KJ W n k E H) : KJ W n k E H :=
  ⟨fun a w p s => by
    rcases (s.left.row hsel).2 with ⟨_, q⟩ | ⟨g, c, _, q, _⟩
    · omega
    · exact (h g c q).go a w p s⟩
theorem nilrow3 {e size : Nat} {H R : List SP} : ∀ g, starL (H ++ R) g → starL (H ++ [rowP (.slice none 0 0) e size 0 []] ++ R) g := by
  intro g q
  have q2 : starL (rowP (.slice none 0 0) e size 0 [] :: (H ++ R)) g := ⟨fun _ => none, g, (fun _ _ q => by cases q), (fun _ _ q => by cases q), .rfl, ⟨by simp, .inl ⟨rfl, rfl⟩⟩, q⟩
  refine starL_perm ?_ g q2
  have : (H ++ [rowP (.slice none 0 0) e size 0 []] ++ R) = H ++ rowP (.slice none 0 0) e size 0 [] :: R := by simp
  rw [this]
  exact List.perm_middle.symm
end
theorem u32_tdiv (a : Nat) (h : a < 2 ^ 32) : IntKind.u32.wrap (((a : Nat) : Int).tdiv 2) = ((a / 2 : Nat) : Int) := by
  have : ((a : Nat) : Int).tdiv 2 = ((a / 2 : Nat) : Int) := by rw [Int.tdiv_eq_ediv_of_nonneg (by omega)]; rfl
  rw [this]
  exact u32_of_lt _ (by omega)
theorem u64_tdiv (a : Nat) (h : a < 2 ^ 64) : IntKind.u64.wrap (((a : Nat) : Int).tdiv 256) = ((a / 256 : Nat) : Int) := by
  have : ((a : Nat) : Int).tdiv 256 = ((a / 256 : Nat) : Int) := by rw [Int.tdiv_eq_ediv_of_nonneg (by omega)]; rfl
  rw [this]
  exact u64_of_lt _ (by omega)
theorem u8_wrap (z : Nat) : IntKind.u8.wrap (z : Int) = ((z % 256 : Nat) : Int) := by
  have : IntKind.u8.wrap (z : Int) = (z : Int) % 256 := rfl
  rw [this]; omega

section
variable {W : World}
set_option maxHeartbeats 1000000 in
set_option maxRecDepth 100000 in
theorem rextend_ct (s : Nat) (hs : s < 2 ^ 32) (l : List UInt8) (hl : l.length < 4611686018427387904) : Ct Tryd.prog W 132 [.int .u32 (s : Nat), strV l] [] (fun _ : Unit => .int .u32 ((notN (crcN (notN s) l) : Nat) : Int)) (fun _ => []) := by
  obtain ⟨A, hA⟩ : ∃ A : Nat → Nat, A = fun i => crcN (notN s) (l.take i) := ⟨_, rfl⟩
  have hA0 : notN s = A 0 := by rw [hA]; simp [crcN]
  have hAl : crcN (notN s) l = A l.length := by rw [hA]; simp
  have hAn : ∀ i c, l[i]? = some c → A (i + 1) = byteN (A i) c := fun i c h => by rw [hA]; exact crcN_next _ l i c h
  have hAb : ∀ i, A i < 2 ^ 32 := fun i => by rw [hA]; exact (crcN_bits _ _ (notN_lt s hs)).2
  have hx0 : bits .xor .u32 (s : Nat) 4294967295 = ((A 0 : Nat) : Int) := by rw [← hA0]; exact xor32 s 4294967295 hs (by omega)
  have hxl : bits .xor .u32 ((A l.length : Nat) : Int) 4294967295 = ((notN (A l.length) : Nat) : Int) := xor32 _ 4294967295 (hAb _) (by omega)
  rw [hAl]
  clear hA hAl hA0
  refine Ct.enter Tryd.func132 rfl Tryd.ntmps132 (by simp) (fun R => ?_)
  repeat' (first 
    | refine KJ_stp (by first | constructor | fail) ?_
    | (refine is_oper ?_; first | (refine KJ_ek rfl ?_) | (refine KJ_ek0 ?_))
    | (refine is_ek ?_; first | (refine xmv ?_) | (refine xas ?_) | (refine ek_conv ?_; first | (refine EK_ev (Ev_convI64 rfl (by omega)) ?_) | (refine EK_ev (Ev_convI rfl) ?_) | (refine EK_ev (Ev_convS rfl) ?_)) | (refine ek_len ?_; first | (refine EK_ev (Ev_len_str rfl) ?_) | (refine EK_ev (Ev_len_slice rfl) ?_) | (refine EK_ev (Ev_len_arr rfl) ?_) | (refine EK_ev (Ev_len_map rfl xS) ?_)) | (refine ek_add ?_; first | (refine EK_ev (Ev_addI rfl rfl (by omega)) ?_) | (refine EK_ev (Ev_addS rfl rfl (by simp <;> omega)) ?_) | (refine EK_ev (Ev_add rfl rfl) ?_)) | (refine ek_quo ?_; first | (refine EK_ev (Ev_quoI rfl rfl (by omega)) ?_) | (refine EK_ev (Ev_quo rfl rfl (by omega)) ?_)) | (refine ek_rem ?_; first | (refine EK_ev (Ev_remI rfl rfl (by omega)) ?_) | (refine EK_ev (Ev_rem rfl rfl (by omega)) ?_)) | (refine ek_xor ?_; first | (refine EK_ev (Ev_xor_v rfl rfl hx0) ?_)) | (refine ek_eql ?_; first | (refine EK_ev (Ev_eqlI rfl rfl) ?_) | (refine EK_ev (Ev_eqlS rfl rfl) ?_) | (refine EK_ev (Ev_eqlNil rfl rfl) ?_) | (refine EK_ev (Ev_eqlB rfl rfl) ?_) | (refine EK_ev (Ev_eqlO rfl rfl rfl (fun _ => rfl)) ?_)) | (refine ek_lss ?_; first | (refine EK_ev (Ev_lssI rfl rfl) ?_) | (refine EK_ev (Ev_lssS rfl rfl) ?_)))
    | (refine is_ex ?_; first | (refine KJ_blk_exit' rfl ?_))
    | (refine is_code ?_; first | (refine KJ_cond_dec rfl (fun _ => ?_) (fun _ => ?_) <;> first | (exfalso; omega) | skip) | (refine KJ_cond_t rfl ?_) | (refine KJ_cond_f rfl ?_)))
  refine KJ_loop (fun i : {k : Nat // k ≤ l.length} => [(1, strV l), (5, .int .u32 ((A i.1 : Nat) : Int)), (6, .int .i64 (i.1 : Nat))]) (fun _ => R) (fun i => l.length - i.1) ⟨0, by omega⟩ xB (fun _ q => q) (fun ⟨i, hi⟩ => ?_)
  dsimp only
  by_cases hlt : i < l.length
  · obtain ⟨c, hc⟩ : ∃ c, l[i]? = some c := ⟨_, List.getElem?_eq_getElem hlt⟩
    have hcb := UInt8.toNat_lt c
    have hnx := hAn i c hc
    have hc' : l[(i : Int).toNat]? = some c := by rw [Int.toNat_natCast]; exact hc
    obtain ⟨r, hr⟩ : ∃ r, r = A i ^^^ c.toNat := ⟨_, rfl⟩
    have hrb : r < 2 ^ 32 := by rw [hr]; exact Nat.xor_lt_two_pow (hAb i) (by omega)
    have hcv : IntKind.u32.wrap ((c.toNat : Nat) : Int) = ((c.toNat : Nat) : Int) := u32_of_lt _ (by omega)
    have hxc : bits .xor .u32 ((A i : Nat) : Int) ((c.toNat : Nat) : Int) = ((bitIt 0 r : Nat) : Int) := by rw [xor32 _ _ (hAb i) (by omega), hr]; rfl
    have hnx : A (i + 1) = bitIt 8 r := by rw [hnx, hr]; rfl
    clear hr
    repeat' (first 
    | refine KJ_stp (by first | constructor | fail) ?_
    | (refine is_oper ?_; first | (refine KJ_ek rfl ?_) | (refine KJ_ek0 ?_))
    | (refine is_ek ?_; first | (refine xmv ?_) | (refine xas ?_) | (refine ek_conv ?_; first | (refine EK_ev (Ev_convI_v rfl hcv) ?_) | (refine EK_ev (Ev_convI64 rfl (by omega)) ?_) | (refine EK_ev (Ev_convI rfl) ?_) | (refine EK_ev (Ev_convS rfl) ?_)) | (refine ek_index ?_; first | (refine EK_ev (Ev_indexStr rfl rfl (by omega) hc') ?_)) | (refine ek_len ?_; first | (refine EK_ev (Ev_len_str rfl) ?_) | (refine EK_ev (Ev_len_slice rfl) ?_) | (refine EK_ev (Ev_len_arr rfl) ?_) | (refine EK_ev (Ev_len_map rfl xS) ?_)) | (refine ek_add ?_; first | (refine EK_ev (Ev_addI rfl rfl (by omega)) ?_) | (refine EK_ev (Ev_addS rfl rfl (by simp <;> omega)) ?_) | (refine EK_ev (Ev_add rfl rfl) ?_)) | (refine ek_quo ?_; first | (refine EK_ev (Ev_quoI rfl rfl (by omega)) ?_) | (refine EK_ev (Ev_quo rfl rfl (by omega)) ?_)) | (refine ek_rem ?_; first | (refine EK_ev (Ev_remI rfl rfl (by omega)) ?_) | (refine EK_ev (Ev_rem rfl rfl (by omega)) ?_)) | (refine ek_xor ?_; first | (refine EK_ev (Ev_xor_v rfl rfl hxc) ?_)) | (refine ek_eql ?_; first | (refine EK_ev (Ev_eqlI rfl rfl) ?_) | (refine EK_ev (Ev_eqlS rfl rfl) ?_) | (refine EK_ev (Ev_eqlNil rfl rfl) ?_) | (refine EK_ev (Ev_eqlB rfl rfl) ?_) | (refine EK_ev (Ev_eqlO rfl rfl rfl (fun _ => rfl)) ?_)) | (refine ek_lss ?_; first | (refine EK_ev (Ev_lssI rfl rfl) ?_) | (refine EK_ev (Ev_lssS rfl rfl) ?_)))
    | (refine is_ex ?_; first | (refine KJ_blk_exit' rfl ?_))
    | (refine is_code ?_; first | (refine KJ_cond_dec rfl (fun _ => ?_) (fun _ => ?_) <;> first | (exfalso; omega) | skip) | (refine KJ_cond_t rfl ?_) | (refine KJ_cond_f rfl ?_)))
    refine KJ_loop (fun k : {k : Nat // k ≤ 8} => [(1, strV l), (5, .int .u32 ((bitIt k.1 r : Nat) : Int)), (6, .int .i64 (i : Nat)), (7, .int .i64 (k.1 : Nat))]) (fun _ => R) (fun k => 8 - k.1) ⟨0, by omega⟩ xB (fun _ q => q) (fun ⟨k, hk⟩ => ?_)
    dsimp only
    by_cases hk8 : k < 8
    · have hab := bitIt_lt k r hrb
      have hst : bitIt (k + 1) r = bitN (bitIt k r) := rfl
      obtain ⟨a, ha⟩ : ∃ a, a = bitIt k r := ⟨_, rfl⟩
      rw [← ha] at hab hst ⊢
      have hrem : ((a : Nat) : Int) % 2 = ((a % 2 : Nat) : Int) := by omega
      have hquo := u32_tdiv a hab
      by_cases hp : a % 2 = 1
      · have hq : ((a % 2 : Nat) : Int) = 1 := by omega
        have hxp : bits .xor .u32 ((a / 2 : Nat) : Int) 2197175160 = ((bitIt (k + 1) r : Nat) : Int) := by rw [hst, bitN, if_pos hp]; exact xor32 (a / 2) 2197175160 (by omega) (by omega)
        repeat' (first 
    | refine KJ_stp (by first | constructor | fail) ?_
    | (refine is_oper ?_; first | (refine KJ_ek rfl ?_) | (refine KJ_ek0 ?_))
    | (refine is_ek ?_; first | (refine xmv ?_) | (refine xas ?_) | (refine ek_conv ?_; first | (refine EK_ev (Ev_convI64 rfl (by omega)) ?_) | (refine EK_ev (Ev_convI rfl) ?_) | (refine EK_ev (Ev_convS rfl) ?_)) | (refine ek_len ?_; first | (refine EK_ev (Ev_len_str rfl) ?_) | (refine EK_ev (Ev_len_slice rfl) ?_) | (refine EK_ev (Ev_len_arr rfl) ?_) | (refine EK_ev (Ev_len_map rfl xS) ?_)) | (refine ek_add ?_; first | (refine EK_ev (Ev_addI_v (r := ((k + 1 : Nat) : Int)) rfl rfl (by omega) (by omega)) ?_) | (refine EK_ev (Ev_addI rfl rfl (by omega)) ?_) | (refine EK_ev (Ev_addS rfl rfl (by simp <;> omega)) ?_) | (refine EK_ev (Ev_add rfl rfl) ?_)) | (refine ek_quo ?_; first | (refine EK_ev (Ev_quo_v rfl rfl (by omega) hquo) ?_) | (refine EK_ev (Ev_quoI rfl rfl (by omega)) ?_) | (refine EK_ev (Ev_quo rfl rfl (by omega)) ?_)) | (refine ek_rem ?_; first | (refine EK_ev (Ev_rem_v rfl rfl (by omega) hrem) ?_) | (refine EK_ev (Ev_remI rfl rfl (by omega)) ?_) | (refine EK_ev (Ev_rem rfl rfl (by omega)) ?_)) | (refine ek_xor ?_; first | (refine EK_ev (Ev_xor_v rfl rfl hxp) ?_)) | (refine ek_eql ?_; first | (refine EK_ev (Ev_eqlI_t rfl rfl hq) ?_) | (refine EK_ev (Ev_eqlI rfl rfl) ?_) | (refine EK_ev (Ev_eqlS rfl rfl) ?_) | (refine EK_ev (Ev_eqlNil rfl rfl) ?_) | (refine EK_ev (Ev_eqlB rfl rfl) ?_) | (refine EK_ev (Ev_eqlO rfl rfl rfl (fun _ => rfl)) ?_)) | (refine ek_lss ?_; first | (refine EK_ev (Ev_lssI rfl rfl) ?_) | (refine EK_ev (Ev_lssS rfl rfl) ?_)))
    | (refine is_ex ?_; first | (refine KJ_blk_exit' rfl ?_))
    | (refine is_code ?_; first | (refine KJ_cond_dec rfl (fun _ => ?_) (fun _ => ?_) <;> first | (exfalso; omega) | skip) | (refine KJ_cond_t rfl ?_) | (refine KJ_cond_f rfl ?_)))
        all_goals refine KJ_again ⟨k + 1, by omega⟩ (by show 8 - (k + 1) < 8 - k; omega) xB (fun _ q => q)
      · have hq : ((a % 2 : Nat) : Int) ≠ 1 := by omega
        have hsp : bitIt (k + 1) r = a / 2 := by rw [hst, bitN, if_neg hp, Nat.xor_zero]
        repeat' (first 
    | refine KJ_stp (by first | constructor | fail) ?_
    | (refine is_oper ?_; first | (refine KJ_ek rfl ?_) | (refine KJ_ek0 ?_))
    | (refine is_ek ?_; first | (refine xmv ?_) | (refine xas ?_) | (refine ek_conv ?_; first | (refine EK_ev (Ev_convI64 rfl (by omega)) ?_) | (refine EK_ev (Ev_convI rfl) ?_) | (refine EK_ev (Ev_convS rfl) ?_)) | (refine ek_len ?_; first | (refine EK_ev (Ev_len_str rfl) ?_) | (refine EK_ev (Ev_len_slice rfl) ?_) | (refine EK_ev (Ev_len_arr rfl) ?_) | (refine EK_ev (Ev_len_map rfl xS) ?_)) | (refine ek_add ?_; first | (refine EK_ev (Ev_addI_v (r := ((k + 1 : Nat) : Int)) rfl rfl (by omega) (by omega)) ?_) | (refine EK_ev (Ev_addI rfl rfl (by omega)) ?_) | (refine EK_ev (Ev_addS rfl rfl (by simp <;> omega)) ?_) | (refine EK_ev (Ev_add rfl rfl) ?_)) | (refine ek_quo ?_; first | (refine EK_ev (Ev_quo_v rfl rfl (by omega) hquo) ?_) | (refine EK_ev (Ev_quoI rfl rfl (by omega)) ?_) | (refine EK_ev (Ev_quo rfl rfl (by omega)) ?_)) | (refine ek_rem ?_; first | (refine EK_ev (Ev_rem_v rfl rfl (by omega) hrem) ?_) | (refine EK_ev (Ev_remI rfl rfl (by omega)) ?_) | (refine EK_ev (Ev_rem rfl rfl (by omega)) ?_)) | (refine ek_eql ?_; first | (refine EK_ev (Ev_eqlI_f rfl rfl hq) ?_) | (refine EK_ev (Ev_eqlI rfl rfl) ?_) | (refine EK_ev (Ev_eqlS rfl rfl) ?_) | (refine EK_ev (Ev_eqlNil rfl rfl) ?_) | (refine EK_ev (Ev_eqlB rfl rfl) ?_) | (refine EK_ev (Ev_eqlO rfl rfl rfl (fun _ => rfl)) ?_)) | (refine ek_lss ?_; first | (refine EK_ev (Ev_lssI rfl rfl) ?_) | (refine EK_ev (Ev_lssS rfl rfl) ?_)))
    | (refine is_ex ?_; first | (refine KJ_blk_exit' rfl ?_))
    | (refine is_code ?_; first | (refine KJ_cond_dec rfl (fun _ => ?_) (fun _ => ?_) <;> first | (exfalso; omega) | skip) | (refine KJ_cond_t rfl ?_) | (refine KJ_cond_f rfl ?_)))
        all_goals refine KJ_again ⟨k + 1, by omega⟩ (by show 8 - (k + 1) < 8 - k; omega) ?_ (fun _ q => q)
        all_goals rw [hsp]
        all_goals exact xB
    · have hk8 : k = 8 := by omega
      subst hk8
      rw [← hnx]
      repeat' (first 
    | refine KJ_stp (by first | constructor | fail) ?_
    | (refine is_oper ?_; first | (refine KJ_ek rfl ?_) | (refine KJ_ek0 ?_))
    | (refine is_ek ?_; first | (refine xmv ?_) | (refine xas ?_) | (refine ek_conv ?_; first | (refine EK_ev (Ev_convI64 rfl (by omega)) ?_) | (refine EK_ev (Ev_convI rfl) ?_) | (refine EK_ev (Ev_convS rfl) ?_)) | (refine ek_len ?_; first | (refine EK_ev (Ev_len_str rfl) ?_) | (refine EK_ev (Ev_len_slice rfl) ?_) | (refine EK_ev (Ev_len_arr rfl) ?_) | (refine EK_ev (Ev_len_map rfl xS) ?_)) | (refine ek_add ?_; first | (refine EK_ev (Ev_addI_v (r := ((i + 1 : Nat) : Int)) rfl rfl (by omega) (by omega)) ?_) | (refine EK_ev (Ev_addI rfl rfl (by omega)) ?_) | (refine EK_ev (Ev_addS rfl rfl (by simp <;> omega)) ?_) | (refine EK_ev (Ev_add rfl rfl) ?_)) | (refine ek_quo ?_; first | (refine EK_ev (Ev_quoI rfl rfl (by omega)) ?_) | (refine EK_ev (Ev_quo rfl rfl (by omega)) ?_)) | (refine ek_rem ?_; first | (refine EK_ev (Ev_remI rfl rfl (by omega)) ?_) | (refine EK_ev (Ev_rem rfl rfl (by omega)) ?_)) | (refine ek_eql ?_; first | (refine EK_ev (Ev_eqlI rfl rfl) ?_) | (refine EK_ev (Ev_eqlS rfl rfl) ?_) | (refine EK_ev (Ev_eqlNil rfl rfl) ?_) | (refine EK_ev (Ev_eqlB rfl rfl) ?_) | (refine EK_ev (Ev_eqlO rfl rfl rfl (fun _ => rfl)) ?_)) | (refine ek_lss ?_; first | (refine EK_ev (Ev_lssI rfl rfl) ?_) | (refine EK_ev (Ev_lssS rfl rfl) ?_)))
    | (refine is_ex ?_; first | (refine KJ_blk_exit' rfl ?_))
    | (refine is_code ?_; first | (refine KJ_cond_dec rfl (fun _ => ?_) (fun _ => ?_) <;> first | (exfalso; omega) | skip) | (refine KJ_cond_t rfl ?_) | (refine KJ_cond_f rfl ?_)))
      all_goals refine KJ_again ⟨i + 1, by omega⟩ (by show l.length - (i + 1) < l.length - i; omega) xB (fun _ q => q)
  · have hkl : i = l.length := by omega
    subst hkl
    repeat' (first 
    | refine KJ_stp (by first | constructor | fail) ?_
    | (refine is_oper ?_; first | (refine KJ_ek rfl ?_) | (refine KJ_ek0 ?_))
    | (refine is_ek ?_; first | (refine xmv ?_) | (refine xas ?_) | (refine ek_conv ?_; first | (refine EK_ev (Ev_convI64 rfl (by omega)) ?_) | (refine EK_ev (Ev_convI rfl) ?_) | (refine EK_ev (Ev_convS rfl) ?_)) | (refine ek_len ?_; first | (refine EK_ev (Ev_len_str rfl) ?_) | (refine EK_ev (Ev_len_slice rfl) ?_) | (refine EK_ev (Ev_len_arr rfl) ?_) | (refine EK_ev (Ev_len_map rfl xS) ?_)) | (refine ek_add ?_; first | (refine EK_ev (Ev_addI rfl rfl (by omega)) ?_) | (refine EK_ev (Ev_addS rfl rfl (by simp <;> omega)) ?_) | (refine EK_ev (Ev_add rfl rfl) ?_)) | (refine ek_quo ?_; first | (refine EK_ev (Ev_quoI rfl rfl (by omega)) ?_) | (refine EK_ev (Ev_quo rfl rfl (by omega)) ?_)) | (refine ek_rem ?_; first | (refine EK_ev (Ev_remI rfl rfl (by omega)) ?_) | (refine EK_ev (Ev_rem rfl rfl (by omega)) ?_)) | (refine ek_xor ?_; first | (refine EK_ev (Ev_xor_v rfl rfl hxl) ?_)) | (refine ek_eql ?_; first | (refine EK_ev (Ev_eqlI rfl rfl) ?_) | (refine EK_ev (Ev_eqlS rfl rfl) ?_) | (refine EK_ev (Ev_eqlNil rfl rfl) ?_) | (refine EK_ev (Ev_eqlB rfl rfl) ?_) | (refine EK_ev (Ev_eqlO rfl rfl rfl (fun _ => rfl)) ?_)) | (refine ek_lss ?_; first | (refine EK_ev (Ev_lssI rfl rfl) ?_) | (refine EK_ev (Ev_lssS rfl rfl) ?_)))
    | (refine is_ex ?_; first | (refine KJ_blk_exit' rfl ?_))
    | (refine is_code ?_; first | (refine KJ_cond_dec rfl (fun _ => ?_) (fun _ => ?_) <;> first | (exfalso; omega) | skip) | (refine KJ_cond_t rfl ?_) | (refine KJ_cond_f rfl ?_)))
    all_goals (exact xdn ())
theorem rsum_ct (l : List UInt8) (hl : l.length < 4611686018427387904) : Ct Tryd.prog W 120 [strV l] [] (fun _ : Unit => .int .u32 (crcSum l)) (fun _ => []) := by
  have c1 : Ct Tryd.prog W 132 [.int .u32 0, strV l] [] (fun _ : Unit => .int .u32 (crcSum l)) (fun _ => []) := (rextend_ct 0 (by omega) l hl).val fun _ => by rw [crcSum_bits]
  refine Ct.enter Tryd.func120 rfl Tryd.ntmps120 (by simp) (fun R => ?_)
  repeat' (first 
    | refine KJ_stp (by first | constructor | fail) ?_
    | (refine is_oper ?_; first | (refine is_call ?_; first | (refine KJ_call xE c1 xP rfl (fun _ => ?_))) | (refine KJ_ek rfl ?_) | (refine KJ_ek0 ?_))
    | (refine is_ek ?_; first | (refine xmv ?_) | (refine xas ?_))
    | (refine is_ex ?_; first | (refine KJ_blk_exit' rfl ?_))
    | (refine is_code ?_; first | (refine KJ_cond_dec rfl (fun _ => ?_) (fun _ => ?_) <;> first | (exfalso; omega) | skip) | (refine KJ_cond_t rfl ?_) | (refine KJ_cond_f rfl ?_)))
  all_goals (exact xdn ())
set_option maxRecDepth 100000 in
theorem rlow_ct (x : Nat) (hx : x < 2 ^ 64) (n : Nat) (hn0 : 0 < n) (hn : n ≤ 8) : Ct Tryd.prog W 119 [.int .u64 (x : Nat), .int .i64 (n : Nat)] [] (fun _ : Unit => strV (putB (x : Nat) n)) (fun _ => []) := by
  refine Ct.enter Tryd.func119 rfl Tryd.ntmps119 (by simp) (fun R => ?_)
  repeat' (first 
    | refine KJ_stp (by first | constructor | fail) ?_
    | (refine is_oper ?_; first | (refine KJ_ek rfl ?_) | (refine KJ_ek0 ?_))
    | (refine is_ek ?_; first | (refine xmv ?_) | (refine xas ?_) | (refine ek_conv ?_; first | (refine EK_ev (Ev_convI64 rfl (by omega)) ?_) | (refine EK_ev (Ev_convI rfl) ?_) | (refine EK_ev (Ev_convS rfl) ?_)) | (refine ek_add ?_; first | (refine EK_ev (Ev_addI rfl rfl (by omega)) ?_) | (refine EK_ev (Ev_addS rfl rfl (by simp <;> omega)) ?_) | (refine EK_ev (Ev_add rfl rfl) ?_)) | (refine ek_quo ?_; first | (refine EK_ev (Ev_quoI rfl rfl (by omega)) ?_) | (refine EK_ev (Ev_quo rfl rfl (by omega)) ?_)) | (refine ek_lss ?_; first | (refine EK_ev (Ev_lssI rfl rfl) ?_) | (refine EK_ev (Ev_lssS rfl rfl) ?_)))
    | (refine is_ex ?_; first | (refine KJ_blk_exit' rfl ?_))
    | (refine is_code ?_; first | (refine KJ_cond_dec rfl (fun _ => ?_) (fun _ => ?_) <;> first | (exfalso; omega) | skip) | (refine KJ_cond_t rfl ?_) | (refine KJ_cond_f rfl ?_)))
  refine KJ_loop (fun i : {y : Nat × Value // y.1 ≤ n} => [(0, .int .u64 ((x / 256 ^ i.1.1 : Nat) : Int)), (1, .int .i64 (n : Nat)), (5, i.1.2), (6, .int .i64 (i.1.1 : Nat))]) (fun i => [] ++ [rowP i.1.2 5 1 i.1.1 (bvs (putB (x : Nat) i.1.1))] ++ R) (fun i => n - i.1.1) ⟨(0, .slice none 0 0), by omega⟩ ?_ (fun g q => nilrow3 (H := []) g q) (fun ⟨⟨k, v⟩, hk⟩ => ?_)
  · have e : ((x / 256 ^ 0 : Nat) : Int) = (x : Nat) := by simp
    dsimp only
    rw [e]
    exact xB
  dsimp only at hk ⊢
  by_cases hlt : k < n
  · have hxk : x / 256 ^ k < 2 ^ 64 := Nat.lt_of_le_of_lt (Nat.div_le_self _ _) hx
    have hcv : IntKind.u8.wrap ((x / 256 ^ k : Nat) : Int) = (((byteAt (x : Nat) k).toNat : Nat) : Int) := by
      rw [u8_wrap, byteAt_div _ _ (by omega), UInt8.toNat_ofNat']
      congr 1
      omega
    have hq : IntKind.u64.wrap (((x / 256 ^ k : Nat) : Int).tdiv 256) = ((x / 256 ^ (k + 1) : Nat) : Int) := by
      rw [u64_tdiv _ hxk, Nat.div_div_eq_div_mul, Nat.pow_succ]
    have hnx : bvs (putB (x : Nat) k) ++ [.int .u8 ((byteAt (x : Nat) k).toNat : Int)] = bvs (putB (x : Nat) (k + 1)) := by rw [putB_next]; simp [bvs, bv]
    repeat' (first 
    | refine KJ_stp (by first | constructor | fail) ?_
    | (refine is_oper ?_; first | (refine is_append ?_; first | (refine KJ_append (a2 := 0) rfl rfl (by rfl) (by omega) xS (Src.cells (i := 1) xS xC) (by rfl) (by omega) xO (by omega) (by omega) rfl rfl (fun gw cw => ?_))) | (refine is_bslice ?_; first | (refine KJ_bslice1 rfl xF (by rfl) (by omega) rfl (fun _ => ?_))) | (refine KJ_ek rfl ?_) | (refine KJ_ek0 ?_))
    | (refine is_ek ?_; first | (refine xmv ?_) | (refine xas ?_) | (refine ek_conv ?_; first | (refine EK_ev (Ev_convI_v rfl hcv) ?_) | (refine EK_ev (Ev_convI64 rfl (by omega)) ?_) | (refine EK_ev (Ev_convI rfl) ?_) | (refine EK_ev (Ev_convS rfl) ?_)) | (refine ek_add ?_; first | (refine EK_ev (Ev_addI_v (r := ((k + 1 : Nat) : Int)) rfl rfl (by omega) (by omega)) ?_) | (refine EK_ev (Ev_addI rfl rfl (by omega)) ?_) | (refine EK_ev (Ev_addS rfl rfl (by simp <;> omega)) ?_) | (refine EK_ev (Ev_add rfl rfl) ?_)) | (refine ek_quo ?_; first | (refine EK_ev (Ev_quo_v rfl rfl (by omega) hq) ?_) | (refine EK_ev (Ev_quoI rfl rfl (by omega)) ?_) | (refine EK_ev (Ev_quo rfl rfl (by omega)) ?_)) | (refine ek_lss ?_; first | (refine EK_ev (Ev_lssI rfl rfl) ?_) | (refine EK_ev (Ev_lssS rfl rfl) ?_)))
    | (refine is_ex ?_; first | (refine KJ_blk_exit' rfl ?_))
    | (refine is_code ?_; first | (refine KJ_cond_dec rfl (fun _ => ?_) (fun _ => ?_) <;> first | (exfalso; omega) | skip) | (refine KJ_cond_t rfl ?_) | (refine KJ_cond_f rfl ?_)))
    all_goals rw [hnx]
    all_goals refine KJ_again ⟨(k + 1, _), by omega⟩ (by show n - (k + 1) < n - k; omega) xB (xN)
  · have hkn : k = n := by omega
    subst hkn
    refine KJ.row_shape3 (v := v) xS hn0 (fun g c e => ?_)
    subst e
    repeat' (first 
    | refine KJ_stp (by first | constructor | fail) ?_
    | (refine is_oper ?_; first | (refine KJ_ek rfl ?_) | (refine KJ_ek0 ?_))
    | (refine is_ek ?_; first | (refine xmv ?_) | (refine xas ?_) | (refine ek_conv ?_; first | (refine EK_ev (Ev_bytesRow rfl xS) ?_) | (refine EK_ev (Ev_convI64 rfl (by omega)) ?_) | (refine EK_ev (Ev_convI rfl) ?_) | (refine EK_ev (Ev_convS rfl) ?_)) | (refine ek_add ?_; first | (refine EK_ev (Ev_addI rfl rfl (by omega)) ?_) | (refine EK_ev (Ev_addS rfl rfl (by simp <;> omega)) ?_) | (refine EK_ev (Ev_add rfl rfl) ?_)) | (refine ek_quo ?_; first | (refine EK_ev (Ev_quoI rfl rfl (by omega)) ?_) | (refine EK_ev (Ev_quo rfl rfl (by omega)) ?_)) | (refine ek_lss ?_; first | (refine EK_ev (Ev_lssI rfl rfl) ?_) | (refine EK_ev (Ev_lssS rfl rfl) ?_)))
    | (refine is_ex ?_; first | (refine KJ_blk_exit' rfl ?_))
    | (refine is_code ?_; first | (refine KJ_cond_dec rfl (fun _ => ?_) (fun _ => ?_) <;> first | (exfalso; omega) | skip) | (refine KJ_cond_t rfl ?_) | (refine KJ_cond_f rfl ?_)))
    all_goals (exact xdn ())
end
end Go.Proofs.YteklldbfdmaafaaDoor
/-
  The document's sectors (remitref07): Seal, Open, Ends.
-/
namespace Go.Proofs.YteklldbfdmaafaaDoor
open Go Go.RowKit
section
variable {P : Program} {W : World} {n d m : Nat} {k : KK} {E : Env} {H : List SP} {x y z : Operand} {t e : TypeId}
theorem KJ_makeBytesV {C : Int} {l : List UInt8} (hx : Env.ev E x = some (.int .i64 C)) (hy : Env.ev E y = some (.int .i64 C)) [hu : UIs P t (.slice e)] [hs : SzIs P e 1] [hb : ByIs P e 1] [hz : ZcIs P e [.int .u8 0]] (_ : t = t) (hC : C = (m : Int)) (hm : m ≤ 140737488355328) (hl : List.replicate m 0 = l) (hn : Nat.blt d n = true)
    (h : ∀ g, KJ W n k ((d, .slice (some ⟨g, 0, none⟩) m m) :: E) (cellsP g (bvs l) e :: H)) : KJ W n (.oper P (.makeSlice t x y) (some d) k) E H := by
  subst hl; exact KJ_makeBytes hx hy hC hm hn h
theorem Ev_sliceStr_v7 {l r : List UInt8} {i j : Int} {ki kj : IntKind} (hx : Env.ev E x = some (strV l)) (hy : Env.ev E y = some (.int ki i)) (hz : Env.ev E z = some (.int kj j)) [hu : UIs P t .string] (hb : 0 ≤ i ∧ i ≤ j ∧ j ≤ l.length) (h : (l.take j.toNat).drop i.toNat = r) : Ev P W n E H (.slice t x (some y) (some z) none) (strV r) := by
  subst h; exact Ev_sliceStr hx hy hz hb
end
section
variable {W : World}
theorem rseal_zero (pl : List UInt8) : Ct Tryd.prog W 90 [.int .u64 0, strV pl] [] (fun _ : Unit => .tuple #[strV [], .int .i64 6]) (fun _ => []) := by
  refine Ct.enter Tryd.func90 rfl Tryd.ntmps90 (by simp) (fun R => ?_)
  repeat' (first 
    | refine KJ_stp (by first | constructor | fail) ?_
    | (refine is_oper ?_; first | (refine KJ_ek rfl ?_) | (refine KJ_ek0 ?_))
    | (refine is_ek ?_; first | (refine xmv ?_) | (refine xas ?_) | (refine ek_conv ?_; first | (refine EK_ev (Ev_convI64 rfl (by omega)) ?_) | (refine EK_ev (Ev_convI rfl) ?_) | (refine EK_ev (Ev_convS rfl) ?_)) | (refine ek_len ?_; first | (refine EK_ev (Ev_len_str rfl) ?_) | (refine EK_ev (Ev_len_slice rfl) ?_) | (refine EK_ev (Ev_len_arr rfl) ?_) | (refine EK_ev (Ev_len_map rfl xS) ?_)) | (refine ek_add ?_; first | (refine EK_ev (Ev_addI rfl rfl (by omega)) ?_) | (refine EK_ev (Ev_addS rfl rfl (by simp <;> omega)) ?_) | (refine EK_ev (Ev_add rfl rfl) ?_)) | (refine ek_sub ?_; first | (refine EK_ev (Ev_subI rfl rfl (by omega)) ?_) | (refine EK_ev (Ev_sub rfl rfl) ?_)) | (refine ek_eql ?_; first | (refine EK_ev (Ev_eqlI_t rfl rfl rfl) ?_) | (refine EK_ev (Ev_eqlI rfl rfl) ?_) | (refine EK_ev (Ev_eqlS rfl rfl) ?_) | (refine EK_ev (Ev_eqlNil rfl rfl) ?_) | (refine EK_ev (Ev_eqlB rfl rfl) ?_) | (refine EK_ev (Ev_eqlO rfl rfl rfl (fun _ => rfl)) ?_)) | (refine ek_gtr ?_; first | (refine EK_ev (Ev_gtrI rfl rfl) ?_) | (refine EK_ev (Ev_gtrS rfl rfl) ?_)))
    | (refine is_ex ?_; first | (refine KJ_blk_exit' rfl ?_))
    | (refine is_code ?_; first | (refine KJ_cond_dec rfl (fun _ => ?_) (fun _ => ?_) <;> first | (exfalso; omega) | skip) | (refine KJ_cond_t rfl ?_) | (refine KJ_cond_f rfl ?_) | (refine KJ_draws (id := 5) (.op 0 (.op 2 (.op 3 (.op 4 (.op 7 (.op 9 (.op 10 (.op 11 (.alt (.ef 1 [11, 10, 9, 7, 4, 3, 2] (.alt (.ef 5 [11, 10, 9, 7] (.op 6 (.op 8 (.ef 12 [8, 6, 7] (.op 13 (.op 14 (.op 15 .nil))))))) (.ef 12 [7, 4, 3, 2] (.op 13 (.ef 5 [13, 7] (.op 6 (.op 8 (.op 14 (.op 15 .nil))))))))) (.ef 12 [7, 4, 3, 2, 0] (.op 13 (.ef 1 [13, 7, 4, 3, 2] (.ef 5 [13, 7] (.op 6 (.op 8 (.op 14 (.op 15 .nil))))))))))))))))) (by kernel_rfl) (by kernel_rfl) ?_))
    | (refine is_fw ?_; first | (refine FW_open rfl ?_) | (refine FW_nil ?_) | (refine FW_ef rfl ?_) | (refine FW_efg rfl rfl rfl ?_) | (refine FW_alt ?_ ?_))
    | (refine is_fo ?_; first | (refine FO_dec_t rfl rfl (fun _ => ?_) (fun _ => ?_) <;> first | (exfalso; omega) | skip) | (refine FO_dec_f rfl rfl (fun _ => ?_) (fun _ => ?_) <;> first | (exfalso; omega) | skip) | (refine FO_no rfl rfl rfl rfl ?_) | (refine FO_ekg rfl rfl rfl ?_) | (refine FO_ek rfl ?_))
    | (refine is_ro ?_; first | (refine RO_no rfl rfl rfl rfl ?_) | (refine RO_ekg rfl rfl ?_) | (refine RO_ek ?_))
    | (refine is_raw ?_; first | (refine KJ_flow ?_ ?_))
    | (refine AtR_mk rfl ?_)
    | exact Rech.nil
    | (refine Rech_open rfl ?_))
  all_goals (exact xdn ())
set_option maxHeartbeats 1000000 in
set_option maxRecDepth 100000 in
theorem rseal_ok (stamp : Nat) (h0 : stamp ≠ 0) (hst : stamp < 2 ^ 64) (pl : List UInt8) (h : pl.length ≤ 234) : Ct Tryd.prog W 90 [.int .u64 (stamp : Nat), strV pl] [] (fun _ : Unit => .tuple #[strV (sealB (stamp : Nat) pl), .int .i64 0]) (fun _ => []) := by
  have q1 : ((stamp : Nat) : Int) ≠ 0 := by omega
  have q2 : decide ((234 : Int) < (pl.length : Nat)) = false := decide_eq_false (by omega)
  have hw : IntKind.u64.wrap (pl.length : Nat) = ((pl.length : Nat) : Int) := u64_of_lt _ (by omega)
  obtain ⟨L8, hL8⟩ : ∃ L, L = putB (stamp : Nat) 8 := ⟨_, rfl⟩
  obtain ⟨L2, hL2⟩ : ∃ L, L = putB ((pl.length : Nat) : Int) 2 := ⟨_, rfl⟩
  obtain ⟨Z, hZ⟩ : ∃ Z : List UInt8, Z = List.replicate (234 - pl.length) 0 := ⟨_, rfl⟩
  have l8 : L8.length = 8 := by rw [hL8, putB_length]
  have l2 : L2.length = 2 := by rw [hL2, putB_length]
  have lz : Z.length = 234 - pl.length := by rw [hZ, List.length_replicate]
  have c8 : Ct Tryd.prog W 119 [.int .u64 (stamp : Nat), .int .i64 8] [] (fun _ : Unit => strV L8) (fun _ => []) := by rw [hL8]; exact rlow_ct stamp hst 8 (by omega) (by omega)
  have c2 : Ct Tryd.prog W 119 [.int .u64 (pl.length : Nat), .int .i64 2] [] (fun _ : Unit => strV L2) (fun _ => []) := by rw [hL2]; exact rlow_ct pl.length (by omega) 2 (by omega) (by omega)
  have hhead : L8 ++ L2 ++ pl ++ Z = sealHead (stamp : Nat) pl := by
    unfold sealHead
    rw [hL8, hL2, hZ, hw]
    simp only [List.append_assoc]
    rfl
  have hsl := sealHead_length ((stamp : Nat) : Int) pl h
  have hcb := crcSum_bounds (sealHead (stamp : Nat) pl)
  obtain ⟨C, hC⟩ : ∃ C : Nat, crcSum (sealHead (stamp : Nat) pl) = (C : Nat) := ⟨(crcSum (sealHead (stamp : Nat) pl)).toNat, by omega⟩
  have hcC : C < 4294967296 := by omega
  have cs : Ct Tryd.prog W 120 [strV (L8 ++ L2 ++ pl ++ Z)] [] (fun _ : Unit => .int .u32 (C : Nat)) (fun _ => []) := by
    rw [hhead, ← hC]; exact rsum_ct _ (by omega)
  have hwc : IntKind.u64.wrap (C : Nat) = ((C : Nat) : Int) := u64_of_lt _ (by omega)
  obtain ⟨L4, hL4⟩ : ∃ L, L = putB (C : Nat) 4 := ⟨_, rfl⟩
  have l4 : L4.length = 4 := by rw [hL4, putB_length]
  have c4 : Ct Tryd.prog W 119 [.int .u64 (C : Nat), .int .i64 4] [] (fun _ : Unit => strV L4) (fun _ => []) := by rw [hL4]; exact rlow_ct C (by omega) 4 (by omega) (by omega)
  have hall : L8 ++ L2 ++ pl ++ Z ++ L4 ++ L8 = sealB (stamp : Nat) pl := by
    rw [seal_concat _ _ h, hhead, hC, hwc, hL4, hL8]
    simp only [List.append_assoc]
  rw [← hall]
  have hZ' : List.replicate (234 - pl.length) (0 : UInt8) = Z := hZ.symm
  clear hall hhead hsl hcb hC hL4 hL8 hL2
  refine Ct.enter Tryd.func90 rfl Tryd.ntmps90 (by simp) (fun R => ?_)
  repeat' (first 
    | refine KJ_stp (by first | constructor | fail) ?_
    | (refine is_oper ?_; first | (refine is_call ?_; first | (refine KJ_call xE c4 xP rfl (fun _ => ?_)) | (refine KJ_call xE cs xP rfl (fun _ => ?_)) | (refine KJ_call xE c2 xP rfl (fun _ => ?_)) | (refine KJ_call xE c8 xP rfl (fun _ => ?_))) | (refine is_mkSlice ?_; first | (refine KJ_makeBytesV (m := 234 - pl.length) rfl rfl rfl (by omega) (by omega) hZ' rfl (fun g => ?_))) | (refine KJ_ek rfl ?_) | (refine KJ_ek0 ?_))
    | (refine is_ek ?_; first | (refine xmv ?_) | (refine xas ?_) | (refine ek_conv ?_; first | (refine EK_ev (Ev_bytesAll rfl xS lz) ?_) | (refine EK_ev (Ev_convI_v rfl hwc) ?_) | (refine EK_ev (Ev_convI_v rfl hw) ?_) | (refine EK_ev (Ev_convI64 rfl (by omega)) ?_) | (refine EK_ev (Ev_convI rfl) ?_) | (refine EK_ev (Ev_convS rfl) ?_)) | (refine ek_len ?_; first | (refine EK_ev (Ev_len_str rfl) ?_) | (refine EK_ev (Ev_len_slice rfl) ?_) | (refine EK_ev (Ev_len_arr rfl) ?_) | (refine EK_ev (Ev_len_map rfl xS) ?_)) | (refine ek_add ?_; first | (refine EK_ev (Ev_addS rfl rfl (by first | omega | (simp only [List.length_append]; omega))) ?_) | (refine EK_ev (Ev_addI rfl rfl (by omega)) ?_) | (refine EK_ev (Ev_addS rfl rfl (by simp <;> omega)) ?_) | (refine EK_ev (Ev_add rfl rfl) ?_)) | (refine ek_sub ?_; first | (refine EK_ev (Ev_subI rfl rfl (by omega)) ?_) | (refine EK_ev (Ev_sub rfl rfl) ?_)) | (refine ek_eql ?_; first | (refine EK_ev (Ev_eqlI_f rfl rfl q1) ?_) | (refine EK_ev (Ev_eqlI rfl rfl) ?_) | (refine EK_ev (Ev_eqlS rfl rfl) ?_) | (refine EK_ev (Ev_eqlNil rfl rfl) ?_) | (refine EK_ev (Ev_eqlB rfl rfl) ?_) | (refine EK_ev (Ev_eqlO rfl rfl rfl (fun _ => rfl)) ?_)) | (refine ek_gtr ?_; first | (refine EK_ev (Ev_gtrI_q rfl rfl q2) ?_) | (refine EK_ev (Ev_gtrI rfl rfl) ?_) | (refine EK_ev (Ev_gtrS rfl rfl) ?_)))
    | (refine is_ex ?_; first | (refine KJ_blk_exit' rfl ?_))
    | (refine is_code ?_; first | (refine KJ_cond_dec rfl (fun _ => ?_) (fun _ => ?_) <;> first | (exfalso; omega) | skip) | (refine KJ_cond_t rfl ?_) | (refine KJ_cond_f rfl ?_) | (refine KJ_draws (id := 5) (.op 0 (.op 2 (.op 3 (.op 4 (.op 7 (.op 9 (.op 10 (.op 11 (.alt (.ef 1 [11, 10, 9, 7, 4, 3, 2] (.alt (.ef 5 [11, 10, 9, 7] (.op 6 (.op 8 (.ef 12 [8, 6, 7] (.op 13 (.op 14 (.op 15 .nil))))))) (.ef 12 [7, 4, 3, 2] (.op 13 (.ef 5 [13, 7] (.op 6 (.op 8 (.op 14 (.op 15 .nil))))))))) (.ef 12 [7, 4, 3, 2, 0] (.op 13 (.ef 1 [13, 7, 4, 3, 2] (.ef 5 [13, 7] (.op 6 (.op 8 (.op 14 (.op 15 .nil))))))))))))))))) (by kernel_rfl) (by kernel_rfl) ?_))
    | (refine is_fw ?_; first | (refine FW_open rfl ?_) | (refine FW_nil ?_) | (refine FW_ef rfl ?_) | (refine FW_efg rfl rfl rfl ?_) | (refine FW_alt ?_ ?_))
    | (refine is_fo ?_; first | (refine FO_dec_t rfl rfl (fun _ => ?_) (fun _ => ?_) <;> first | (exfalso; omega) | skip) | (refine FO_dec_f rfl rfl (fun _ => ?_) (fun _ => ?_) <;> first | (exfalso; omega) | skip) | (refine FO_no rfl rfl rfl rfl ?_) | (refine FO_ekg rfl rfl rfl ?_) | (refine FO_ek rfl ?_))
    | (refine is_ro ?_; first | (refine RO_no rfl rfl rfl rfl ?_) | (refine RO_ekg rfl rfl ?_) | (refine RO_ek ?_))
    | (refine is_raw ?_; first | (refine KJ_flow ?_ ?_))
    | (refine AtR_mk rfl ?_)
    | exact Rech.nil
    | (refine Rech_open rfl ?_))
  all_goals (exact xdn ())
theorem ropen_len (stamp : Int) (raw : List UInt8) (h : raw.length ≠ 256) : Ct Tryd.prog W 116 [.int .u64 stamp, strV raw] [] (fun _ : Unit => .tuple #[strV [], .bool false]) (fun _ => []) := by
  have q1 : ((raw.length : Nat) : Int) ≠ 256 := by omega
  refine Ct.enter Tryd.func116 rfl Tryd.ntmps116 (by simp) (fun R => ?_)
  repeat' (first 
    | refine KJ_stp (by first | constructor | fail) ?_
    | (refine is_list ?_; first | (refine KJ_guard_dec_t rfl rfl rfl (fun _ => ?_) (fun _ => ?_) <;> first | (exfalso; omega) | skip) | (refine KJ_guard_dec_f rfl rfl rfl (fun _ => ?_) (fun _ => ?_) <;> first | (exfalso; omega) | skip) | (refine KJ_guard_yes rfl rfl ?_) | (refine KJ_guard_no rfl rfl rfl rfl ?_))
    | (refine is_oper ?_; first | (refine KJ_ek rfl ?_) | (refine KJ_ek0 ?_))
    | (refine is_ek ?_; first | (refine xmv ?_) | (refine xas ?_) | (refine xpt ?_) | (refine xpf ?_) | (refine ek_conv ?_; first | (refine EK_ev (Ev_convI64 rfl (by omega)) ?_) | (refine EK_ev (Ev_convI rfl) ?_) | (refine EK_ev (Ev_convS rfl) ?_)) | (refine xex ?_) | (refine ek_len ?_; first | (refine EK_ev (Ev_len_str rfl) ?_) | (refine EK_ev (Ev_len_slice rfl) ?_) | (refine EK_ev (Ev_len_arr rfl) ?_) | (refine EK_ev (Ev_len_map rfl xS) ?_)) | (refine ek_add ?_; first | (refine EK_ev (Ev_addI rfl rfl (by omega)) ?_) | (refine EK_ev (Ev_addS rfl rfl (by simp <;> omega)) ?_) | (refine EK_ev (Ev_add rfl rfl) ?_)) | (refine ek_mul ?_; first | (refine EK_ev (Ev_mulI rfl rfl (by omega)) ?_) | (refine EK_ev (Ev_mul rfl rfl) ?_)) | (refine ek_neq ?_; first | (refine EK_ev (Ev_neqI_t rfl rfl q1) ?_) | (refine EK_ev (Ev_neqI rfl rfl) ?_) | (refine EK_ev (Ev_neqS rfl rfl) ?_) | (refine EK_ev (Ev_neqNil rfl rfl) ?_) | (refine EK_ev (Ev_neqB rfl rfl) ?_) | (refine EK_ev (Ev_neqO rfl rfl rfl (fun _ => rfl)) ?_)) | (refine ek_gtr ?_; first | (refine EK_ev (Ev_gtrI rfl rfl) ?_) | (refine EK_ev (Ev_gtrS rfl rfl) ?_)))
    | (refine is_ex ?_; first | (refine KJ_blk_exit' rfl ?_))
    | (refine is_code ?_; first | (refine KJ_cond_dec rfl (fun _ => ?_) (fun _ => ?_) <;> first | (exfalso; omega) | skip) | (refine KJ_cond_t rfl ?_) | (refine KJ_cond_f rfl ?_) | (refine KJ_draws (id := 3) (.op 0 (.op 1 (.op 2 (.op 3 (.op 4 (.op 5 (.op 6 (.op 7 (.op 8 .nil))))))))) (by kernel_rfl) (by kernel_rfl) ?_))
    | (refine is_fw ?_; first | (refine FW_open rfl ?_) | (refine FW_nil ?_) | (refine FW_ef rfl ?_) | (refine FW_efg rfl rfl rfl ?_) | (refine FW_alt ?_ ?_))
    | (refine is_fo ?_; first | (refine FO_dec_t rfl rfl (fun _ => ?_) (fun _ => ?_) <;> first | (exfalso; omega) | skip) | (refine FO_dec_f rfl rfl (fun _ => ?_) (fun _ => ?_) <;> first | (exfalso; omega) | skip) | (refine FO_no rfl rfl rfl rfl ?_) | (refine FO_ekg rfl rfl rfl ?_) | (refine FO_ek rfl ?_))
    | (refine is_ro ?_; first | (refine RO_no rfl rfl rfl rfl ?_) | (refine RO_ekg rfl rfl ?_) | (refine RO_ek ?_))
    | (refine is_raw ?_; first | (refine KJ_flow ?_ ?_))
    | (refine AtR_mk rfl ?_)
    | exact Rech.nil
    | (refine Rech_open rfl ?_))
  all_goals (exact xdn ())
set_option maxHeartbeats 1000000 in
theorem ropen_ct (stamp : Nat) (hst : stamp < 2 ^ 64) (raw : List UInt8) : Ct Tryd.prog W 116 [.int .u64 (stamp : Nat), strV raw] [] (fun _ : Unit => .tuple #[strV ((openS (stamp : Nat) raw).getD []), .bool (openS (stamp : Nat) raw).isSome]) (fun _ => []) := by
  by_cases hl : raw.length ≠ 256
  · have e : openS (stamp : Nat) raw = none := by unfold openS; rw [if_pos hl]; split <;> rfl
    rw [e]; exact ropen_len _ raw hl
  have hl : raw.length = 256 := by omega
  have q1 : ((raw.length : Nat) : Int) = 256 := by omega
  obtain ⟨c8, h8⟩ : ∃ c, raw[8]? = some c := ⟨_, List.getElem?_eq_getElem (by omega)⟩
  obtain ⟨c9, h9⟩ : ∃ c, raw[9]? = some c := ⟨_, List.getElem?_eq_getElem (by omega)⟩
  have hN : openN raw = c8.toNat + 256 * c9.toNat := by rw [openN_val]; simp [List.getD, h8, h9]
  have b8 := UInt8.toNat_lt c8
  have b9 := UInt8.toNat_lt c9
  have hm : (256 : Int) * ((c9.toNat : Nat) : Int) = ((256 * c9.toNat : Nat) : Int) := by omega
  have ha : ((c8.toNat : Nat) : Int) + ((256 * c9.toNat : Nat) : Int) = ((openN raw : Nat) : Int) := by rw [hN]; omega
  have i8 : raw[(8 : Int).toNat]? = some c8 := h8
  have i9 : raw[(9 : Int).toNat]? = some c9 := h9
  have hn : openN raw < 65536 + 256 := by omega
  obtain ⟨n, hnn⟩ : ∃ n, n = openN raw := ⟨_, rfl⟩
  by_cases hbig : 234 < openN raw
  · have q2 : decide ((234 : Int) < ((n : Nat) : Int)) = true := decide_eq_true (by omega)
    have e : openS (stamp : Nat) raw = none := by unfold openS; rw [if_neg (show ¬ raw.length ≠ 256 by omega), if_pos hbig]; split <;> rfl
    rw [e]
    rw [← hnn] at ha hn
    refine Ct.enter Tryd.func116 rfl Tryd.ntmps116 (by simp) (fun R => ?_)
    repeat' (first 
    | refine KJ_stp (by first | constructor | fail) ?_
    | (refine is_list ?_; first | (refine KJ_guard_dec_t rfl rfl rfl (fun _ => ?_) (fun _ => ?_) <;> first | (exfalso; omega) | skip) | (refine KJ_guard_dec_f rfl rfl rfl (fun _ => ?_) (fun _ => ?_) <;> first | (exfalso; omega) | skip) | (refine KJ_guard_yes rfl rfl ?_) | (refine KJ_guard_no rfl rfl rfl rfl ?_))
    | (refine is_oper ?_; first | (refine KJ_ek rfl ?_) | (refine KJ_ek0 ?_))
    | (refine is_ek ?_; first | (refine xmv ?_) | (refine xas ?_) | (refine xpt ?_) | (refine xpf ?_) | (refine ek_conv ?_; first | (refine EK_ev (Ev_convI64 rfl (by omega)) ?_) | (refine EK_ev (Ev_convI rfl) ?_) | (refine EK_ev (Ev_convS rfl) ?_)) | (refine xex ?_) | (refine ek_index ?_; first | (refine EK_ev (Ev_indexStr rfl rfl (by omega) i9) ?_) | (refine EK_ev (Ev_indexStr rfl rfl (by omega) i8) ?_)) | (refine ek_len ?_; first | (refine EK_ev (Ev_len_str rfl) ?_) | (refine EK_ev (Ev_len_slice rfl) ?_) | (refine EK_ev (Ev_len_arr rfl) ?_) | (refine EK_ev (Ev_len_map rfl xS) ?_)) | (refine ek_add ?_; first | (refine EK_ev (Ev_addI_v rfl rfl ha (by omega)) ?_) | (refine EK_ev (Ev_addI rfl rfl (by omega)) ?_) | (refine EK_ev (Ev_addS rfl rfl (by simp <;> omega)) ?_) | (refine EK_ev (Ev_add rfl rfl) ?_)) | (refine ek_mul ?_; first | (refine EK_ev (Ev_mulI_v rfl rfl hm (by omega)) ?_) | (refine EK_ev (Ev_mulI rfl rfl (by omega)) ?_) | (refine EK_ev (Ev_mul rfl rfl) ?_)) | (refine ek_neq ?_; first | (refine EK_ev (Ev_neqI_f rfl rfl q1) ?_) | (refine EK_ev (Ev_neqI rfl rfl) ?_) | (refine EK_ev (Ev_neqS rfl rfl) ?_) | (refine EK_ev (Ev_neqNil rfl rfl) ?_) | (refine EK_ev (Ev_neqB rfl rfl) ?_) | (refine EK_ev (Ev_neqO rfl rfl rfl (fun _ => rfl)) ?_)) | (refine ek_gtr ?_; first | (refine EK_ev (Ev_gtrI_q rfl rfl q2) ?_) | (refine EK_ev (Ev_gtrI rfl rfl) ?_) | (refine EK_ev (Ev_gtrS rfl rfl) ?_)))
    | (refine is_ex ?_; first | (refine KJ_blk_exit' rfl ?_))
    | (refine is_code ?_; first | (refine KJ_cond_dec rfl (fun _ => ?_) (fun _ => ?_) <;> first | (exfalso; omega) | skip) | (refine KJ_cond_t rfl ?_) | (refine KJ_cond_f rfl ?_) | (refine KJ_draws (id := 3) (.op 0 (.op 1 (.op 2 (.op 3 (.op 4 (.op 5 (.op 6 (.op 7 (.op 8 .nil))))))))) (by kernel_rfl) (by kernel_rfl) ?_))
    | (refine is_fw ?_; first | (refine FW_open rfl ?_) | (refine FW_nil ?_) | (refine FW_ef rfl ?_) | (refine FW_efg rfl rfl rfl ?_) | (refine FW_alt ?_ ?_))
    | (refine is_fo ?_; first | (refine FO_dec_t rfl rfl (fun _ => ?_) (fun _ => ?_) <;> first | (exfalso; omega) | skip) | (refine FO_dec_f rfl rfl (fun _ => ?_) (fun _ => ?_) <;> first | (exfalso; omega) | skip) | (refine FO_no rfl rfl rfl rfl ?_) | (refine FO_ekg rfl rfl rfl ?_) | (refine FO_ek rfl ?_))
    | (refine is_ro ?_; first | (refine RO_no rfl rfl rfl rfl ?_) | (refine RO_ekg rfl rfl ?_) | (refine RO_ek ?_))
    | (refine is_raw ?_; first | (refine KJ_flow ?_ ?_))
    | (refine AtR_mk rfl ?_)
    | exact Rech.nil
    | (refine Rech_open rfl ?_))
    all_goals (exact xdn ())
  · have q2 : decide ((234 : Int) < ((n : Nat) : Int)) = false := decide_eq_false (by omega)
    have hP : (raw.take (((10 + n : Nat) : Int)).toNat).drop (10 : Int).toNat = openP raw := by rw [Int.toNat_natCast, hnn]; rfl
    have hPl : (openP raw).length ≤ 234 := by rw [openP_length raw hl (by omega)]; omega
    rw [← hnn] at ha hn
    obtain ⟨pl, hpl⟩ : ∃ pl, pl = openP raw := ⟨_, rfl⟩
    have e : openS (stamp : Nat) raw = if ((stamp : Nat) : Int) = 0 then none else if sealB (stamp : Nat) pl = raw then some pl else none := by
      unfold openS
      rw [if_neg (show ¬ raw.length ≠ 256 by omega), if_neg hbig, hpl]
    rw [← hpl] at hP hPl
    rw [e]
    by_cases h0 : stamp = 0
    · subst h0
      rw [if_pos (by simp)]
      have c1 := rseal_zero (W := W) pl
      refine Ct.enter Tryd.func116 rfl Tryd.ntmps116 (by simp) (fun R => ?_)
      repeat' (first 
    | refine KJ_stp (by first | constructor | fail) ?_
    | (refine is_list ?_; first | (refine KJ_guard_dec_t rfl rfl rfl (fun _ => ?_) (fun _ => ?_) <;> first | (exfalso; omega) | skip) | (refine KJ_guard_dec_f rfl rfl rfl (fun _ => ?_) (fun _ => ?_) <;> first | (exfalso; omega) | skip) | (refine KJ_guard_yes rfl rfl ?_) | (refine KJ_guard_no rfl rfl rfl rfl ?_))
    | (refine is_oper ?_; first | (refine is_call ?_; first | (refine KJ_call xE c1 xP rfl (fun _ => ?_))) | (refine KJ_ek rfl ?_) | (refine KJ_ek0 ?_))
    | (refine is_ek ?_; first | (refine xmv ?_) | (refine xas ?_) | (refine xpt ?_) | (refine xpf ?_) | (refine ek_conv ?_; first | (refine EK_ev (Ev_convI64 rfl (by omega)) ?_) | (refine EK_ev (Ev_convI rfl) ?_) | (refine EK_ev (Ev_convS rfl) ?_)) | (refine xex ?_) | (refine ek_index ?_; first | (refine EK_ev (Ev_indexStr rfl rfl (by omega) i9) ?_) | (refine EK_ev (Ev_indexStr rfl rfl (by omega) i8) ?_)) | (refine ek_slice ?_; first | (refine EK_ev (Ev_sliceStr_v7 rfl rfl rfl (by omega) hP) ?_)) | (refine ek_len ?_; first | (refine EK_ev (Ev_len_str rfl) ?_) | (refine EK_ev (Ev_len_slice rfl) ?_) | (refine EK_ev (Ev_len_arr rfl) ?_) | (refine EK_ev (Ev_len_map rfl xS) ?_)) | (refine ek_add ?_; first | (refine EK_ev (Ev_addI_v (r := ((10 + n : Nat) : Int)) rfl rfl (by omega) (by omega)) ?_) | (refine EK_ev (Ev_addI_v rfl rfl ha (by omega)) ?_) | (refine EK_ev (Ev_addI rfl rfl (by omega)) ?_) | (refine EK_ev (Ev_addS rfl rfl (by simp <;> omega)) ?_) | (refine EK_ev (Ev_add rfl rfl) ?_)) | (refine ek_mul ?_; first | (refine EK_ev (Ev_mulI_v rfl rfl hm (by omega)) ?_) | (refine EK_ev (Ev_mulI rfl rfl (by omega)) ?_) | (refine EK_ev (Ev_mul rfl rfl) ?_)) | (refine ek_neq ?_; first | (refine EK_ev (Ev_neqI_t rfl rfl (by decide)) ?_) | (refine EK_ev (Ev_neqI_f rfl rfl q1) ?_) | (refine EK_ev (Ev_neqI rfl rfl) ?_) | (refine EK_ev (Ev_neqS rfl rfl) ?_) | (refine EK_ev (Ev_neqNil rfl rfl) ?_) | (refine EK_ev (Ev_neqB rfl rfl) ?_) | (refine EK_ev (Ev_neqO rfl rfl rfl (fun _ => rfl)) ?_)) | (refine ek_gtr ?_; first | (refine EK_ev (Ev_gtrI_q rfl rfl q2) ?_) | (refine EK_ev (Ev_gtrI rfl rfl) ?_) | (refine EK_ev (Ev_gtrS rfl rfl) ?_)))
    | (refine is_ex ?_; first | (refine KJ_blk_exit' rfl ?_))
    | (refine is_code ?_; first | (refine KJ_cond_dec rfl (fun _ => ?_) (fun _ => ?_) <;> first | (exfalso; omega) | skip) | (refine KJ_cond_t rfl ?_) | (refine KJ_cond_f rfl ?_) | (refine KJ_draws (id := 3) (.op 0 (.op 1 (.op 2 (.op 3 (.op 4 (.op 5 (.op 6 (.op 7 (.op 8 .nil))))))))) (by kernel_rfl) (by kernel_rfl) ?_))
    | (refine is_fw ?_; first | (refine FW_open rfl ?_) | (refine FW_nil ?_) | (refine FW_ef rfl ?_) | (refine FW_efg rfl rfl rfl ?_) | (refine FW_alt ?_ ?_))
    | (refine is_fo ?_; first | (refine FO_dec_t rfl rfl (fun _ => ?_) (fun _ => ?_) <;> first | (exfalso; omega) | skip) | (refine FO_dec_f rfl rfl (fun _ => ?_) (fun _ => ?_) <;> first | (exfalso; omega) | skip) | (refine FO_no rfl rfl rfl rfl ?_) | (refine FO_ekg rfl rfl rfl ?_) | (refine FO_ek rfl ?_))
    | (refine is_ro ?_; first | (refine RO_no rfl rfl rfl rfl ?_) | (refine RO_ekg rfl rfl ?_) | (refine RO_ek ?_))
    | (refine is_raw ?_; first | (refine KJ_flow ?_ ?_))
    | (refine AtR_mk rfl ?_)
    | exact Rech.nil
    | (refine Rech_open rfl ?_))
      all_goals (exact xdn ())
    · rw [if_neg (by omega)]
      have c1 := rseal_ok (W := W) stamp h0 hst pl hPl
      by_cases hs : sealB (stamp : Nat) pl = raw
      · rw [if_pos hs]
        refine Ct.enter Tryd.func116 rfl Tryd.ntmps116 (by simp) (fun R => ?_)
        repeat' (first 
    | refine KJ_stp (by first | constructor | fail) ?_
    | (refine is_list ?_; first | (refine KJ_guard_dec_t rfl rfl rfl (fun _ => ?_) (fun _ => ?_) <;> first | (exfalso; omega) | skip) | (refine KJ_guard_dec_f rfl rfl rfl (fun _ => ?_) (fun _ => ?_) <;> first | (exfalso; omega) | skip) | (refine KJ_guard_yes rfl rfl ?_) | (refine KJ_guard_no rfl rfl rfl rfl ?_))
    | (refine is_oper ?_; first | (refine is_call ?_; first | (refine KJ_call xE c1 xP rfl (fun _ => ?_))) | (refine KJ_ek rfl ?_) | (refine KJ_ek0 ?_))
    | (refine is_ek ?_; first | (refine xmv ?_) | (refine xas ?_) | (refine xpt ?_) | (refine xpf ?_) | (refine ek_conv ?_; first | (refine EK_ev (Ev_convI64 rfl (by omega)) ?_) | (refine EK_ev (Ev_convI rfl) ?_) | (refine EK_ev (Ev_convS rfl) ?_)) | (refine xex ?_) | (refine ek_index ?_; first | (refine EK_ev (Ev_indexStr rfl rfl (by omega) i9) ?_) | (refine EK_ev (Ev_indexStr rfl rfl (by omega) i8) ?_)) | (refine ek_slice ?_; first | (refine EK_ev (Ev_sliceStr_v7 rfl rfl rfl (by omega) hP) ?_)) | (refine ek_len ?_; first | (refine EK_ev (Ev_len_str rfl) ?_) | (refine EK_ev (Ev_len_slice rfl) ?_) | (refine EK_ev (Ev_len_arr rfl) ?_) | (refine EK_ev (Ev_len_map rfl xS) ?_)) | (refine ek_add ?_; first | (refine EK_ev (Ev_addI_v (r := ((10 + n : Nat) : Int)) rfl rfl (by omega) (by omega)) ?_) | (refine EK_ev (Ev_addI_v rfl rfl ha (by omega)) ?_) | (refine EK_ev (Ev_addI rfl rfl (by omega)) ?_) | (refine EK_ev (Ev_addS rfl rfl (by simp <;> omega)) ?_) | (refine EK_ev (Ev_add rfl rfl) ?_)) | (refine ek_mul ?_; first | (refine EK_ev (Ev_mulI_v rfl rfl hm (by omega)) ?_) | (refine EK_ev (Ev_mulI rfl rfl (by omega)) ?_) | (refine EK_ev (Ev_mul rfl rfl) ?_)) | (refine ek_neq ?_; first | (refine EK_ev (Ev_neqS_f rfl rfl hs) ?_) | (refine EK_ev (Ev_neqI_f rfl rfl (by rfl)) ?_) | (refine EK_ev (Ev_neqI_f rfl rfl q1) ?_) | (refine EK_ev (Ev_neqI rfl rfl) ?_) | (refine EK_ev (Ev_neqS rfl rfl) ?_) | (refine EK_ev (Ev_neqNil rfl rfl) ?_) | (refine EK_ev (Ev_neqB rfl rfl) ?_) | (refine EK_ev (Ev_neqO rfl rfl rfl (fun _ => rfl)) ?_)) | (refine ek_gtr ?_; first | (refine EK_ev (Ev_gtrI_q rfl rfl q2) ?_) | (refine EK_ev (Ev_gtrI rfl rfl) ?_) | (refine EK_ev (Ev_gtrS rfl rfl) ?_)))
    | (refine is_ex ?_; first | (refine KJ_blk_exit' rfl ?_))
    | (refine is_code ?_; first | (refine KJ_cond_dec rfl (fun _ => ?_) (fun _ => ?_) <;> first | (exfalso; omega) | skip) | (refine KJ_cond_t rfl ?_) | (refine KJ_cond_f rfl ?_) | (refine KJ_draws (id := 3) (.op 0 (.op 1 (.op 2 (.op 3 (.op 4 (.op 5 (.op 6 (.op 7 (.op 8 .nil))))))))) (by kernel_rfl) (by kernel_rfl) ?_))
    | (refine is_fw ?_; first | (refine FW_open rfl ?_) | (refine FW_nil ?_) | (refine FW_ef rfl ?_) | (refine FW_efg rfl rfl rfl ?_) | (refine FW_alt ?_ ?_))
    | (refine is_fo ?_; first | (refine FO_dec_t rfl rfl (fun _ => ?_) (fun _ => ?_) <;> first | (exfalso; omega) | skip) | (refine FO_dec_f rfl rfl (fun _ => ?_) (fun _ => ?_) <;> first | (exfalso; omega) | skip) | (refine FO_no rfl rfl rfl rfl ?_) | (refine FO_ekg rfl rfl rfl ?_) | (refine FO_ek rfl ?_))
    | (refine is_ro ?_; first | (refine RO_no rfl rfl rfl rfl ?_) | (refine RO_ekg rfl rfl ?_) | (refine RO_ek ?_))
    | (refine is_raw ?_; first | (refine KJ_flow ?_ ?_))
    | (refine AtR_mk rfl ?_)
    | exact Rech.nil
    | (refine Rech_open rfl ?_))
        all_goals (exact xdn ())
      · rw [if_neg hs]
        refine Ct.enter Tryd.func116 rfl Tryd.ntmps116 (by simp) (fun R => ?_)
        repeat' (first 
    | refine KJ_stp (by first | constructor | fail) ?_
    | (refine is_list ?_; first | (refine KJ_guard_dec_t rfl rfl rfl (fun _ => ?_) (fun _ => ?_) <;> first | (exfalso; omega) | skip) | (refine KJ_guard_dec_f rfl rfl rfl (fun _ => ?_) (fun _ => ?_) <;> first | (exfalso; omega) | skip) | (refine KJ_guard_yes rfl rfl ?_) | (refine KJ_guard_no rfl rfl rfl rfl ?_))
    | (refine is_oper ?_; first | (refine is_call ?_; first | (refine KJ_call xE c1 xP rfl (fun _ => ?_))) | (refine KJ_ek rfl ?_) | (refine KJ_ek0 ?_))
    | (refine is_ek ?_; first | (refine xmv ?_) | (refine xas ?_) | (refine xpt ?_) | (refine xpf ?_) | (refine ek_conv ?_; first | (refine EK_ev (Ev_convI64 rfl (by omega)) ?_) | (refine EK_ev (Ev_convI rfl) ?_) | (refine EK_ev (Ev_convS rfl) ?_)) | (refine xex ?_) | (refine ek_index ?_; first | (refine EK_ev (Ev_indexStr rfl rfl (by omega) i9) ?_) | (refine EK_ev (Ev_indexStr rfl rfl (by omega) i8) ?_)) | (refine ek_slice ?_; first | (refine EK_ev (Ev_sliceStr_v7 rfl rfl rfl (by omega) hP) ?_)) | (refine ek_len ?_; first | (refine EK_ev (Ev_len_str rfl) ?_) | (refine EK_ev (Ev_len_slice rfl) ?_) | (refine EK_ev (Ev_len_arr rfl) ?_) | (refine EK_ev (Ev_len_map rfl xS) ?_)) | (refine ek_add ?_; first | (refine EK_ev (Ev_addI_v (r := ((10 + n : Nat) : Int)) rfl rfl (by omega) (by omega)) ?_) | (refine EK_ev (Ev_addI_v rfl rfl ha (by omega)) ?_) | (refine EK_ev (Ev_addI rfl rfl (by omega)) ?_) | (refine EK_ev (Ev_addS rfl rfl (by simp <;> omega)) ?_) | (refine EK_ev (Ev_add rfl rfl) ?_)) | (refine ek_mul ?_; first | (refine EK_ev (Ev_mulI_v rfl rfl hm (by omega)) ?_) | (refine EK_ev (Ev_mulI rfl rfl (by omega)) ?_) | (refine EK_ev (Ev_mul rfl rfl) ?_)) | (refine ek_neq ?_; first | (refine EK_ev (Ev_neqS_t rfl rfl hs) ?_) | (refine EK_ev (Ev_neqI_f rfl rfl (by rfl)) ?_) | (refine EK_ev (Ev_neqI_f rfl rfl q1) ?_) | (refine EK_ev (Ev_neqI rfl rfl) ?_) | (refine EK_ev (Ev_neqS rfl rfl) ?_) | (refine EK_ev (Ev_neqNil rfl rfl) ?_) | (refine EK_ev (Ev_neqB rfl rfl) ?_) | (refine EK_ev (Ev_neqO rfl rfl rfl (fun _ => rfl)) ?_)) | (refine ek_gtr ?_; first | (refine EK_ev (Ev_gtrI_q rfl rfl q2) ?_) | (refine EK_ev (Ev_gtrI rfl rfl) ?_) | (refine EK_ev (Ev_gtrS rfl rfl) ?_)))
    | (refine is_ex ?_; first | (refine KJ_blk_exit' rfl ?_))
    | (refine is_code ?_; first | (refine KJ_cond_dec rfl (fun _ => ?_) (fun _ => ?_) <;> first | (exfalso; omega) | skip) | (refine KJ_cond_t rfl ?_) | (refine KJ_cond_f rfl ?_) | (refine KJ_draws (id := 3) (.op 0 (.op 1 (.op 2 (.op 3 (.op 4 (.op 5 (.op 6 (.op 7 (.op 8 .nil))))))))) (by kernel_rfl) (by kernel_rfl) ?_))
    | (refine is_fw ?_; first | (refine FW_open rfl ?_) | (refine FW_nil ?_) | (refine FW_ef rfl ?_) | (refine FW_efg rfl rfl rfl ?_) | (refine FW_alt ?_ ?_))
    | (refine is_fo ?_; first | (refine FO_dec_t rfl rfl (fun _ => ?_) (fun _ => ?_) <;> first | (exfalso; omega) | skip) | (refine FO_dec_f rfl rfl (fun _ => ?_) (fun _ => ?_) <;> first | (exfalso; omega) | skip) | (refine FO_no rfl rfl rfl rfl ?_) | (refine FO_ekg rfl rfl rfl ?_) | (refine FO_ek rfl ?_))
    | (refine is_ro ?_; first | (refine RO_no rfl rfl rfl rfl ?_) | (refine RO_ekg rfl rfl ?_) | (refine RO_ek ?_))
    | (refine is_raw ?_; first | (refine KJ_flow ?_ ?_))
    | (refine AtR_mk rfl ?_)
    | exact Rech.nil
    | (refine Rech_open rfl ?_))
        all_goals (exact xdn ())
end
end Go.Proofs.YteklldbfdmaafaaDoor
