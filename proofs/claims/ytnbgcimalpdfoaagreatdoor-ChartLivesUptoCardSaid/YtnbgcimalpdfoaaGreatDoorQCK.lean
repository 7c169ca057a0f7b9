/-
  Ends.
-/
import Derived.Test.YtnbgcimalpdfoaaGreatDoorTie
import Derived.Test.YtnbgcimalpdfoaaGreatDoorCards
import Derived.Test.YtnbgcimalpdfoaaGreatDoorQBL
import Derived.WalkKit
import Derived.ProofKit
import Derived.OpenShut
import Derived.Lay
import Derived.LaidLaws
import Derived.MakeChecks
import Derived.Carry
import Derived.Below
import Derived.Deep.DeepHandedRow
import Derived.Deep.Slices
import Derived.Deep.Fields
import Derived.Deep.Grids
import Derived.Lib.SmallJoins
/-
  What all the laws of this seat share at their ends: the 37 errors out of the row's list, a witness, and the last step behind the walk.
-/
namespace Go.Proofs.YtnbgcimalpdfoaaGreatDoor
open Go Go.RowKit Go.ChangeShapes Go.WideShapes Go.Deep
theorem own : ownKnob Tryz.prog.godebug = none := by kernel_rfl
theorem laidOut : laidOutB Tryz.prog = true := by kernel_rfl


/-- the places of the listed variables' data lie apart -/
theorem laidVars_at {P : Program} {w : World} : ∀ {laid : List (String × DataW Unit)} {ps : List MemPlace}, DataW.LaidVars P w laid ps → ps.Nodup →
    ∃ pl : Nat → List MemPlace, (∀ i n d, laid[i]? = some (n, d) → ∃ g t cs fuel, P.globalNamed n = some g ∧ (P.globals[g]?).map (·.type) = some t ∧ w.var? P n = some cs ∧
      DataW.trod (fun _ => ()) P w 0 (fun _ => true) false fuel t cs.toList = some (d, pl i) ∧ (∀ x ∈ MemPlace.row ⟨g, 0, none⟩ cs.size, x ∈ ps) ∧ ∀ x ∈ pl i, x ∈ ps) ∧
      ∀ i j, i < j → j < laid.length → ∀ x ∈ pl i, x ∉ pl j
  | [], ps, _, _ => ⟨fun _ => [], fun i n d h => by simp at h, fun i j _ h => by simp at h⟩
  | (n, d) :: r, ps, h, hn => by
    obtain ⟨g, t, cs, fuel, p, q, h1, h2, h3, h4, h5, rfl⟩ := h
    have hq : q.Nodup := (List.nodup_append.1 hn).2.1
    obtain ⟨pl, hp1, hp2⟩ := laidVars_at h5 hq
    refine ⟨fun i => match i with | 0 => p | i + 1 => pl i, fun i n' d' hi => ?_, fun i j hij hj x hx => ?_⟩
    · cases i with
      | zero =>
        simp only [List.getElem?_cons_zero, Option.some.injEq, Prod.mk.injEq] at hi
        obtain ⟨rfl, rfl⟩ := hi
        exact ⟨g, t, cs, fuel, h1, h2, h3, h4, fun x hx => by simp [hx], fun x hx => by simp at hx ⊢; simp [hx]⟩
      | succ i =>
        obtain ⟨g', t', cs', f', a1, a2, a3, a4, a5, a6⟩ := hp1 i n' d' (by simpa using hi)
        exact ⟨g', t', cs', f', a1, a2, a3, a4, fun x hx => List.mem_append_right _ (a5 x hx), fun x hx => List.mem_append_right _ (a6 x hx)⟩
    · cases j with
      | zero => omega
      | succ j =>
        have hj' : j < r.length := by simpa using hj
        cases i with
        | zero =>
          intro hxj
          have hxq : x ∈ q := by
            obtain ⟨y, hy⟩ : ∃ y, r[j]? = some y := ⟨_, List.getElem?_eq_getElem hj'⟩
            obtain ⟨n', d'⟩ := y
            obtain ⟨_, _, _, _, _, _, _, _, _, a6⟩ := hp1 j n' d' hy
            exact a6 x hxj
          exact (List.nodup_append.1 hn).2.2 x (List.mem_append_right _ hx) x hxq rfl
        | succ i => exact hp2 i j (by omega) hj' x hx

/-- a listed error: a pointer to a text -/
def errIn (x : DataW Unit) : Bool := match x with | .iface "*errors.errorString" (.ptr (.agg [.lit (.string _)])) => true | _ => false
/-- the row's list opens with the 37 errors, in their order -/
noncomputable def opens (laid : List (String × DataW Unit)) : Bool := (List.range 37).all fun i => match laid[i]? with
  | some (n, d) => (Tryz.prog.globalNamed n == some (errG (i + 1))) && ((Tryz.prog.globals[errG (i + 1)]?).map (·.type) == some 32) && errIn d
  | none => false
theorem errIn_is {x : DataW Unit} (h : errIn x = true) : ∃ s, x = .iface "*errors.errorString" (.ptr (.agg [.lit (.string s)])) := by
  unfold errIn at h
  split at h
  · exact ⟨_, rfl⟩
  · cases h
theorem rowErr (u : TypeId) (h : Tryz.prog.typeName? 3 u = some "*errors.errorString") : u = 318 :=
  typeName_ptr_named (nm := "errors.errorString") (by rw [show "*" ++ "errors.errorString" = "*errors.errorString" from by decide]; kernel_rfl) (by kernel_rfl) (by decide) u (by rw [show "*" ++ "errors.errorString" = "*errors.errorString" from by decide]; exact h)
theorem cellsErr : Tryz.prog.cellsOf 336 = 1 := by kernel_rfl
theorem cellsStr : Tryz.prog.cellsOf 9 = 1 := by kernel_rfl

set_option maxRecDepth 100000 in
/-- WHAT THE ROW's LIST GIVES: the 37 errors lie in their variables, each its own -/
theorem errs_of_laid {laid : List (String × DataW Unit)} {W : World} (hp : (laid.all fun x => x.2.handleName?.isNone) = true) (ho : opens laid = true) (h : laidMetH Tryz.prog laid W) : ∃ E, ErrsAt W E := by
  rw [MakeChecks.laidMetH_plain _ _ _ hp] at h
  obtain ⟨ps, hL, hnd, hrows⟩ := h
  obtain ⟨pl, h1, h2⟩ := laidVars_at hL hnd
  have hlen : 37 ≤ laid.length := by
    have := List.all_eq_true.1 ho 36 (by simp)
    cases hx : laid[36]? with
    | none => rw [hx] at this; cases this
    | some y => have := (List.getElem?_eq_some_iff.1 hx).1; omega
  have key : ∀ k : Nat, ∃ a : Addr, 1 ≤ k → k ≤ 37 → W.cell? ⟨errG k, 0, none⟩ = some (.iface 318 (.pointer (some a))) ∧ (∃ c t, W.heap[a.block]? = some (.cells c t (0, 0))) ∧ a.spot = none ∧ pl (k - 1) = MemPlace.row a 1 := by
    intro k
    by_cases hk : 1 ≤ k ∧ k ≤ 37
    · have hi := List.all_eq_true.1 ho (k - 1) (by simp; omega)
      cases hx : laid[k - 1]? with
      | none => rw [hx] at hi; cases hi
      | some y =>
        obtain ⟨n, d⟩ := y
        rw [hx] at hi
        simp only [Bool.and_eq_true, beq_iff_eq] at hi
        obtain ⟨⟨e1, e2⟩, e3⟩ := hi
        obtain ⟨text, rfl⟩ := errIn_is e3
        rw [show k - 1 + 1 = k from by omega] at e1 e2
        obtain ⟨g, t, cs, fuel, a1, a2, a3, a4, a5, a6⟩ := h1 _ _ _ hx
        obtain rfl := Option.some.inj (e1.symm.trans a1)
        obtain rfl := Option.some.inj (e2.symm.trans a2)
        obtain ⟨l⟩ := cs
        have ok : ∀ u v, l = [.iface u v] → Value.okWide Tryz.prog W .any 0 u v := fun u v e => by
          subst e
          exact (hrows (errG k) 0 (a5 _ (by simp [MemPlace.row]))).2 u v (by simpa using World.var?_cell a1 a3 0)
        obtain ⟨a, s, rfl, hc0, hs0, hz0, hpl⟩ := errorString_of_trod Tryz.underlying32 rowErr Tryz.underlying318 Tryz.underlying336 rfl rfl Tryz.underlying9 cellsErr cellsStr a4 ok
        have hokv := ok _ _ rfl
        refine ⟨a, fun _ _ => ⟨by simpa using World.var?_cell a1 a3 0, (hrows a.block a.off (a6 _ (by rw [hpl]; simp [MemPlace.row]))).1, ?_, hpl⟩⟩
        unfold Value.okWide at hokv
        simp only [Tryz.underlying318] at hokv
        unfold Cell.okWide at hokv
        simp only [Cell.ok, Tryz.underlying318] at hokv
        exact hokv.2.1
    · exact ⟨⟨0, 0, none⟩, fun h h' => absurd ⟨h, h'⟩ hk⟩
  obtain ⟨E, hE⟩ : ∃ E : Nat → Addr, ∀ k, 1 ≤ k → k ≤ 37 → W.cell? ⟨errG k, 0, none⟩ = some (.iface 318 (.pointer (some (E k)))) ∧ (∃ c t, W.heap[(E k).block]? = some (.cells c t (0, 0))) ∧ (E k).spot = none ∧ pl (k - 1) = MemPlace.row (E k) 1 :=
    ⟨fun k => Classical.choose (key k), fun k => Classical.choose_spec (key k)⟩
  refine ⟨E, fun k h1 h2 => ?_, fun k h1 h2 => (hE k h1 h2).2.1, fun j k hj1 hj2 hk1 hk2 e => ?_⟩
  · have := (hE k h1 h2).1
    unfold ErrAt
    rw [errV_pos _ _ h1]
    exact this
  · have hj := (hE j hj1 hj2).2.2.2
    have hk := (hE k hk1 hk2).2.2.2
    rw [e] at hj
    have hmem : (MemPlace.cell (E k).block (E k).off) ∈ MemPlace.row (E k) 1 := by simp [MemPlace.row]
    rcases Nat.lt_trichotomy (j - 1) (k - 1) with hlt | heq | hlt
    · exact absurd (by rw [hk]; exact hmem) (h2 (j - 1) (k - 1) hlt (by omega) _ (by rw [hj]; exact hmem))
    · omega
    · exact absurd (by rw [hj]; exact hmem) (h2 (k - 1) (j - 1) hlt (by omega) _ (by rw [hk]; exact hmem))

theorem lastRow : ((((begin Tryz.prog (fun _ _ => 0) default).world.heap[gB - 1]?).bind Obj.row?).isSome && decide (gB - 1 < Tryz.prog.globals.size)) = true := by kernel_rfl
theorem gB_le {W : World} (h : W.ShapedOpen Tryz.prog) : gB ≤ W.heap.size := by
  have hl := lastRow
  simp only [Bool.and_eq_true, decide_eq_true_eq] at hl
  obtain ⟨h1, h2⟩ := hl
  obtain ⟨⟨z, t⟩, hz⟩ := Option.isSome_iff_exists.1 h1
  obtain ⟨cs, hc, _⟩ := h.1 _ z t h2 hz
  have := (Array.getElem?_eq_some_iff.1 hc).1
  unfold gB at this ⊢
  omega

section
variable {H : Type} {enc : TypeId × Value → H} {P : Program}
theorem post_of_below {f : Func} {s : ChangeSpec} {apart fresh handsOn again : Bool} {W W' : World} {args : Array Value} {v : Value} {ds gs : List (DataW H)} {before pa pv : List MemPlace}
    (hW : DataW.Whole enc P f.params.toList s.vars apart W args.toList ds gs before)
    (hres : ∀ (b : Nat) (sp : Nat → Bool) (hd : Bool), DataW.TrodAll enc P W' b sp hd f.resultTypes.toList (v.resultList f.resultTypes.size) (s.fn H (ds ++ gs)).results [])
    (hargs : ∀ sp : Nat → Bool, (∀ p ∈ before, sp p.block = true) → DataW.TrodAll enc P W' 0 sp true f.params.toList args.toList (s.fn H (ds ++ gs)).args pa)
    (hvars : ∀ sp : Nat → Bool, (∀ p ∈ before, sp p.block = true) → DataW.TrodVars enc P W' sp s.vars (s.fn H (ds ++ gs)).vars pv)
    (hps : before = pa ++ pv) (hb : Below W.heap.size W W')
    (hok : ∀ (j : Nat) (t : TypeId) (r : Value), f.resultTypes[j]? = some t → (v.resultList f.resultTypes.size)[j]? = some r → Value.okWide P W' .any 0 t r) :
    s.post enc P f apart fresh handsOn again W args v W' := by
  have hlt : ∀ p ∈ before, p.block < W.heap.size := fun p hp => hW.lt p hp
  have hold : ∀ p ∈ before, (fun b => decide (b < W.heap.size)) p.block = true := fun p hp => by simpa using hlt p hp
  refine ⟨ds, gs, before, [], pa, pv, hW, hres _ _ _, hargs _ hold, hvars _ hold, World.keptBut_mono (fun p hp => ⟨hp, ?_⟩) (hb.frame (· ∈ before)), fun _ => ?_⟩
  · rw [hps, List.mem_append] at hp
    exact Or.inr hp
  · obtain ⟨_, _, _, _, _, hz, hn⟩ := hW
    refine ⟨hok, _, _, ([] ++ pa) ++ pv, ⟨[] ++ pa, pv, trodAll_append (hargs _ (fun _ _ => rfl)) (hres _ _ _), hvars _ (fun _ _ => rfl), rfl, ?_, ?_⟩, ?_⟩
    · intro b off hp
      have hin : MemPlace.cell b off ∈ before := by rw [hps]; simpa using hp
      rw [hb.frozen (hlt _ hin)]
      exact hz b off hin
    · intro ha
      have := hn ha
      rw [hps] at this
      simpa using this
    · intro p hp _
      rw [hps]
      simpa using hp
/-- all arguments read behind the call as before -/
theorem trodAll_stays (hl : laidOutB P = true) {W W' : World} {sp : Nat → Bool} (hb : Below W.heap.size W W') : ∀ {ts : List TypeId} {vs : List Value} {ds : List (DataW H)} {ps : List MemPlace},
    (ts.all fun t => P.readableRec t && decide (t < P.types.size)) = true → DataW.TrodAll enc P W 0 (fun _ => true) true ts vs ds ps → (∀ x ∈ ps, x.block < W.heap.size) → (∀ x ∈ ps, sp x.block = true) → DataW.TrodAll enc P W' 0 sp true ts vs ds ps
  | [], [], [], _, _, h, _, _ => h
  | t :: ts, v :: vs, d :: ds, ps, hr, h, hlt, hs => by
    obtain ⟨p, q, h1, h2, rfl⟩ := h
    simp only [List.all_cons, Bool.and_eq_true, decide_eq_true_eq] at hr
    exact ⟨p, q, WideElems.Trod_stays hl hr.1.1 hr.1.2 h1 (fun x hx => hb.same (hlt x (List.mem_append_left _ hx))) (fun x hx => hs x (List.mem_append_left _ hx)),
      trodAll_stays hl hb (by simpa using hr.2) h2 (fun x hx => hlt x (List.mem_append_right _ hx)) (fun x hx => hs x (List.mem_append_right _ hx)), rfl⟩
  | [], _ :: _, _, _, _, h, _, _ => h.elim
  | [], [], _ :: _, _, _, h, _, _ => h.elim
  | _ :: _, [], _, _, _, h, _, _ => h.elim
  | _ :: _, _ :: _, [], _, _, h, _, _ => h.elim
/-- THE LAST STEP: the call answered true, and all that lay there before is as it was -/
theorem post_true {f : Func} {s : ChangeSpec} {apart fresh handsOn again : Bool} {W W' : World} {args : Array Value} {ds gs : List (DataW H)} {before : List MemPlace} {tb : TypeId}
    (hl : laidOutB P = true) (htb : P.underlying tb = some .bool) (hrt : f.resultTypes = #[tb]) (hr : (f.params.toList.all fun t => P.readableRec t && decide (t < P.types.size)) = true) (hv : s.vars = [])
    (hW : DataW.Whole enc P f.params.toList s.vars apart W args.toList ds gs before) (hfn : s.fn H (ds ++ gs) = { results := [.lit (.bool true)], args := ds }) (hb : Below W.heap.size W W') :
    s.post enc P f apart fresh handsOn again W args (.bool true) W' := by
  have hlt : ∀ p ∈ before, p.block < W.heap.size := fun p hp => hW.lt p hp
  have hW' := hW
  obtain ⟨p, q, hA, hV, rfl, _, _⟩ := hW
  rw [hv] at hV
  obtain ⟨rfl, rfl⟩ := trodVars_none hV
  refine post_of_below (pa := p) (pv := []) hW' (fun b sp hd => ?_) (fun sp hs => ?_) (fun sp _ => ?_) rfl hb (ok_one hrt rfl (okWide_bool_mk htb _))
  · rw [hfn, hrt]
    exact trodAll_cons_mk (shut_bool htb _) trodAll_mk0
  · rw [hfn]
    exact trodAll_stays hl hb hr hA (fun x hx => hlt x (by simp [hx])) (fun x hx => hs x (by simp [hx]))
  · rw [hfn, hv]
    exact rfl

/-- there is an input that fits: the listed variables laid by the kit's own function -/
theorem witness_laid {C : Checked} {os : Os} {f : FuncId} {fn : Func} {s : OpenSpec} {conds : List PathCond} {apart : Bool} {laid : List (String × DataW Unit)} (modest : Bool) (w0 : World) (args : Array Value) (hos : w0.os = os)
    (hsh : (w0.forCall (fun _ _ => 0) ⟨#[], args, []⟩).Shaped C.prog)
    (hok : Input.okWideB C.prog (w0.forCall (fun _ _ => 0) ⟨#[], args, []⟩) f ⟨#[], args, []⟩ = true)
    (hrow : s.preRow enc C.prog fn conds apart laid (w0.forCall (fun _ _ => 0) ⟨#[], args, []⟩).memory args) :
    ∃ (w : World) (tape : Tape) (i : Input), w.os = os ∧ (w.forCall tape i).Shaped C.prog ∧ i.vars = [] ∧ Input.okWide C.prog (w.forCall tape i) .any w.heap.size f i ∧
      s.preRow enc C.prog fn conds apart laid (w.forCall tape i).memory i.args ∧ ({ modest := modest } : Assume).holds C.prog (lone (Frame.enter C.prog f i.args .normal) [] (w.forCall tape i)) :=
  ⟨w0, fun _ _ => 0, ⟨#[], args, []⟩, hos, hsh, (Input.okWide_of_okWideB (base := 0) hok).1, (Input.okWide_of_okWideB hok).2, hrow, by
    simp only [Assume.holds]
    exact ⟨by simp, by simp, fun _ => Modest.zero, by simp, by simp⟩⟩

theorem part_le {d : DataW H} {l : List (DataW H)} (h : d ∈ l) : Rows.uptoBulk d ≤ Rows.uptoBulkAll l := by
  induction l with
  | nil => cases h
  | cons x r ih =>
    simp only [Rows.uptoBulkAll]
    cases List.mem_cons.1 h with
    | inl e => subst e; omega
    | inr e => have := ih e; omega
theorem agg_parts (ps : List (DataW H)) : Rows.uptoBulkAll ps ≤ Rows.uptoBulk (.agg ps) := by
  simp only [Rows.uptoBulk]
  omega
theorem string_eq (bytes : List UInt8) : Rows.uptoBulk (DataW.lit (H := H) (.string bytes)) = bytes.length + 1 := by
  simp [Rows.uptoBulk]
theorem upto_bound {l : List (DataW H)} (hk : Rows.uptoSmall H l = true) : Rows.uptoBulkAll l ≤ 1048576 := of_decide_eq_true hk
end
end Go.Proofs.YtnbgcimalpdfoaaGreatDoor
