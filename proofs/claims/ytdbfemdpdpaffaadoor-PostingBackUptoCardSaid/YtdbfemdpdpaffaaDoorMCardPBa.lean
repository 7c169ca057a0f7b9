/-
  PostingBack (chapter 16) answers true for every posting and every text of bulk at most 1048576 together, and leaves its arguments as they were. Conditions: none.
-/
import Derived.Test.YtdbfemdpdpaffaaDoorTie
import Derived.Test.YtdbfemdpdpaffaaDoorCards
import Derived.Test.YtdbfemdpdpaffaaDoorPCQ
import Derived.Test.YtdbfemdpdpaffaaDoorPCS
import Derived.Test.YtdbfemdpdpaffaaDoorPCU
import Derived.Test.YtdbfemdpdpaffaaDoorPCV
namespace Go.Proofs.YtdbfemdpdpaffaaDoor.fnPostingBack
open Go Go.RowKit Go.ChangeShapes Go.WideShapes Go.ChangeAt Go.Deep
open Go.ChangeMaps (open_string)

set_option maxRecDepth 100000 in
/-- the walk's end, for every argument and every world that fits -/
theorem contract (H : Type) (enc : TypeId × Value → H) (W : World) (base : Nat) (args : Array Value) (ds gs : List (DataW H)) (before : List MemPlace)
    (hval : ∀ (j : Nat) t v, Tryd.f3.params[j]? = some t → args[j]? = some v → Value.okWide Tryd.prog W .any base t v)
    (hW : DataW.Whole enc Tryd.prog Tryd.f3.params.toList Rows.postingBackSpec.vars false W args.toList ds gs before) (hk : Rows.uptoSmall H (ds ++ gs) = true)
    (hsz : (DataW.weightsEach Tryd.prog (Tryd.f3.params.toList ++ (Rows.OpenSpec.upto Rows.postingBackSpec).bare.plain.varTypes Tryd.prog) (ds ++ gs)).all (· ≤ reachBytes) = true)
    (hL : laidMetH Tryd.prog Rows.postingBackUptoRow.laid W) (hsh : W.ShapedOpen Tryd.prog) :
    Calls Tryd.prog 3 args W fun e W' => ∃ v, e = .returned v ∧ Rows.postingBackSpec.post enc Tryd.prog Tryd.f3 false true false false W args v W' := by
  have hW' := hW
  obtain ⟨p, q, hA0, hV, rfl, hfz, hnd⟩ := hW
  have hA : DataW.TrodAll enc Tryd.prog W 0 (fun _ => true) true Tryd.f3.params.toList args.toList ds p := hA0
  rw [Tryd.params3] at hA hval hsz
  obtain ⟨v0, vs0, d0, ds0, p0, q0, hargs, rfl, rfl, h0, r0⟩ := trodAll_cons hA
  obtain ⟨v1, vs1, d1, ds1, p1, q1, rfl, rfl, rfl, h1, r1⟩ := trodAll_cons r0
  obtain ⟨rfl, rfl, rfl⟩ := trodAll_nil r1
  obtain rfl : args = #[v0, v1] := by cases args; simp_all
  obtain ⟨rfl, rfl⟩ := trodVars_none hV
  have hbulk := upto_bound hk
  simp only [List.append_nil, Rows.uptoBulkAll] at hbulk
  clear hA0
  obtain ⟨ps0, ad0, c0, rfl, hs0, fit0, -, -, -⟩ := pst_of (hval 0 24 v0 rfl rfl) h0 (by omega)
  obtain ⟨s1, rfl, rfl, rfl, hm1⟩ := open_string Tryd.underlying9 (hval 1 9 v1 rfl rfl) h1
  obtain ⟨l1, rfl⟩ : ∃ l : List UInt8, s1 = ⟨l.toArray⟩ := ⟨s1.data.toList, by simp⟩
  have hll1 : l1.length ≤ 9223372036854775807 := by have h := hm1; unfold maxLen at h; exact h
  have hb1 : l1.length ≤ 1048576 := by
    simp [string_eq] at hbulk
    omega
  obtain ⟨E0, hE0⟩ := errs12_of (by kernel_rfl) (by kernel_rfl) hL
  have ct := pback_ct (W := W) (F := E0) hE0 ad0 c0 ps0 l1 fit0 (Lv.old enc_leg hs0) (by omega)
  refine (ct.go [] W (St.start W)).mono fun e W' ⟨x, he, hS⟩ => ?_
  subst he
  exact ⟨_, rfl, post_true (tb := 4) laidOut Tryd.underlying4 (by kernel_rfl) (by kernel_rfl) rfl hW' rfl hS.below⟩

noncomputable abbrev wit : Array Value := #[.agg #[.string ⟨#[]⟩, .int .i64 0, .string ⟨#[]⟩, .slice none 0 0], .string ⟨#[]⟩]
noncomputable abbrev w0 (os : Os) : World := World.laidAll Tryd.prog os Rows.postingBackUptoRow.laid
theorem reads (os : Os) {H : Type} (enc : TypeId × Value → H) : ∃ places, DataW.whole enc Tryd.prog ((w0 os).forCall (fun _ _ => 0) ⟨#[], wit, []⟩).memory Tryd.f3.params.toList Rows.postingBackSpec.vars false wit.toList 8 = some ([.agg [.lit (.string []), .lit (.int .i64 0), .lit (.string []), .nil], .lit (.string [])], [], places) :=
  ⟨[], by kernel_rfl⟩
theorem met (os : Os) : laidMetH Tryd.prog Rows.postingBackUptoRow.laid ((w0 os).forCall (fun _ _ => 0) ⟨#[], wit, []⟩).memory := by
  rw [MakeChecks.laidMetH_plain _ _ _ (by kernel_rfl)]; exact laidMet_laidAll _ (by kernel_rfl) (by kernel_rfl)
set_option maxRecDepth 100000 in
theorem lifted (os : Os) (started : os.Started) (H : Type) (enc : TypeId × Value → H) (F : Stop.Interp) :
    ReturnsInHanded {} Tryd.checked os 3 .any ((Rows.OpenSpec.upto Rows.postingBackSpec).preRow enc Tryd.prog Tryd.f3 Rows.postingBackUptoRow.domain false Rows.postingBackUptoRow.laid) (((Rows.OpenSpec.upto Rows.postingBackSpec).at F).post enc Tryd.prog Tryd.f3 false true false false) := by
  obtain ⟨places, hx⟩ := reads os enc
  refine returnsInHanded_of_row (C := Tryd.checked) (s := (Rows.OpenSpec.upto Rows.postingBackSpec)) own started (by kernel_rfl) Tryd.func3
    (witness_laid (enc := enc) (C := Tryd.checked) false (w0 os) wit (World.laidAll_os _ _ _) (World.shaped_of_ZipB (by kernel_rfl) (by kernel_rfl)) (by kernel_rfl)
      (OpenSpec.preRow_of_cond 8 hx (by kernel_rfl) (fun k hk => by cases hk; kernel_rfl) (by kernel_rfl) (met os))) ?_
  intro W base args ds gs before hval hW _ hcond hsz hL hsh _
  exact contract H enc W base args ds gs before hval hW (hcond _ rfl) hsz hL hsh

theorem k0 : Rows.postingBackUptoRow.wf (OpenSpec.ofChange (Rows.OpenSpec.upto Rows.postingBackSpec).bare) = true := by kernel_rfl
theorem k1 : laidOutB Tryd.prog = true := laidOut
theorem k2 : mapsRowed Tryd.prog = true := mapsRowedF
theorem k3 : Tryd.f3.params.all (Tryd.prog.readableRec ·) = true := by kernel_rfl
theorem k4 : namedTie Tryd.prog Rows.postingBackUptoRow.named (Rows.OpenSpec.upto Rows.postingBackSpec).bare.vars = true := by kernel_rfl
theorem k5 : (Rows.postingBackUptoRow.stops == []) = true := by kernel_rfl
theorem k6 : (Tryd.prog.stops == []) = true := stopsF
theorem k7 : (Rows.postingBackUptoRow.knobs == []) = true := by kernel_rfl
theorem k8 : (Tryd.prog.stopKnobs == []) = true := stopKnobsF
theorem k9 : (Rows.postingBackUptoRow.inPlace == Tryd.prog.inPlace 3) = true := by kernel_rfl
theorem k10 : (Rows.postingBackUptoRow.unfollowed == Tryd.prog.unfollowed 3) = true := by kernel_rfl
theorem k11 : (Rows.postingBackUptoRow.recurses == Tryd.prog.recurses 3) = true := by kernel_rfl
theorem k12 : (Rows.postingBackUptoRow.named == Tryd.prog.varsNamed 3) = true := by kernel_rfl
theorem k13 : (Rows.postingBackUptoRow.maps == (Tryd.f3.params.toList ++ (Rows.OpenSpec.upto Rows.postingBackSpec).bare.plain.varTypes Tryd.prog).any (Tryd.prog.mapsRec ·)) = true := by kernel_rfl
theorem k14 : (Rows.postingBackUptoRow.ifaces == (Tryd.f3.params.toList ++ (Rows.OpenSpec.upto Rows.postingBackSpec).bare.plain.varTypes Tryd.prog).any (Tryd.prog.ifacesRec ·)) = true := by kernel_rfl
theorem k15 : (Rows.postingBackUptoRow.mapsOut == Tryd.prog.mapsAmong Tryd.f3.resultTypes.toList) = true := by kernel_rfl
theorem k16 : (Rows.postingBackUptoRow.loops == (Tryd.f3.params.toList ++ (Rows.OpenSpec.upto Rows.postingBackSpec).bare.plain.varTypes Tryd.prog).any (Tryd.prog.loopsFrom ·)) = true := by kernel_rfl
theorem k17 : (Rows.postingBackUptoRow.wideKeys == (Tryd.f3.params.toList ++ (Rows.OpenSpec.upto Rows.postingBackSpec).bare.plain.varTypes Tryd.prog ++ Tryd.f3.resultTypes.toList).any (Tryd.prog.wideKeysFrom ·)) = true := by kernel_rfl
theorem k18 : (Rows.OpenSpec.upto Rows.postingBackSpec).bare.vars.all (Tryd.prog.varReadable ·) = true := by kernel_rfl
theorem k19 : Tryd.f3.resultTypes.all (fun t => Tryd.prog.readableRec t && decide (t < Tryd.prog.types.size)) = true := by kernel_rfl
theorem k20 : (Rows.postingBackUptoRow.ifacesOut == Tryd.f3.resultTypes.toList.any (Tryd.prog.ifacesRec ·)) = true := by kernel_rfl
theorem k21 : (Rows.postingBackUptoRow.loopsOut == Tryd.f3.resultTypes.toList.any (Tryd.prog.loopsFrom ·)) = true := by kernel_rfl
theorem k22 : (Rows.postingBackUptoRow.plainKeys == Tryd.prog.plainKeys) = true := by rw [show Rows.postingBackUptoRow.plainKeys = Rows.postingBackRow.plainKeys from rfl]; exact plainKeysF
theorem k23 : Rows.postingBackUptoRow.shortTexts.isNone = true := by kernel_rfl
theorem k24 : Tryd.prog.stopsHeard = true := stopsHeardF
theorem k25 : Tryd.prog.mayEnter = true := mayEnterF
theorem k26 : (Rows.postingBackUptoRow.lifted == Tryd.prog.liftsFinal) = true := by rw [show Rows.postingBackUptoRow.lifted = Rows.postingBackRow.lifted from rfl]; exact liftsF
theorem k27 : (Tryd.prog.make == some Rows.postingBackUptoRow.make) = true := by rw [show Rows.postingBackUptoRow.make = Rows.postingBackRow.make from rfl]; exact makeF
theorem k28 : (Rows.postingBackUptoRow.kinds == (if Rows.postingBackUptoRow.domain.isEmpty then [] else Tryd.f3.params.toList.map fun t => match Tryd.prog.underlying t with | some (.int k) => some k | _ => none)) = true := by kernel_rfl
theorem k29 : (Rows.postingBackUptoRow.pinned == Rows.postingBackUptoRow.pinnedBy) = true := by kernel_rfl
theorem k30 : (Rows.postingBackUptoRow.veiled == (Tryd.f3.params.toList ++ (Rows.OpenSpec.upto Rows.postingBackSpec).bare.plain.varTypes Tryd.prog ++ Tryd.f3.resultTypes.toList).any (Tryd.prog.veiledRec ·)) = true := by kernel_rfl
theorem k31 : Rows.postingBackUptoRow.veiledFits Tryd.prog Tryd.f3.params.toList (Tryd.f3.params.toList ++ (Rows.OpenSpec.upto Rows.postingBackSpec).bare.plain.varTypes Tryd.prog ++ Tryd.f3.resultTypes.toList) = true := by kernel_rfl
set_option maxRecDepth 100000 in
theorem closed : joinedFacts Tryd.prog 3 Tryd.f3 (Rows.OpenSpec.upto Rows.postingBackSpec).bare Rows.postingBackUptoRow = true := by
  unfold joinedFacts; exact band (band (band (band (band (band (band (band (band (band (band (band (band (band (band (band (band (band (band (band (band (band (band (band (band (band (band (band (band (band (band (k0) k1) k2) k3) k4) k5) k6) k7) k8) k9) k10) k11) k12) k13) k14) k15) k16) k17) k18) k19) k20) k21) k22) k23) k24) k25) k26) k27) k28) k29) k30) k31
theorem named : Tryd.pinned.checked.prog.funcNamed Rows.postingBackUptoRow.func = some 3 := by kernel_rfl
theorem inst : Tryd.f3.isInstance Tryd.pinned.checked.prog Rows.postingBackUptoRow.origin Rows.postingBackUptoRow.targs := of_decide_eq_true (by kernel_rfl)
theorem wrap : Tryd.f3.isWrapper Tryd.pinned.checked.prog Rows.postingBackUptoRow.wrapper Rows.postingBackUptoRow.mainSum := by unfold Func.isWrapper; first | (rw [if_pos (by decide +kernel)]; kernel_rfl) | (rw [if_neg (by decide +kernel)]; exact ⟨rfl, rfl⟩)

theorem said : Rows.PostingBackUptoSaid :=
  OpenClaim.holds_of_cond 3 Tryd.f3 rfl rfl rfl rfl rfl rfl rfl ⟨rfl, rfl, rfl, rfl, rfl⟩ rfl rfl rfl rfl rfl named Tryd.func3 closed inst wrap
    (fun os started H enc _ F => by rw [OpenClaim.pre_eq_preRow]; exact lifted os started H enc F)

theorem plain (f : FuncId) (fn : Func) (hf : Tryd.pinned.checked.prog.funcNamed "remit/remitlaw16.PostingBack" = some f) (hfn : Tryd.pinned.checked.prog.funcs[f]? = some fn) :
    true = Tryd.pinned.checked.prog.looks [] ∧ ∀ (j : Nat) t, fn.params[j]? = some t → Tryd.pinned.checked.prog.wantsStandIn t = false := by
  obtain rfl : f = 3 := Option.some.inj ((show Tryd.prog.funcNamed "remit/remitlaw16.PostingBack" = some 3 by kernel_rfl).symm.trans hf) |>.symm
  obtain rfl : fn = Tryd.f3 := (Option.some.inj (Tryd.func3.symm.trans hfn)).symm
  have hall : (Tryd.f3.params.toList.all fun t => !Tryd.prog.wantsStandIn t) = true := by kernel_rfl
  refine ⟨by kernel_rfl, fun j t ht => ?_⟩
  have h1 := List.all_eq_true.1 hall t (Array.mem_toList_iff.2 (Array.mem_of_getElem? ht))
  have h2 : Tryd.prog.wantsStandIn t = false := by simpa using h1
  exact h2

/-- THE CARD -/
theorem card : Rows.PostingBackUptoCardSaid :=
  Claim7.holds_tied_plain_at .later [] _ _ _ _ said (fun _ h => by cases h) (by kernel_rfl) (fun _ h => by cases h) postingBackUpto_row_tie rfl ⟨rfl, rfl⟩ (by kernel_rfl) rfl plain (by kernel_rfl)
#print axioms card
end Go.Proofs.YtdbfemdpdpaffaaDoor.fnPostingBack
