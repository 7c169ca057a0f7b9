/-
  BatchJoins (chapter 12) answers true for every list of rows and every two lists of ops of bulk at most 1048576 together, and leaves its arguments as they were. Conditions: none.
-/
import Derived.Test.YtehheokalgmbgaaDoorTie
import Derived.Test.YtehheokalgmbgaaDoorCards
import Derived.Test.YtehheokalgmbgaaDoorHCP
import Derived.Test.YtehheokalgmbgaaDoorHCK
import Derived.Test.YtehheokalgmbgaaDoorHCN
import Derived.Test.YtehheokalgmbgaaDoorHCO
namespace Go.Proofs.YtehheokalgmbgaaDoor.fnBatchJoins
open Go Go.RowKit Go.ChangeShapes Go.WideShapes Go.ChangeAt Go.Deep
open Go.ChangeMaps (open_string)

set_option maxRecDepth 100000 in
/-- the walk's end, for every argument and every world that fits -/
theorem contract (H : Type) (enc : TypeId × Value → H) (W : World) (base : Nat) (args : Array Value) (ds gs : List (DataW H)) (before : List MemPlace)
    (hval : ∀ (j : Nat) t v, Tryd.f9.params[j]? = some t → args[j]? = some v → Value.okWide Tryd.prog W .any base t v)
    (hW : DataW.Whole enc Tryd.prog Tryd.f9.params.toList Rows.batchJoinsSpec.vars false W args.toList ds gs before) (hk : Rows.uptoSmall H (ds ++ gs) = true)
    (hsz : (DataW.weightsEach Tryd.prog (Tryd.f9.params.toList ++ (Rows.OpenSpec.upto Rows.batchJoinsSpec).bare.plain.varTypes Tryd.prog) (ds ++ gs)).all (· ≤ reachBytes) = true)
    (hL : laidMetH Tryd.prog Rows.batchJoinsUptoRow.laid W) (hsh : W.ShapedOpen Tryd.prog) :
    Calls Tryd.prog 9 args W fun e W' => ∃ v, e = .returned v ∧ Rows.batchJoinsSpec.post enc Tryd.prog Tryd.f9 false true false false W args v W' := by
  have hW' := hW
  obtain ⟨p, q, hA0, hV, rfl, hfz, hnd⟩ := hW
  have hA : DataW.TrodAll enc Tryd.prog W 0 (fun _ => true) true Tryd.f9.params.toList args.toList ds p := hA0
  rw [Tryd.params9] at hA hval hsz
  obtain ⟨v0, vs0, d0, ds0, p0, q0, hargs, rfl, rfl, h0, r0⟩ := trodAll_cons hA
  obtain ⟨v1, vs1, d1, ds1, p1, q1, rfl, rfl, rfl, h1, r1⟩ := trodAll_cons r0
  obtain ⟨v2, vs2, d2, ds2, p2, q2, rfl, rfl, rfl, h2, r2⟩ := trodAll_cons r1
  obtain ⟨rfl, rfl, rfl⟩ := trodAll_nil r2
  obtain rfl : args = #[v0, v1, v2] := by cases args; simp_all
  obtain ⟨rfl, rfl⟩ := trodVars_none hV
  have hbulk := upto_bound hk
  simp only [List.append_nil, Rows.uptoBulkAll] at hbulk
  clear hA0
  obtain ⟨rows0, hs0, hsl0, hz0⟩ := rows12_of (hval 0 45 v0 rfl rfl) h0
  obtain ⟨ops1, hs1, hsl1, hz1, hsh1⟩ := ops12_of (hval 1 22 v1 rfl rfl) h1
  obtain ⟨ops2, hs2, hsl2, hz2, hsh2⟩ := ops12_of (hval 2 22 v2 rfl rfl) h2
  have ct := joins12_ct (W := W) v0 v1 v2 rows0 ops1 ops2 hs0 hs1 hs2 (by omega) (by omega) (by omega)
  refine (ct.go [] W (St.start W)).mono fun e W' ⟨x, he, hS⟩ => ?_
  subst he
  exact ⟨_, rfl, post_true (tb := 4) laidOut Tryd.underlying4 (by kernel_rfl) (by kernel_rfl) rfl hW' rfl hS.below⟩

noncomputable abbrev wit : Array Value := #[.slice none 0 0, .slice none 0 0, .slice none 0 0]
noncomputable abbrev w0 (os : Os) : World := World.laidAll Tryd.prog os Rows.batchJoinsUptoRow.laid
theorem reads (os : Os) {H : Type} (enc : TypeId × Value → H) : ∃ places, DataW.whole enc Tryd.prog ((w0 os).forCall (fun _ _ => 0) ⟨#[], wit, []⟩).memory Tryd.f9.params.toList Rows.batchJoinsSpec.vars false wit.toList 8 = some ([.nil, .nil, .nil], [], places) :=
  ⟨[], by kernel_rfl⟩
theorem met (os : Os) : laidMetH Tryd.prog Rows.batchJoinsUptoRow.laid ((w0 os).forCall (fun _ _ => 0) ⟨#[], wit, []⟩).memory := by
  rw [MakeChecks.laidMetH_plain _ _ _ (by kernel_rfl)]; exact laidMet_laidAll _ (by kernel_rfl) (by kernel_rfl)
set_option maxRecDepth 100000 in
theorem lifted (os : Os) (started : os.Started) (H : Type) (enc : TypeId × Value → H) (F : Stop.Interp) :
    ReturnsInHanded {} Tryd.checked os 9 .any ((Rows.OpenSpec.upto Rows.batchJoinsSpec).preRow enc Tryd.prog Tryd.f9 Rows.batchJoinsUptoRow.domain false Rows.batchJoinsUptoRow.laid) (((Rows.OpenSpec.upto Rows.batchJoinsSpec).at F).post enc Tryd.prog Tryd.f9 false true false false) := by
  obtain ⟨places, hx⟩ := reads os enc
  refine returnsInHanded_of_row (C := Tryd.checked) (s := (Rows.OpenSpec.upto Rows.batchJoinsSpec)) own started (by kernel_rfl) Tryd.func9
    (witness_laid (enc := enc) (C := Tryd.checked) false (w0 os) wit (World.laidAll_os _ _ _) (World.shaped_of_ZipB (by kernel_rfl) (by kernel_rfl)) (by kernel_rfl)
      (OpenSpec.preRow_of_cond 8 hx (by kernel_rfl) (fun k hk => by cases hk; kernel_rfl) (by kernel_rfl) (met os))) ?_
  intro W base args ds gs before hval hW _ hcond hsz hL hsh _
  exact contract H enc W base args ds gs before hval hW (hcond _ rfl) hsz hL hsh

theorem k0 : Rows.batchJoinsUptoRow.wf (OpenSpec.ofChange (Rows.OpenSpec.upto Rows.batchJoinsSpec).bare) = true := by kernel_rfl
theorem k1 : laidOutB Tryd.prog = true := laidOut
theorem k2 : mapsRowed Tryd.prog = true := mapsRowedF
theorem k3 : Tryd.f9.params.all (Tryd.prog.readableRec ·) = true := by kernel_rfl
theorem k4 : namedTie Tryd.prog Rows.batchJoinsUptoRow.named (Rows.OpenSpec.upto Rows.batchJoinsSpec).bare.vars = true := by kernel_rfl
theorem k5 : (Rows.batchJoinsUptoRow.stops == []) = true := by kernel_rfl
theorem k6 : (Tryd.prog.stops == []) = true := stopsF
theorem k7 : (Rows.batchJoinsUptoRow.knobs == []) = true := by kernel_rfl
theorem k8 : (Tryd.prog.stopKnobs == []) = true := stopKnobsF
theorem k9 : (Rows.batchJoinsUptoRow.inPlace == Tryd.prog.inPlace 9) = true := by kernel_rfl
theorem k10 : (Rows.batchJoinsUptoRow.unfollowed == Tryd.prog.unfollowed 9) = true := by kernel_rfl
theorem k11 : (Rows.batchJoinsUptoRow.recurses == Tryd.prog.recurses 9) = true := by kernel_rfl
theorem k12 : (Rows.batchJoinsUptoRow.named == Tryd.prog.varsNamed 9) = true := by kernel_rfl
theorem k13 : (Rows.batchJoinsUptoRow.maps == (Tryd.f9.params.toList ++ (Rows.OpenSpec.upto Rows.batchJoinsSpec).bare.plain.varTypes Tryd.prog).any (Tryd.prog.mapsRec ·)) = true := by kernel_rfl
theorem k14 : (Rows.batchJoinsUptoRow.ifaces == (Tryd.f9.params.toList ++ (Rows.OpenSpec.upto Rows.batchJoinsSpec).bare.plain.varTypes Tryd.prog).any (Tryd.prog.ifacesRec ·)) = true := by kernel_rfl
theorem k15 : (Rows.batchJoinsUptoRow.mapsOut == Tryd.prog.mapsAmong Tryd.f9.resultTypes.toList) = true := by kernel_rfl
theorem k16 : (Rows.batchJoinsUptoRow.loops == (Tryd.f9.params.toList ++ (Rows.OpenSpec.upto Rows.batchJoinsSpec).bare.plain.varTypes Tryd.prog).any (Tryd.prog.loopsFrom ·)) = true := by kernel_rfl
theorem k17 : (Rows.batchJoinsUptoRow.wideKeys == (Tryd.f9.params.toList ++ (Rows.OpenSpec.upto Rows.batchJoinsSpec).bare.plain.varTypes Tryd.prog ++ Tryd.f9.resultTypes.toList).any (Tryd.prog.wideKeysFrom ·)) = true := by kernel_rfl
theorem k18 : (Rows.OpenSpec.upto Rows.batchJoinsSpec).bare.vars.all (Tryd.prog.varReadable ·) = true := by kernel_rfl
theorem k19 : Tryd.f9.resultTypes.all (fun t => Tryd.prog.readableRec t && decide (t < Tryd.prog.types.size)) = true := by kernel_rfl
theorem k20 : (Rows.batchJoinsUptoRow.ifacesOut == Tryd.f9.resultTypes.toList.any (Tryd.prog.ifacesRec ·)) = true := by kernel_rfl
theorem k21 : (Rows.batchJoinsUptoRow.loopsOut == Tryd.f9.resultTypes.toList.any (Tryd.prog.loopsFrom ·)) = true := by kernel_rfl
theorem k22 : (Rows.batchJoinsUptoRow.plainKeys == Tryd.prog.plainKeys) = true := by rw [show Rows.batchJoinsUptoRow.plainKeys = Rows.batchNormalsRow.plainKeys from rfl]; exact plainKeysF
theorem k23 : Rows.batchJoinsUptoRow.shortTexts.isNone = true := by kernel_rfl
theorem k24 : Tryd.prog.stopsHeard = true := stopsHeardF
theorem k25 : Tryd.prog.mayEnter = true := mayEnterF
theorem k26 : (Rows.batchJoinsUptoRow.lifted == Tryd.prog.liftsFinal) = true := by rw [show Rows.batchJoinsUptoRow.lifted = Rows.batchNormalsRow.lifted from rfl]; exact liftsF
theorem k27 : (Tryd.prog.make == some Rows.batchJoinsUptoRow.make) = true := by rw [show Rows.batchJoinsUptoRow.make = Rows.batchNormalsRow.make from rfl]; exact makeF
theorem k28 : (Rows.batchJoinsUptoRow.kinds == (if Rows.batchJoinsUptoRow.domain.isEmpty then [] else Tryd.f9.params.toList.map fun t => match Tryd.prog.underlying t with | some (.int k) => some k | _ => none)) = true := by kernel_rfl
theorem k29 : (Rows.batchJoinsUptoRow.pinned == Rows.batchJoinsUptoRow.pinnedBy) = true := by kernel_rfl
theorem k30 : (Rows.batchJoinsUptoRow.veiled == (Tryd.f9.params.toList ++ (Rows.OpenSpec.upto Rows.batchJoinsSpec).bare.plain.varTypes Tryd.prog ++ Tryd.f9.resultTypes.toList).any (Tryd.prog.veiledRec ·)) = true := by kernel_rfl
theorem k31 : Rows.batchJoinsUptoRow.veiledFits Tryd.prog Tryd.f9.params.toList (Tryd.f9.params.toList ++ (Rows.OpenSpec.upto Rows.batchJoinsSpec).bare.plain.varTypes Tryd.prog ++ Tryd.f9.resultTypes.toList) = true := by kernel_rfl
set_option maxRecDepth 100000 in
theorem closed : joinedFacts Tryd.prog 9 Tryd.f9 (Rows.OpenSpec.upto Rows.batchJoinsSpec).bare Rows.batchJoinsUptoRow = true := by
  unfold joinedFacts; exact band (band (band (band (band (band (band (band (band (band (band (band (band (band (band (band (band (band (band (band (band (band (band (band (band (band (band (band (band (band (band (k0) k1) k2) k3) k4) k5) k6) k7) k8) k9) k10) k11) k12) k13) k14) k15) k16) k17) k18) k19) k20) k21) k22) k23) k24) k25) k26) k27) k28) k29) k30) k31
theorem named : Tryd.pinned.checked.prog.funcNamed Rows.batchJoinsUptoRow.func = some 9 := by kernel_rfl
theorem inst : Tryd.f9.isInstance Tryd.pinned.checked.prog Rows.batchJoinsUptoRow.origin Rows.batchJoinsUptoRow.targs := of_decide_eq_true (by kernel_rfl)
theorem wrap : Tryd.f9.isWrapper Tryd.pinned.checked.prog Rows.batchJoinsUptoRow.wrapper Rows.batchJoinsUptoRow.mainSum := by unfold Func.isWrapper; first | (rw [if_pos (by decide +kernel)]; kernel_rfl) | (rw [if_neg (by decide +kernel)]; exact ⟨rfl, rfl⟩)

theorem said : Rows.BatchJoinsUptoSaid :=
  OpenClaim.holds_of_cond 9 Tryd.f9 rfl rfl rfl rfl rfl rfl rfl ⟨rfl, rfl, rfl, rfl, rfl⟩ rfl rfl rfl rfl rfl named Tryd.func9 closed inst wrap
    (fun os started H enc _ F => by rw [OpenClaim.pre_eq_preRow]; exact lifted os started H enc F)

theorem plain (f : FuncId) (fn : Func) (hf : Tryd.pinned.checked.prog.funcNamed "remit/remitlaw12.BatchJoins" = some f) (hfn : Tryd.pinned.checked.prog.funcs[f]? = some fn) :
    true = Tryd.pinned.checked.prog.looks [] ∧ ∀ (j : Nat) t, fn.params[j]? = some t → Tryd.pinned.checked.prog.wantsStandIn t = false := by
  obtain rfl : f = 9 := Option.some.inj ((show Tryd.prog.funcNamed "remit/remitlaw12.BatchJoins" = some 9 by kernel_rfl).symm.trans hf) |>.symm
  obtain rfl : fn = Tryd.f9 := (Option.some.inj (Tryd.func9.symm.trans hfn)).symm
  have hall : (Tryd.f9.params.toList.all fun t => !Tryd.prog.wantsStandIn t) = true := by kernel_rfl
  refine ⟨by kernel_rfl, fun j t ht => ?_⟩
  have h1 := List.all_eq_true.1 hall t (Array.mem_toList_iff.2 (Array.mem_of_getElem? ht))
  have h2 : Tryd.prog.wantsStandIn t = false := by simpa using h1
  exact h2

/-- THE CARD -/
theorem card : Rows.BatchJoinsUptoCardSaid :=
  Claim7.holds_tied_plain_at .later [] _ _ _ _ said (fun _ h => by cases h) (by kernel_rfl) (fun _ h => by cases h) batchJoinsUpto_row_tie rfl ⟨rfl, rfl⟩ (by kernel_rfl) rfl plain (by kernel_rfl)
#print axioms card
end Go.Proofs.YtehheokalgmbgaaDoor.fnBatchJoins
