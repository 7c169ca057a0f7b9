/-
  JournalLeaves (chapter 10) answers true for every two numbers and every list of lives, and leaves its arguments as they were. Conditions: the 37 error variables of remit/api and the table of remit/checks hold what the program lays there (tied by the card).
-/
import Derived.Test.YteklldbfdmaafaaDoorJE
namespace Go.Proofs.YteklldbfdmaafaaDoor.fnJournalLeaves
open Go Go.RowKit Go.ChangeShapes Go.WideShapes Go.ChangeAt Go.Deep
open Go.ChangeMaps (open_string)

set_option maxRecDepth 100000 in
/-- the walk's end, for every argument and every world that fits -/
theorem contract (H : Type) (enc : TypeId × Value → H) (W : World) (base : Nat) (args : Array Value) (ds gs : List (DataW H)) (before : List MemPlace)
    (hval : ∀ (j : Nat) t v, Tryd.f20.params[j]? = some t → args[j]? = some v → Value.okWide Tryd.prog W .any base t v)
    (hW : DataW.Whole enc Tryd.prog Tryd.f20.params.toList Rows.journalLeavesSpec.vars false W args.toList ds gs before)
    (hL : laidMetH Tryd.prog Rows.journalLeavesRow.laid W) (hsh : W.ShapedOpen Tryd.prog) :
    Calls Tryd.prog 20 args W fun e W' => ∃ v, e = .returned v ∧ Rows.journalLeavesSpec.post enc Tryd.prog Tryd.f20 false true false false W args v W' := by
  obtain ⟨E, hE⟩ := errs_of_laid (by kernel_rfl) (by kernel_rfl) hL
  have hg := gB_le hsh
  have hW' := hW
  obtain ⟨p, q, hA0, hV, rfl, hfz, hnd⟩ := hW
  have hA : DataW.TrodAll enc Tryd.prog W 0 (fun _ => true) true Tryd.f20.params.toList args.toList ds p := hA0
  rw [Tryd.params20] at hA hval
  obtain ⟨v0, vs0, d0, ds0, p0, q0, hargs, rfl, rfl, h0, r0⟩ := trodAll_cons hA
  obtain ⟨v1, vs1, d1, ds1, p1, q1, rfl, rfl, rfl, h1, r1⟩ := trodAll_cons r0
  obtain ⟨v2, vs2, d2, ds2, p2, q2, rfl, rfl, rfl, h2, r2⟩ := trodAll_cons r1
  obtain ⟨rfl, rfl, rfl⟩ := trodAll_nil r2
  obtain rfl : args = #[v0, v1, v2] := by cases args; simp_all
  obtain ⟨rfl, rfl⟩ := trodVars_none hV
  clear hA0
  obtain ⟨n0, rfl, rfl, rfl, w0⟩ := open_int Tryd.underlying3 (hval 0 3 v0 rfl rfl) h0
  obtain ⟨n1, rfl, rfl, rfl, w1⟩ := open_int Tryd.underlying3 (hval 1 3 v1 rfl rfl) h1
  obtain ⟨lv2, hs2, hsa2⟩ := lives_of (hval 2 116 v2 rfl rfl) h2
  have hN : NibAt W := nibs_of_laid 37 (by kernel_rfl) (by kernel_rfl) hL
  have ct := leaves10_ct (W := W) (E := E) hE hN hg n0 n1 v2 lv2 hs2 (fun o ho => (bounds_i64 (hsa2 o ho)).2)
  refine (ct.go [] W (St.start W)).mono fun e W' ⟨x, he, hS⟩ => ?_
  subst he
  exact ⟨_, rfl, post_true (tb := 4) laidOut Tryd.underlying4 (by kernel_rfl) (by kernel_rfl) rfl hW' rfl hS.below⟩

noncomputable abbrev wit : Array Value := #[.int .i64 0, .int .i64 0, .slice none 0 0]
noncomputable abbrev w0 (os : Os) : World := World.laidAll Tryd.prog os Rows.journalLeavesRow.laid
theorem reads (os : Os) {H : Type} (enc : TypeId × Value → H) : ∃ places, DataW.whole enc Tryd.prog ((w0 os).forCall (fun _ _ => 0) ⟨#[], wit, []⟩).memory Tryd.f20.params.toList Rows.journalLeavesSpec.vars false wit.toList 8 = some ([.lit (.int .i64 0), .lit (.int .i64 0), .nil], [], places) :=
  ⟨[], by kernel_rfl⟩
theorem met (os : Os) : laidMetH Tryd.prog Rows.journalLeavesRow.laid ((w0 os).forCall (fun _ _ => 0) ⟨#[], wit, []⟩).memory := by
  rw [MakeChecks.laidMetH_plain _ _ _ (by kernel_rfl)]; exact laidMet_laidAll _ (by kernel_rfl) (by kernel_rfl)
set_option maxRecDepth 100000 in
theorem lifted (os : Os) (started : os.Started) (H : Type) (enc : TypeId × Value → H) (F : Stop.Interp) :
    ReturnsInHanded {} Tryd.checked os 20 .any ((OpenSpec.ofChange Rows.journalLeavesSpec).preRow enc Tryd.prog Tryd.f20 Rows.journalLeavesRow.domain false Rows.journalLeavesRow.laid) (((OpenSpec.ofChange Rows.journalLeavesSpec).at F).post enc Tryd.prog Tryd.f20 false true false false) := by
  obtain ⟨places, hx⟩ := reads os enc
  refine returnsInHanded_of_row (C := Tryd.checked) (s := (OpenSpec.ofChange Rows.journalLeavesSpec)) own started (by kernel_rfl) Tryd.func20
    (witness_laid (enc := enc) (C := Tryd.checked) false (w0 os) wit (World.laidAll_os _ _ _) (World.shaped_of_ZipB (by kernel_rfl) (by kernel_rfl)) (by kernel_rfl)
      (OpenSpec.preRow_of_cond 8 hx (by kernel_rfl) (fun k hk => by cases hk) (by kernel_rfl) (met os))) ?_
  intro W base args ds gs before hval hW _ hcond _ hL hsh _
  exact contract H enc W base args ds gs before hval hW hL hsh

theorem k0 : Rows.journalLeavesRow.wf (OpenSpec.ofChange (OpenSpec.ofChange Rows.journalLeavesSpec).bare) = true := by kernel_rfl
theorem k1 : laidOutB Tryd.prog = true := laidOut
theorem k2 : mapsRowed Tryd.prog = true := mapsRowedF
theorem k3 : Tryd.f20.params.all (Tryd.prog.readableRec ·) = true := by kernel_rfl
theorem k4 : namedTie Tryd.prog Rows.journalLeavesRow.named (OpenSpec.ofChange Rows.journalLeavesSpec).bare.vars = true := by kernel_rfl
theorem k5 : (Rows.journalLeavesRow.stops == []) = true := by kernel_rfl
theorem k6 : (Tryd.prog.stops == []) = true := stopsF
theorem k7 : (Rows.journalLeavesRow.knobs == []) = true := by kernel_rfl
theorem k8 : (Tryd.prog.stopKnobs == []) = true := stopKnobsF
theorem k9 : (Rows.journalLeavesRow.inPlace == Tryd.prog.inPlace 20) = true := by kernel_rfl
theorem k10 : (Rows.journalLeavesRow.unfollowed == Tryd.prog.unfollowed 20) = true := by kernel_rfl
theorem k11 : (Rows.journalLeavesRow.recurses == Tryd.prog.recurses 20) = true := by kernel_rfl
theorem k12 : (Rows.journalLeavesRow.named == Tryd.prog.varsNamed 20) = true := by kernel_rfl
theorem k13 : (Rows.journalLeavesRow.maps == (Tryd.f20.params.toList ++ (OpenSpec.ofChange Rows.journalLeavesSpec).bare.plain.varTypes Tryd.prog).any (Tryd.prog.mapsRec ·)) = true := by kernel_rfl
theorem k14 : (Rows.journalLeavesRow.ifaces == (Tryd.f20.params.toList ++ (OpenSpec.ofChange Rows.journalLeavesSpec).bare.plain.varTypes Tryd.prog).any (Tryd.prog.ifacesRec ·)) = true := by kernel_rfl
theorem k15 : (Rows.journalLeavesRow.mapsOut == Tryd.prog.mapsAmong Tryd.f20.resultTypes.toList) = true := by kernel_rfl
theorem k16 : (Rows.journalLeavesRow.loops == (Tryd.f20.params.toList ++ (OpenSpec.ofChange Rows.journalLeavesSpec).bare.plain.varTypes Tryd.prog).any (Tryd.prog.loopsFrom ·)) = true := by kernel_rfl
theorem k17 : (Rows.journalLeavesRow.wideKeys == (Tryd.f20.params.toList ++ (OpenSpec.ofChange Rows.journalLeavesSpec).bare.plain.varTypes Tryd.prog ++ Tryd.f20.resultTypes.toList).any (Tryd.prog.wideKeysFrom ·)) = true := by kernel_rfl
theorem k18 : (OpenSpec.ofChange Rows.journalLeavesSpec).bare.vars.all (Tryd.prog.varReadable ·) = true := by kernel_rfl
theorem k19 : Tryd.f20.resultTypes.all (fun t => Tryd.prog.readableRec t && decide (t < Tryd.prog.types.size)) = true := by kernel_rfl
theorem k20 : (Rows.journalLeavesRow.ifacesOut == Tryd.f20.resultTypes.toList.any (Tryd.prog.ifacesRec ·)) = true := by kernel_rfl
theorem k21 : (Rows.journalLeavesRow.loopsOut == Tryd.f20.resultTypes.toList.any (Tryd.prog.loopsFrom ·)) = true := by kernel_rfl
theorem k22 : (Rows.journalLeavesRow.plainKeys == Tryd.prog.plainKeys) = true := by rw [show Rows.journalLeavesRow.plainKeys = Rows.diskFlushesUptoRow.plainKeys from rfl]; exact plainKeysF
theorem k23 : Rows.journalLeavesRow.shortTexts.isNone = true := by kernel_rfl
theorem k24 : Tryd.prog.stopsHeard = true := stopsHeardF
theorem k25 : Tryd.prog.mayEnter = true := mayEnterF
theorem k26 : (Rows.journalLeavesRow.lifted == Tryd.prog.liftsFinal) = true := by rw [show Rows.journalLeavesRow.lifted = Rows.diskFlushesUptoRow.lifted from rfl]; exact liftsF
theorem k27 : (Tryd.prog.make == some Rows.journalLeavesRow.make) = true := by rw [show Rows.journalLeavesRow.make = Rows.diskFlushesUptoRow.make from rfl]; exact makeF
theorem k28 : (Rows.journalLeavesRow.kinds == (if Rows.journalLeavesRow.domain.isEmpty then [] else Tryd.f20.params.toList.map fun t => match Tryd.prog.underlying t with | some (.int k) => some k | _ => none)) = true := by kernel_rfl
theorem k29 : (Rows.journalLeavesRow.pinned == Rows.journalLeavesRow.pinnedBy) = true := by kernel_rfl
theorem k30 : (Rows.journalLeavesRow.veiled == (Tryd.f20.params.toList ++ (OpenSpec.ofChange Rows.journalLeavesSpec).bare.plain.varTypes Tryd.prog ++ Tryd.f20.resultTypes.toList).any (Tryd.prog.veiledRec ·)) = true := by kernel_rfl
theorem k31 : Rows.journalLeavesRow.veiledFits Tryd.prog Tryd.f20.params.toList (Tryd.f20.params.toList ++ (OpenSpec.ofChange Rows.journalLeavesSpec).bare.plain.varTypes Tryd.prog ++ Tryd.f20.resultTypes.toList) = true := by kernel_rfl
set_option maxRecDepth 100000 in
theorem closed : joinedFacts Tryd.prog 20 Tryd.f20 (OpenSpec.ofChange Rows.journalLeavesSpec).bare Rows.journalLeavesRow = true := by
  unfold joinedFacts; exact band (band (band (band (band (band (band (band (band (band (band (band (band (band (band (band (band (band (band (band (band (band (band (band (band (band (band (band (band (band (band (k0) k1) k2) k3) k4) k5) k6) k7) k8) k9) k10) k11) k12) k13) k14) k15) k16) k17) k18) k19) k20) k21) k22) k23) k24) k25) k26) k27) k28) k29) k30) k31
theorem named : Tryd.pinned.checked.prog.funcNamed Rows.journalLeavesRow.func = some 20 := by kernel_rfl
theorem inst : Tryd.f20.isInstance Tryd.pinned.checked.prog Rows.journalLeavesRow.origin Rows.journalLeavesRow.targs := of_decide_eq_true (by kernel_rfl)
theorem wrap : Tryd.f20.isWrapper Tryd.pinned.checked.prog Rows.journalLeavesRow.wrapper Rows.journalLeavesRow.mainSum := by unfold Func.isWrapper; first | (rw [if_pos (by decide +kernel)]; kernel_rfl) | (rw [if_neg (by decide +kernel)]; exact ⟨rfl, rfl⟩)
theorem said : Rows.JournalLeavesSaid :=
  OpenClaim.holds_of_cond 20 Tryd.f20 rfl rfl rfl rfl rfl rfl rfl ⟨rfl, rfl, rfl, rfl, rfl⟩ rfl rfl rfl rfl rfl named Tryd.func20 closed inst wrap
    (fun os started H enc _ F => by rw [OpenClaim.pre_eq_preRow]; exact lifted os started H enc F)

theorem plain (f : FuncId) (fn : Func) (hf : Tryd.pinned.checked.prog.funcNamed "remit/remitlaw10.JournalLeaves" = some f) (hfn : Tryd.pinned.checked.prog.funcs[f]? = some fn) :
    true = Tryd.pinned.checked.prog.looks [] ∧ ∀ (j : Nat) t, fn.params[j]? = some t → Tryd.pinned.checked.prog.wantsStandIn t = false := by
  obtain rfl : f = 20 := Option.some.inj ((show Tryd.prog.funcNamed "remit/remitlaw10.JournalLeaves" = some 20 by kernel_rfl).symm.trans hf) |>.symm
  obtain rfl : fn = Tryd.f20 := (Option.some.inj (Tryd.func20.symm.trans hfn)).symm
  have hall : (Tryd.f20.params.toList.all fun t => !Tryd.prog.wantsStandIn t) = true := by kernel_rfl
  refine ⟨by kernel_rfl, fun j t ht => ?_⟩
  have h1 := List.all_eq_true.1 hall t (Array.mem_toList_iff.2 (Array.mem_of_getElem? ht))
  have h2 : Tryd.prog.wantsStandIn t = false := by simpa using h1
  exact h2

/-- THE CARD -/
theorem card : Rows.JournalLeavesCardSaid :=
  Claim7.holds_tied_plain_at .later [] _ _ _ _ said (fun _ h => by cases h) (by kernel_rfl) (fun _ h => by cases h) journalLeaves_row_tie rfl ⟨rfl, rfl⟩ (by kernel_rfl) rfl plain (by kernel_rfl)
#print axioms card
end Go.Proofs.YteklldbfdmaafaaDoor.fnJournalLeaves
