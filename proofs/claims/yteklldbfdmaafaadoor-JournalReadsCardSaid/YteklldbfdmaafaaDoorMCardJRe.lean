/-
  JournalReads (chapter 10) answers true for every text and every three numbers, and leaves its arguments as they were. Conditions: the 37 error variables of remit/api and the table of remit/checks hold what the program lays there (tied by the card).
-/
import Derived.Test.YteklldbfdmaafaaDoorLF
namespace Go.Proofs.YteklldbfdmaafaaDoor.fnJournalReads
open Go Go.RowKit Go.ChangeShapes Go.WideShapes Go.ChangeAt Go.Deep
open Go.ChangeMaps (open_string)

set_option maxRecDepth 100000 in
/-- the walk's end, for every argument and every world that fits -/
theorem contract (H : Type) (enc : TypeId × Value → H) (W : World) (base : Nat) (args : Array Value) (ds gs : List (DataW H)) (before : List MemPlace)
    (hval : ∀ (j : Nat) t v, Tryd.f19.params[j]? = some t → args[j]? = some v → Value.okWide Tryd.prog W .any base t v)
    (hW : DataW.Whole enc Tryd.prog Tryd.f19.params.toList Rows.journalReadsSpec.vars false W args.toList ds gs before)
    (hL : laidMetH Tryd.prog Rows.journalReadsRow.laid W) (hsh : W.ShapedOpen Tryd.prog) :
    Calls Tryd.prog 19 args W fun e W' => ∃ v, e = .returned v ∧ Rows.journalReadsSpec.post enc Tryd.prog Tryd.f19 false true false false W args v W' := by
  obtain ⟨E, hE⟩ := errs_of_laid (by kernel_rfl) (by kernel_rfl) hL
  have hg := gB_le hsh
  have hW' := hW
  obtain ⟨p, q, hA0, hV, rfl, hfz, hnd⟩ := hW
  have hA : DataW.TrodAll enc Tryd.prog W 0 (fun _ => true) true Tryd.f19.params.toList args.toList ds p := hA0
  rw [Tryd.params19] at hA hval
  obtain ⟨v0, vs0, d0, ds0, p0, q0, hargs, rfl, rfl, h0, r0⟩ := trodAll_cons hA
  obtain ⟨v1, vs1, d1, ds1, p1, q1, rfl, rfl, rfl, h1, r1⟩ := trodAll_cons r0
  obtain ⟨v2, vs2, d2, ds2, p2, q2, rfl, rfl, rfl, h2, r2⟩ := trodAll_cons r1
  obtain ⟨v3, vs3, d3, ds3, p3, q3, rfl, rfl, rfl, h3, r3⟩ := trodAll_cons r2
  obtain ⟨rfl, rfl, rfl⟩ := trodAll_nil r3
  obtain rfl : args = #[v0, v1, v2, v3] := by cases args; simp_all
  obtain ⟨rfl, rfl⟩ := trodVars_none hV
  clear hA0
  obtain ⟨s0, rfl, rfl, rfl, hm0⟩ := open_string Tryd.underlying9 (hval 0 9 v0 rfl rfl) h0
  obtain ⟨l0, rfl⟩ : ∃ l : List UInt8, s0 = ⟨l.toArray⟩ := ⟨s0.data.toList, by simp⟩
  have hll0 : l0.length ≤ 9223372036854775807 := by have h := hm0; unfold maxLen at h; exact h
  obtain ⟨n1, rfl, rfl, rfl, w1⟩ := open_int Tryd.underlying3 (hval 1 3 v1 rfl rfl) h1
  obtain ⟨n2, rfl, rfl, rfl, w2⟩ := open_int Tryd.underlying3 (hval 2 3 v2 rfl rfl) h2
  obtain ⟨n3, rfl, rfl, rfl, w3⟩ := open_int Tryd.underlying3 (hval 3 3 v3 rfl rfl) h3
  have hN : NibAt W := nibs_of_laid 37 (by kernel_rfl) (by kernel_rfl) hL
  have ct := reads10_ct (W := W) (E := E) hE hN hg l0 n1 n2 n3 hll0
  refine (ct.go [] W (St.start W)).mono fun e W' ⟨x, he, hS⟩ => ?_
  subst he
  exact ⟨_, rfl, post_true (tb := 4) laidOut Tryd.underlying4 (by kernel_rfl) (by kernel_rfl) rfl hW' rfl hS.below⟩

noncomputable abbrev wit : Array Value := #[.string ⟨#[]⟩, .int .i64 0, .int .i64 0, .int .i64 0]
noncomputable abbrev w0 (os : Os) : World := World.laidAll Tryd.prog os Rows.journalReadsRow.laid
theorem reads (os : Os) {H : Type} (enc : TypeId × Value → H) : ∃ places, DataW.whole enc Tryd.prog ((w0 os).forCall (fun _ _ => 0) ⟨#[], wit, []⟩).memory Tryd.f19.params.toList Rows.journalReadsSpec.vars false wit.toList 8 = some ([.lit (.string []), .lit (.int .i64 0), .lit (.int .i64 0), .lit (.int .i64 0)], [], places) :=
  ⟨[], by kernel_rfl⟩
theorem met (os : Os) : laidMetH Tryd.prog Rows.journalReadsRow.laid ((w0 os).forCall (fun _ _ => 0) ⟨#[], wit, []⟩).memory := by
  rw [MakeChecks.laidMetH_plain _ _ _ (by kernel_rfl)]; exact laidMet_laidAll _ (by kernel_rfl) (by kernel_rfl)
set_option maxRecDepth 100000 in
theorem lifted (os : Os) (started : os.Started) (H : Type) (enc : TypeId × Value → H) (F : Stop.Interp) :
    ReturnsInHanded {} Tryd.checked os 19 .any ((OpenSpec.ofChange Rows.journalReadsSpec).preRow enc Tryd.prog Tryd.f19 Rows.journalReadsRow.domain false Rows.journalReadsRow.laid) (((OpenSpec.ofChange Rows.journalReadsSpec).at F).post enc Tryd.prog Tryd.f19 false true false false) := by
  obtain ⟨places, hx⟩ := reads os enc
  refine returnsInHanded_of_row (C := Tryd.checked) (s := (OpenSpec.ofChange Rows.journalReadsSpec)) own started (by kernel_rfl) Tryd.func19
    (witness_laid (enc := enc) (C := Tryd.checked) false (w0 os) wit (World.laidAll_os _ _ _) (World.shaped_of_ZipB (by kernel_rfl) (by kernel_rfl)) (by kernel_rfl)
      (OpenSpec.preRow_of_cond 8 hx (by kernel_rfl) (fun k hk => by cases hk) (by kernel_rfl) (met os))) ?_
  intro W base args ds gs before hval hW _ hcond _ hL hsh _
  exact contract H enc W base args ds gs before hval hW hL hsh

theorem k0 : Rows.journalReadsRow.wf (OpenSpec.ofChange (OpenSpec.ofChange Rows.journalReadsSpec).bare) = true := by kernel_rfl
theorem k1 : laidOutB Tryd.prog = true := laidOut
theorem k2 : mapsRowed Tryd.prog = true := mapsRowedF
theorem k3 : Tryd.f19.params.all (Tryd.prog.readableRec ·) = true := by kernel_rfl
theorem k4 : namedTie Tryd.prog Rows.journalReadsRow.named (OpenSpec.ofChange Rows.journalReadsSpec).bare.vars = true := by kernel_rfl
theorem k5 : (Rows.journalReadsRow.stops == []) = true := by kernel_rfl
theorem k6 : (Tryd.prog.stops == []) = true := stopsF
theorem k7 : (Rows.journalReadsRow.knobs == []) = true := by kernel_rfl
theorem k8 : (Tryd.prog.stopKnobs == []) = true := stopKnobsF
theorem k9 : (Rows.journalReadsRow.inPlace == Tryd.prog.inPlace 19) = true := by kernel_rfl
theorem k10 : (Rows.journalReadsRow.unfollowed == Tryd.prog.unfollowed 19) = true := by kernel_rfl
theorem k11 : (Rows.journalReadsRow.recurses == Tryd.prog.recurses 19) = true := by kernel_rfl
theorem k12 : (Rows.journalReadsRow.named == Tryd.prog.varsNamed 19) = true := by kernel_rfl
theorem k13 : (Rows.journalReadsRow.maps == (Tryd.f19.params.toList ++ (OpenSpec.ofChange Rows.journalReadsSpec).bare.plain.varTypes Tryd.prog).any (Tryd.prog.mapsRec ·)) = true := by kernel_rfl
theorem k14 : (Rows.journalReadsRow.ifaces == (Tryd.f19.params.toList ++ (OpenSpec.ofChange Rows.journalReadsSpec).bare.plain.varTypes Tryd.prog).any (Tryd.prog.ifacesRec ·)) = true := by kernel_rfl
theorem k15 : (Rows.journalReadsRow.mapsOut == Tryd.prog.mapsAmong Tryd.f19.resultTypes.toList) = true := by kernel_rfl
theorem k16 : (Rows.journalReadsRow.loops == (Tryd.f19.params.toList ++ (OpenSpec.ofChange Rows.journalReadsSpec).bare.plain.varTypes Tryd.prog).any (Tryd.prog.loopsFrom ·)) = true := by kernel_rfl
theorem k17 : (Rows.journalReadsRow.wideKeys == (Tryd.f19.params.toList ++ (OpenSpec.ofChange Rows.journalReadsSpec).bare.plain.varTypes Tryd.prog ++ Tryd.f19.resultTypes.toList).any (Tryd.prog.wideKeysFrom ·)) = true := by kernel_rfl
theorem k18 : (OpenSpec.ofChange Rows.journalReadsSpec).bare.vars.all (Tryd.prog.varReadable ·) = true := by kernel_rfl
theorem k19 : Tryd.f19.resultTypes.all (fun t => Tryd.prog.readableRec t && decide (t < Tryd.prog.types.size)) = true := by kernel_rfl
theorem k20 : (Rows.journalReadsRow.ifacesOut == Tryd.f19.resultTypes.toList.any (Tryd.prog.ifacesRec ·)) = true := by kernel_rfl
theorem k21 : (Rows.journalReadsRow.loopsOut == Tryd.f19.resultTypes.toList.any (Tryd.prog.loopsFrom ·)) = true := by kernel_rfl
theorem k22 : (Rows.journalReadsRow.plainKeys == Tryd.prog.plainKeys) = true := by rw [show Rows.journalReadsRow.plainKeys = Rows.diskFlushesUptoRow.plainKeys from rfl]; exact plainKeysF
theorem k23 : Rows.journalReadsRow.shortTexts.isNone = true := by kernel_rfl
theorem k24 : Tryd.prog.stopsHeard = true := stopsHeardF
theorem k25 : Tryd.prog.mayEnter = true := mayEnterF
theorem k26 : (Rows.journalReadsRow.lifted == Tryd.prog.liftsFinal) = true := by rw [show Rows.journalReadsRow.lifted = Rows.diskFlushesUptoRow.lifted from rfl]; exact liftsF
theorem k27 : (Tryd.prog.make == some Rows.journalReadsRow.make) = true := by rw [show Rows.journalReadsRow.make = Rows.diskFlushesUptoRow.make from rfl]; exact makeF
theorem k28 : (Rows.journalReadsRow.kinds == (if Rows.journalReadsRow.domain.isEmpty then [] else Tryd.f19.params.toList.map fun t => match Tryd.prog.underlying t with | some (.int k) => some k | _ => none)) = true := by kernel_rfl
theorem k29 : (Rows.journalReadsRow.pinned == Rows.journalReadsRow.pinnedBy) = true := by kernel_rfl
theorem k30 : (Rows.journalReadsRow.veiled == (Tryd.f19.params.toList ++ (OpenSpec.ofChange Rows.journalReadsSpec).bare.plain.varTypes Tryd.prog ++ Tryd.f19.resultTypes.toList).any (Tryd.prog.veiledRec ·)) = true := by kernel_rfl
theorem k31 : Rows.journalReadsRow.veiledFits Tryd.prog Tryd.f19.params.toList (Tryd.f19.params.toList ++ (OpenSpec.ofChange Rows.journalReadsSpec).bare.plain.varTypes Tryd.prog ++ Tryd.f19.resultTypes.toList) = true := by kernel_rfl
set_option maxRecDepth 100000 in
theorem closed : joinedFacts Tryd.prog 19 Tryd.f19 (OpenSpec.ofChange Rows.journalReadsSpec).bare Rows.journalReadsRow = true := by
  unfold joinedFacts; exact band (band (band (band (band (band (band (band (band (band (band (band (band (band (band (band (band (band (band (band (band (band (band (band (band (band (band (band (band (band (band (k0) k1) k2) k3) k4) k5) k6) k7) k8) k9) k10) k11) k12) k13) k14) k15) k16) k17) k18) k19) k20) k21) k22) k23) k24) k25) k26) k27) k28) k29) k30) k31
theorem named : Tryd.pinned.checked.prog.funcNamed Rows.journalReadsRow.func = some 19 := by kernel_rfl
theorem inst : Tryd.f19.isInstance Tryd.pinned.checked.prog Rows.journalReadsRow.origin Rows.journalReadsRow.targs := of_decide_eq_true (by kernel_rfl)
theorem wrap : Tryd.f19.isWrapper Tryd.pinned.checked.prog Rows.journalReadsRow.wrapper Rows.journalReadsRow.mainSum := by unfold Func.isWrapper; first | (rw [if_pos (by decide +kernel)]; kernel_rfl) | (rw [if_neg (by decide +kernel)]; exact ⟨rfl, rfl⟩)
theorem said : Rows.JournalReadsSaid :=
  OpenClaim.holds_of_cond 19 Tryd.f19 rfl rfl rfl rfl rfl rfl rfl ⟨rfl, rfl, rfl, rfl, rfl⟩ rfl rfl rfl rfl rfl named Tryd.func19 closed inst wrap
    (fun os started H enc _ F => by rw [OpenClaim.pre_eq_preRow]; exact lifted os started H enc F)

theorem plain (f : FuncId) (fn : Func) (hf : Tryd.pinned.checked.prog.funcNamed "remit/remitlaw10.JournalReads" = some f) (hfn : Tryd.pinned.checked.prog.funcs[f]? = some fn) :
    true = Tryd.pinned.checked.prog.looks [] ∧ ∀ (j : Nat) t, fn.params[j]? = some t → Tryd.pinned.checked.prog.wantsStandIn t = false := by
  obtain rfl : f = 19 := Option.some.inj ((show Tryd.prog.funcNamed "remit/remitlaw10.JournalReads" = some 19 by kernel_rfl).symm.trans hf) |>.symm
  obtain rfl : fn = Tryd.f19 := (Option.some.inj (Tryd.func19.symm.trans hfn)).symm
  have hall : (Tryd.f19.params.toList.all fun t => !Tryd.prog.wantsStandIn t) = true := by kernel_rfl
  refine ⟨by kernel_rfl, fun j t ht => ?_⟩
  have h1 := List.all_eq_true.1 hall t (Array.mem_toList_iff.2 (Array.mem_of_getElem? ht))
  have h2 : Tryd.prog.wantsStandIn t = false := by simpa using h1
  exact h2

/-- THE CARD -/
theorem card : Rows.JournalReadsCardSaid :=
  Claim7.holds_tied_plain_at .later [] _ _ _ _ said (fun _ h => by cases h) (by kernel_rfl) (fun _ h => by cases h) journalReads_row_tie rfl ⟨rfl, rfl⟩ (by kernel_rfl) rfl plain (by kernel_rfl)
#print axioms card
end Go.Proofs.YteklldbfdmaafaaDoor.fnJournalReads
