/-
  JournalPlays (chapter 10) answers true for every number and every script of bulk at most 1048576, and leaves its arguments as they were. Conditions: the 37 error variables of remit/api and the table of remit/checks hold what the program lays there (tied by the card).
-/
import Derived.Test.YteklldbfdmaafaaDoorPF
namespace Go.Proofs.YteklldbfdmaafaaDoor.fnJournalPlays
open Go Go.RowKit Go.ChangeShapes Go.WideShapes Go.ChangeAt Go.Deep
open Go.ChangeMaps (open_string)

set_option maxRecDepth 100000 in
/-- the walk's end, for every argument and every world that fits -/
theorem contract (H : Type) (enc : TypeId × Value → H) (W : World) (base : Nat) (args : Array Value) (ds gs : List (DataW H)) (before : List MemPlace)
    (hval : ∀ (j : Nat) t v, Tryd.f21.params[j]? = some t → args[j]? = some v → Value.okWide Tryd.prog W .any base t v)
    (hW : DataW.Whole enc Tryd.prog Tryd.f21.params.toList Rows.journalPlaysSpec.vars false W args.toList ds gs before) (hk : Rows.uptoSmall H (ds ++ gs) = true)
    (hL : laidMetH Tryd.prog Rows.journalPlaysUptoRow.laid W) (hsh : W.ShapedOpen Tryd.prog) :
    Calls Tryd.prog 21 args W fun e W' => ∃ v, e = .returned v ∧ Rows.journalPlaysSpec.post enc Tryd.prog Tryd.f21 false true false false W args v W' := by
  obtain ⟨E, hE⟩ := errs_of_laid (by kernel_rfl) (by kernel_rfl) hL
  have hg := gB_le hsh
  have hW' := hW
  obtain ⟨p, q, hA0, hV, rfl, hfz, hnd⟩ := hW
  have hA : DataW.TrodAll enc Tryd.prog W 0 (fun _ => true) true Tryd.f21.params.toList args.toList ds p := hA0
  rw [Tryd.params21] at hA hval
  obtain ⟨v0, vs0, d0, ds0, p0, q0, hargs, rfl, rfl, h0, r0⟩ := trodAll_cons hA
  obtain ⟨v1, vs1, d1, ds1, p1, q1, rfl, rfl, rfl, h1, r1⟩ := trodAll_cons r0
  obtain ⟨rfl, rfl, rfl⟩ := trodAll_nil r1
  obtain rfl : args = #[v0, v1] := by cases args; simp_all
  obtain ⟨rfl, rfl⟩ := trodVars_none hV
  have hbulk := upto_bound hk
  simp only [List.append_nil, Rows.uptoBulkAll] at hbulk
  clear hA0
  obtain ⟨n0, rfl, rfl, rfl, w0⟩ := open_int Tryd.underlying3 (hval 0 3 v0 rfl rfl) h0
  obtain ⟨ops1, hs1, hsl1, hsa1⟩ := script10_of (hval 1 121 v1 rfl rfl) h1
  have hN : NibAt W := nibs_of_laid 37 (by kernel_rfl) (by kernel_rfl) hL
  have ct := jplays_ct (W := W) (E := E) hE hN hg n0 v1 ops1 hs1 (fun o ho => ⟨(bounds_i64 (hsa1 o ho).1).2, (bounds_i64 (hsa1 o ho).2).2⟩) (by omega)
  refine (ct.go [] W (St.start W)).mono fun e W' ⟨x, he, hS⟩ => ?_
  subst he
  exact ⟨_, rfl, post_true (tb := 4) laidOut Tryd.underlying4 (by kernel_rfl) (by kernel_rfl) rfl hW' rfl hS.below⟩

noncomputable abbrev wit : Array Value := #[.int .i64 0, .slice none 0 0]
noncomputable abbrev w0 (os : Os) : World := World.laidAll Tryd.prog os Rows.journalPlaysUptoRow.laid
theorem reads (os : Os) {H : Type} (enc : TypeId × Value → H) : ∃ places, DataW.whole enc Tryd.prog ((w0 os).forCall (fun _ _ => 0) ⟨#[], wit, []⟩).memory Tryd.f21.params.toList Rows.journalPlaysSpec.vars false wit.toList 8 = some ([.lit (.int .i64 0), .nil], [], places) :=
  ⟨[], by kernel_rfl⟩
theorem met (os : Os) : laidMetH Tryd.prog Rows.journalPlaysUptoRow.laid ((w0 os).forCall (fun _ _ => 0) ⟨#[], wit, []⟩).memory := by
  rw [MakeChecks.laidMetH_plain _ _ _ (by kernel_rfl)]; exact laidMet_laidAll _ (by kernel_rfl) (by kernel_rfl)
set_option maxRecDepth 100000 in
theorem lifted (os : Os) (started : os.Started) (H : Type) (enc : TypeId × Value → H) (F : Stop.Interp) :
    ReturnsInHanded {} Tryd.checked os 21 .any ((Rows.OpenSpec.upto Rows.journalPlaysSpec).preRow enc Tryd.prog Tryd.f21 Rows.journalPlaysUptoRow.domain false Rows.journalPlaysUptoRow.laid) (((Rows.OpenSpec.upto Rows.journalPlaysSpec).at F).post enc Tryd.prog Tryd.f21 false true false false) := by
  obtain ⟨places, hx⟩ := reads os enc
  refine returnsInHanded_of_row (C := Tryd.checked) (s := (Rows.OpenSpec.upto Rows.journalPlaysSpec)) own started (by kernel_rfl) Tryd.func21
    (witness_laid (enc := enc) (C := Tryd.checked) false (w0 os) wit (World.laidAll_os _ _ _) (World.shaped_of_ZipB (by kernel_rfl) (by kernel_rfl)) (by kernel_rfl)
      (OpenSpec.preRow_of_cond 8 hx (by kernel_rfl) (fun k hk => by cases hk; kernel_rfl) (by kernel_rfl) (met os))) ?_
  intro W base args ds gs before hval hW _ hcond _ hL hsh _
  exact contract H enc W base args ds gs before hval hW (hcond _ rfl) hL hsh

theorem k0 : Rows.journalPlaysUptoRow.wf (OpenSpec.ofChange (Rows.OpenSpec.upto Rows.journalPlaysSpec).bare) = true := by kernel_rfl
theorem k1 : laidOutB Tryd.prog = true := laidOut
theorem k2 : mapsRowed Tryd.prog = true := mapsRowedF
theorem k3 : Tryd.f21.params.all (Tryd.prog.readableRec ·) = true := by kernel_rfl
theorem k4 : namedTie Tryd.prog Rows.journalPlaysUptoRow.named (Rows.OpenSpec.upto Rows.journalPlaysSpec).bare.vars = true := by kernel_rfl
theorem k5 : (Rows.journalPlaysUptoRow.stops == []) = true := by kernel_rfl
theorem k6 : (Tryd.prog.stops == []) = true := stopsF
theorem k7 : (Rows.journalPlaysUptoRow.knobs == []) = true := by kernel_rfl
theorem k8 : (Tryd.prog.stopKnobs == []) = true := stopKnobsF
theorem k9 : (Rows.journalPlaysUptoRow.inPlace == Tryd.prog.inPlace 21) = true := by kernel_rfl
theorem k10 : (Rows.journalPlaysUptoRow.unfollowed == Tryd.prog.unfollowed 21) = true := by kernel_rfl
theorem k11 : (Rows.journalPlaysUptoRow.recurses == Tryd.prog.recurses 21) = true := by kernel_rfl
theorem k12 : (Rows.journalPlaysUptoRow.named == Tryd.prog.varsNamed 21) = true := by kernel_rfl
theorem k13 : (Rows.journalPlaysUptoRow.maps == (Tryd.f21.params.toList ++ (Rows.OpenSpec.upto Rows.journalPlaysSpec).bare.plain.varTypes Tryd.prog).any (Tryd.prog.mapsRec ·)) = true := by kernel_rfl
theorem k14 : (Rows.journalPlaysUptoRow.ifaces == (Tryd.f21.params.toList ++ (Rows.OpenSpec.upto Rows.journalPlaysSpec).bare.plain.varTypes Tryd.prog).any (Tryd.prog.ifacesRec ·)) = true := by kernel_rfl
theorem k15 : (Rows.journalPlaysUptoRow.mapsOut == Tryd.prog.mapsAmong Tryd.f21.resultTypes.toList) = true := by kernel_rfl
theorem k16 : (Rows.journalPlaysUptoRow.loops == (Tryd.f21.params.toList ++ (Rows.OpenSpec.upto Rows.journalPlaysSpec).bare.plain.varTypes Tryd.prog).any (Tryd.prog.loopsFrom ·)) = true := by kernel_rfl
theorem k17 : (Rows.journalPlaysUptoRow.wideKeys == (Tryd.f21.params.toList ++ (Rows.OpenSpec.upto Rows.journalPlaysSpec).bare.plain.varTypes Tryd.prog ++ Tryd.f21.resultTypes.toList).any (Tryd.prog.wideKeysFrom ·)) = true := by kernel_rfl
theorem k18 : (Rows.OpenSpec.upto Rows.journalPlaysSpec).bare.vars.all (Tryd.prog.varReadable ·) = true := by kernel_rfl
theorem k19 : Tryd.f21.resultTypes.all (fun t => Tryd.prog.readableRec t && decide (t < Tryd.prog.types.size)) = true := by kernel_rfl
theorem k20 : (Rows.journalPlaysUptoRow.ifacesOut == Tryd.f21.resultTypes.toList.any (Tryd.prog.ifacesRec ·)) = true := by kernel_rfl
theorem k21 : (Rows.journalPlaysUptoRow.loopsOut == Tryd.f21.resultTypes.toList.any (Tryd.prog.loopsFrom ·)) = true := by kernel_rfl
theorem k22 : (Rows.journalPlaysUptoRow.plainKeys == Tryd.prog.plainKeys) = true := by rw [show Rows.journalPlaysUptoRow.plainKeys = Rows.diskFlushesUptoRow.plainKeys from rfl]; exact plainKeysF
theorem k23 : Rows.journalPlaysUptoRow.shortTexts.isNone = true := by kernel_rfl
theorem k24 : Tryd.prog.stopsHeard = true := stopsHeardF
theorem k25 : Tryd.prog.mayEnter = true := mayEnterF
theorem k26 : (Rows.journalPlaysUptoRow.lifted == Tryd.prog.liftsFinal) = true := by rw [show Rows.journalPlaysUptoRow.lifted = Rows.diskFlushesUptoRow.lifted from rfl]; exact liftsF
theorem k27 : (Tryd.prog.make == some Rows.journalPlaysUptoRow.make) = true := by rw [show Rows.journalPlaysUptoRow.make = Rows.diskFlushesUptoRow.make from rfl]; exact makeF
theorem k28 : (Rows.journalPlaysUptoRow.kinds == (if Rows.journalPlaysUptoRow.domain.isEmpty then [] else Tryd.f21.params.toList.map fun t => match Tryd.prog.underlying t with | some (.int k) => some k | _ => none)) = true := by kernel_rfl
theorem k29 : (Rows.journalPlaysUptoRow.pinned == Rows.journalPlaysUptoRow.pinnedBy) = true := by kernel_rfl
theorem k30 : (Rows.journalPlaysUptoRow.veiled == (Tryd.f21.params.toList ++ (Rows.OpenSpec.upto Rows.journalPlaysSpec).bare.plain.varTypes Tryd.prog ++ Tryd.f21.resultTypes.toList).any (Tryd.prog.veiledRec ·)) = true := by kernel_rfl
theorem k31 : Rows.journalPlaysUptoRow.veiledFits Tryd.prog Tryd.f21.params.toList (Tryd.f21.params.toList ++ (Rows.OpenSpec.upto Rows.journalPlaysSpec).bare.plain.varTypes Tryd.prog ++ Tryd.f21.resultTypes.toList) = true := by kernel_rfl
set_option maxRecDepth 100000 in
theorem closed : joinedFacts Tryd.prog 21 Tryd.f21 (Rows.OpenSpec.upto Rows.journalPlaysSpec).bare Rows.journalPlaysUptoRow = true := by
  unfold joinedFacts; exact band (band (band (band (band (band (band (band (band (band (band (band (band (band (band (band (band (band (band (band (band (band (band (band (band (band (band (band (band (band (band (k0) k1) k2) k3) k4) k5) k6) k7) k8) k9) k10) k11) k12) k13) k14) k15) k16) k17) k18) k19) k20) k21) k22) k23) k24) k25) k26) k27) k28) k29) k30) k31
theorem named : Tryd.pinned.checked.prog.funcNamed Rows.journalPlaysUptoRow.func = some 21 := by kernel_rfl
theorem inst : Tryd.f21.isInstance Tryd.pinned.checked.prog Rows.journalPlaysUptoRow.origin Rows.journalPlaysUptoRow.targs := of_decide_eq_true (by kernel_rfl)
theorem wrap : Tryd.f21.isWrapper Tryd.pinned.checked.prog Rows.journalPlaysUptoRow.wrapper Rows.journalPlaysUptoRow.mainSum := by unfold Func.isWrapper; first | (rw [if_pos (by decide +kernel)]; kernel_rfl) | (rw [if_neg (by decide +kernel)]; exact ⟨rfl, rfl⟩)
theorem said : Rows.JournalPlaysUptoSaid :=
  OpenClaim.holds_of_cond 21 Tryd.f21 rfl rfl rfl rfl rfl rfl rfl ⟨rfl, rfl, rfl, rfl, rfl⟩ rfl rfl rfl rfl rfl named Tryd.func21 closed inst wrap
    (fun os started H enc _ F => by rw [OpenClaim.pre_eq_preRow]; exact lifted os started H enc F)

theorem plain (f : FuncId) (fn : Func) (hf : Tryd.pinned.checked.prog.funcNamed "remit/remitlaw10.JournalPlays" = some f) (hfn : Tryd.pinned.checked.prog.funcs[f]? = some fn) :
    true = Tryd.pinned.checked.prog.looks [] ∧ ∀ (j : Nat) t, fn.params[j]? = some t → Tryd.pinned.checked.prog.wantsStandIn t = false := by
  obtain rfl : f = 21 := Option.some.inj ((show Tryd.prog.funcNamed "remit/remitlaw10.JournalPlays" = some 21 by kernel_rfl).symm.trans hf) |>.symm
  obtain rfl : fn = Tryd.f21 := (Option.some.inj (Tryd.func21.symm.trans hfn)).symm
  have hall : (Tryd.f21.params.toList.all fun t => !Tryd.prog.wantsStandIn t) = true := by kernel_rfl
  refine ⟨by kernel_rfl, fun j t ht => ?_⟩
  have h1 := List.all_eq_true.1 hall t (Array.mem_toList_iff.2 (Array.mem_of_getElem? ht))
  have h2 : Tryd.prog.wantsStandIn t = false := by simpa using h1
  exact h2

/-- THE CARD -/
theorem card : Rows.JournalPlaysUptoCardSaid :=
  Claim7.holds_tied_plain_at .later [] _ _ _ _ said (fun _ h => by cases h) (by kernel_rfl) (fun _ h => by cases h) journalPlaysUpto_row_tie rfl ⟨rfl, rfl⟩ (by kernel_rfl) rfl plain (by kernel_rfl)
#print axioms card
end Go.Proofs.YteklldbfdmaafaaDoor.fnJournalPlays
