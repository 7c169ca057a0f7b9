/-
  RailOnce (chapter 24) answers true for every number and every script, and leaves its arguments as they were. Conditions: none.
-/
import Derived.Test.YtehheokalgmbgaaBBT
import Derived.Test.YtehheokalgmbgaaBBQ
import Derived.Test.YtehheokalgmbgaaBBR
namespace Go.Proofs.Ytehheokalgmbgaa.fnRailOnce
open Go Go.RowKit Go.ChangeShapes Go.WideShapes Go.ChangeAt Go.Deep
open Go.ChangeMaps (open_string)

set_option maxRecDepth 100000 in
/-- the walk's end, for every argument and every world that fits -/
theorem contract (H : Type) (enc : TypeId × Value → H) (W : World) (base : Nat) (args : Array Value) (ds gs : List (DataW H)) (before : List MemPlace)
    (hval : ∀ (j : Nat) t v, Try.f4.params[j]? = some t → args[j]? = some v → Value.okWide Try.prog W .any base t v)
    (hW : DataW.Whole enc Try.prog Try.f4.params.toList Rows.railOnceSpec.vars false W args.toList ds gs before)
    (hsz : (DataW.weightsEach Try.prog (Try.f4.params.toList ++ (OpenSpec.ofChange Rows.railOnceSpec).bare.plain.varTypes Try.prog) (ds ++ gs)).all (· ≤ reachBytes) = true)
    (hL : laidMetH Try.prog Rows.railOnceRow.laid W) (hsh : W.ShapedOpen Try.prog) :
    Calls Try.prog 4 args W fun e W' => ∃ v, e = .returned v ∧ Rows.railOnceSpec.post enc Try.prog Try.f4 false true false false W args v W' := by
  have hW' := hW
  obtain ⟨p, q, hA0, hV, rfl, hfz, hnd⟩ := hW
  have hA : DataW.TrodAll enc Try.prog W 0 (fun _ => true) true Try.f4.params.toList args.toList ds p := hA0
  rw [Try.params4] at hA hval hsz
  obtain ⟨v0, vs0, d0, ds0, p0, q0, hargs, rfl, rfl, h0, r0⟩ := trodAll_cons hA
  obtain ⟨v1, vs1, d1, ds1, p1, q1, rfl, rfl, rfl, h1, r1⟩ := trodAll_cons r0
  obtain ⟨rfl, rfl, rfl⟩ := trodAll_nil r1
  obtain rfl : args = #[v0, v1] := by cases args; simp_all
  obtain ⟨rfl, rfl⟩ := trodVars_none hV
  clear hA0
  obtain ⟨n0, rfl, rfl, rfl, w0⟩ := open_int Try.underlying3 (hval 0 3 v0 rfl rfl) h0
  obtain ⟨ops1, hs1, hsl1, hz1⟩ := script24_of (hval 1 22 v1 rfl rfl) h1
  have hb1 : ops1.length * 96 ≤ 140737488355328 := by
    by_cases he : ops1 = []
    · rw [he]; simp
    · obtain ⟨es, sp, rfl, hel⟩ := hz1 he
      have h := sized_slice hsz (j := 1) (t := 22) (e := 33) (elems := es) (spare := sp) rfl rfl Try.underlying22
      rw [show Try.prog.bytesOf 33 = 96 by kernel_rfl] at h
      have h2 : reachBytes ≤ 140737488355328 := by decide
      omega
  have ct := once24_ct (W := W) n0 v1 ops1 hs1 hb1
  refine (ct.go [] W (St.start W)).mono fun e W' ⟨x, he, hS⟩ => ?_
  subst he
  exact ⟨_, rfl, post_true (tb := 4) laidOut Try.underlying4 (by kernel_rfl) (by kernel_rfl) rfl hW' rfl hS.below⟩

noncomputable abbrev wit : Array Value := #[.int .i64 0, .slice none 0 0]
noncomputable abbrev w0 (os : Os) : World := World.laidAll Try.prog os Rows.railOnceRow.laid
theorem reads (os : Os) {H : Type} (enc : TypeId × Value → H) : ∃ places, DataW.whole enc Try.prog ((w0 os).forCall (fun _ _ => 0) ⟨#[], wit, []⟩).memory Try.f4.params.toList Rows.railOnceSpec.vars false wit.toList 8 = some ([.lit (.int .i64 0), .nil], [], places) :=
  ⟨[], by kernel_rfl⟩
theorem met (os : Os) : laidMetH Try.prog Rows.railOnceRow.laid ((w0 os).forCall (fun _ _ => 0) ⟨#[], wit, []⟩).memory := by
  rw [MakeChecks.laidMetH_plain _ _ _ (by kernel_rfl)]; exact laidMet_laidAll _ (by kernel_rfl) (by kernel_rfl)
set_option maxRecDepth 100000 in
theorem lifted (os : Os) (started : os.Started) (H : Type) (enc : TypeId × Value → H) (F : Stop.Interp) :
    ReturnsInHanded {} Try.checked os 4 .any ((OpenSpec.ofChange Rows.railOnceSpec).preRow enc Try.prog Try.f4 Rows.railOnceRow.domain false Rows.railOnceRow.laid) (((OpenSpec.ofChange Rows.railOnceSpec).at F).post enc Try.prog Try.f4 false true false false) := by
  obtain ⟨places, hx⟩ := reads os enc
  refine returnsInHanded_of_row (C := Try.checked) (s := (OpenSpec.ofChange Rows.railOnceSpec)) own started (by kernel_rfl) Try.func4
    (witness_laid (enc := enc) (C := Try.checked) false (w0 os) wit (World.laidAll_os _ _ _) (World.shaped_of_ZipB (by kernel_rfl) (by kernel_rfl)) (by kernel_rfl)
      (OpenSpec.preRow_of_cond 8 hx (by kernel_rfl) (fun k hk => by cases hk) (by kernel_rfl) (met os))) ?_
  intro W base args ds gs before hval hW _ hcond hsz hL hsh _
  exact contract H enc W base args ds gs before hval hW hsz hL hsh

theorem k0 : Rows.railOnceRow.wf (OpenSpec.ofChange (OpenSpec.ofChange Rows.railOnceSpec).bare) = true := by kernel_rfl
theorem k1 : laidOutB Try.prog = true := laidOut
theorem k2 : mapsRowed Try.prog = true := mapsRowedF
theorem k3 : Try.f4.params.all (Try.prog.readableRec ·) = true := by kernel_rfl
theorem k4 : namedTie Try.prog Rows.railOnceRow.named (OpenSpec.ofChange Rows.railOnceSpec).bare.vars = true := by kernel_rfl
theorem k5 : (Rows.railOnceRow.stops == []) = true := by kernel_rfl
theorem k6 : (Try.prog.stops == []) = true := stopsF
theorem k7 : (Rows.railOnceRow.knobs == []) = true := by kernel_rfl
theorem k8 : (Try.prog.stopKnobs == []) = true := stopKnobsF
theorem k9 : (Rows.railOnceRow.inPlace == Try.prog.inPlace 4) = true := by kernel_rfl
theorem k10 : (Rows.railOnceRow.unfollowed == Try.prog.unfollowed 4) = true := by kernel_rfl
theorem k11 : (Rows.railOnceRow.recurses == Try.prog.recurses 4) = true := by kernel_rfl
theorem k12 : (Rows.railOnceRow.named == Try.prog.varsNamed 4) = true := by kernel_rfl
theorem k13 : (Rows.railOnceRow.maps == (Try.f4.params.toList ++ (OpenSpec.ofChange Rows.railOnceSpec).bare.plain.varTypes Try.prog).any (Try.prog.mapsRec ·)) = true := by kernel_rfl
theorem k14 : (Rows.railOnceRow.ifaces == (Try.f4.params.toList ++ (OpenSpec.ofChange Rows.railOnceSpec).bare.plain.varTypes Try.prog).any (Try.prog.ifacesRec ·)) = true := by kernel_rfl
theorem k15 : (Rows.railOnceRow.mapsOut == Try.prog.mapsAmong Try.f4.resultTypes.toList) = true := by kernel_rfl
theorem k16 : (Rows.railOnceRow.loops == (Try.f4.params.toList ++ (OpenSpec.ofChange Rows.railOnceSpec).bare.plain.varTypes Try.prog).any (Try.prog.loopsFrom ·)) = true := by kernel_rfl
theorem k17 : (Rows.railOnceRow.wideKeys == (Try.f4.params.toList ++ (OpenSpec.ofChange Rows.railOnceSpec).bare.plain.varTypes Try.prog ++ Try.f4.resultTypes.toList).any (Try.prog.wideKeysFrom ·)) = true := by kernel_rfl
theorem k18 : (OpenSpec.ofChange Rows.railOnceSpec).bare.vars.all (Try.prog.varReadable ·) = true := by kernel_rfl
theorem k19 : Try.f4.resultTypes.all (fun t => Try.prog.readableRec t && decide (t < Try.prog.types.size)) = true := by kernel_rfl
theorem k20 : (Rows.railOnceRow.ifacesOut == Try.f4.resultTypes.toList.any (Try.prog.ifacesRec ·)) = true := by kernel_rfl
theorem k21 : (Rows.railOnceRow.loopsOut == Try.f4.resultTypes.toList.any (Try.prog.loopsFrom ·)) = true := by kernel_rfl
theorem k22 : (Rows.railOnceRow.plainKeys == Try.prog.plainKeys) = true := by rw [show Rows.railOnceRow.plainKeys = Rows.railPlaysRow.plainKeys from rfl]; exact plainKeysF
theorem k23 : Rows.railOnceRow.shortTexts.isNone = true := by kernel_rfl
theorem k24 : Try.prog.stopsHeard = true := stopsHeardF
theorem k25 : Try.prog.mayEnter = true := mayEnterF
theorem k26 : (Rows.railOnceRow.lifted == Try.prog.liftsFinal) = true := by rw [show Rows.railOnceRow.lifted = Rows.railPlaysRow.lifted from rfl]; exact liftsF
theorem k27 : (Try.prog.make == some Rows.railOnceRow.make) = true := by rw [show Rows.railOnceRow.make = Rows.railPlaysRow.make from rfl]; exact makeF
theorem k28 : (Rows.railOnceRow.kinds == (if Rows.railOnceRow.domain.isEmpty then [] else Try.f4.params.toList.map fun t => match Try.prog.underlying t with | some (.int k) => some k | _ => none)) = true := by kernel_rfl
theorem k29 : (Rows.railOnceRow.pinned == Rows.railOnceRow.pinnedBy) = true := by kernel_rfl
theorem k30 : (Rows.railOnceRow.veiled == (Try.f4.params.toList ++ (OpenSpec.ofChange Rows.railOnceSpec).bare.plain.varTypes Try.prog ++ Try.f4.resultTypes.toList).any (Try.prog.veiledRec ·)) = true := by kernel_rfl
theorem k31 : Rows.railOnceRow.veiledFits Try.prog Try.f4.params.toList (Try.f4.params.toList ++ (OpenSpec.ofChange Rows.railOnceSpec).bare.plain.varTypes Try.prog ++ Try.f4.resultTypes.toList) = true := by kernel_rfl
set_option maxRecDepth 100000 in
theorem closed : joinedFacts Try.prog 4 Try.f4 (OpenSpec.ofChange Rows.railOnceSpec).bare Rows.railOnceRow = true := by
  unfold joinedFacts; exact band (band (band (band (band (band (band (band (band (band (band (band (band (band (band (band (band (band (band (band (band (band (band (band (band (band (band (band (band (band (band (k0) k1) k2) k3) k4) k5) k6) k7) k8) k9) k10) k11) k12) k13) k14) k15) k16) k17) k18) k19) k20) k21) k22) k23) k24) k25) k26) k27) k28) k29) k30) k31
theorem named : Try.pinned.checked.prog.funcNamed Rows.railOnceRow.func = some 4 := by kernel_rfl
theorem inst : Try.f4.isInstance Try.pinned.checked.prog Rows.railOnceRow.origin Rows.railOnceRow.targs := of_decide_eq_true (by kernel_rfl)
theorem wrap : Try.f4.isWrapper Try.pinned.checked.prog Rows.railOnceRow.wrapper Rows.railOnceRow.mainSum := by unfold Func.isWrapper; first | (rw [if_pos (by decide +kernel)]; kernel_rfl) | (rw [if_neg (by decide +kernel)]; exact ⟨rfl, rfl⟩)
/-- THE STATEMENT -/
theorem said : Rows.RailOnceSaid :=
  OpenClaim.holds_of_cond 4 Try.f4 rfl rfl rfl rfl rfl rfl rfl ⟨rfl, rfl, rfl, rfl, rfl⟩ rfl rfl rfl rfl rfl named Try.func4 closed inst wrap
    (fun os started H enc _ F => by rw [OpenClaim.pre_eq_preRow]; exact lifted os started H enc F)
#print axioms said
end Go.Proofs.Ytehheokalgmbgaa.fnRailOnce
