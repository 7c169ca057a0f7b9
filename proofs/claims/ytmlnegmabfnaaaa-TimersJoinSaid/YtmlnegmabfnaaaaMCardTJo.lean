/-
  TimersJoin (chapter 21) answers true for every script and every two ticks, and leaves its arguments as they were. Conditions: none.
-/
import Derived.Test.YtmlnegmabfnaaaaBBW
import Derived.Test.YtmlnegmabfnaaaaBBZ
import Derived.Test.YtmlnegmabfnaaaaBCA
namespace Go.Proofs.Ytmlnegmabfnaaaa.fnTimersJoin
open Go Go.RowKit Go.ChangeShapes Go.WideShapes Go.ChangeAt Go.Deep
open Go.ChangeMaps (open_string)

set_option maxRecDepth 100000 in
/-- the walk's end, for every argument and every world that fits -/
theorem contract (H : Type) (enc : TypeId × Value → H) (W : World) (base : Nat) (args : Array Value) (ds gs : List (DataW H)) (before : List MemPlace)
    (hval : ∀ (j : Nat) t v, Try.f3.params[j]? = some t → args[j]? = some v → Value.okWide Try.prog W .any base t v)
    (hW : DataW.Whole enc Try.prog Try.f3.params.toList Rows.timersJoinSpec.vars false W args.toList ds gs before)
    (hsz : (DataW.weightsEach Try.prog (Try.f3.params.toList ++ (OpenSpec.ofChange Rows.timersJoinSpec).bare.plain.varTypes Try.prog) (ds ++ gs)).all (· ≤ reachBytes) = true)
    (_hL : laidMetH Try.prog Rows.timersJoinRow.laid W) (_hsh : W.ShapedOpen Try.prog) :
    Calls Try.prog 3 args W fun e W' => ∃ v, e = .returned v ∧ Rows.timersJoinSpec.post enc Try.prog Try.f3 false true false false W args v W' := by
  have hW' := hW
  obtain ⟨p, q, hA0, hV, rfl, hfz, hnd⟩ := hW
  have hA : DataW.TrodAll enc Try.prog W 0 (fun _ => true) true Try.f3.params.toList args.toList ds p := hA0
  rw [Try.params3] at hA hval hsz
  obtain ⟨v0, vs0, d0, ds0, p0, q0, hargs, rfl, rfl, h0, r0⟩ := trodAll_cons hA
  obtain ⟨v1, vs1, d1, ds1, p1, q1, rfl, rfl, rfl, h1, r1⟩ := trodAll_cons r0
  obtain ⟨v2, vs2, d2, ds2, p2, q2, rfl, rfl, rfl, h2, r2⟩ := trodAll_cons r1
  obtain ⟨rfl, rfl, rfl⟩ := trodAll_nil r2
  obtain rfl : args = #[v0, v1, v2] := by cases args; simp_all
  obtain ⟨rfl, rfl⟩ := trodVars_none hV
  clear hA0
  obtain ⟨ops0, hs0, hsl0, hz0⟩ := script21_of (hval 0 22 v0 rfl rfl) h0
  obtain ⟨n1, rfl, rfl, rfl, w1⟩ := open_int Try.underlying3 (hval 1 3 v1 rfl rfl) h1
  obtain ⟨n2, rfl, rfl, rfl, w2⟩ := open_int Try.underlying3 (hval 2 3 v2 rfl rfl) h2
  have hb0 : ops0.length * 24 ≤ 140737488355328 := by
    by_cases he : ops0 = []
    · rw [he]; simp
    · obtain ⟨es, sp, rfl, hel⟩ := hz0 he
      have h := sized_slice hsz (j := 0) (t := 22) (e := 43) (elems := es) (spare := sp) rfl rfl Try.underlying22
      rw [show Try.prog.bytesOf 43 = 24 by kernel_rfl] at h
      have h2 : reachBytes ≤ 140737488355328 := by decide
      omega
  have ct := join21_ct (W := W) v0 ops0 n1 n2 hs0 hb0
  refine (ct.go [] W (St.start W)).mono fun e W' ⟨x, he, hS⟩ => ?_
  subst he
  exact ⟨_, rfl, post_true (tb := 4) laidOut Try.underlying4 (by kernel_rfl) (by kernel_rfl) rfl hW' rfl hS.below⟩

noncomputable abbrev wit : Array Value := #[.slice none 0 0, .int .i64 0, .int .i64 0]
noncomputable abbrev w0 (os : Os) : World := World.laidAll Try.prog os Rows.timersJoinRow.laid
theorem reads (os : Os) {H : Type} (enc : TypeId × Value → H) : ∃ places, DataW.whole enc Try.prog ((w0 os).forCall (fun _ _ => 0) ⟨#[], wit, []⟩).memory Try.f3.params.toList Rows.timersJoinSpec.vars false wit.toList 8 = some ([.nil, .lit (.int .i64 0), .lit (.int .i64 0)], [], places) :=
  ⟨[], by kernel_rfl⟩
theorem met (os : Os) : laidMetH Try.prog Rows.timersJoinRow.laid ((w0 os).forCall (fun _ _ => 0) ⟨#[], wit, []⟩).memory := by
  rw [MakeChecks.laidMetH_plain _ _ _ (by kernel_rfl)]; exact laidMet_laidAll _ (by kernel_rfl) (by kernel_rfl)
set_option maxRecDepth 100000 in
theorem lifted (os : Os) (started : os.Started) (H : Type) (enc : TypeId × Value → H) (F : Stop.Interp) :
    ReturnsInHanded {} Try.checked os 3 .any ((OpenSpec.ofChange Rows.timersJoinSpec).preRow enc Try.prog Try.f3 Rows.timersJoinRow.domain false Rows.timersJoinRow.laid) (((OpenSpec.ofChange Rows.timersJoinSpec).at F).post enc Try.prog Try.f3 false true false false) := by
  obtain ⟨places, hx⟩ := reads os enc
  refine returnsInHanded_of_row (C := Try.checked) (s := (OpenSpec.ofChange Rows.timersJoinSpec)) own started (by kernel_rfl) Try.func3
    (witness_laid (enc := enc) (C := Try.checked) false (w0 os) wit (World.laidAll_os _ _ _) (World.shaped_of_ZipB (by kernel_rfl) (by kernel_rfl)) (by kernel_rfl)
      (OpenSpec.preRow_of_cond 8 hx (by kernel_rfl) (fun k hk => by cases hk) (by kernel_rfl) (met os))) ?_
  intro W base args ds gs before hval hW _ hcond hsz hL hsh _
  exact contract H enc W base args ds gs before hval hW hsz hL hsh

theorem k0 : Rows.timersJoinRow.wf (OpenSpec.ofChange (OpenSpec.ofChange Rows.timersJoinSpec).bare) = true := by kernel_rfl
theorem k1 : laidOutB Try.prog = true := laidOut
theorem k2 : mapsRowed Try.prog = true := mapsRowedF
theorem k3 : Try.f3.params.all (Try.prog.readableRec ·) = true := by kernel_rfl
theorem k4 : namedTie Try.prog Rows.timersJoinRow.named (OpenSpec.ofChange Rows.timersJoinSpec).bare.vars = true := by kernel_rfl
theorem k5 : (Rows.timersJoinRow.stops == []) = true := by kernel_rfl
theorem k6 : (Try.prog.stops == []) = true := stopsF
theorem k7 : (Rows.timersJoinRow.knobs == []) = true := by kernel_rfl
theorem k8 : (Try.prog.stopKnobs == []) = true := stopKnobsF
theorem k9 : (Rows.timersJoinRow.inPlace == Try.prog.inPlace 3) = true := by kernel_rfl
theorem k10 : (Rows.timersJoinRow.unfollowed == Try.prog.unfollowed 3) = true := by kernel_rfl
theorem k11 : (Rows.timersJoinRow.recurses == Try.prog.recurses 3) = true := by kernel_rfl
theorem k12 : (Rows.timersJoinRow.named == Try.prog.varsNamed 3) = true := by kernel_rfl
theorem k13 : (Rows.timersJoinRow.maps == (Try.f3.params.toList ++ (OpenSpec.ofChange Rows.timersJoinSpec).bare.plain.varTypes Try.prog).any (Try.prog.mapsRec ·)) = true := by kernel_rfl
theorem k14 : (Rows.timersJoinRow.ifaces == (Try.f3.params.toList ++ (OpenSpec.ofChange Rows.timersJoinSpec).bare.plain.varTypes Try.prog).any (Try.prog.ifacesRec ·)) = true := by kernel_rfl
theorem k15 : (Rows.timersJoinRow.mapsOut == Try.prog.mapsAmong Try.f3.resultTypes.toList) = true := by kernel_rfl
theorem k16 : (Rows.timersJoinRow.loops == (Try.f3.params.toList ++ (OpenSpec.ofChange Rows.timersJoinSpec).bare.plain.varTypes Try.prog).any (Try.prog.loopsFrom ·)) = true := by kernel_rfl
theorem k17 : (Rows.timersJoinRow.wideKeys == (Try.f3.params.toList ++ (OpenSpec.ofChange Rows.timersJoinSpec).bare.plain.varTypes Try.prog ++ Try.f3.resultTypes.toList).any (Try.prog.wideKeysFrom ·)) = true := by kernel_rfl
theorem k18 : (OpenSpec.ofChange Rows.timersJoinSpec).bare.vars.all (Try.prog.varReadable ·) = true := by kernel_rfl
theorem k19 : Try.f3.resultTypes.all (fun t => Try.prog.readableRec t && decide (t < Try.prog.types.size)) = true := by kernel_rfl
theorem k20 : (Rows.timersJoinRow.ifacesOut == Try.f3.resultTypes.toList.any (Try.prog.ifacesRec ·)) = true := by kernel_rfl
theorem k21 : (Rows.timersJoinRow.loopsOut == Try.f3.resultTypes.toList.any (Try.prog.loopsFrom ·)) = true := by kernel_rfl
theorem k22 : (Rows.timersJoinRow.plainKeys == Try.prog.plainKeys) = true := plainKeysF
theorem k23 : Rows.timersJoinRow.shortTexts.isNone = true := by kernel_rfl
theorem k24 : Try.prog.stopsHeard = true := stopsHeardF
theorem k25 : Try.prog.mayEnter = true := mayEnterF
theorem k26 : (Rows.timersJoinRow.lifted == Try.prog.liftsFinal) = true := liftsF
theorem k27 : (Try.prog.make == some Rows.timersJoinRow.make) = true := makeF
theorem k28 : (Rows.timersJoinRow.kinds == (if Rows.timersJoinRow.domain.isEmpty then [] else Try.f3.params.toList.map fun t => match Try.prog.underlying t with | some (.int k) => some k | _ => none)) = true := by kernel_rfl
theorem k29 : (Rows.timersJoinRow.pinned == Rows.timersJoinRow.pinnedBy) = true := by kernel_rfl
theorem k30 : (Rows.timersJoinRow.veiled == (Try.f3.params.toList ++ (OpenSpec.ofChange Rows.timersJoinSpec).bare.plain.varTypes Try.prog ++ Try.f3.resultTypes.toList).any (Try.prog.veiledRec ·)) = true := by kernel_rfl
theorem k31 : Rows.timersJoinRow.veiledFits Try.prog Try.f3.params.toList (Try.f3.params.toList ++ (OpenSpec.ofChange Rows.timersJoinSpec).bare.plain.varTypes Try.prog ++ Try.f3.resultTypes.toList) = true := by kernel_rfl
set_option maxRecDepth 100000 in
theorem closed : joinedFacts Try.prog 3 Try.f3 (OpenSpec.ofChange Rows.timersJoinSpec).bare Rows.timersJoinRow = true := by
  unfold joinedFacts; exact band (band (band (band (band (band (band (band (band (band (band (band (band (band (band (band (band (band (band (band (band (band (band (band (band (band (band (band (band (band (band (k0) k1) k2) k3) k4) k5) k6) k7) k8) k9) k10) k11) k12) k13) k14) k15) k16) k17) k18) k19) k20) k21) k22) k23) k24) k25) k26) k27) k28) k29) k30) k31
theorem named : Try.pinned.checked.prog.funcNamed Rows.timersJoinRow.func = some 3 := by kernel_rfl
theorem inst : Try.f3.isInstance Try.pinned.checked.prog Rows.timersJoinRow.origin Rows.timersJoinRow.targs := of_decide_eq_true (by kernel_rfl)
theorem wrap : Try.f3.isWrapper Try.pinned.checked.prog Rows.timersJoinRow.wrapper Rows.timersJoinRow.mainSum := by unfold Func.isWrapper; first | (rw [if_pos (by decide +kernel)]; kernel_rfl) | (rw [if_neg (by decide +kernel)]; exact ⟨rfl, rfl⟩)
/-- THE STATEMENT -/
theorem said : Rows.TimersJoinSaid :=
  OpenClaim.holds_of_cond 3 Try.f3 rfl rfl rfl rfl rfl rfl rfl ⟨rfl, rfl, rfl, rfl, rfl⟩ rfl rfl rfl rfl rfl named Try.func3 closed inst wrap
    (fun os started H enc _ F => by rw [OpenClaim.pre_eq_preRow]; exact lifted os started H enc F)
#print axioms said
end Go.Proofs.Ytmlnegmabfnaaaa.fnTimersJoin
