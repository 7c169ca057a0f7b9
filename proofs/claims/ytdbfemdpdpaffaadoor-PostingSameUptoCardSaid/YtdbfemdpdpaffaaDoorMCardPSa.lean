/-
  PostingSame (chapter 16) answers true for every three postings of bulk at most 1048576 together and every number, and leaves its arguments as they were. Conditions: none.
-/
import Derived.Test.YtdbfemdpdpaffaaDoorTie
import Derived.Test.YtdbfemdpdpaffaaDoorCards
import Derived.Test.YtdbfemdpdpaffaaDoorPCZ
import Derived.Test.YtdbfemdpdpaffaaDoorPCS
import Derived.Test.YtdbfemdpdpaffaaDoorPCU
import Derived.Test.YtdbfemdpdpaffaaDoorPCV
namespace Go.Proofs.YtdbfemdpdpaffaaDoor.fnPostingSame
open Go Go.RowKit Go.ChangeShapes Go.WideShapes Go.ChangeAt Go.Deep
open Go.ChangeMaps (open_string)

set_option maxRecDepth 100000 in
/-- the walk's end, for every argument and every world that fits -/
theorem contract (H : Type) (enc : TypeId × Value → H) (W : World) (base : Nat) (args : Array Value) (ds gs : List (DataW H)) (before : List MemPlace)
    (hval : ∀ (j : Nat) t v, Tryd.f4.params[j]? = some t → args[j]? = some v → Value.okWide Tryd.prog W .any base t v)
    (hW : DataW.Whole enc Tryd.prog Tryd.f4.params.toList Rows.postingSameSpec.vars false W args.toList ds gs before) (hk : Rows.uptoSmall H (ds ++ gs) = true)
    (hsz : (DataW.weightsEach Tryd.prog (Tryd.f4.params.toList ++ (Rows.OpenSpec.upto Rows.postingSameSpec).bare.plain.varTypes Tryd.prog) (ds ++ gs)).all (· ≤ reachBytes) = true)
    (hL : laidMetH Tryd.prog Rows.postingSameUptoRow.laid W) (hsh : W.ShapedOpen Tryd.prog) :
    Calls Tryd.prog 4 args W fun e W' => ∃ v, e = .returned v ∧ Rows.postingSameSpec.post enc Tryd.prog Tryd.f4 false true false false W args v W' := by
  have hW' := hW
  obtain ⟨p, q, hA0, hV, rfl, hfz, hnd⟩ := hW
  have hA : DataW.TrodAll enc Tryd.prog W 0 (fun _ => true) true Tryd.f4.params.toList args.toList ds p := hA0
  rw [Tryd.params4] at hA hval hsz
  obtain ⟨v0, vs0, d0, ds0, p0, q0, hargs, rfl, rfl, h0, r0⟩ := trodAll_cons hA
  obtain ⟨v1, vs1, d1, ds1, p1, q1, rfl, rfl, rfl, h1, r1⟩ := trodAll_cons r0
  obtain ⟨v2, vs2, d2, ds2, p2, q2, rfl, rfl, rfl, h2, r2⟩ := trodAll_cons r1
  obtain ⟨v3, vs3, d3, ds3, p3, q3, rfl, rfl, rfl, h3, r3⟩ := trodAll_cons r2
  obtain ⟨rfl, rfl, rfl⟩ := trodAll_nil r3
  obtain rfl : args = #[v0, v1, v2, v3] := by cases args; simp_all
  obtain ⟨rfl, rfl⟩ := trodVars_none hV
  have hbulk := upto_bound hk
  simp only [List.append_nil, Rows.uptoBulkAll] at hbulk
  clear hA0
  obtain ⟨ps0, ad0, c0, rfl, hs0, fit0, -, -, -⟩ := pst_of (hval 0 24 v0 rfl rfl) h0 (by omega)
  obtain ⟨ps1, ad1, c1, rfl, hs1, fit1, -, -, -⟩ := pst_of (hval 1 24 v1 rfl rfl) h1 (by omega)
  obtain ⟨ps2, ad2, c2, rfl, hs2, fit2, -, -, -⟩ := pst_of (hval 2 24 v2 rfl rfl) h2 (by omega)
  obtain ⟨n3, rfl, rfl, rfl, w3⟩ := open_int Tryd.underlying3 (hval 3 3 v3 rfl rfl) h3
  obtain ⟨E0, hE0⟩ := errs12_of (by kernel_rfl) (by kernel_rfl) hL
  have ct := psamelaw_ct (W := W) (F := E0) hE0 ad0 ad1 ad2 c0 c1 c2 ps0 ps1 ps2 n3 fit0 fit1 fit2 (Lv.old enc_leg hs0) (Lv.old enc_leg hs1) (Lv.old enc_leg hs2)
  refine (ct.go [] W (St.start W)).mono fun e W' ⟨x, he, hS⟩ => ?_
  subst he
  exact ⟨_, rfl, post_true (tb := 4) laidOut Tryd.underlying4 (by kernel_rfl) (by kernel_rfl) rfl hW' rfl hS.below⟩

noncomputable abbrev wit : Array Value := #[.agg #[.string ⟨#[]⟩, .int .i64 0, .string ⟨#[]⟩, .slice none 0 0], .agg #[.string ⟨#[]⟩, .int .i64 0, .string ⟨#[]⟩, .slice none 0 0], .agg #[.string ⟨#[]⟩, .int .i64 0, .string ⟨#[]⟩, .slice none 0 0], .int .i64 0]
noncomputable abbrev w0 (os : Os) : World := World.laidAll Tryd.prog os Rows.postingSameUptoRow.laid
theorem reads (os : Os) {H : Type} (enc : TypeId × Value → H) : ∃ places, DataW.whole enc Tryd.prog ((w0 os).forCall (fun _ _ => 0) ⟨#[], wit, []⟩).memory Tryd.f4.params.toList Rows.postingSameSpec.vars false wit.toList 8 = some ([.agg [.lit (.string []), .lit (.int .i64 0), .lit (.string []), .nil], .agg [.lit (.string []), .lit (.int .i64 0), .lit (.string []), .nil], .agg [.lit (.string []), .lit (.int .i64 0), .lit (.string []), .nil], .lit (.int .i64 0)], [], places) :=
  ⟨[], by kernel_rfl⟩
theorem met (os : Os) : laidMetH Tryd.prog Rows.postingSameUptoRow.laid ((w0 os).forCall (fun _ _ => 0) ⟨#[], wit, []⟩).memory := by
  rw [MakeChecks.laidMetH_plain _ _ _ (by kernel_rfl)]; exact laidMet_laidAll _ (by kernel_rfl) (by kernel_rfl)
set_option maxRecDepth 100000 in
theorem lifted (os : Os) (started : os.Started) (H : Type) (enc : TypeId × Value → H) (F : Stop.Interp) :
    ReturnsInHanded {} Tryd.checked os 4 .any ((Rows.OpenSpec.upto Rows.postingSameSpec).preRow enc Tryd.prog Tryd.f4 Rows.postingSameUptoRow.domain false Rows.postingSameUptoRow.laid) (((Rows.OpenSpec.upto Rows.postingSameSpec).at F).post enc Tryd.prog Tryd.f4 false true false false) := by
  obtain ⟨places, hx⟩ := reads os enc
  refine returnsInHanded_of_row (C := Tryd.checked) (s := (Rows.OpenSpec.upto Rows.postingSameSpec)) own started (by kernel_rfl) Tryd.func4
    (witness_laid (enc := enc) (C := Tryd.checked) false (w0 os) wit (World.laidAll_os _ _ _) (World.shaped_of_ZipB (by kernel_rfl) (by kernel_rfl)) (by kernel_rfl)
      (OpenSpec.preRow_of_cond 8 hx (by kernel_rfl) (fun k hk => by cases hk; kernel_rfl) (by kernel_rfl) (met os))) ?_
  intro W base args ds gs before hval hW _ hcond hsz hL hsh _
  exact contract H enc W base args ds gs before hval hW (hcond _ rfl) hsz hL hsh

theorem k0 : Rows.postingSameUptoRow.wf (OpenSpec.ofChange (Rows.OpenSpec.upto Rows.postingSameSpec).bare) = true := by kernel_rfl
theorem k1 : laidOutB Tryd.prog = true := laidOut
theorem k2 : mapsRowed Tryd.prog = true := mapsRowedF
theorem k3 : Tryd.f4.params.all (Tryd.prog.readableRec ·) = true := by kernel_rfl
theorem k4 : namedTie Tryd.prog Rows.postingSameUptoRow.named (Rows.OpenSpec.upto Rows.postingSameSpec).bare.vars = true := by kernel_rfl
theorem k5 : (Rows.postingSameUptoRow.stops == []) = true := by kernel_rfl
theorem k6 : (Tryd.prog.stops == []) = true := stopsF
theorem k7 : (Rows.postingSameUptoRow.knobs == []) = true := by kernel_rfl
theorem k8 : (Tryd.prog.stopKnobs == []) = true := stopKnobsF
theorem k9 : (Rows.postingSameUptoRow.inPlace == Tryd.prog.inPlace 4) = true := by kernel_rfl
theorem k10 : (Rows.postingSameUptoRow.unfollowed == Tryd.prog.unfollowed 4) = true := by kernel_rfl
theorem k11 : (Rows.postingSameUptoRow.recurses == Tryd.prog.recurses 4) = true := by kernel_rfl
theorem k12 : (Rows.postingSameUptoRow.named == Tryd.prog.varsNamed 4) = true := by kernel_rfl
theorem k13 : (Rows.postingSameUptoRow.maps == (Tryd.f4.params.toList ++ (Rows.OpenSpec.upto Rows.postingSameSpec).bare.plain.varTypes Tryd.prog).any (Tryd.prog.mapsRec ·)) = true := by kernel_rfl
theorem k14 : (Rows.postingSameUptoRow.ifaces == (Tryd.f4.params.toList ++ (Rows.OpenSpec.upto Rows.postingSameSpec).bare.plain.varTypes Tryd.prog).any (Tryd.prog.ifacesRec ·)) = true := by kernel_rfl
theorem k15 : (Rows.postingSameUptoRow.mapsOut == Tryd.prog.mapsAmong Tryd.f4.resultTypes.toList) = true := by kernel_rfl
theorem k16 : (Rows.postingSameUptoRow.loops == (Tryd.f4.params.toList ++ (Rows.OpenSpec.upto Rows.postingSameSpec).bare.plain.varTypes Tryd.prog).any (Tryd.prog.loopsFrom ·)) = true := by kernel_rfl
theorem k17 : (Rows.postingSameUptoRow.wideKeys == (Tryd.f4.params.toList ++ (Rows.OpenSpec.upto Rows.postingSameSpec).bare.plain.varTypes Tryd.prog ++ Tryd.f4.resultTypes.toList).any (Tryd.prog.wideKeysFrom ·)) = true := by kernel_rfl
theorem k18 : (Rows.OpenSpec.upto Rows.postingSameSpec).bare.vars.all (Tryd.prog.varReadable ·) = true := by kernel_rfl
theorem k19 : Tryd.f4.resultTypes.all (fun t => Tryd.prog.readableRec t && decide (t < Tryd.prog.types.size)) = true := by kernel_rfl
theorem k20 : (Rows.postingSameUptoRow.ifacesOut == Tryd.f4.resultTypes.toList.any (Tryd.prog.ifacesRec ·)) = true := by kernel_rfl
theorem k21 : (Rows.postingSameUptoRow.loopsOut == Tryd.f4.resultTypes.toList.any (Tryd.prog.loopsFrom ·)) = true := by kernel_rfl
theorem k22 : (Rows.postingSameUptoRow.plainKeys == Tryd.prog.plainKeys) = true := by rw [show Rows.postingSameUptoRow.plainKeys = Rows.postingBackRow.plainKeys from rfl]; exact plainKeysF
theorem k23 : Rows.postingSameUptoRow.shortTexts.isNone = true := by kernel_rfl
theorem k24 : Tryd.prog.stopsHeard = true := stopsHeardF
theorem k25 : Tryd.prog.mayEnter = true := mayEnterF
theorem k26 : (Rows.postingSameUptoRow.lifted == Tryd.prog.liftsFinal) = true := by rw [show Rows.postingSameUptoRow.lifted = Rows.postingBackRow.lifted from rfl]; exact liftsF
theorem k27 : (Tryd.prog.make == some Rows.postingSameUptoRow.make) = true := by rw [show Rows.postingSameUptoRow.make = Rows.postingBackRow.make from rfl]; exact makeF
theorem k28 : (Rows.postingSameUptoRow.kinds == (if Rows.postingSameUptoRow.domain.isEmpty then [] else Tryd.f4.params.toList.map fun t => match Tryd.prog.underlying t with | some (.int k) => some k | _ => none)) = true := by kernel_rfl
theorem k29 : (Rows.postingSameUptoRow.pinned == Rows.postingSameUptoRow.pinnedBy) = true := by kernel_rfl
theorem k30 : (Rows.postingSameUptoRow.veiled == (Tryd.f4.params.toList ++ (Rows.OpenSpec.upto Rows.postingSameSpec).bare.plain.varTypes Tryd.prog ++ Tryd.f4.resultTypes.toList).any (Tryd.prog.veiledRec ·)) = true := by kernel_rfl
theorem k31 : Rows.postingSameUptoRow.veiledFits Tryd.prog Tryd.f4.params.toList (Tryd.f4.params.toList ++ (Rows.OpenSpec.upto Rows.postingSameSpec).bare.plain.varTypes Tryd.prog ++ Tryd.f4.resultTypes.toList) = true := by kernel_rfl
set_option maxRecDepth 100000 in
theorem closed : joinedFacts Tryd.prog 4 Tryd.f4 (Rows.OpenSpec.upto Rows.postingSameSpec).bare Rows.postingSameUptoRow = true := by
  unfold joinedFacts; exact band (band (band (band (band (band (band (band (band (band (band (band (band (band (band (band (band (band (band (band (band (band (band (band (band (band (band (band (band (band (band (k0) k1) k2) k3) k4) k5) k6) k7) k8) k9) k10) k11) k12) k13) k14) k15) k16) k17) k18) k19) k20) k21) k22) k23) k24) k25) k26) k27) k28) k29) k30) k31
theorem named : Tryd.pinned.checked.prog.funcNamed Rows.postingSameUptoRow.func = some 4 := by kernel_rfl
theorem inst : Tryd.f4.isInstance Tryd.pinned.checked.prog Rows.postingSameUptoRow.origin Rows.postingSameUptoRow.targs := of_decide_eq_true (by kernel_rfl)
theorem wrap : Tryd.f4.isWrapper Tryd.pinned.checked.prog Rows.postingSameUptoRow.wrapper Rows.postingSameUptoRow.mainSum := by unfold Func.isWrapper; first | (rw [if_pos (by decide +kernel)]; kernel_rfl) | (rw [if_neg (by decide +kernel)]; exact ⟨rfl, rfl⟩)

theorem said : Rows.PostingSameUptoSaid :=
  OpenClaim.holds_of_cond 4 Tryd.f4 rfl rfl rfl rfl rfl rfl rfl ⟨rfl, rfl, rfl, rfl, rfl⟩ rfl rfl rfl rfl rfl named Tryd.func4 closed inst wrap
    (fun os started H enc _ F => by rw [OpenClaim.pre_eq_preRow]; exact lifted os started H enc F)

theorem plain (f : FuncId) (fn : Func) (hf : Tryd.pinned.checked.prog.funcNamed "remit/remitlaw16.PostingSame" = some f) (hfn : Tryd.pinned.checked.prog.funcs[f]? = some fn) :
    true = Tryd.pinned.checked.prog.looks [] ∧ ∀ (j : Nat) t, fn.params[j]? = some t → Tryd.pinned.checked.prog.wantsStandIn t = false := by
  obtain rfl : f = 4 := Option.some.inj ((show Tryd.prog.funcNamed "remit/remitlaw16.PostingSame" = some 4 by kernel_rfl).symm.trans hf) |>.symm
  obtain rfl : fn = Tryd.f4 := (Option.some.inj (Tryd.func4.symm.trans hfn)).symm
  have hall : (Tryd.f4.params.toList.all fun t => !Tryd.prog.wantsStandIn t) = true := by kernel_rfl
  refine ⟨by kernel_rfl, fun j t ht => ?_⟩
  have h1 := List.all_eq_true.1 hall t (Array.mem_toList_iff.2 (Array.mem_of_getElem? ht))
  have h2 : Tryd.prog.wantsStandIn t = false := by simpa using h1
  exact h2

/-- THE CARD -/
theorem card : Rows.PostingSameUptoCardSaid :=
  Claim7.holds_tied_plain_at .later [] _ _ _ _ said (fun _ h => by cases h) (by kernel_rfl) (fun _ h => by cases h) postingSameUpto_row_tie rfl ⟨rfl, rfl⟩ (by kernel_rfl) rfl plain (by kernel_rfl)
#print axioms card
end Go.Proofs.YtdbfemdpdpaffaaDoor.fnPostingSame
