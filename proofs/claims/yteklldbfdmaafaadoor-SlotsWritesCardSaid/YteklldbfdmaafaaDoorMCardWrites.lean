/-
  SlotsWrites (chapter 8) answers true for every text, number, version, value and count, and leaves its arguments as they were. Conditions: the 37 error variables of remit/api and the table of remit/checks hold what the program lays there (tied by the card).
-/
import Derived.Test.YteklldbfdmaafaaDoorGJ
import Derived.Test.YteklldbfdmaafaaDoorGH
import Derived.Test.YteklldbfdmaafaaDoorGD
namespace Go.Proofs.YteklldbfdmaafaaDoor.fnSlotsWrites
open Go Go.RowKit Go.ChangeShapes Go.WideShapes Go.ChangeAt Go.Deep
open Go.ChangeMaps (open_string)

set_option maxRecDepth 100000 in
/-- the walk's end, for every argument and every world that fits -/
theorem contract (H : Type) (enc : TypeId × Value → H) (W : World) (base : Nat) (args : Array Value) (ds gs : List (DataW H)) (before : List MemPlace)
    (hval : ∀ (j : Nat) t v, Tryd.f14.params[j]? = some t → args[j]? = some v → Value.okWide Tryd.prog W .any base t v)
    (hW : DataW.Whole enc Tryd.prog Tryd.f14.params.toList Rows.slotsWritesSpec.vars false W args.toList ds gs before)
    (hL : laidMetH Tryd.prog Rows.slotsWritesRow.laid W) (hsh : W.ShapedOpen Tryd.prog) :
    Calls Tryd.prog 14 args W fun e W' => ∃ v, e = .returned v ∧ Rows.slotsWritesSpec.post enc Tryd.prog Tryd.f14 false true false false W args v W' := by
  obtain ⟨E, hE⟩ := errs_of_laid (by kernel_rfl) (by kernel_rfl) hL
  have hg := gB_le hsh
  have hW' := hW
  obtain ⟨p, q, hA0, hV, rfl, hfz, hnd⟩ := hW
  have hA : DataW.TrodAll enc Tryd.prog W 0 (fun _ => true) true Tryd.f14.params.toList args.toList ds p := hA0
  rw [Tryd.params14] at hA hval
  obtain ⟨v0, vs0, d0, ds0, p0, q0, hargs, rfl, rfl, h0, r0⟩ := trodAll_cons hA
  obtain ⟨v1, vs1, d1, ds1, p1, q1, rfl, rfl, rfl, h1, r1⟩ := trodAll_cons r0
  obtain ⟨v2, vs2, d2, ds2, p2, q2, rfl, rfl, rfl, h2, r2⟩ := trodAll_cons r1
  obtain ⟨v3, vs3, d3, ds3, p3, q3, rfl, rfl, rfl, h3, r3⟩ := trodAll_cons r2
  obtain ⟨v4, vs4, d4, ds4, p4, q4, rfl, rfl, rfl, h4, r4⟩ := trodAll_cons r3
  obtain ⟨rfl, rfl, rfl⟩ := trodAll_nil r4
  obtain rfl : args = #[v0, v1, v2, v3, v4] := by cases args; simp_all
  obtain ⟨rfl, rfl⟩ := trodVars_none hV
  clear hA0
  obtain ⟨s0, rfl, rfl, rfl, hm0⟩ := open_string Tryd.underlying9 (hval 0 9 v0 rfl rfl) h0
  obtain ⟨l0, rfl⟩ : ∃ l : List UInt8, s0 = ⟨l.toArray⟩ := ⟨s0.data.toList, by simp⟩
  have hll0 : l0.length ≤ 9223372036854775807 := by have h := hm0; unfold maxLen at h; exact h
  obtain ⟨n1, rfl, rfl, rfl, w1⟩ := open_int Tryd.underlying3 (hval 1 3 v1 rfl rfl) h1
  obtain ⟨n2, rfl, rfl, rfl, w2⟩ := open_int Tryd.underlying3 (hval 2 3 v2 rfl rfl) h2
  obtain ⟨s3, rfl, rfl, rfl, hm3⟩ := open_string Tryd.underlying9 (hval 3 9 v3 rfl rfl) h3
  obtain ⟨l3, rfl⟩ : ∃ l : List UInt8, s3 = ⟨l.toArray⟩ := ⟨s3.data.toList, by simp⟩
  have hll3 : l3.length ≤ 9223372036854775807 := by have h := hm3; unfold maxLen at h; exact h
  obtain ⟨n4, rfl, rfl, rfl, w4⟩ := open_int Tryd.underlying3 (hval 4 3 v4 rfl rfl) h4
  have hN : NibAt W := nibs_of_laid 37 (by kernel_rfl) (by kernel_rfl) hL
  have ct := writes08_ct (W := W) (E := E) l0 n1 n2 l3 n4 (bounds_i64 w2) (bounds_i64 w4).2 hE hN hg
  refine (ct.go [] W (St.start W)).mono fun e W' ⟨x, he, hS⟩ => ?_
  subst he
  exact ⟨_, rfl, post_true (tb := 4) laidOut Tryd.underlying4 (by kernel_rfl) (by kernel_rfl) rfl hW' rfl hS.below⟩

noncomputable abbrev wit : Array Value := #[.string ⟨#[]⟩, .int .i64 0, .int .i64 0, .string ⟨#[]⟩, .int .i64 0]
noncomputable abbrev w0 (os : Os) : World := World.laidAll Tryd.prog os Rows.slotsWritesRow.laid
theorem reads (os : Os) {H : Type} (enc : TypeId × Value → H) : ∃ places, DataW.whole enc Tryd.prog ((w0 os).forCall (fun _ _ => 0) ⟨#[], wit, []⟩).memory Tryd.f14.params.toList Rows.slotsWritesSpec.vars false wit.toList 8 = some ([.lit (.string []), .lit (.int .i64 0), .lit (.int .i64 0), .lit (.string []), .lit (.int .i64 0)], [], places) :=
  ⟨[], by kernel_rfl⟩
theorem met (os : Os) : laidMetH Tryd.prog Rows.slotsWritesRow.laid ((w0 os).forCall (fun _ _ => 0) ⟨#[], wit, []⟩).memory := by
  rw [MakeChecks.laidMetH_plain _ _ _ (by kernel_rfl)]; exact laidMet_laidAll _ (by kernel_rfl) (by kernel_rfl)
set_option maxRecDepth 100000 in
theorem lifted (os : Os) (started : os.Started) (H : Type) (enc : TypeId × Value → H) (F : Stop.Interp) :
    ReturnsInHanded {} Tryd.checked os 14 .any ((OpenSpec.ofChange Rows.slotsWritesSpec).preRow enc Tryd.prog Tryd.f14 Rows.slotsWritesRow.domain false Rows.slotsWritesRow.laid) (((OpenSpec.ofChange Rows.slotsWritesSpec).at F).post enc Tryd.prog Tryd.f14 false true false false) := by
  obtain ⟨places, hx⟩ := reads os enc
  refine returnsInHanded_of_row (C := Tryd.checked) (s := (OpenSpec.ofChange Rows.slotsWritesSpec)) own started (by kernel_rfl) Tryd.func14
    (witness_laid (enc := enc) (C := Tryd.checked) false (w0 os) wit (World.laidAll_os _ _ _) (World.shaped_of_ZipB (by kernel_rfl) (by kernel_rfl)) (by kernel_rfl)
      (OpenSpec.preRow_of_cond 8 hx (by kernel_rfl) (fun k hk => by cases hk) (by kernel_rfl) (met os))) ?_
  intro W base args ds gs before hval hW _ hcond _ hL hsh _
  exact contract H enc W base args ds gs before hval hW hL hsh

theorem k0 : Rows.slotsWritesRow.wf (OpenSpec.ofChange (OpenSpec.ofChange Rows.slotsWritesSpec).bare) = true := by kernel_rfl
theorem k1 : laidOutB Tryd.prog = true := laidOut
theorem k2 : mapsRowed Tryd.prog = true := mapsRowedF
theorem k3 : Tryd.f14.params.all (Tryd.prog.readableRec ·) = true := by kernel_rfl
theorem k4 : namedTie Tryd.prog Rows.slotsWritesRow.named (OpenSpec.ofChange Rows.slotsWritesSpec).bare.vars = true := by kernel_rfl
theorem k5 : (Rows.slotsWritesRow.stops == []) = true := by kernel_rfl
theorem k6 : (Tryd.prog.stops == []) = true := stopsF
theorem k7 : (Rows.slotsWritesRow.knobs == []) = true := by kernel_rfl
theorem k8 : (Tryd.prog.stopKnobs == []) = true := stopKnobsF
theorem k9 : (Rows.slotsWritesRow.inPlace == Tryd.prog.inPlace 14) = true := by kernel_rfl
theorem k10 : (Rows.slotsWritesRow.unfollowed == Tryd.prog.unfollowed 14) = true := by kernel_rfl
theorem k11 : (Rows.slotsWritesRow.recurses == Tryd.prog.recurses 14) = true := by kernel_rfl
theorem k12 : (Rows.slotsWritesRow.named == Tryd.prog.varsNamed 14) = true := by kernel_rfl
theorem k13 : (Rows.slotsWritesRow.maps == (Tryd.f14.params.toList ++ (OpenSpec.ofChange Rows.slotsWritesSpec).bare.plain.varTypes Tryd.prog).any (Tryd.prog.mapsRec ·)) = true := by kernel_rfl
theorem k14 : (Rows.slotsWritesRow.ifaces == (Tryd.f14.params.toList ++ (OpenSpec.ofChange Rows.slotsWritesSpec).bare.plain.varTypes Tryd.prog).any (Tryd.prog.ifacesRec ·)) = true := by kernel_rfl
theorem k15 : (Rows.slotsWritesRow.mapsOut == Tryd.prog.mapsAmong Tryd.f14.resultTypes.toList) = true := by kernel_rfl
theorem k16 : (Rows.slotsWritesRow.loops == (Tryd.f14.params.toList ++ (OpenSpec.ofChange Rows.slotsWritesSpec).bare.plain.varTypes Tryd.prog).any (Tryd.prog.loopsFrom ·)) = true := by kernel_rfl
theorem k17 : (Rows.slotsWritesRow.wideKeys == (Tryd.f14.params.toList ++ (OpenSpec.ofChange Rows.slotsWritesSpec).bare.plain.varTypes Tryd.prog ++ Tryd.f14.resultTypes.toList).any (Tryd.prog.wideKeysFrom ·)) = true := by kernel_rfl
theorem k18 : (OpenSpec.ofChange Rows.slotsWritesSpec).bare.vars.all (Tryd.prog.varReadable ·) = true := by kernel_rfl
theorem k19 : Tryd.f14.resultTypes.all (fun t => Tryd.prog.readableRec t && decide (t < Tryd.prog.types.size)) = true := by kernel_rfl
theorem k20 : (Rows.slotsWritesRow.ifacesOut == Tryd.f14.resultTypes.toList.any (Tryd.prog.ifacesRec ·)) = true := by kernel_rfl
theorem k21 : (Rows.slotsWritesRow.loopsOut == Tryd.f14.resultTypes.toList.any (Tryd.prog.loopsFrom ·)) = true := by kernel_rfl
theorem k22 : (Rows.slotsWritesRow.plainKeys == Tryd.prog.plainKeys) = true := by rw [show Rows.slotsWritesRow.plainKeys = Rows.diskFlushesUptoRow.plainKeys from rfl]; exact plainKeysF
theorem k23 : Rows.slotsWritesRow.shortTexts.isNone = true := by kernel_rfl
theorem k24 : Tryd.prog.stopsHeard = true := stopsHeardF
theorem k25 : Tryd.prog.mayEnter = true := mayEnterF
theorem k26 : (Rows.slotsWritesRow.lifted == Tryd.prog.liftsFinal) = true := by rw [show Rows.slotsWritesRow.lifted = Rows.diskFlushesUptoRow.lifted from rfl]; exact liftsF
theorem k27 : (Tryd.prog.make == some Rows.slotsWritesRow.make) = true := by rw [show Rows.slotsWritesRow.make = Rows.diskFlushesUptoRow.make from rfl]; exact makeF
theorem k28 : (Rows.slotsWritesRow.kinds == (if Rows.slotsWritesRow.domain.isEmpty then [] else Tryd.f14.params.toList.map fun t => match Tryd.prog.underlying t with | some (.int k) => some k | _ => none)) = true := by kernel_rfl
theorem k29 : (Rows.slotsWritesRow.pinned == Rows.slotsWritesRow.pinnedBy) = true := by kernel_rfl
theorem k30 : (Rows.slotsWritesRow.veiled == (Tryd.f14.params.toList ++ (OpenSpec.ofChange Rows.slotsWritesSpec).bare.plain.varTypes Tryd.prog ++ Tryd.f14.resultTypes.toList).any (Tryd.prog.veiledRec ·)) = true := by kernel_rfl
theorem k31 : Rows.slotsWritesRow.veiledFits Tryd.prog Tryd.f14.params.toList (Tryd.f14.params.toList ++ (OpenSpec.ofChange Rows.slotsWritesSpec).bare.plain.varTypes Tryd.prog ++ Tryd.f14.resultTypes.toList) = true := by kernel_rfl
set_option maxRecDepth 100000 in
theorem closed : joinedFacts Tryd.prog 14 Tryd.f14 (OpenSpec.ofChange Rows.slotsWritesSpec).bare Rows.slotsWritesRow = true := by
  unfold joinedFacts; exact band (band (band (band (band (band (band (band (band (band (band (band (band (band (band (band (band (band (band (band (band (band (band (band (band (band (band (band (band (band (band (k0) k1) k2) k3) k4) k5) k6) k7) k8) k9) k10) k11) k12) k13) k14) k15) k16) k17) k18) k19) k20) k21) k22) k23) k24) k25) k26) k27) k28) k29) k30) k31
theorem named : Tryd.pinned.checked.prog.funcNamed Rows.slotsWritesRow.func = some 14 := by kernel_rfl
theorem inst : Tryd.f14.isInstance Tryd.pinned.checked.prog Rows.slotsWritesRow.origin Rows.slotsWritesRow.targs := of_decide_eq_true (by kernel_rfl)
theorem wrap : Tryd.f14.isWrapper Tryd.pinned.checked.prog Rows.slotsWritesRow.wrapper Rows.slotsWritesRow.mainSum := by unfold Func.isWrapper; first | (rw [if_pos (by decide +kernel)]; kernel_rfl) | (rw [if_neg (by decide +kernel)]; exact ⟨rfl, rfl⟩)
theorem said : Rows.SlotsWritesSaid :=
  OpenClaim.holds_of_cond 14 Tryd.f14 rfl rfl rfl rfl rfl rfl rfl ⟨rfl, rfl, rfl, rfl, rfl⟩ rfl rfl rfl rfl rfl named Tryd.func14 closed inst wrap
    (fun os started H enc _ F => by rw [OpenClaim.pre_eq_preRow]; exact lifted os started H enc F)

theorem plain (f : FuncId) (fn : Func) (hf : Tryd.pinned.checked.prog.funcNamed "remit/remitlaw08.SlotsWrites" = some f) (hfn : Tryd.pinned.checked.prog.funcs[f]? = some fn) :
    true = Tryd.pinned.checked.prog.looks [] ∧ ∀ (j : Nat) t, fn.params[j]? = some t → Tryd.pinned.checked.prog.wantsStandIn t = false := by
  obtain rfl : f = 14 := Option.some.inj ((show Tryd.prog.funcNamed "remit/remitlaw08.SlotsWrites" = some 14 by kernel_rfl).symm.trans hf) |>.symm
  obtain rfl : fn = Tryd.f14 := (Option.some.inj (Tryd.func14.symm.trans hfn)).symm
  have hall : (Tryd.f14.params.toList.all fun t => !Tryd.prog.wantsStandIn t) = true := by kernel_rfl
  refine ⟨by kernel_rfl, fun j t ht => ?_⟩
  have h1 := List.all_eq_true.1 hall t (Array.mem_toList_iff.2 (Array.mem_of_getElem? ht))
  have h2 : Tryd.prog.wantsStandIn t = false := by simpa using h1
  exact h2

/-- THE CARD -/
theorem card : Rows.SlotsWritesCardSaid :=
  Claim7.holds_tied_plain_at .later [] _ _ _ _ said (fun _ h => by cases h) (by kernel_rfl) (fun _ h => by cases h) slotsWrites_row_tie rfl ⟨rfl, rfl⟩ (by kernel_rfl) rfl plain (by kernel_rfl)
#print axioms card
end Go.Proofs.YteklldbfdmaafaaDoor.fnSlotsWrites
