/-
  DiskFlushes (chapter 6) answers true for every number, every script and every fate that together are of bulk at most 1048576, and leaves its arguments as they were. Conditions: the 37 error variables of remit/api hold what the program lays there (tied by the card).
-/
import Derived.Test.YteklldbfdmaafaaDoorFlu
import Derived.Test.YteklldbfdmaafaaDoorOpens
import Derived.Test.YteklldbfdmaafaaDoorFacts
namespace Go.Proofs.YteklldbfdmaafaaDoor.fnDiskFlushes
open Go Go.RowKit Go.ChangeShapes Go.WideShapes Go.ChangeAt Go.Deep
open Go.ChangeMaps (open_string)

set_option maxRecDepth 100000 in
/-- the walk's end, for every argument and every world that fits -/
theorem contract (H : Type) (enc : TypeId × Value → H) (W : World) (base : Nat) (args : Array Value) (ds gs : List (DataW H)) (before : List MemPlace)
    (hval : ∀ (j : Nat) t v, Tryd.f3.params[j]? = some t → args[j]? = some v → Value.okWide Tryd.prog W .any base t v)
    (hW : DataW.Whole enc Tryd.prog Tryd.f3.params.toList Rows.diskFlushesSpec.vars false W args.toList ds gs before) (hk : Rows.uptoSmall H (ds ++ gs) = true)
    (hL : laidMetH Tryd.prog Rows.diskFlushesUptoRow.laid W) (hsh : W.ShapedOpen Tryd.prog) :
    Calls Tryd.prog 3 args W fun e W' => ∃ v, e = .returned v ∧ Rows.diskFlushesSpec.post enc Tryd.prog Tryd.f3 false true false false W args v W' := by
  obtain ⟨E, hE⟩ := errs_of_laid (by kernel_rfl) (by kernel_rfl) hL
  have hg := gB_le hsh
  have hW' := hW
  obtain ⟨p, q, hA0, hV, rfl, hfz, hnd⟩ := hW
  have hA : DataW.TrodAll enc Tryd.prog W 0 (fun _ => true) true Tryd.f3.params.toList args.toList ds p := hA0
  rw [Tryd.params3] at hA hval
  obtain ⟨v0, vs0, d0, ds0, p0, q0, hargs, rfl, rfl, h0, r0⟩ := trodAll_cons hA
  obtain ⟨v1, vs1, d1, ds1, p1, q1, rfl, rfl, rfl, h1, r1⟩ := trodAll_cons r0
  obtain ⟨v2, vs2, d2, ds2, p2, q2, rfl, rfl, rfl, h2, r2⟩ := trodAll_cons r1
  obtain ⟨rfl, rfl, rfl⟩ := trodAll_nil r2
  obtain rfl : args = #[v0, v1, v2] := by cases args; simp_all
  obtain ⟨rfl, rfl⟩ := trodVars_none hV
  have hbulk := upto_bound hk
  simp only [List.append_nil, Rows.uptoBulkAll] at hbulk
  clear hA0
  obtain ⟨n0, rfl, rfl, rfl, w0⟩ := open_int Tryd.underlying3 (hval 0 3 v0 rfl rfl) h0
  obtain ⟨ops1, hs1, hsl1, hso1⟩ := script_of (hval 1 22 v1 rfl rfl) h1
  obtain ⟨kv2, kept2, torn2, bytes2, rfl, hk2, hkl2, hwt2, hwb2⟩ := fate_of (hval 2 25 v2 rfl rfl) h2
  have ct := flushes_ct (W := W) (E := E) n0 v1 ops1 kv2 kept2 torn2 bytes2 hs1 hE hg (by omega) (fun o ho => by have := (hso1 o ho).1; omega) hk2 (by omega)
  refine (ct.go [] W (St.start W)).mono fun e W' ⟨x, he, hS⟩ => ?_
  subst he
  exact ⟨_, rfl, post_true (tb := 4) laidOut Tryd.underlying4 (by kernel_rfl) (by kernel_rfl) rfl hW' rfl hS.below⟩

noncomputable abbrev wit : Array Value := #[.int .i64 0, .slice none 0 0, .agg #[.slice none 0 0, .int .i64 0, .int .i64 0]]
noncomputable abbrev w0 (os : Os) : World := World.laidAll Tryd.prog os Rows.diskFlushesUptoRow.laid
theorem reads (os : Os) {H : Type} (enc : TypeId × Value → H) : ∃ places, DataW.whole enc Tryd.prog ((w0 os).forCall (fun _ _ => 0) ⟨#[], wit, []⟩).memory Tryd.f3.params.toList Rows.diskFlushesSpec.vars false wit.toList 8 = some ([.lit (.int .i64 0), .nil, .agg [.nil, .lit (.int .i64 0), .lit (.int .i64 0)]], [], places) :=
  ⟨[], by kernel_rfl⟩
theorem met (os : Os) : laidMetH Tryd.prog Rows.diskFlushesUptoRow.laid ((w0 os).forCall (fun _ _ => 0) ⟨#[], wit, []⟩).memory := by
  rw [MakeChecks.laidMetH_plain _ _ _ (by kernel_rfl)]; exact laidMet_laidAll _ (by kernel_rfl) (by kernel_rfl)
set_option maxRecDepth 100000 in
theorem lifted (os : Os) (started : os.Started) (H : Type) (enc : TypeId × Value → H) (F : Stop.Interp) :
    ReturnsInHanded {} Tryd.checked os 3 .any ((Rows.OpenSpec.upto Rows.diskFlushesSpec).preRow enc Tryd.prog Tryd.f3 Rows.diskFlushesUptoRow.domain false Rows.diskFlushesUptoRow.laid) (((Rows.OpenSpec.upto Rows.diskFlushesSpec).at F).post enc Tryd.prog Tryd.f3 false true false false) := by
  obtain ⟨places, hx⟩ := reads os enc
  refine returnsInHanded_of_row (C := Tryd.checked) (s := Rows.OpenSpec.upto Rows.diskFlushesSpec) own started (by kernel_rfl) Tryd.func3
    (witness_laid (enc := enc) (C := Tryd.checked) false (w0 os) wit (World.laidAll_os _ _ _) (World.shaped_of_ZipB (by kernel_rfl) (by kernel_rfl)) (by kernel_rfl)
      (OpenSpec.preRow_of_cond 8 hx (by kernel_rfl) (fun k hk => by cases hk; kernel_rfl) (by kernel_rfl) (met os))) ?_
  intro W base args ds gs before hval hW _ hcond _ hL hsh _
  exact contract H enc W base args ds gs before hval hW (hcond _ rfl) hL hsh

theorem k0 : Rows.diskFlushesUptoRow.wf (OpenSpec.ofChange (Rows.OpenSpec.upto Rows.diskFlushesSpec).bare) = true := by kernel_rfl
theorem k1 : laidOutB Tryd.prog = true := laidOut
theorem k2 : mapsRowed Tryd.prog = true := mapsRowedF
theorem k3 : Tryd.f3.params.all (Tryd.prog.readableRec ·) = true := by kernel_rfl
theorem k4 : namedTie Tryd.prog Rows.diskFlushesUptoRow.named (Rows.OpenSpec.upto Rows.diskFlushesSpec).bare.vars = true := by kernel_rfl
theorem k5 : (Rows.diskFlushesUptoRow.stops == []) = true := by kernel_rfl
theorem k6 : (Tryd.prog.stops == []) = true := stopsF
theorem k7 : (Rows.diskFlushesUptoRow.knobs == []) = true := by kernel_rfl
theorem k8 : (Tryd.prog.stopKnobs == []) = true := stopKnobsF
theorem k9 : (Rows.diskFlushesUptoRow.inPlace == Tryd.prog.inPlace 3) = true := by kernel_rfl
theorem k10 : (Rows.diskFlushesUptoRow.unfollowed == Tryd.prog.unfollowed 3) = true := by kernel_rfl
theorem k11 : (Rows.diskFlushesUptoRow.recurses == Tryd.prog.recurses 3) = true := by kernel_rfl
theorem k12 : (Rows.diskFlushesUptoRow.named == Tryd.prog.varsNamed 3) = true := by kernel_rfl
theorem k13 : (Rows.diskFlushesUptoRow.maps == (Tryd.f3.params.toList ++ (Rows.OpenSpec.upto Rows.diskFlushesSpec).bare.plain.varTypes Tryd.prog).any (Tryd.prog.mapsRec ·)) = true := by kernel_rfl
theorem k14 : (Rows.diskFlushesUptoRow.ifaces == (Tryd.f3.params.toList ++ (Rows.OpenSpec.upto Rows.diskFlushesSpec).bare.plain.varTypes Tryd.prog).any (Tryd.prog.ifacesRec ·)) = true := by kernel_rfl
theorem k15 : (Rows.diskFlushesUptoRow.mapsOut == Tryd.prog.mapsAmong Tryd.f3.resultTypes.toList) = true := by kernel_rfl
theorem k16 : (Rows.diskFlushesUptoRow.loops == (Tryd.f3.params.toList ++ (Rows.OpenSpec.upto Rows.diskFlushesSpec).bare.plain.varTypes Tryd.prog).any (Tryd.prog.loopsFrom ·)) = true := by kernel_rfl
theorem k17 : (Rows.diskFlushesUptoRow.wideKeys == (Tryd.f3.params.toList ++ (Rows.OpenSpec.upto Rows.diskFlushesSpec).bare.plain.varTypes Tryd.prog ++ Tryd.f3.resultTypes.toList).any (Tryd.prog.wideKeysFrom ·)) = true := by kernel_rfl
theorem k18 : (Rows.OpenSpec.upto Rows.diskFlushesSpec).bare.vars.all (Tryd.prog.varReadable ·) = true := by kernel_rfl
theorem k19 : Tryd.f3.resultTypes.all (fun t => Tryd.prog.readableRec t && decide (t < Tryd.prog.types.size)) = true := by kernel_rfl
theorem k20 : (Rows.diskFlushesUptoRow.ifacesOut == Tryd.f3.resultTypes.toList.any (Tryd.prog.ifacesRec ·)) = true := by kernel_rfl
theorem k21 : (Rows.diskFlushesUptoRow.loopsOut == Tryd.f3.resultTypes.toList.any (Tryd.prog.loopsFrom ·)) = true := by kernel_rfl
theorem k22 : (Rows.diskFlushesUptoRow.plainKeys == Tryd.prog.plainKeys) = true := plainKeysF
theorem k23 : Rows.diskFlushesUptoRow.shortTexts.isNone = true := by kernel_rfl
theorem k24 : Tryd.prog.stopsHeard = true := stopsHeardF
theorem k25 : Tryd.prog.mayEnter = true := mayEnterF
theorem k26 : (Rows.diskFlushesUptoRow.lifted == Tryd.prog.liftsFinal) = true := liftsF
theorem k27 : (Tryd.prog.make == some Rows.diskFlushesUptoRow.make) = true := makeF
theorem k28 : (Rows.diskFlushesUptoRow.kinds == (if Rows.diskFlushesUptoRow.domain.isEmpty then [] else Tryd.f3.params.toList.map fun t => match Tryd.prog.underlying t with | some (.int k) => some k | _ => none)) = true := by kernel_rfl
theorem k29 : (Rows.diskFlushesUptoRow.pinned == Rows.diskFlushesUptoRow.pinnedBy) = true := by kernel_rfl
theorem k30 : (Rows.diskFlushesUptoRow.veiled == (Tryd.f3.params.toList ++ (Rows.OpenSpec.upto Rows.diskFlushesSpec).bare.plain.varTypes Tryd.prog ++ Tryd.f3.resultTypes.toList).any (Tryd.prog.veiledRec ·)) = true := by kernel_rfl
theorem k31 : Rows.diskFlushesUptoRow.veiledFits Tryd.prog Tryd.f3.params.toList (Tryd.f3.params.toList ++ (Rows.OpenSpec.upto Rows.diskFlushesSpec).bare.plain.varTypes Tryd.prog ++ Tryd.f3.resultTypes.toList) = true := by kernel_rfl
set_option maxRecDepth 100000 in
theorem closed : joinedFacts Tryd.prog 3 Tryd.f3 (Rows.OpenSpec.upto Rows.diskFlushesSpec).bare Rows.diskFlushesUptoRow = true := by
  unfold joinedFacts; exact band (band (band (band (band (band (band (band (band (band (band (band (band (band (band (band (band (band (band (band (band (band (band (band (band (band (band (band (band (band (band (k0) k1) k2) k3) k4) k5) k6) k7) k8) k9) k10) k11) k12) k13) k14) k15) k16) k17) k18) k19) k20) k21) k22) k23) k24) k25) k26) k27) k28) k29) k30) k31
theorem named : Tryd.pinned.checked.prog.funcNamed Rows.diskFlushesUptoRow.func = some 3 := by kernel_rfl
theorem inst : Tryd.f3.isInstance Tryd.pinned.checked.prog Rows.diskFlushesUptoRow.origin Rows.diskFlushesUptoRow.targs := of_decide_eq_true (by kernel_rfl)
theorem wrap : Tryd.f3.isWrapper Tryd.pinned.checked.prog Rows.diskFlushesUptoRow.wrapper Rows.diskFlushesUptoRow.mainSum := by unfold Func.isWrapper; first | (rw [if_pos (by decide +kernel)]; kernel_rfl) | (rw [if_neg (by decide +kernel)]; exact ⟨rfl, rfl⟩)
theorem said : Rows.DiskFlushesUptoSaid :=
  OpenClaim.holds_of_cond 3 Tryd.f3 rfl rfl rfl rfl rfl rfl rfl ⟨rfl, rfl, rfl, rfl, rfl⟩ rfl rfl rfl rfl rfl named Tryd.func3 closed inst wrap
    (fun os started H enc _ F => by rw [OpenClaim.pre_eq_preRow]; exact lifted os started H enc F)

theorem plain (f : FuncId) (fn : Func) (hf : Tryd.pinned.checked.prog.funcNamed "remit/remitlaw06.DiskFlushes" = some f) (hfn : Tryd.pinned.checked.prog.funcs[f]? = some fn) :
    true = Tryd.pinned.checked.prog.looks [] ∧ ∀ (j : Nat) t, fn.params[j]? = some t → Tryd.pinned.checked.prog.wantsStandIn t = false := by
  obtain rfl : f = 3 := Option.some.inj ((show Tryd.prog.funcNamed "remit/remitlaw06.DiskFlushes" = some 3 by kernel_rfl).symm.trans hf) |>.symm
  obtain rfl : fn = Tryd.f3 := (Option.some.inj (Tryd.func3.symm.trans hfn)).symm
  have hall : (Tryd.f3.params.toList.all fun t => !Tryd.prog.wantsStandIn t) = true := by kernel_rfl
  refine ⟨by kernel_rfl, fun j t ht => ?_⟩
  have h1 := List.all_eq_true.1 hall t (Array.mem_toList_iff.2 (Array.mem_of_getElem? ht))
  have h2 : Tryd.prog.wantsStandIn t = false := by simpa using h1
  exact h2

/-- THE CARD -/
theorem card : Rows.DiskFlushesUptoCardSaid :=
  Claim7.holds_tied_plain_at .later [] _ _ _ _ said (fun _ h => by cases h) (by kernel_rfl) (fun _ h => by cases h) diskFlushesUpto_row_tie rfl ⟨rfl, rfl⟩ (by kernel_rfl) rfl plain (by kernel_rfl)
#print axioms card
end Go.Proofs.YteklldbfdmaafaaDoor.fnDiskFlushes
