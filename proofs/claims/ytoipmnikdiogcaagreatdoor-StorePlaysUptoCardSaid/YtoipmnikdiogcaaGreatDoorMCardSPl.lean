/-
  StorePlays (chapter 13) answers true for every number and every script of calls of bulk at most 1048576 together, and leaves its arguments as they were. Conditions: the 37 error variables of remit/api and the table of remit/checks hold what the program lays there (tied by the card).
-/
import Derived.Test.YtoipmnikdiogcaaGreatDoorTie
import Derived.Test.YtoipmnikdiogcaaGreatDoorCards
import Derived.Test.YtoipmnikdiogcaaGreatDoorYIV
import Derived.Test.YtoipmnikdiogcaaGreatDoorYIW
import Derived.Test.YtoipmnikdiogcaaGreatDoorYIX
set_option maxRecDepth 100000
namespace Go.Proofs.YtoipmnikdiogcaaGreatDoor.fnStorePlays
open Go Go.RowKit Go.ChangeShapes Go.WideShapes Go.ChangeAt Go.Deep
open Go.ChangeMaps (open_string)

/-- the walk's end, for every argument and every world that fits -/
theorem yYq (H : Type) (enc : TypeId × Value → H) (W : World) (base : Nat) (args : Array Value) (ds gs : List (DataW H)) (before : List MemPlace)
    (eZ : ∀ (j : Nat) t v, Tryz.f3.params[j]? = some t → args[j]? = some v → Value.okWide Tryz.prog W .any base t v)
    (hW : DataW.Whole enc Tryz.prog Tryz.f3.params.toList Rows.storePlaysSpec.vars false W args.toList ds gs before) (hk : Rows.uptoSmall H (ds ++ gs) = true)
    (bu : (DataW.weightsEach Tryz.prog (Tryz.f3.params.toList ++ (Rows.OpenSpec.upto Rows.storePlaysSpec).bare.plain.varTypes Tryz.prog) (ds ++ gs)).all (· ≤ reachBytes) = true)
    (hL : laidMetH Tryz.prog Rows.storePlaysUptoRow.laid W) (fN : W.ShapedOpen Tryz.prog) :
    Calls Tryz.prog 3 args W fun e W' => ∃ v, e = .returned v ∧ Rows.storePlaysSpec.post enc Tryz.prog Tryz.f3 false true false false W args v W' := by
  obtain ⟨E0, hE0⟩ := yNJ zK zK hL
  have hg := xCQ (fN )
  have hN : NibAt W := yNY 37 zK zK hL
  have hW' := hW
  obtain ⟨p, q, eK, hV, rfl, hfz, hnd⟩ := hW
  have hA : DataW.TrodAll enc Tryz.prog W 0 (fun _ => true) true Tryz.f3.params.toList args.toList ds p := eK
  rw [Tryz.params3] at hA eZ bu
  obtain ⟨v0, vs0, d0, ds0, p0, q0, im, rfl, rfl, h0, r0⟩ := trodAll_cons hA
  obtain ⟨v1, vs1, d1, ds1, p1, q1, rfl, rfl, rfl, h1, r1⟩ := trodAll_cons r0
  obtain ⟨rfl, rfl, rfl⟩ := trodAll_nil r1
  obtain rfl : args = #[v0, v1] := by cases args; simp_all
  obtain ⟨rfl, rfl⟩ := trodVars_none hV
  have ia := yRZ hk
  simp only [zLs, Rows.uptoBulkAll] at ia
  clear eK
  obtain ⟨n0, rfl, rfl, rfl, w0⟩ := open_int Tryz.underlying3 (eZ 0 3 v0 rfl rfl) h0
  obtain ⟨ls1, ad1, c1, rfl, bM, bU, fi⟩ := yWi (eZ 1 22 v1 rfl rfl) h1 zO
  have ct := yOT (W := W) (F := E0) hE0 hN hg n0 ad1 c1 ls1 (Lv.old yRx bM) bU fi
  refine (ct.go [] W (St.start W)).mono fun e W' ⟨x, he, hS⟩ => ?_
  subst he
  exact ⟨_, rfl, yT8 (tb := 4) yT7 Tryz.underlying4 zK zK rfl hW' rfl hS.below⟩

noncomputable abbrev wit : Array Value := #[.int .i64 0, .slice none 0 0]
noncomputable abbrev w0 (os : Os) : World := World.laidAll Tryz.prog os Rows.storePlaysUptoRow.laid
theorem xDi (os : Os) {H : Type} (enc : TypeId × Value → H) : ∃ places, DataW.whole enc Tryz.prog ((w0 os).forCall (fun _ _ => 0) ⟨#[], wit, []⟩).memory Tryz.f3.params.toList Rows.storePlaysSpec.vars false wit.toList 8 = some ([.lit (.int .i64 0), .nil], [], places) :=
  ⟨[], by kernel_rfl⟩
theorem met (os : Os) : laidMetH Tryz.prog Rows.storePlaysUptoRow.laid ((w0 os).forCall (fun _ _ => 0) ⟨#[], wit, []⟩).memory := by
  rw [MakeChecks.laidMetH_plain _ _ _ zK]; exact laidMet_laidAll _ zK zK
theorem lifted (os : Os) (started : os.Started) (H : Type) (enc : TypeId × Value → H) (F : Stop.Interp) :
    ReturnsInHanded {} Tryz.checked os 3 .any ((Rows.OpenSpec.upto Rows.storePlaysSpec).preRow enc Tryz.prog Tryz.f3 Rows.storePlaysUptoRow.domain false Rows.storePlaysUptoRow.laid) (((Rows.OpenSpec.upto Rows.storePlaysSpec).at F).post enc Tryz.prog Tryz.f3 false true false false) := by
  obtain ⟨places, hx⟩ := xDi os enc
  refine returnsInHanded_of_row (C := Tryz.checked) (s := (Rows.OpenSpec.upto Rows.storePlaysSpec)) own started zK Tryz.func3
    (yNK (enc := enc) (C := Tryz.checked) false (w0 os) wit (World.laidAll_os _ _ _) (World.shaped_of_ZipB zK zK) zK
      (OpenSpec.preRow_of_cond 8 hx zK (fun k hk => by cases hk; kernel_rfl) zK (met os))) ?_
  intro W base args ds gs before eZ hW _ hcond bu hL fN _
  exact yYq H enc W base args ds gs before eZ hW (hcond _ rfl) bu hL fN

theorem k0 : Rows.storePlaysUptoRow.wf (OpenSpec.ofChange (Rows.OpenSpec.upto Rows.storePlaysSpec).bare) = true := by kernel_rfl
theorem k1 : laidOutB Tryz.prog = true := yT7
theorem k2 : mapsRowed Tryz.prog = true := yTk
theorem k3 : Tryz.f3.params.all (Tryz.prog.readableRec ·) = true := by kernel_rfl
theorem k4 : namedTie Tryz.prog Rows.storePlaysUptoRow.named (Rows.OpenSpec.upto Rows.storePlaysSpec).bare.vars = true := by kernel_rfl
theorem k5 : (Rows.storePlaysUptoRow.stops == []) = true := by kernel_rfl
theorem k6 : (Tryz.prog.stops == []) = true := xCq
theorem k7 : (Rows.storePlaysUptoRow.knobs == []) = true := by kernel_rfl
theorem k8 : (Tryz.prog.stopKnobs == []) = true := yTl
theorem k9 : (Rows.storePlaysUptoRow.inPlace == Tryz.prog.inPlace 3) = true := by kernel_rfl
theorem k10 : (Rows.storePlaysUptoRow.unfollowed == Tryz.prog.unfollowed 3) = true := by kernel_rfl
theorem k11 : (Rows.storePlaysUptoRow.recurses == Tryz.prog.recurses 3) = true := by kernel_rfl
theorem k12 : (Rows.storePlaysUptoRow.named == Tryz.prog.varsNamed 3) = true := by kernel_rfl
theorem k13 : (Rows.storePlaysUptoRow.maps == (Tryz.f3.params.toList ++ (Rows.OpenSpec.upto Rows.storePlaysSpec).bare.plain.varTypes Tryz.prog).any (Tryz.prog.mapsRec ·)) = true := by kernel_rfl
theorem k14 : (Rows.storePlaysUptoRow.ifaces == (Tryz.f3.params.toList ++ (Rows.OpenSpec.upto Rows.storePlaysSpec).bare.plain.varTypes Tryz.prog).any (Tryz.prog.ifacesRec ·)) = true := by kernel_rfl
theorem k15 : (Rows.storePlaysUptoRow.mapsOut == Tryz.prog.mapsAmong Tryz.f3.resultTypes.toList) = true := by kernel_rfl
theorem k16 : (Rows.storePlaysUptoRow.loops == (Tryz.f3.params.toList ++ (Rows.OpenSpec.upto Rows.storePlaysSpec).bare.plain.varTypes Tryz.prog).any (Tryz.prog.loopsFrom ·)) = true := by kernel_rfl
theorem k17 : (Rows.storePlaysUptoRow.wideKeys == (Tryz.f3.params.toList ++ (Rows.OpenSpec.upto Rows.storePlaysSpec).bare.plain.varTypes Tryz.prog ++ Tryz.f3.resultTypes.toList).any (Tryz.prog.wideKeysFrom ·)) = true := by kernel_rfl
theorem k18 : (Rows.OpenSpec.upto Rows.storePlaysSpec).bare.vars.all (Tryz.prog.varReadable ·) = true := by kernel_rfl
theorem k19 : Tryz.f3.resultTypes.all (fun t => Tryz.prog.readableRec t && decide (t < Tryz.prog.types.size)) = true := by kernel_rfl
theorem k20 : (Rows.storePlaysUptoRow.ifacesOut == Tryz.f3.resultTypes.toList.any (Tryz.prog.ifacesRec ·)) = true := by kernel_rfl
theorem k21 : (Rows.storePlaysUptoRow.loopsOut == Tryz.f3.resultTypes.toList.any (Tryz.prog.loopsFrom ·)) = true := by kernel_rfl
theorem k22 : (Rows.storePlaysUptoRow.plainKeys == Tryz.prog.plainKeys) = true := by rw [show Rows.storePlaysUptoRow.plainKeys = Rows.storePlaysRow.plainKeys from rfl]; exact yTm
theorem k23 : Rows.storePlaysUptoRow.shortTexts.isNone = true := by kernel_rfl
theorem k24 : Tryz.prog.stopsHeard = true := yQm
theorem k25 : Tryz.prog.mayEnter = true := yWu
theorem k26 : (Rows.storePlaysUptoRow.lifted == Tryz.prog.liftsFinal) = true := by rw [show Rows.storePlaysUptoRow.lifted = Rows.storePlaysRow.lifted from rfl]; exact xCr
theorem k27 : (Tryz.prog.make == some Rows.storePlaysUptoRow.make) = true := by rw [show Rows.storePlaysUptoRow.make = Rows.storePlaysRow.make from rfl]; exact xDh
theorem k28 : (Rows.storePlaysUptoRow.kinds == (if Rows.storePlaysUptoRow.domain.isEmpty then [] else Tryz.f3.params.toList.map fun t => match Tryz.prog.underlying t with | some (.int k) => some k | _ => none)) = true := by kernel_rfl
theorem k29 : (Rows.storePlaysUptoRow.pinned == Rows.storePlaysUptoRow.pinnedBy) = true := by kernel_rfl
theorem k30 : (Rows.storePlaysUptoRow.veiled == (Tryz.f3.params.toList ++ (Rows.OpenSpec.upto Rows.storePlaysSpec).bare.plain.varTypes Tryz.prog ++ Tryz.f3.resultTypes.toList).any (Tryz.prog.veiledRec ·)) = true := by kernel_rfl
theorem k31 : Rows.storePlaysUptoRow.veiledFits Tryz.prog Tryz.f3.params.toList (Tryz.f3.params.toList ++ (Rows.OpenSpec.upto Rows.storePlaysSpec).bare.plain.varTypes Tryz.prog ++ Tryz.f3.resultTypes.toList) = true := by kernel_rfl
theorem closed : joinedFacts Tryz.prog 3 Tryz.f3 (Rows.OpenSpec.upto Rows.storePlaysSpec).bare Rows.storePlaysUptoRow = true := by
  unfold joinedFacts; exact yHv (yHv (yHv (yHv (yHv (yHv (yHv (yHv (yHv (yHv (yHv (yHv (yHv (yHv (yHv (yHv (yHv (yHv (yHv (yHv (yHv (yHv (yHv (yHv (yHv (yHv (yHv (yHv (yHv (yHv (yHv (k0) k1) k2) k3) k4) k5) k6) k7) k8) k9) k10) k11) k12) k13) k14) k15) k16) k17) k18) k19) k20) k21) k22) k23) k24) k25) k26) k27) k28) k29) k30) k31
theorem named : Tryz.pinned.checked.prog.funcNamed Rows.storePlaysUptoRow.func = some 3 := by kernel_rfl
theorem xDs : Tryz.f3.isInstance Tryz.pinned.checked.prog Rows.storePlaysUptoRow.origin Rows.storePlaysUptoRow.targs := of_decide_eq_true zK
theorem wrap : Tryz.f3.isWrapper Tryz.pinned.checked.prog Rows.storePlaysUptoRow.wrapper Rows.storePlaysUptoRow.mainSum := by unfold Func.isWrapper; first | (rw [if_pos (by decide +kernel)]; kernel_rfl) | (rw [if_neg (by decide +kernel)]; exact ⟨rfl, rfl⟩)

theorem xDt : Rows.StorePlaysUptoSaid :=
  OpenClaim.holds_of_cond 3 Tryz.f3 rfl rfl rfl rfl rfl rfl rfl ⟨rfl, rfl, rfl, rfl, rfl⟩ rfl rfl rfl rfl rfl named Tryz.func3 closed xDs wrap
    (fun os started H enc _ F => by rw [OpenClaim.pre_eq_preRow]; exact lifted os started H enc F)

theorem plain (f : FuncId) (fn : Func) (hf : Tryz.pinned.checked.prog.funcNamed "remit/remitlaw13.StorePlays" = some f) (ii : Tryz.pinned.checked.prog.funcs[f]? = some fn) :
    true = Tryz.pinned.checked.prog.looks [] ∧ ∀ (j : Nat) t, fn.params[j]? = some t → Tryz.pinned.checked.prog.wantsStandIn t = false := by
  obtain rfl : f = 3 := Option.some.inj ((show Tryz.prog.funcNamed "remit/remitlaw13.StorePlays" = some 3 by kernel_rfl).symm.trans hf) |>.symm
  obtain rfl : fn = Tryz.f3 := (Option.some.inj (Tryz.func3.symm.trans ii)).symm
  have aI : (Tryz.f3.params.toList.all fun t => !Tryz.prog.wantsStandIn t) = true := by kernel_rfl
  refine ⟨zK, fun j t ht => ?_⟩
  have h1 := List.all_eq_true.1 aI t (Array.mem_toList_iff.2 (Array.mem_of_getElem? ht))
  have h2 : Tryz.prog.wantsStandIn t = false := by simpa using h1
  exact h2

/-- THE CARD -/
theorem card : Rows.StorePlaysUptoCardSaid :=
  Claim7.holds_tied_plain_at .later [] _ _ _ _ xDt (fun _ h => by cases h) zK (fun _ h => by cases h) storePlaysUpto_row_tie rfl ⟨rfl, rfl⟩ zK rfl plain zK
#print axioms card
end Go.Proofs.YtoipmnikdiogcaaGreatDoor.fnStorePlays
