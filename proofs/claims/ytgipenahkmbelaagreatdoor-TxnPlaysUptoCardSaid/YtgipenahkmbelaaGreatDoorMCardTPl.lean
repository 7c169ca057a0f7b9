/-
  TxnPlays (chapter 14) answers true for every rows and every script of calls of bulk at most 1048576 together, and leaves its arguments as they were. Conditions: the 37 error variables of remit/api and the table of remit/checks hold what the program lays there (tied by the card).
-/
import Derived.Test.YtgipenahkmbelaaGreatDoorTie
import Derived.Test.YtgipenahkmbelaaGreatDoorCards
import Derived.Test.YtgipenahkmbelaaGreatDoorTGL
import Derived.Test.YtgipenahkmbelaaGreatDoorTFN
import Derived.Test.YtgipenahkmbelaaGreatDoorTGM
import Derived.Test.YtgipenahkmbelaaGreatDoorTGN
namespace Go.Proofs.YtgipenahkmbelaaGreatDoor.fnTxnPlays
open Go Go.RowKit Go.ChangeShapes Go.WideShapes Go.ChangeAt Go.Deep
open Go.ChangeMaps (open_string)

set_option maxRecDepth 100000 in
/-- the walk's end, for every argument and every world that fits -/
theorem contract (H : Type) (enc : TypeId × Value → H) (W : World) (base : Nat) (args : Array Value) (ds gs : List (DataW H)) (before : List MemPlace)
    (hval : ∀ (j : Nat) t v, Tryz.f3.params[j]? = some t → args[j]? = some v → Value.okWide Tryz.prog W .any base t v)
    (hW : DataW.Whole enc Tryz.prog Tryz.f3.params.toList Rows.txnPlaysSpec.vars false W args.toList ds gs before) (hk : Rows.uptoSmall H (ds ++ gs) = true)
    (hsz : (DataW.weightsEach Tryz.prog (Tryz.f3.params.toList ++ (Rows.OpenSpec.upto Rows.txnPlaysSpec).bare.plain.varTypes Tryz.prog) (ds ++ gs)).all (· ≤ reachBytes) = true)
    (hL : laidMetH Tryz.prog Rows.txnPlaysUptoRow.laid W) (hsh : W.ShapedOpen Tryz.prog) :
    Calls Tryz.prog 3 args W fun e W' => ∃ v, e = .returned v ∧ Rows.txnPlaysSpec.post enc Tryz.prog Tryz.f3 false true false false W args v W' := by
  obtain ⟨E0, hE0⟩ := errs_of_laid (by kernel_rfl) (by kernel_rfl) hL
  have hg := gB_le (hsh )
  have hN : NibAt W := nibs_of_laid 37 (by kernel_rfl) (by kernel_rfl) hL
  have hW' := hW
  obtain ⟨p, q, hA0, hV, rfl, hfz, hnd⟩ := hW
  have hA : DataW.TrodAll enc Tryz.prog W 0 (fun _ => true) true Tryz.f3.params.toList args.toList ds p := hA0
  rw [Tryz.params3] at hA hval hsz
  obtain ⟨v0, vs0, d0, ds0, p0, q0, hargs, rfl, rfl, h0, r0⟩ := trodAll_cons hA
  obtain ⟨v1, vs1, d1, ds1, p1, q1, rfl, rfl, rfl, h1, r1⟩ := trodAll_cons r0
  obtain ⟨rfl, rfl, rfl⟩ := trodAll_nil r1
  obtain rfl : args = #[v0, v1] := by cases args; simp_all
  obtain ⟨rfl, rfl⟩ := trodVars_none hV
  have hbulk := upto_bound hk
  simp only [List.append_nil, Rows.uptoBulkAll] at hbulk
  clear hA0
  obtain ⟨ls0, ad0, c0, rfl, hs0, hb0, hx0⟩ := rows14_of (hval 0 22 v0 rfl rfl) h0
  obtain ⟨ls1, ad1, c1, rfl, hs1, hb1, hx1⟩ := tops_of (hval 1 23 v1 rfl rfl) h1
  have X : Args14 ls0 ls1 := ⟨by omega, by omega, fun p hp => by
    have h := hx0 p hp
    exact ⟨by omega, by omega⟩, fun o ho => by
    obtain ⟨h1, h2, h3, h4⟩ := hx1 o ho
    exact ⟨by omega, by omega, h3, h4⟩⟩
  have ct := plays14_law (W := W) (F := E0) hE0 hN hg ad0 ad1 c0 c1 ls0 ls1 (Lv.old zCc hs0) (Lv.old top_ok hs1) X
  refine (ct.go [] W (St.start W)).mono fun e W' ⟨x, he, hS⟩ => ?_
  subst he
  exact ⟨_, rfl, post_true (tb := 4) laidOut Tryz.underlying4 (by kernel_rfl) (by kernel_rfl) rfl hW' rfl hS.below⟩

noncomputable abbrev wit : Array Value := #[.slice none 0 0, .slice none 0 0]
noncomputable abbrev w0 (os : Os) : World := World.laidAll Tryz.prog os Rows.txnPlaysUptoRow.laid
theorem reads (os : Os) {H : Type} (enc : TypeId × Value → H) : ∃ places, DataW.whole enc Tryz.prog ((w0 os).forCall (fun _ _ => 0) ⟨#[], wit, []⟩).memory Tryz.f3.params.toList Rows.txnPlaysSpec.vars false wit.toList 8 = some ([.nil, .nil], [], places) :=
  ⟨[], by kernel_rfl⟩
theorem met (os : Os) : laidMetH Tryz.prog Rows.txnPlaysUptoRow.laid ((w0 os).forCall (fun _ _ => 0) ⟨#[], wit, []⟩).memory := by
  rw [MakeChecks.laidMetH_plain _ _ _ (by kernel_rfl)]; exact laidMet_laidAll _ (by kernel_rfl) (by kernel_rfl)
set_option maxRecDepth 100000 in
theorem lifted (os : Os) (started : os.Started) (H : Type) (enc : TypeId × Value → H) (F : Stop.Interp) :
    ReturnsInHanded {} Tryz.checked os 3 .any ((Rows.OpenSpec.upto Rows.txnPlaysSpec).preRow enc Tryz.prog Tryz.f3 Rows.txnPlaysUptoRow.domain false Rows.txnPlaysUptoRow.laid) (((Rows.OpenSpec.upto Rows.txnPlaysSpec).at F).post enc Tryz.prog Tryz.f3 false true false false) := by
  obtain ⟨places, hx⟩ := reads os enc
  refine returnsInHanded_of_row (C := Tryz.checked) (s := (Rows.OpenSpec.upto Rows.txnPlaysSpec)) own started (by kernel_rfl) Tryz.func3
    (witness_laid (enc := enc) (C := Tryz.checked) false (w0 os) wit (World.laidAll_os _ _ _) (World.shaped_of_ZipB (by kernel_rfl) (by kernel_rfl)) (by kernel_rfl)
      (OpenSpec.preRow_of_cond 8 hx (by kernel_rfl) (fun k hk => by cases hk; kernel_rfl) (by kernel_rfl) (met os))) ?_
  intro W base args ds gs before hval hW _ hcond hsz hL hsh _
  exact contract H enc W base args ds gs before hval hW (hcond _ rfl) hsz hL hsh

theorem k0 : Rows.txnPlaysUptoRow.wf (OpenSpec.ofChange (Rows.OpenSpec.upto Rows.txnPlaysSpec).bare) = true := by kernel_rfl
theorem k1 : laidOutB Tryz.prog = true := laidOut
theorem k2 : mapsRowed Tryz.prog = true := mapsRowedF
theorem k3 : Tryz.f3.params.all (Tryz.prog.readableRec ·) = true := by kernel_rfl
theorem k4 : namedTie Tryz.prog Rows.txnPlaysUptoRow.named (Rows.OpenSpec.upto Rows.txnPlaysSpec).bare.vars = true := by kernel_rfl
theorem k5 : (Rows.txnPlaysUptoRow.stops == []) = true := by kernel_rfl
theorem k6 : (Tryz.prog.stops == []) = true := stopsF
theorem k7 : (Rows.txnPlaysUptoRow.knobs == []) = true := by kernel_rfl
theorem k8 : (Tryz.prog.stopKnobs == []) = true := stopKnobsF
theorem k9 : (Rows.txnPlaysUptoRow.inPlace == Tryz.prog.inPlace 3) = true := by kernel_rfl
theorem k10 : (Rows.txnPlaysUptoRow.unfollowed == Tryz.prog.unfollowed 3) = true := by kernel_rfl
theorem k11 : (Rows.txnPlaysUptoRow.recurses == Tryz.prog.recurses 3) = true := by kernel_rfl
theorem k12 : (Rows.txnPlaysUptoRow.named == Tryz.prog.varsNamed 3) = true := by kernel_rfl
theorem k13 : (Rows.txnPlaysUptoRow.maps == (Tryz.f3.params.toList ++ (Rows.OpenSpec.upto Rows.txnPlaysSpec).bare.plain.varTypes Tryz.prog).any (Tryz.prog.mapsRec ·)) = true := by kernel_rfl
theorem k14 : (Rows.txnPlaysUptoRow.ifaces == (Tryz.f3.params.toList ++ (Rows.OpenSpec.upto Rows.txnPlaysSpec).bare.plain.varTypes Tryz.prog).any (Tryz.prog.ifacesRec ·)) = true := by kernel_rfl
theorem k15 : (Rows.txnPlaysUptoRow.mapsOut == Tryz.prog.mapsAmong Tryz.f3.resultTypes.toList) = true := by kernel_rfl
theorem k16 : (Rows.txnPlaysUptoRow.loops == (Tryz.f3.params.toList ++ (Rows.OpenSpec.upto Rows.txnPlaysSpec).bare.plain.varTypes Tryz.prog).any (Tryz.prog.loopsFrom ·)) = true := by kernel_rfl
theorem k17 : (Rows.txnPlaysUptoRow.wideKeys == (Tryz.f3.params.toList ++ (Rows.OpenSpec.upto Rows.txnPlaysSpec).bare.plain.varTypes Tryz.prog ++ Tryz.f3.resultTypes.toList).any (Tryz.prog.wideKeysFrom ·)) = true := by kernel_rfl
theorem k18 : (Rows.OpenSpec.upto Rows.txnPlaysSpec).bare.vars.all (Tryz.prog.varReadable ·) = true := by kernel_rfl
theorem k19 : Tryz.f3.resultTypes.all (fun t => Tryz.prog.readableRec t && decide (t < Tryz.prog.types.size)) = true := by kernel_rfl
theorem k20 : (Rows.txnPlaysUptoRow.ifacesOut == Tryz.f3.resultTypes.toList.any (Tryz.prog.ifacesRec ·)) = true := by kernel_rfl
theorem k21 : (Rows.txnPlaysUptoRow.loopsOut == Tryz.f3.resultTypes.toList.any (Tryz.prog.loopsFrom ·)) = true := by kernel_rfl
theorem k22 : (Rows.txnPlaysUptoRow.plainKeys == Tryz.prog.plainKeys) = true := by rw [show Rows.txnPlaysUptoRow.plainKeys = Rows.txnPlaysRow.plainKeys from rfl]; exact plainKeysF
theorem k23 : Rows.txnPlaysUptoRow.shortTexts.isNone = true := by kernel_rfl
theorem k24 : Tryz.prog.stopsHeard = true := stopsHeardF
theorem k25 : Tryz.prog.mayEnter = true := mayEnterF
theorem k26 : (Rows.txnPlaysUptoRow.lifted == Tryz.prog.liftsFinal) = true := by rw [show Rows.txnPlaysUptoRow.lifted = Rows.txnPlaysRow.lifted from rfl]; exact liftsF
theorem k27 : (Tryz.prog.make == some Rows.txnPlaysUptoRow.make) = true := by rw [show Rows.txnPlaysUptoRow.make = Rows.txnPlaysRow.make from rfl]; exact makeF
theorem k28 : (Rows.txnPlaysUptoRow.kinds == (if Rows.txnPlaysUptoRow.domain.isEmpty then [] else Tryz.f3.params.toList.map fun t => match Tryz.prog.underlying t with | some (.int k) => some k | _ => none)) = true := by kernel_rfl
theorem k29 : (Rows.txnPlaysUptoRow.pinned == Rows.txnPlaysUptoRow.pinnedBy) = true := by kernel_rfl
theorem k30 : (Rows.txnPlaysUptoRow.veiled == (Tryz.f3.params.toList ++ (Rows.OpenSpec.upto Rows.txnPlaysSpec).bare.plain.varTypes Tryz.prog ++ Tryz.f3.resultTypes.toList).any (Tryz.prog.veiledRec ·)) = true := by kernel_rfl
theorem k31 : Rows.txnPlaysUptoRow.veiledFits Tryz.prog Tryz.f3.params.toList (Tryz.f3.params.toList ++ (Rows.OpenSpec.upto Rows.txnPlaysSpec).bare.plain.varTypes Tryz.prog ++ Tryz.f3.resultTypes.toList) = true := by kernel_rfl
set_option maxRecDepth 100000 in
theorem closed : joinedFacts Tryz.prog 3 Tryz.f3 (Rows.OpenSpec.upto Rows.txnPlaysSpec).bare Rows.txnPlaysUptoRow = true := by
  unfold joinedFacts; exact band (band (band (band (band (band (band (band (band (band (band (band (band (band (band (band (band (band (band (band (band (band (band (band (band (band (band (band (band (band (band (k0) k1) k2) k3) k4) k5) k6) k7) k8) k9) k10) k11) k12) k13) k14) k15) k16) k17) k18) k19) k20) k21) k22) k23) k24) k25) k26) k27) k28) k29) k30) k31
theorem named : Tryz.pinned.checked.prog.funcNamed Rows.txnPlaysUptoRow.func = some 3 := by kernel_rfl
theorem inst : Tryz.f3.isInstance Tryz.pinned.checked.prog Rows.txnPlaysUptoRow.origin Rows.txnPlaysUptoRow.targs := of_decide_eq_true (by kernel_rfl)
theorem wrap : Tryz.f3.isWrapper Tryz.pinned.checked.prog Rows.txnPlaysUptoRow.wrapper Rows.txnPlaysUptoRow.mainSum := by unfold Func.isWrapper; first | (rw [if_pos (by decide +kernel)]; kernel_rfl) | (rw [if_neg (by decide +kernel)]; exact ⟨rfl, rfl⟩)

theorem said : Rows.TxnPlaysUptoSaid :=
  OpenClaim.holds_of_cond 3 Tryz.f3 rfl rfl rfl rfl rfl rfl rfl ⟨rfl, rfl, rfl, rfl, rfl⟩ rfl rfl rfl rfl rfl named Tryz.func3 closed inst wrap
    (fun os started H enc _ F => by rw [OpenClaim.pre_eq_preRow]; exact lifted os started H enc F)

theorem plain (f : FuncId) (fn : Func) (hf : Tryz.pinned.checked.prog.funcNamed "remit/remitlaw14.TxnPlays" = some f) (hfn : Tryz.pinned.checked.prog.funcs[f]? = some fn) :
    true = Tryz.pinned.checked.prog.looks [] ∧ ∀ (j : Nat) t, fn.params[j]? = some t → Tryz.pinned.checked.prog.wantsStandIn t = false := by
  obtain rfl : f = 3 := Option.some.inj ((show Tryz.prog.funcNamed "remit/remitlaw14.TxnPlays" = some 3 by kernel_rfl).symm.trans hf) |>.symm
  obtain rfl : fn = Tryz.f3 := (Option.some.inj (Tryz.func3.symm.trans hfn)).symm
  have hall : (Tryz.f3.params.toList.all fun t => !Tryz.prog.wantsStandIn t) = true := by kernel_rfl
  refine ⟨by kernel_rfl, fun j t ht => ?_⟩
  have h1 := List.all_eq_true.1 hall t (Array.mem_toList_iff.2 (Array.mem_of_getElem? ht))
  have h2 : Tryz.prog.wantsStandIn t = false := by simpa using h1
  exact h2

/-- THE CARD -/
theorem card : Rows.TxnPlaysUptoCardSaid :=
  Claim7.holds_tied_plain_at .later [] _ _ _ _ said (fun _ h => by cases h) (by kernel_rfl) (fun _ h => by cases h) txnPlaysUpto_row_tie rfl ⟨rfl, rfl⟩ (by kernel_rfl) rfl plain (by kernel_rfl)
#print axioms card
end Go.Proofs.YtgipenahkmbelaaGreatDoor.fnTxnPlays
