/-
  TxnUndo (chapter 14) answers true for every rows, every script of calls and every place of bulk at most 1048576 together, and leaves its arguments as they were. Conditions: the 16 error variables of remit/api that the law reaches and the table of remit/checks hold what the program lays there (tied by the card).
-/
import Derived.Test.YtahgdagcnkpnbaaGreatDoorTie
import Derived.Test.YtahgdagcnkpnbaaGreatDoorCards
import Derived.Test.YtahgdagcnkpnbaaGreatDoorTFV
import Derived.Test.YtahgdagcnkpnbaaGreatDoorTFT
import Derived.Test.YtahgdagcnkpnbaaGreatDoorTFU
namespace Go.Proofs.YtahgdagcnkpnbaaGreatDoor.fnTxnUndo
open Go Go.RowKit Go.ChangeShapes Go.WideShapes Go.ChangeAt Go.Deep
open Go.ChangeMaps (open_string)

set_option maxRecDepth 100000 in
/-- the walk's end, for every argument and every world that fits -/
theorem contract (H : Type) (enc : TypeId × Value → H) (W : World) (base : Nat) (args : Array Value) (ds gs : List (DataW H)) (before : List MemPlace)
    (hval : ∀ (j : Nat) t v, Tryz.f5.params[j]? = some t → args[j]? = some v → Value.okWide Tryz.prog W .any base t v)
    (hW : DataW.Whole enc Tryz.prog Tryz.f5.params.toList Rows.txnUndoSpec.vars false W args.toList ds gs before) (hk : Rows.uptoSmall H (ds ++ gs) = true)
    (hsz : (DataW.weightsEach Tryz.prog (Tryz.f5.params.toList ++ (Rows.OpenSpec.upto Rows.txnUndoSpec).bare.plain.varTypes Tryz.prog) (ds ++ gs)).all (· ≤ reachBytes) = true)
    (hL : laidMetH Tryz.prog Rows.txnUndoUptoRow.laid W) (hsh : W.ShapedOpen Tryz.prog) :
    Calls Tryz.prog 5 args W fun e W' => ∃ v, e = .returned v ∧ Rows.txnUndoSpec.post enc Tryz.prog Tryz.f5 false true false false W args v W' := by
  obtain ⟨E0, hE0⟩ := errs_on_laid L16 (by decide) (by kernel_rfl) (by kernel_rfl) hL
  have hg := gB_le (hsh )
  have hN : NibAt W := nibs_of_laid 16 (by kernel_rfl) (by kernel_rfl) hL
  have hW' := hW
  obtain ⟨p, q, hA0, hV, rfl, hfz, hnd⟩ := hW
  have hA : DataW.TrodAll enc Tryz.prog W 0 (fun _ => true) true Tryz.f5.params.toList args.toList ds p := hA0
  rw [Tryz.params5] at hA hval hsz
  obtain ⟨v0, vs0, d0, ds0, p0, q0, hargs, rfl, rfl, h0, r0⟩ := trodAll_cons hA
  obtain ⟨v1, vs1, d1, ds1, p1, q1, rfl, rfl, rfl, h1, r1⟩ := trodAll_cons r0
  obtain ⟨v2, vs2, d2, ds2, p2, q2, rfl, rfl, rfl, h2, r2⟩ := trodAll_cons r1
  obtain ⟨rfl, rfl, rfl⟩ := trodAll_nil r2
  obtain rfl : args = #[v0, v1, v2] := by cases args; simp_all
  obtain ⟨rfl, rfl⟩ := trodVars_none hV
  have hbulk := upto_bound hk
  simp only [List.append_nil, Rows.uptoBulkAll] at hbulk
  clear hA0
  obtain ⟨ls0, ad0, c0, rfl, hs0, hb0, hx0⟩ := rows14_of (hval 0 22 v0 rfl rfl) h0
  obtain ⟨ls1, ad1, c1, rfl, hs1, hb1, hx1⟩ := tops_of (hval 1 23 v1 rfl rfl) h1
  obtain ⟨n2, rfl, rfl, rfl, w2⟩ := open_int Tryz.underlying3 (hval 2 3 v2 rfl rfl) h2
  have X : Args14 ls0 ls1 := ⟨by omega, by omega, fun p hp => by
    have h := hx0 p hp
    exact ⟨by omega, by omega⟩, fun o ho => by
    obtain ⟨h1, h2, h3, h4⟩ := hx1 o ho
    exact ⟨by omega, by omega, h3, h4⟩⟩
  have hr2 := i64_both14 w2
  have ct := tundo14_law (W := W) (F := E0) hE0 hN hg ad0 ad1 c0 c1 ls0 ls1 n2 (Lv.old rC_ok hs0) (Lv.old top_ok hs1) X hr2
  refine (ct.go [] W (St.start W)).mono fun e W' ⟨x, he, hS⟩ => ?_
  subst he
  exact ⟨_, rfl, post_true (tb := 4) laidOut Tryz.underlying4 (by kernel_rfl) (by kernel_rfl) rfl hW' rfl hS.below⟩

noncomputable abbrev wit : Array Value := #[.slice none 0 0, .slice none 0 0, .int .i64 0]
noncomputable abbrev w0 (os : Os) : World := World.laidAll Tryz.prog os Rows.txnUndoUptoRow.laid
theorem reads (os : Os) {H : Type} (enc : TypeId × Value → H) : ∃ places, DataW.whole enc Tryz.prog ((w0 os).forCall (fun _ _ => 0) ⟨#[], wit, []⟩).memory Tryz.f5.params.toList Rows.txnUndoSpec.vars false wit.toList 8 = some ([.nil, .nil, .lit (.int .i64 0)], [], places) :=
  ⟨[], by kernel_rfl⟩
theorem met (os : Os) : laidMetH Tryz.prog Rows.txnUndoUptoRow.laid ((w0 os).forCall (fun _ _ => 0) ⟨#[], wit, []⟩).memory := by
  rw [MakeChecks.laidMetH_plain _ _ _ (by kernel_rfl)]; exact laidMet_laidAll _ (by kernel_rfl) (by kernel_rfl)
set_option maxRecDepth 100000 in
theorem lifted (os : Os) (started : os.Started) (H : Type) (enc : TypeId × Value → H) (F : Stop.Interp) :
    ReturnsInHanded {} Tryz.checked os 5 .any ((Rows.OpenSpec.upto Rows.txnUndoSpec).preRow enc Tryz.prog Tryz.f5 Rows.txnUndoUptoRow.domain false Rows.txnUndoUptoRow.laid) (((Rows.OpenSpec.upto Rows.txnUndoSpec).at F).post enc Tryz.prog Tryz.f5 false true false false) := by
  obtain ⟨places, hx⟩ := reads os enc
  refine returnsInHanded_of_row (C := Tryz.checked) (s := (Rows.OpenSpec.upto Rows.txnUndoSpec)) own started (by kernel_rfl) Tryz.func5
    (witness_laid (enc := enc) (C := Tryz.checked) false (w0 os) wit (World.laidAll_os _ _ _) (World.shaped_of_ZipB (by kernel_rfl) (by kernel_rfl)) (by kernel_rfl)
      (OpenSpec.preRow_of_cond 8 hx (by kernel_rfl) (fun k hk => by cases hk; kernel_rfl) (by kernel_rfl) (met os))) ?_
  intro W base args ds gs before hval hW _ hcond hsz hL hsh _
  exact contract H enc W base args ds gs before hval hW (hcond _ rfl) hsz hL hsh

theorem k0 : Rows.txnUndoUptoRow.wf (OpenSpec.ofChange (Rows.OpenSpec.upto Rows.txnUndoSpec).bare) = true := by kernel_rfl
theorem k1 : laidOutB Tryz.prog = true := laidOut
theorem k2 : mapsRowed Tryz.prog = true := mapsRowedF
theorem k3 : Tryz.f5.params.all (Tryz.prog.readableRec ·) = true := by kernel_rfl
theorem k4 : namedTie Tryz.prog Rows.txnUndoUptoRow.named (Rows.OpenSpec.upto Rows.txnUndoSpec).bare.vars = true := by kernel_rfl
theorem k5 : (Rows.txnUndoUptoRow.stops == []) = true := by kernel_rfl
theorem k6 : (Tryz.prog.stops == []) = true := stopsF
theorem k7 : (Rows.txnUndoUptoRow.knobs == []) = true := by kernel_rfl
theorem k8 : (Tryz.prog.stopKnobs == []) = true := stopKnobsF
theorem k9 : (Rows.txnUndoUptoRow.inPlace == Tryz.prog.inPlace 5) = true := by kernel_rfl
theorem k10 : (Rows.txnUndoUptoRow.unfollowed == Tryz.prog.unfollowed 5) = true := by kernel_rfl
theorem k11 : (Rows.txnUndoUptoRow.recurses == Tryz.prog.recurses 5) = true := by kernel_rfl
theorem k12 : (Rows.txnUndoUptoRow.named == Tryz.prog.varsNamed 5) = true := by kernel_rfl
theorem k13 : (Rows.txnUndoUptoRow.maps == (Tryz.f5.params.toList ++ (Rows.OpenSpec.upto Rows.txnUndoSpec).bare.plain.varTypes Tryz.prog).any (Tryz.prog.mapsRec ·)) = true := by kernel_rfl
theorem k14 : (Rows.txnUndoUptoRow.ifaces == (Tryz.f5.params.toList ++ (Rows.OpenSpec.upto Rows.txnUndoSpec).bare.plain.varTypes Tryz.prog).any (Tryz.prog.ifacesRec ·)) = true := by kernel_rfl
theorem k15 : (Rows.txnUndoUptoRow.mapsOut == Tryz.prog.mapsAmong Tryz.f5.resultTypes.toList) = true := by kernel_rfl
theorem k16 : (Rows.txnUndoUptoRow.loops == (Tryz.f5.params.toList ++ (Rows.OpenSpec.upto Rows.txnUndoSpec).bare.plain.varTypes Tryz.prog).any (Tryz.prog.loopsFrom ·)) = true := by kernel_rfl
theorem k17 : (Rows.txnUndoUptoRow.wideKeys == (Tryz.f5.params.toList ++ (Rows.OpenSpec.upto Rows.txnUndoSpec).bare.plain.varTypes Tryz.prog ++ Tryz.f5.resultTypes.toList).any (Tryz.prog.wideKeysFrom ·)) = true := by kernel_rfl
theorem k18 : (Rows.OpenSpec.upto Rows.txnUndoSpec).bare.vars.all (Tryz.prog.varReadable ·) = true := by kernel_rfl
theorem k19 : Tryz.f5.resultTypes.all (fun t => Tryz.prog.readableRec t && decide (t < Tryz.prog.types.size)) = true := by kernel_rfl
theorem k20 : (Rows.txnUndoUptoRow.ifacesOut == Tryz.f5.resultTypes.toList.any (Tryz.prog.ifacesRec ·)) = true := by kernel_rfl
theorem k21 : (Rows.txnUndoUptoRow.loopsOut == Tryz.f5.resultTypes.toList.any (Tryz.prog.loopsFrom ·)) = true := by kernel_rfl
theorem k22 : (Rows.txnUndoUptoRow.plainKeys == Tryz.prog.plainKeys) = true := by rw [show Rows.txnUndoUptoRow.plainKeys = Rows.txnBatchRow.plainKeys from rfl]; exact plainKeysF
theorem k23 : Rows.txnUndoUptoRow.shortTexts.isNone = true := by kernel_rfl
theorem k24 : Tryz.prog.stopsHeard = true := stopsHeardF
theorem k25 : Tryz.prog.mayEnter = true := mayEnterF
theorem k26 : (Rows.txnUndoUptoRow.lifted == Tryz.prog.liftsFinal) = true := by rw [show Rows.txnUndoUptoRow.lifted = Rows.txnBatchRow.lifted from rfl]; exact liftsF
theorem k27 : (Tryz.prog.make == some Rows.txnUndoUptoRow.make) = true := by rw [show Rows.txnUndoUptoRow.make = Rows.txnBatchRow.make from rfl]; exact makeF
theorem k28 : (Rows.txnUndoUptoRow.kinds == (if Rows.txnUndoUptoRow.domain.isEmpty then [] else Tryz.f5.params.toList.map fun t => match Tryz.prog.underlying t with | some (.int k) => some k | _ => none)) = true := by kernel_rfl
theorem k29 : (Rows.txnUndoUptoRow.pinned == Rows.txnUndoUptoRow.pinnedBy) = true := by kernel_rfl
theorem k30 : (Rows.txnUndoUptoRow.veiled == (Tryz.f5.params.toList ++ (Rows.OpenSpec.upto Rows.txnUndoSpec).bare.plain.varTypes Tryz.prog ++ Tryz.f5.resultTypes.toList).any (Tryz.prog.veiledRec ·)) = true := by kernel_rfl
theorem k31 : Rows.txnUndoUptoRow.veiledFits Tryz.prog Tryz.f5.params.toList (Tryz.f5.params.toList ++ (Rows.OpenSpec.upto Rows.txnUndoSpec).bare.plain.varTypes Tryz.prog ++ Tryz.f5.resultTypes.toList) = true := by kernel_rfl
set_option maxRecDepth 100000 in
theorem closed : joinedFacts Tryz.prog 5 Tryz.f5 (Rows.OpenSpec.upto Rows.txnUndoSpec).bare Rows.txnUndoUptoRow = true := by
  unfold joinedFacts; exact band (band (band (band (band (band (band (band (band (band (band (band (band (band (band (band (band (band (band (band (band (band (band (band (band (band (band (band (band (band (band (k0) k1) k2) k3) k4) k5) k6) k7) k8) k9) k10) k11) k12) k13) k14) k15) k16) k17) k18) k19) k20) k21) k22) k23) k24) k25) k26) k27) k28) k29) k30) k31
theorem named : Tryz.pinned.checked.prog.funcNamed Rows.txnUndoUptoRow.func = some 5 := by kernel_rfl
theorem inst : Tryz.f5.isInstance Tryz.pinned.checked.prog Rows.txnUndoUptoRow.origin Rows.txnUndoUptoRow.targs := of_decide_eq_true (by kernel_rfl)
theorem wrap : Tryz.f5.isWrapper Tryz.pinned.checked.prog Rows.txnUndoUptoRow.wrapper Rows.txnUndoUptoRow.mainSum := by unfold Func.isWrapper; first | (rw [if_pos (by decide +kernel)]; kernel_rfl) | (rw [if_neg (by decide +kernel)]; exact ⟨rfl, rfl⟩)

theorem said : Rows.TxnUndoUptoSaid :=
  OpenClaim.holds_of_cond 5 Tryz.f5 rfl rfl rfl rfl rfl rfl rfl ⟨rfl, rfl, rfl, rfl, rfl⟩ rfl rfl rfl rfl rfl named Tryz.func5 closed inst wrap
    (fun os started H enc _ F => by rw [OpenClaim.pre_eq_preRow]; exact lifted os started H enc F)

theorem plain (f : FuncId) (fn : Func) (hf : Tryz.pinned.checked.prog.funcNamed "remit/remitlaw14.TxnUndo" = some f) (hfn : Tryz.pinned.checked.prog.funcs[f]? = some fn) :
    true = Tryz.pinned.checked.prog.looks [] ∧ ∀ (j : Nat) t, fn.params[j]? = some t → Tryz.pinned.checked.prog.wantsStandIn t = false := by
  obtain rfl : f = 5 := Option.some.inj ((show Tryz.prog.funcNamed "remit/remitlaw14.TxnUndo" = some 5 by kernel_rfl).symm.trans hf) |>.symm
  obtain rfl : fn = Tryz.f5 := (Option.some.inj (Tryz.func5.symm.trans hfn)).symm
  have hall : (Tryz.f5.params.toList.all fun t => !Tryz.prog.wantsStandIn t) = true := by kernel_rfl
  refine ⟨by kernel_rfl, fun j t ht => ?_⟩
  have h1 := List.all_eq_true.1 hall t (Array.mem_toList_iff.2 (Array.mem_of_getElem? ht))
  have h2 : Tryz.prog.wantsStandIn t = false := by simpa using h1
  exact h2

/-- THE CARD -/
theorem card : Rows.TxnUndoUptoCardSaid :=
  Claim7.holds_tied_plain_at .later [] _ _ _ _ said (fun _ h => by cases h) (by kernel_rfl) (fun _ h => by cases h) txnUndoUpto_row_tie rfl ⟨rfl, rfl⟩ (by kernel_rfl) rfl plain (by kernel_rfl)
#print axioms card
end Go.Proofs.YtahgdagcnkpnbaaGreatDoor.fnTxnUndo
