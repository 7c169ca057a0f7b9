/-
  PostingMemory (chapter 16) answers true for every posting and every text of bulk at most 1048576 together, and leaves its arguments as they were. Conditions: none.
-/
import Derived.Test.YtdbfemdpdpaffaaGreatDoorTie
import Derived.Test.YtdbfemdpdpaffaaGreatDoorCards
import Derived.Test.YtdbfemdpdpaffaaGreatDoorPDH
import Derived.Test.YtdbfemdpdpaffaaGreatDoorPDK
import Derived.Test.YtdbfemdpdpaffaaGreatDoorPDL
import Derived.Test.YtdbfemdpdpaffaaGreatDoorPDM
namespace Go.Proofs.YtdbfemdpdpaffaaGreatDoor.fnPostingMemory
open Go Go.RowKit Go.ChangeShapes Go.WideShapes Go.ChangeAt Go.Deep
open Go.ChangeMaps (open_string)

set_option maxRecDepth 100000 in
/-- the walk's end, for every argument and every world that fits -/
theorem contract (H : Type) (enc : TypeId × Value → H) (W : World) (base : Nat) (args : Array Value) (ds gs : List (DataW H)) (before : List MemPlace)
    (hval : ∀ (j : Nat) t v, Tryz.f8.params[j]? = some t → args[j]? = some v → Value.okWide Tryz.prog W .any base t v)
    (hW : DataW.Whole enc Tryz.prog Tryz.f8.params.toList Rows.postingMemorySpec.vars false W args.toList ds gs before) (hk : Rows.uptoSmall H (ds ++ gs) = true)
    (hsz : (DataW.weightsEach Tryz.prog (Tryz.f8.params.toList ++ (Rows.OpenSpec.upto Rows.postingMemorySpec).bare.plain.varTypes Tryz.prog) (ds ++ gs)).all (· ≤ reachBytes) = true)
    (hL : laidMetH Tryz.prog Rows.postingMemoryUptoRow.laid W) (_hsh : W.ShapedOpen Tryz.prog) :
    Calls Tryz.prog 8 args W fun e W' => ∃ v, e = .returned v ∧ Rows.postingMemorySpec.post enc Tryz.prog Tryz.f8 false true false false W args v W' := by
  have hW' := hW
  obtain ⟨p, q, hA0, hV, rfl, hfz, hnd⟩ := hW
  have hA : DataW.TrodAll enc Tryz.prog W 0 (fun _ => true) true Tryz.f8.params.toList args.toList ds p := hA0
  rw [Tryz.params8] at hA hval hsz
  obtain ⟨v0, vs0, d0, ds0, p0, q0, hargs, rfl, rfl, h0, r0⟩ := trodAll_cons hA
  obtain ⟨v1, vs1, d1, ds1, p1, q1, rfl, rfl, rfl, h1, r1⟩ := trodAll_cons r0
  obtain ⟨rfl, rfl, rfl⟩ := trodAll_nil r1
  obtain rfl : args = #[v0, v1] := by cases args; simp_all
  obtain ⟨rfl, rfl⟩ := trodVars_none hV
  have hbulk := upto_bound hk
  simp only [List.append_nil, Rows.uptoBulkAll] at hbulk
  clear hA0
  obtain ⟨ps0, ad0, c0, rfl, hs0, fit0, -, -, -, hc0⟩ := pst_of (hval 0 25 v0 rfl rfl) h0 (by omega)
  obtain ⟨s1, rfl, rfl, rfl, hm1⟩ := open_string Tryz.underlying9 (hval 1 9 v1 rfl rfl) h1
  obtain ⟨l1, rfl⟩ : ∃ l : List UInt8, s1 = ⟨l.toArray⟩ := ⟨s1.data.toList, by simp⟩
  have hll1 : l1.length ≤ 9223372036854775807 := by have h := hm1; unfold maxLen at h; exact h
  have hb1 : l1.length ≤ 1048576 := by
    simp [string_eq] at hbulk
    omega
  obtain ⟨E0, hE0⟩ := errs12_of (by kernel_rfl) (by kernel_rfl) hL
  have ct := pmemory_law (W := W) (F := E0) hE0 ad0 c0 ps0 l1 fit0 (by omega) (Lv.old enc_leg hs0)
  refine (ct.go [] W (St.start W)).mono fun e W' ⟨x, he, hS⟩ => ?_
  subst he
  exact ⟨_, rfl, post_true (tb := 4) laidOut Tryz.underlying4 (by kernel_rfl) (by kernel_rfl) rfl hW' rfl hS.below⟩

noncomputable abbrev wit : Array Value := #[.agg #[.string ⟨#[]⟩, .int .i64 0, .string ⟨#[]⟩, .slice none 0 0], .string ⟨#[]⟩]
noncomputable abbrev w0 (os : Os) : World := World.laidAll Tryz.prog os Rows.postingMemoryUptoRow.laid
theorem reads (os : Os) {H : Type} (enc : TypeId × Value → H) : ∃ places, DataW.whole enc Tryz.prog ((w0 os).forCall (fun _ _ => 0) ⟨#[], wit, []⟩).memory Tryz.f8.params.toList Rows.postingMemorySpec.vars false wit.toList 8 = some ([.agg [.lit (.string []), .lit (.int .i64 0), .lit (.string []), .nil], .lit (.string [])], [], places) :=
  ⟨[], by kernel_rfl⟩
theorem met (os : Os) : laidMetH Tryz.prog Rows.postingMemoryUptoRow.laid ((w0 os).forCall (fun _ _ => 0) ⟨#[], wit, []⟩).memory := by
  rw [MakeChecks.laidMetH_plain _ _ _ (by kernel_rfl)]; exact laidMet_laidAll _ (by kernel_rfl) (by kernel_rfl)
set_option maxRecDepth 100000 in
theorem lifted (os : Os) (started : os.Started) (H : Type) (enc : TypeId × Value → H) (F : Stop.Interp) :
    ReturnsInHanded {} Tryz.checked os 8 .any ((Rows.OpenSpec.upto Rows.postingMemorySpec).preRow enc Tryz.prog Tryz.f8 Rows.postingMemoryUptoRow.domain false Rows.postingMemoryUptoRow.laid) (((Rows.OpenSpec.upto Rows.postingMemorySpec).at F).post enc Tryz.prog Tryz.f8 false true false false) := by
  obtain ⟨places, hx⟩ := reads os enc
  refine returnsInHanded_of_row (C := Tryz.checked) (s := (Rows.OpenSpec.upto Rows.postingMemorySpec)) own started (by kernel_rfl) Tryz.func8
    (witness_laid (enc := enc) (C := Tryz.checked) false (w0 os) wit (World.laidAll_os _ _ _) (World.shaped_of_ZipB (by kernel_rfl) (by kernel_rfl)) (by kernel_rfl)
      (OpenSpec.preRow_of_cond 8 hx (by kernel_rfl) (fun k hk => by cases hk; kernel_rfl) (by kernel_rfl) (met os))) ?_
  intro W base args ds gs before hval hW _ hcond hsz hL hsh _
  exact contract H enc W base args ds gs before hval hW (hcond _ rfl) hsz hL hsh

theorem k0 : Rows.postingMemoryUptoRow.wf (OpenSpec.ofChange (Rows.OpenSpec.upto Rows.postingMemorySpec).bare) = true := by kernel_rfl
theorem k1 : laidOutB Tryz.prog = true := laidOut
theorem k2 : mapsRowed Tryz.prog = true := mapsRowedF
theorem k3 : Tryz.f8.params.all (Tryz.prog.readableRec ·) = true := by kernel_rfl
theorem k4 : namedTie Tryz.prog Rows.postingMemoryUptoRow.named (Rows.OpenSpec.upto Rows.postingMemorySpec).bare.vars = true := by kernel_rfl
theorem k5 : (Rows.postingMemoryUptoRow.stops == []) = true := by kernel_rfl
theorem k6 : (Tryz.prog.stops == []) = true := stopsF
theorem k7 : (Rows.postingMemoryUptoRow.knobs == []) = true := by kernel_rfl
theorem k8 : (Tryz.prog.stopKnobs == []) = true := stopKnobsF
theorem k9 : (Rows.postingMemoryUptoRow.inPlace == Tryz.prog.inPlace 8) = true := by kernel_rfl
theorem k10 : (Rows.postingMemoryUptoRow.unfollowed == Tryz.prog.unfollowed 8) = true := by kernel_rfl
theorem k11 : (Rows.postingMemoryUptoRow.recurses == Tryz.prog.recurses 8) = true := by kernel_rfl
theorem k12 : (Rows.postingMemoryUptoRow.named == Tryz.prog.varsNamed 8) = true := by kernel_rfl
theorem k13 : (Rows.postingMemoryUptoRow.maps == (Tryz.f8.params.toList ++ (Rows.OpenSpec.upto Rows.postingMemorySpec).bare.plain.varTypes Tryz.prog).any (Tryz.prog.mapsRec ·)) = true := by kernel_rfl
theorem k14 : (Rows.postingMemoryUptoRow.ifaces == (Tryz.f8.params.toList ++ (Rows.OpenSpec.upto Rows.postingMemorySpec).bare.plain.varTypes Tryz.prog).any (Tryz.prog.ifacesRec ·)) = true := by kernel_rfl
theorem k15 : (Rows.postingMemoryUptoRow.mapsOut == Tryz.prog.mapsAmong Tryz.f8.resultTypes.toList) = true := by kernel_rfl
theorem k16 : (Rows.postingMemoryUptoRow.loops == (Tryz.f8.params.toList ++ (Rows.OpenSpec.upto Rows.postingMemorySpec).bare.plain.varTypes Tryz.prog).any (Tryz.prog.loopsFrom ·)) = true := by kernel_rfl
theorem k17 : (Rows.postingMemoryUptoRow.wideKeys == (Tryz.f8.params.toList ++ (Rows.OpenSpec.upto Rows.postingMemorySpec).bare.plain.varTypes Tryz.prog ++ Tryz.f8.resultTypes.toList).any (Tryz.prog.wideKeysFrom ·)) = true := by kernel_rfl
theorem k18 : (Rows.OpenSpec.upto Rows.postingMemorySpec).bare.vars.all (Tryz.prog.varReadable ·) = true := by kernel_rfl
theorem k19 : Tryz.f8.resultTypes.all (fun t => Tryz.prog.readableRec t && decide (t < Tryz.prog.types.size)) = true := by kernel_rfl
theorem k20 : (Rows.postingMemoryUptoRow.ifacesOut == Tryz.f8.resultTypes.toList.any (Tryz.prog.ifacesRec ·)) = true := by kernel_rfl
theorem k21 : (Rows.postingMemoryUptoRow.loopsOut == Tryz.f8.resultTypes.toList.any (Tryz.prog.loopsFrom ·)) = true := by kernel_rfl
theorem k22 : (Rows.postingMemoryUptoRow.plainKeys == Tryz.prog.plainKeys) = true := by rw [show Rows.postingMemoryUptoRow.plainKeys = Rows.postingReadsRow.plainKeys from rfl]; exact plainKeysF
theorem k23 : Rows.postingMemoryUptoRow.shortTexts.isNone = true := by kernel_rfl
theorem k24 : Tryz.prog.stopsHeard = true := stopsHeardF
theorem k25 : Tryz.prog.mayEnter = true := mayEnterF
theorem k26 : (Rows.postingMemoryUptoRow.lifted == Tryz.prog.liftsFinal) = true := by rw [show Rows.postingMemoryUptoRow.lifted = Rows.postingReadsRow.lifted from rfl]; exact liftsF
theorem k27 : (Tryz.prog.make == some Rows.postingMemoryUptoRow.make) = true := by rw [show Rows.postingMemoryUptoRow.make = Rows.postingReadsRow.make from rfl]; exact makeF
theorem k28 : (Rows.postingMemoryUptoRow.kinds == (if Rows.postingMemoryUptoRow.domain.isEmpty then [] else Tryz.f8.params.toList.map fun t => match Tryz.prog.underlying t with | some (.int k) => some k | _ => none)) = true := by kernel_rfl
theorem k29 : (Rows.postingMemoryUptoRow.pinned == Rows.postingMemoryUptoRow.pinnedBy) = true := by kernel_rfl
theorem k30 : (Rows.postingMemoryUptoRow.veiled == (Tryz.f8.params.toList ++ (Rows.OpenSpec.upto Rows.postingMemorySpec).bare.plain.varTypes Tryz.prog ++ Tryz.f8.resultTypes.toList).any (Tryz.prog.veiledRec ·)) = true := by kernel_rfl
theorem k31 : Rows.postingMemoryUptoRow.veiledFits Tryz.prog Tryz.f8.params.toList (Tryz.f8.params.toList ++ (Rows.OpenSpec.upto Rows.postingMemorySpec).bare.plain.varTypes Tryz.prog ++ Tryz.f8.resultTypes.toList) = true := by kernel_rfl
set_option maxRecDepth 100000 in
theorem closed : joinedFacts Tryz.prog 8 Tryz.f8 (Rows.OpenSpec.upto Rows.postingMemorySpec).bare Rows.postingMemoryUptoRow = true := by
  unfold joinedFacts; exact band (band (band (band (band (band (band (band (band (band (band (band (band (band (band (band (band (band (band (band (band (band (band (band (band (band (band (band (band (band (band (k0) k1) k2) k3) k4) k5) k6) k7) k8) k9) k10) k11) k12) k13) k14) k15) k16) k17) k18) k19) k20) k21) k22) k23) k24) k25) k26) k27) k28) k29) k30) k31
theorem named : Tryz.pinned.checked.prog.funcNamed Rows.postingMemoryUptoRow.func = some 8 := by kernel_rfl
theorem inst : Tryz.f8.isInstance Tryz.pinned.checked.prog Rows.postingMemoryUptoRow.origin Rows.postingMemoryUptoRow.targs := of_decide_eq_true (by kernel_rfl)
theorem wrap : Tryz.f8.isWrapper Tryz.pinned.checked.prog Rows.postingMemoryUptoRow.wrapper Rows.postingMemoryUptoRow.mainSum := by unfold Func.isWrapper; first | (rw [if_pos (by decide +kernel)]; kernel_rfl) | (rw [if_neg (by decide +kernel)]; exact ⟨rfl, rfl⟩)

theorem said : Rows.PostingMemoryUptoSaid :=
  OpenClaim.holds_of_cond 8 Tryz.f8 rfl rfl rfl rfl rfl rfl rfl ⟨rfl, rfl, rfl, rfl, rfl⟩ rfl rfl rfl rfl rfl named Tryz.func8 closed inst wrap
    (fun os started H enc _ F => by rw [OpenClaim.pre_eq_preRow]; exact lifted os started H enc F)

theorem plain (f : FuncId) (fn : Func) (hf : Tryz.pinned.checked.prog.funcNamed "remit/remitlaw16.PostingMemory" = some f) (hfn : Tryz.pinned.checked.prog.funcs[f]? = some fn) :
    true = Tryz.pinned.checked.prog.looks [] ∧ ∀ (j : Nat) t, fn.params[j]? = some t → Tryz.pinned.checked.prog.wantsStandIn t = false := by
  obtain rfl : f = 8 := Option.some.inj ((show Tryz.prog.funcNamed "remit/remitlaw16.PostingMemory" = some 8 by kernel_rfl).symm.trans hf) |>.symm
  obtain rfl : fn = Tryz.f8 := (Option.some.inj (Tryz.func8.symm.trans hfn)).symm
  have hall : (Tryz.f8.params.toList.all fun t => !Tryz.prog.wantsStandIn t) = true := by kernel_rfl
  refine ⟨by kernel_rfl, fun j t ht => ?_⟩
  have h1 := List.all_eq_true.1 hall t (Array.mem_toList_iff.2 (Array.mem_of_getElem? ht))
  have h2 : Tryz.prog.wantsStandIn t = false := by simpa using h1
  exact h2

/-- THE CARD -/
theorem card : Rows.PostingMemoryUptoCardSaid :=
  Claim7.holds_tied_plain_at .later [] _ _ _ _ said (fun _ h => by cases h) (by kernel_rfl) (fun _ h => by cases h) postingMemoryUpto_row_tie rfl ⟨rfl, rfl⟩ (by kernel_rfl) rfl plain (by kernel_rfl)
#print axioms card
end Go.Proofs.YtdbfemdpdpaffaaGreatDoor.fnPostingMemory
