/-
  StoreImages (chapter 13) answers true for every image and every batch of bulk at most 1048576 together, and leaves its arguments as they were. Conditions: the 37 error variables of remit/api and the table of remit/checks hold what the program lays there (tied by the card).
-/
import Derived.Test.YtlnbkbfblhofbaaGreatDoorTie
import Derived.Test.YtlnbkbfblhofbaaGreatDoorCards
import Derived.Test.YtlnbkbfblhofbaaGreatDoorVHR
import Derived.Test.YtlnbkbfblhofbaaGreatDoorVHU
set_option maxRecDepth 100000
namespace Go.Proofs.YtlnbkbfblhofbaaGreatDoor.fnStoreImages
open Go Go.RowKit Go.ChangeShapes Go.WideShapes Go.ChangeAt Go.Deep
open Go.ChangeMaps (open_string)

/-- the walk's end, for every argument and every world that fits -/
theorem yV7 (H : Type) (enc : TypeId × Value → H) (W : World) (base : Nat) (args : Array Value) (ds gs : List (DataW H)) (before : List MemPlace)
    (hval : ∀ (j : Nat) t v, Tryz.f3.params[j]? = some t → args[j]? = some v → Value.okWide Tryz.prog W .any base t v)
    (hW : DataW.Whole enc Tryz.prog Tryz.f3.params.toList Rows.storeImagesSpec.vars false W args.toList ds gs before) (hk : Rows.uptoSmall H (ds ++ gs) = true)
    (hsz : (DataW.weightsEach Tryz.prog (Tryz.f3.params.toList ++ (Rows.OpenSpec.upto Rows.storeImagesSpec).bare.plain.varTypes Tryz.prog) (ds ++ gs)).all (· ≤ reachBytes) = true)
    (hL : laidMetH Tryz.prog Rows.storeImagesUptoRow.laid W) (hsh : W.ShapedOpen Tryz.prog) :
    Calls Tryz.prog 3 args W fun e W' => ∃ v, e = .returned v ∧ Rows.storeImagesSpec.post enc Tryz.prog Tryz.f3 false true false false W args v W' := by
  obtain ⟨E0, hE0⟩ := yMA zK zK hL
  have hg := xAq (hsh )
  have hN : NibAt W := yMD 37 zK zK hL
  have hW' := hW
  obtain ⟨p, q, hA0, hV, rfl, hfz, hnd⟩ := hW
  have hA : DataW.TrodAll enc Tryz.prog W 0 (fun _ => true) true Tryz.f3.params.toList args.toList ds p := hA0
  rw [Tryz.params3] at hA hval hsz
  obtain ⟨v0, vs0, d0, ds0, p0, q0, hargs, rfl, rfl, h0, r0⟩ := trodAll_cons hA
  obtain ⟨v1, vs1, d1, ds1, p1, q1, rfl, rfl, rfl, h1, r1⟩ := trodAll_cons r0
  obtain ⟨rfl, rfl, rfl⟩ := trodAll_nil r1
  obtain rfl : args = #[v0, v1] := by cases args; simp_all
  obtain ⟨rfl, rfl⟩ := trodVars_none hV
  have hbulk := yQi hk
  simp only [zLs, Rows.uptoBulkAll] at hbulk
  clear hA0
  obtain ⟨s0, rfl, rfl, rfl, hm0⟩ := open_string Tryz.underlying9 (hval 0 9 v0 rfl rfl) h0
  obtain ⟨l0, rfl⟩ : ∃ l : List UInt8, s0 = ⟨l.toArray⟩ := ⟨s0.data.toList, by simp⟩
  have hll0 : l0.length ≤ 9223372036854775807 := by have h := hm0; unfold maxLen at h; exact h
  obtain ⟨ls1, ad1, c1, rfl, hs1, hc1, hf1⟩ := yVF (hval 1 22 v1 rfl rfl) h1 zO
  have hb0 : l0.length ≤ 1048576 := by
    simp [yI3] at hbulk
    omega
  have ct := yNl (W := W) (F := E0) hE0 hN hg l0 hb0 ad1 c1 ls1 (Lv.old yBy hs1) hf1
  refine (ct.go [] W (St.start W)).mono fun e W' ⟨x, he, hS⟩ => ?_
  subst he
  exact ⟨_, rfl, ySr (tb := 4) ySq Tryz.underlying4 zK zK rfl hW' rfl hS.below⟩

noncomputable abbrev wit : Array Value := #[.string ⟨#[]⟩, .slice none 0 0]
noncomputable abbrev w0 (os : Os) : World := World.laidAll Tryz.prog os Rows.storeImagesUptoRow.laid
theorem xAI (os : Os) {H : Type} (enc : TypeId × Value → H) : ∃ places, DataW.whole enc Tryz.prog ((w0 os).forCall (fun _ _ => 0) ⟨#[], wit, []⟩).memory Tryz.f3.params.toList Rows.storeImagesSpec.vars false wit.toList 8 = some ([.lit (.string []), .nil], [], places) :=
  ⟨[], by kernel_rfl⟩
theorem met (os : Os) : laidMetH Tryz.prog Rows.storeImagesUptoRow.laid ((w0 os).forCall (fun _ _ => 0) ⟨#[], wit, []⟩).memory := by
  rw [MakeChecks.laidMetH_plain _ _ _ zK]; exact laidMet_laidAll _ zK zK
theorem lifted (os : Os) (started : os.Started) (H : Type) (enc : TypeId × Value → H) (F : Stop.Interp) :
    ReturnsInHanded {} Tryz.checked os 3 .any ((Rows.OpenSpec.upto Rows.storeImagesSpec).preRow enc Tryz.prog Tryz.f3 Rows.storeImagesUptoRow.domain false Rows.storeImagesUptoRow.laid) (((Rows.OpenSpec.upto Rows.storeImagesSpec).at F).post enc Tryz.prog Tryz.f3 false true false false) := by
  obtain ⟨places, hx⟩ := xAI os enc
  refine returnsInHanded_of_row (C := Tryz.checked) (s := (Rows.OpenSpec.upto Rows.storeImagesSpec)) own started zK Tryz.func3
    (yMB (enc := enc) (C := Tryz.checked) false (w0 os) wit (World.laidAll_os _ _ _) (World.shaped_of_ZipB zK zK) zK
      (OpenSpec.preRow_of_cond 8 hx zK (fun k hk => by cases hk; kernel_rfl) zK (met os))) ?_
  intro W base args ds gs before hval hW _ hcond hsz hL hsh _
  exact yV7 H enc W base args ds gs before hval hW (hcond _ rfl) hsz hL hsh

theorem k0 : Rows.storeImagesUptoRow.wf (OpenSpec.ofChange (Rows.OpenSpec.upto Rows.storeImagesSpec).bare) = true := by kernel_rfl
theorem k1 : laidOutB Tryz.prog = true := ySq
theorem k2 : mapsRowed Tryz.prog = true := yRe
theorem k3 : Tryz.f3.params.all (Tryz.prog.readableRec ·) = true := by kernel_rfl
theorem k4 : namedTie Tryz.prog Rows.storeImagesUptoRow.named (Rows.OpenSpec.upto Rows.storeImagesSpec).bare.vars = true := by kernel_rfl
theorem k5 : (Rows.storeImagesUptoRow.stops == []) = true := by kernel_rfl
theorem k6 : (Tryz.prog.stops == []) = true := yZZ
theorem k7 : (Rows.storeImagesUptoRow.knobs == []) = true := by kernel_rfl
theorem k8 : (Tryz.prog.stopKnobs == []) = true := yRf
theorem k9 : (Rows.storeImagesUptoRow.inPlace == Tryz.prog.inPlace 3) = true := by kernel_rfl
theorem k10 : (Rows.storeImagesUptoRow.unfollowed == Tryz.prog.unfollowed 3) = true := by kernel_rfl
theorem k11 : (Rows.storeImagesUptoRow.recurses == Tryz.prog.recurses 3) = true := by kernel_rfl
theorem k12 : (Rows.storeImagesUptoRow.named == Tryz.prog.varsNamed 3) = true := by kernel_rfl
theorem k13 : (Rows.storeImagesUptoRow.maps == (Tryz.f3.params.toList ++ (Rows.OpenSpec.upto Rows.storeImagesSpec).bare.plain.varTypes Tryz.prog).any (Tryz.prog.mapsRec ·)) = true := by kernel_rfl
theorem k14 : (Rows.storeImagesUptoRow.ifaces == (Tryz.f3.params.toList ++ (Rows.OpenSpec.upto Rows.storeImagesSpec).bare.plain.varTypes Tryz.prog).any (Tryz.prog.ifacesRec ·)) = true := by kernel_rfl
theorem k15 : (Rows.storeImagesUptoRow.mapsOut == Tryz.prog.mapsAmong Tryz.f3.resultTypes.toList) = true := by kernel_rfl
theorem k16 : (Rows.storeImagesUptoRow.loops == (Tryz.f3.params.toList ++ (Rows.OpenSpec.upto Rows.storeImagesSpec).bare.plain.varTypes Tryz.prog).any (Tryz.prog.loopsFrom ·)) = true := by kernel_rfl
theorem k17 : (Rows.storeImagesUptoRow.wideKeys == (Tryz.f3.params.toList ++ (Rows.OpenSpec.upto Rows.storeImagesSpec).bare.plain.varTypes Tryz.prog ++ Tryz.f3.resultTypes.toList).any (Tryz.prog.wideKeysFrom ·)) = true := by kernel_rfl
theorem k18 : (Rows.OpenSpec.upto Rows.storeImagesSpec).bare.vars.all (Tryz.prog.varReadable ·) = true := by kernel_rfl
theorem k19 : Tryz.f3.resultTypes.all (fun t => Tryz.prog.readableRec t && decide (t < Tryz.prog.types.size)) = true := by kernel_rfl
theorem k20 : (Rows.storeImagesUptoRow.ifacesOut == Tryz.f3.resultTypes.toList.any (Tryz.prog.ifacesRec ·)) = true := by kernel_rfl
theorem k21 : (Rows.storeImagesUptoRow.loopsOut == Tryz.f3.resultTypes.toList.any (Tryz.prog.loopsFrom ·)) = true := by kernel_rfl
theorem k22 : (Rows.storeImagesUptoRow.plainKeys == Tryz.prog.plainKeys) = true := by rw [show Rows.storeImagesUptoRow.plainKeys = Rows.storeImagesRow.plainKeys from rfl]; exact yRg
theorem k23 : Rows.storeImagesUptoRow.shortTexts.isNone = true := by kernel_rfl
theorem k24 : Tryz.prog.stopsHeard = true := yOI
theorem k25 : Tryz.prog.mayEnter = true := yUj
theorem k26 : (Rows.storeImagesUptoRow.lifted == Tryz.prog.liftsFinal) = true := by rw [show Rows.storeImagesUptoRow.lifted = Rows.storeImagesRow.lifted from rfl]; exact yZ0
theorem k27 : (Tryz.prog.make == some Rows.storeImagesUptoRow.make) = true := by rw [show Rows.storeImagesUptoRow.make = Rows.storeImagesRow.make from rfl]; exact xAH
theorem k28 : (Rows.storeImagesUptoRow.kinds == (if Rows.storeImagesUptoRow.domain.isEmpty then [] else Tryz.f3.params.toList.map fun t => match Tryz.prog.underlying t with | some (.int k) => some k | _ => none)) = true := by kernel_rfl
theorem k29 : (Rows.storeImagesUptoRow.pinned == Rows.storeImagesUptoRow.pinnedBy) = true := by kernel_rfl
theorem k30 : (Rows.storeImagesUptoRow.veiled == (Tryz.f3.params.toList ++ (Rows.OpenSpec.upto Rows.storeImagesSpec).bare.plain.varTypes Tryz.prog ++ Tryz.f3.resultTypes.toList).any (Tryz.prog.veiledRec ·)) = true := by kernel_rfl
theorem k31 : Rows.storeImagesUptoRow.veiledFits Tryz.prog Tryz.f3.params.toList (Tryz.f3.params.toList ++ (Rows.OpenSpec.upto Rows.storeImagesSpec).bare.plain.varTypes Tryz.prog ++ Tryz.f3.resultTypes.toList) = true := by kernel_rfl
theorem closed : joinedFacts Tryz.prog 3 Tryz.f3 (Rows.OpenSpec.upto Rows.storeImagesSpec).bare Rows.storeImagesUptoRow = true := by
  unfold joinedFacts; exact yGw (yGw (yGw (yGw (yGw (yGw (yGw (yGw (yGw (yGw (yGw (yGw (yGw (yGw (yGw (yGw (yGw (yGw (yGw (yGw (yGw (yGw (yGw (yGw (yGw (yGw (yGw (yGw (yGw (yGw (yGw (k0) k1) k2) k3) k4) k5) k6) k7) k8) k9) k10) k11) k12) k13) k14) k15) k16) k17) k18) k19) k20) k21) k22) k23) k24) k25) k26) k27) k28) k29) k30) k31
theorem named : Tryz.pinned.checked.prog.funcNamed Rows.storeImagesUptoRow.func = some 3 := by kernel_rfl
theorem xAS : Tryz.f3.isInstance Tryz.pinned.checked.prog Rows.storeImagesUptoRow.origin Rows.storeImagesUptoRow.targs := of_decide_eq_true zK
theorem wrap : Tryz.f3.isWrapper Tryz.pinned.checked.prog Rows.storeImagesUptoRow.wrapper Rows.storeImagesUptoRow.mainSum := by unfold Func.isWrapper; first | (rw [if_pos (by decide +kernel)]; kernel_rfl) | (rw [if_neg (by decide +kernel)]; exact ⟨rfl, rfl⟩)

theorem xAT : Rows.StoreImagesUptoSaid :=
  OpenClaim.holds_of_cond 3 Tryz.f3 rfl rfl rfl rfl rfl rfl rfl ⟨rfl, rfl, rfl, rfl, rfl⟩ rfl rfl rfl rfl rfl named Tryz.func3 closed xAS wrap
    (fun os started H enc _ F => by rw [OpenClaim.pre_eq_preRow]; exact lifted os started H enc F)

theorem plain (f : FuncId) (fn : Func) (hf : Tryz.pinned.checked.prog.funcNamed "remit/remitlaw13.StoreImages" = some f) (hfn : Tryz.pinned.checked.prog.funcs[f]? = some fn) :
    true = Tryz.pinned.checked.prog.looks [] ∧ ∀ (j : Nat) t, fn.params[j]? = some t → Tryz.pinned.checked.prog.wantsStandIn t = false := by
  obtain rfl : f = 3 := Option.some.inj ((show Tryz.prog.funcNamed "remit/remitlaw13.StoreImages" = some 3 by kernel_rfl).symm.trans hf) |>.symm
  obtain rfl : fn = Tryz.f3 := (Option.some.inj (Tryz.func3.symm.trans hfn)).symm
  have hall : (Tryz.f3.params.toList.all fun t => !Tryz.prog.wantsStandIn t) = true := by kernel_rfl
  refine ⟨zK, fun j t ht => ?_⟩
  have h1 := List.all_eq_true.1 hall t (Array.mem_toList_iff.2 (Array.mem_of_getElem? ht))
  have h2 : Tryz.prog.wantsStandIn t = false := by simpa using h1
  exact h2

/-- THE CARD -/
theorem card : Rows.StoreImagesUptoCardSaid :=
  Claim7.holds_tied_plain_at .later [] _ _ _ _ xAT (fun _ h => by cases h) zK (fun _ h => by cases h) storeImagesUpto_row_tie rfl ⟨rfl, rfl⟩ zK rfl plain zK
#print axioms card
end Go.Proofs.YtlnbkbfblhofbaaGreatDoor.fnStoreImages
