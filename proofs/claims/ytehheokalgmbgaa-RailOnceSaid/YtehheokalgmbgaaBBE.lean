/-
  RaW3.
-/
import Derived.Test.YtehheokalgmbgaaBBC
import Derived.Test.YtehheokalgmbgaaBBD
import Derived.Deep.QuietTactic
/-
  The package rail: the order of effects; Effects.
-/
namespace Go.Proofs.Ytehheokalgmbgaa
open Go Go.RowKit Go.Shelf Go.Lib Go.Sort
instance : Inhabited REff := ⟨eff0⟩
def ltTok (a b : REff) : Bool := Op.bytesLess a.token b.token
theorem swo_tok : SWO ltTok where
  irrefl := fun x => tl_irr _
  trans := fun x y z h1 h2 => tl_tr h1 h2
  ntrans := fun x y z h1 h2 => by
    unfold ltTok at *
    by_cases e : x.token = y.token
    · rw [e]; exact h2
    · by_cases e2 : y.token = z.token
      · rw [← e2]; exact h1
      · exact tl_asym (tl_tr (tl_not h2 e2) (tl_not h1 e))
noncomputable def effT : TypeInfo := (Try.prog.info? 36).get (by kernel_rfl)
noncomputable def effE : TypeInfo := (Try.prog.info? 40).get (by kernel_rfl)
set_option maxHeartbeats 2000000 in
theorem less_eff (bs : Nat) : LessOk Try.prog 28 bs 4 REff.cells ltTok := by
  intro w blk c d hH hs hsz i j hi hj
  have ci := (hH.cell (i := i) (c := 0) hi (by omega)).1
  have cj := (hH.cell (i := j) (c := 0) hj (by omega)).1
  have ei : (REff.cells d[i]!)[0]! = strV d[i]!.token := rfl
  have ej : (REff.cells d[j]!)[0]! = strV d[j]!.token := rfl
  rw [ei, Nat.zero_add, Nat.add_zero] at ci
  rw [ej, Nat.zero_add, Nat.add_zero] at cj
  go_enter Try.func28, Try.ntmps28
  go_wp2
  go_quiet (fail)
  go_wp2
  go_ret
  exact ⟨by simp [ltTok, hi, hj], nq, rfl⟩
theorem sort_eff {W : World} (bs T : Nat) (l : List REff) (hl : l.length < 4611686018427387904) (v : Value) :
    Ct Try.prog W 27 [.iface 36 v, .func (.func 28) #[] #[.pointer (some ⟨bs, 0, none⟩)]] [cellsP bs [v] T, lsP REff.cells 40 4 v l]
      (fun _ : {l' : List REff // l'.Perm l ∧ l'.Pairwise fun x y => ltTok y x = false} => .tuple #[]) (fun x => [cellsP bs [v] T, lsP REff.cells 40 4 v x.1]) := by
  have h := sort_ct (W := W) Try.sl6 36 40 effT effE (by kernel_rfl) (by kernel_rfl) (by kernel_rfl) (by kernel_rfl) 25 (fun _ => by kernel_rfl) REff.cells 4 (fun _ => rfl) (by kernel_rfl) (fun _ => by kernel_rfl)
    (fun x v hv => by simp [REff.cells] at hv; rcases hv with rfl | rfl | rfl | rfl <;> rfl) ltTok swo_tok 28
    (enters_of Try.func28 (by kernel_rfl) rfl)
    (swaps_of (a := 47) (b := 48) (f := 55) (k := 9) (gS := false) (by kernel_rfl) (by kernel_rfl) (by kernel_rfl) (by kernel_rfl)
      (fun args W => run_callFunc_extern Try.func55 (by kernel_rfl) (by kernel_rfl) (by kernel_rfl) (e := Extern.ReflectliteSwapper.swap false) (by kernel_rfl) args W))
    bs T (less_eff bs) l hl v
  refine ⟨fun R w s => (h.go R w s).mono fun e w' ⟨x, he, st⟩ => ⟨x, he, ?_⟩⟩
  have hp := x.2.1.length_eq
  unfold lsP
  rw [hp]
  exact st
end Go.Proofs.Ytehheokalgmbgaa
