/-
  BaL2.
-/
import Derived.Test.YtehheokalgmbgaaDoorEBN
/-
  The statements of chapter 12: the fixed facts; BatchNormals.
-/
namespace Go.Proofs.YtehheokalgmbgaaDoor
open Go Go.RowKit
def livE : List BOp := [⟨false, [97], [50]⟩, ⟨true, [98], []⟩]
def livN : List BOp := [⟨false, [98], [49]⟩, ⟨true, [98], [120]⟩, ⟨false, [97], []⟩]
theorem livE_enc : encode livE = ([2, 0, 1, 97, 1, 50, 1, 1, 98], 0) := by decide +kernel
theorem livN_norm : normD livN = [⟨false, [97], []⟩, ⟨true, [98], []⟩] := by decide +kernel
section
variable {W : World}
set_option maxHeartbeats 1000000 in
theorem lives12_ct : Ct Tryd.prog W 10 [] [] (fun _ : Unit => .bool true) (fun _ => []) := by
  have cE : ∀ g, Ct Tryd.prog W 16 [.slice (some ⟨g, 0, none⟩) 2 2] [cellsP g [.bool false, strV [97], strV [50], .bool true, strV [98], strV []] 29] (fun _ : Unit => .tuple #[strV [2, 0, 1, 97, 1, 50, 1, 1, 98], .nilIface]) (fun _ => [cellsP g [.bool false, strV [97], strV [50], .bool true, strV [98], strV []] 29]) := fun g => by
    have := bencode_ct (W := W) (F := fun _ => default) (cellsP g [.bool false, strV [97], strV [50], .bool true, strV [98], strV []] 29) (some ⟨g, 0, none⟩) 2 livE (Lv.cells rfl) (by decide +kernel) (by decide) (fun h => by rw [livE_enc] at h; cases h) (fun h => by rw [livE_enc] at h; cases h)
    rw [livE_enc] at this
    exact this
  have cN : ∀ g, Ct Tryd.prog W 12 [.slice (some ⟨g, 0, none⟩) 3 3] [cellsP g [.bool false, strV [98], strV [49], .bool true, strV [98], strV [120], .bool false, strV [97], strV []] 29] (fun x : Option Addr × Nat => .slice x.1 2 x.2)
      (fun x => [cellsP g [.bool false, strV [98], strV [49], .bool true, strV [98], strV [120], .bool false, strV [97], strV []] 29, lsP opC 29 3 (.slice x.1 2 x.2) [⟨false, [97], []⟩, ⟨true, [98], []⟩]]) := fun g => by
    have := bnormal_ct (W := W) (cellsP g [.bool false, strV [98], strV [49], .bool true, strV [98], strV [120], .bool false, strV [97], strV []] 29) (some ⟨g, 0, none⟩) 3 livN (Lv.cells rfl) (by decide)
    rw [livN_norm] at this
    exact this
  have x0 : ([⟨false, [97], []⟩, ⟨true, [98], []⟩] : List BOp)[0]? = some ⟨false, [97], []⟩ := rfl
  have x1 : ([⟨false, [97], []⟩, ⟨true, [98], []⟩] : List BOp)[1]? = some ⟨true, [98], []⟩ := rfl
  have k0 : (opC ⟨false, [97], []⟩)[1]? = some (strV [97]) := rfl
  have o0 : 0 + Int.toNat 0 * 3 + 1 = 0 * 3 + 1 := rfl
  have o1 : 0 + Int.toNat 1 * 3 = 1 * 3 := rfl
  refine Ct.enter Tryd.func10 rfl Tryd.ntmps10 (by simp) (fun R => ?_)
  repeat' (first 
    | (refine is_call ?_; first | (refine KJ_call xE (cN gb) xP rfl (fun x => ?_); obtain ⟨xa, xc⟩ := x; refine KJ.lsSome xS (by decide) (fun gn hgn => ?_); dsimp only at hgn; subst hgn) | (refine KJ_call xE (cE ga) xP rfl (fun _ => ?_)))
    | (refine is_bslice ?_; first | (refine KJ_bsliceN (len := 3) (places := [(0, 3), (3, 3), (6, 3)]) (base := opC ⟨false, [], []⟩ ++ (opC ⟨false, [], []⟩ ++ opC ⟨false, [], []⟩)) xV (by rfl) (by rfl) xW (by omega) rfl (fun gb => ?_)) | (refine KJ_bsliceN (len := 2) (places := [(0, 3), (3, 3)]) (base := opC ⟨false, [], []⟩ ++ opC ⟨false, [], []⟩) xV (by rfl) (by rfl) xW (by omega) rfl (fun ga => ?_)))
    | (refine ek_load ?_; first | refine EK_ev (Ev_loadLs enc_op rfl xS rfl o1 x1) ?_ | refine EK_ev (Ev_loadLsF enc_op rfl xS rfl o0 x0 k0) ?_)
    | (refine ek_build ?_; refine EK_ev (Ev_build xV xW) ?_)
    | (refine ek_eql ?_; first | refine EK_ev (Ev_eqlSt rfl rfl (op_eqF ⟨true, [98], []⟩ ⟨true, [98], []⟩ Tryd.underlying29) rfl) ?_ | refine EK_ev (Ev_eqlS_t rfl rfl rfl) ?_ | refine EK_ev (Ev_eqlI_t rfl rfl rfl) ?_)
    | refine xst ?_
    | (refine xsa ?_; intro _)
    | (refine xsb ?_ ?_ <;> intro _ <;> first | (exfalso; omega) | skip)
    | refine xsc ?_
    | fail)
  all_goals (exact xdn ())
end
end Go.Proofs.YtehheokalgmbgaaDoor
