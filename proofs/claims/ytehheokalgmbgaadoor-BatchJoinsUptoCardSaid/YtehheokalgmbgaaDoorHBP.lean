/-
  BaL1, BaL2.
-/
import Derived.Test.YtehheokalgmbgaaDoorHBL
import Derived.Test.YtehheokalgmbgaaDoorHBM
import Derived.Test.YtehheokalgmbgaaDoorHBN
import Derived.Test.YtehheokalgmbgaaDoorHAV
/-
  The statements of chapter 12: lists compared, spare room, the fixed facts.
-/
namespace Go.Proofs.YtehheokalgmbgaaDoor
open Go Go.RowKit
instance : StIs Tryd.prog 29 := ⟨by kernel_rfl, by kernel_rfl⟩
theorem op_eqF (x y : BOp) {fs : Array Field} (hu : Tryd.prog.underlying 29 = some (.struct fs)) : EqF Tryd.prog (opC x) (opC y) fs.toList (decide (x = y)) := by
  have e := Tryd.underlying29.symm.trans hu
  simp only [Option.some.injEq, TypeDesc.struct.injEq] at e
  subst e
  have e2 : decide (x = y) = (decide (x.del = y.del) && (decide (x.key = y.key) && (decide (x.val = y.val) && true))) := by
    rw [Bool.eq_iff_iff]
    cases x; cases y
    simp
  rw [e2]
  refine EqF.cons rfl inferInstance rfl rfl ?_ (EqF.cons rfl inferInstance rfl rfl ?_ (EqF.cons rfl inferInstance rfl rfl ?_ EqF.nil))
  all_goals (unfold cellEq; simp)
theorem take_nextB {α : Type} {l r : List α} {i : Nat} {x y : α} (hx : l[i]? = some x) (hy : r[i]? = some y) (h : l.take i = r.take i) (e : x = y) : l.take (i + 1) = r.take (i + 1) := by
  rw [List.take_add_one, List.take_add_one, hx, hy, h, e]
section
variable {W : World}
set_option maxHeartbeats 1000000 in
theorem same_ct (A B : SP) (a b : Option Addr) (c d : Nat) (l r : List BOp) (hA : Lv W opC 3 A a l) (hB : Lv W opC 3 B b r) (h1 : l.length ≤ 4611686018427387904) :
    Ct Tryd.prog W 14 [.slice a l.length c, .slice b r.length d] [A, B] (fun _ : Unit => .bool (decide (l = r))) (fun _ => [A, B]) := by
  by_cases hl : l.length = r.length
  rotate_left
  · have q : ((l.length : Nat) : Int) ≠ (r.length : Nat) := by omega
    have e : decide (l = r) = false := decide_eq_false (fun h => hl (by rw [h]))
    rw [e]
    refine Ct.enter Tryd.func14 rfl Tryd.ntmps14 (by simp) (fun R => ?_)
    repeat' (first 
    | (refine ek_neq ?_; refine EK_ev (Ev_neqI_t rfl rfl q) ?_)
    | refine xst ?_
    | (refine xsa ?_; intro _)
    | (refine xsb ?_ ?_ <;> intro _ <;> first | (exfalso; omega) | skip)
    | refine xsc ?_
    | (refine KJ_draws (id := 6) (.op 0 (.op 1 (.op 2 (.op 3 (.op 4 (.op 5 (.op 6 (.op 7 (.op 8 .nil))))))))) (by kernel_rfl) (by kernel_rfl) ?_)
    | refine FW_alt ?_ ?_
    | refine FW_efn rfl rfl rfl rfl rfl ?_ ?_
    | refine KJ_flow ?_ ?_
    | exact Rech.nil
    | fail)
    all_goals (exact xdn ())
  have q : ((l.length : Nat) : Int) = (r.length : Nat) := by omega
  refine Ct.enter Tryd.func14 rfl Tryd.ntmps14 (by simp) (fun R => ?_)
  repeat' (first 
    | (refine ek_neq ?_; refine EK_ev (Ev_neqI_f rfl rfl q) ?_)
    | refine xst ?_
    | (refine xsa ?_; intro _)
    | (refine xsb ?_ ?_ <;> intro _ <;> first | (exfalso; omega) | skip)
    | refine xsc ?_
    | (refine KJ_draws (id := 6) (.op 0 (.op 1 (.op 2 (.op 3 (.op 4 (.op 5 (.op 6 (.op 7 (.op 8 .nil))))))))) (by kernel_rfl) (by kernel_rfl) ?_)
    | refine FW_alt ?_ ?_
    | refine FW_efn rfl rfl rfl rfl rfl ?_ ?_
    | refine KJ_flow ?_ ?_
    | exact Rech.nil
    | fail)
  refine KJ_loop (fun i : {i : Nat // i ≤ l.length ∧ l.take i = r.take i} => [(0, .slice a l.length c), (1, .slice b r.length d), (12, .int .i64 (l.length : Nat)), (13, .int .i64 (i.1 : Nat))])
    (fun _ => [A, B] ++ R) (fun i => l.length - i.1) ⟨0, Nat.zero_le _, rfl⟩ xB (xN) (fun ⟨i, hi, ht⟩ => ?_)
  dsimp only
  by_cases hlt : i < l.length
  rotate_left
  · have ql : decide ((i : Int) < (l.length : Nat)) = false := decide_eq_false (by omega)
    rw [List.take_of_length_le (by omega), List.take_of_length_le (by omega)] at ht
    have e : decide (l = r) = true := decide_eq_true ht
    rw [e]
    repeat' (first 
    | (refine ek_lss ?_; refine EK_ev (Ev_lssI_q rfl rfl ql) ?_)
    | refine xst ?_
    | (refine xsa ?_; intro _)
    | (refine xsb ?_ ?_ <;> intro _ <;> first | (exfalso; omega) | skip)
    | refine xsc ?_
    | (refine KJ_draws (id := 6) (.op 0 (.op 1 (.op 2 (.op 3 (.op 4 (.op 5 (.op 6 (.op 7 (.op 8 .nil))))))))) (by kernel_rfl) (by kernel_rfl) ?_)
    | refine FW_alt ?_ ?_
    | refine FW_efn rfl rfl rfl rfl rfl ?_ ?_
    | refine KJ_flow ?_ ?_
    | exact Rech.nil
    | fail)
    all_goals (exact xdn ())
  have ql : decide ((i : Int) < (l.length : Nat)) = true := decide_eq_true (by omega)
  obtain ⟨x, hx⟩ : ∃ s, l[i]? = some s := ⟨_, List.getElem?_eq_getElem hlt⟩
  obtain ⟨y, hy⟩ : ∃ s, r[i]? = some s := ⟨_, List.getElem?_eq_getElem (by omega)⟩
  refine KJ.lvSome hA xS (by omega) (fun ba oa hab => ?_)
  subst hab
  refine KJ.lvSome hB xS (by omega) (fun bb ob hab => ?_)
  subst hab
  have ho1 : oa + Int.toNat (i : Int) * 3 = oa + i * 3 := by rw [Int.toNat_natCast]
  have ho2 : ob + Int.toNat (i : Int) * 3 = ob + i * 3 := by rw [Int.toNat_natCast]
  by_cases hxy : x = y
  · have hq : (!decide (x = y)) = false := by simp [hxy]
    repeat' (first 
    | (refine ek_load ?_; first | refine EK_ev (Ev_loadLv enc_op hA rfl rfl xS ho1 hx) ?_ | refine EK_ev (Ev_loadLv enc_op hB rfl rfl xS ho2 hy) ?_)
    | (refine ek_add ?_; refine EK_ev (Ev_addI_v (r := ((i + 1 : Nat) : Int)) rfl rfl (by omega) (by omega)) ?_)
    | (refine ek_neq ?_; refine EK_ev (Ev_neqSt rfl rfl (op_eqF x y Tryd.underlying29) hq) ?_)
    | (refine ek_lss ?_; refine EK_ev (Ev_lssI_q rfl rfl ql) ?_)
    | refine xst ?_
    | (refine xsa ?_; intro _)
    | (refine xsb ?_ ?_ <;> intro _ <;> first | (exfalso; omega) | skip)
    | refine xsc ?_
    | (refine KJ_draws (id := 6) (.op 0 (.op 1 (.op 2 (.op 3 (.op 4 (.op 5 (.op 6 (.op 7 (.op 8 .nil))))))))) (by kernel_rfl) (by kernel_rfl) ?_)
    | refine FW_alt ?_ ?_
    | refine FW_efn rfl rfl rfl rfl rfl ?_ ?_
    | refine KJ_flow ?_ ?_
    | exact Rech.nil
    | fail)
    all_goals refine KJ_again ⟨i + 1, hlt, take_nextB hx hy ht hxy⟩ (by show l.length - (i + 1) < l.length - i; omega) xB (xN)
  · have hq : (!decide (x = y)) = true := by simp [hxy]
    have e : decide (l = r) = false := decide_eq_false (fun h => hxy (by rw [h, hy] at hx; exact (Option.some.inj hx).symm))
    rw [e]
    repeat' (first 
    | (refine ek_load ?_; first | refine EK_ev (Ev_loadLv enc_op hA rfl rfl xS ho1 hx) ?_ | refine EK_ev (Ev_loadLv enc_op hB rfl rfl xS ho2 hy) ?_)
    | (refine ek_neq ?_; refine EK_ev (Ev_neqSt rfl rfl (op_eqF x y Tryd.underlying29) hq) ?_)
    | (refine ek_lss ?_; refine EK_ev (Ev_lssI_q rfl rfl ql) ?_)
    | refine xst ?_
    | (refine xsa ?_; intro _)
    | (refine xsb ?_ ?_ <;> intro _ <;> first | (exfalso; omega) | skip)
    | refine xsc ?_
    | (refine KJ_draws (id := 6) (.op 0 (.op 1 (.op 2 (.op 3 (.op 4 (.op 5 (.op 6 (.op 7 (.op 8 .nil))))))))) (by kernel_rfl) (by kernel_rfl) ?_)
    | refine FW_alt ?_ ?_
    | refine FW_efn rfl rfl rfl rfl rfl ?_ ?_
    | refine KJ_flow ?_ ?_
    | exact Rech.nil
    | fail)
    all_goals (exact xdn ())
end
end Go.Proofs.YtehheokalgmbgaaDoor
/-
  The statements of chapter 12: the fixed facts; BatchNormals.
-/
namespace Go.Proofs.YtehheokalgmbgaaDoor
open Go Go.RowKit
def livE : List BOp := [⟨false, [97], [50]⟩, ⟨true, [98], []⟩]
def livN : List BOp := [⟨false, [98], [49]⟩, ⟨true, [98], [120]⟩, ⟨false, [97], []⟩]
theorem livE_enc : encode livE = ([2, 0, 1, 97, 1, 50, 1, 1, 98], 0) := by decide +kernel
theorem livN_norm : normD livN = [⟨false, [97], []⟩, ⟨true, [98], []⟩] := by decide +kernel
section
variable {W : World}
set_option maxHeartbeats 1000000 in
theorem lives12_ct : Ct Tryd.prog W 10 [] [] (fun _ : Unit => .bool true) (fun _ => []) := by
  have cE : ∀ g, Ct Tryd.prog W 16 [.slice (some ⟨g, 0, none⟩) 2 2] [cellsP g [.bool false, strV [97], strV [50], .bool true, strV [98], strV []] 29] (fun _ : Unit => .tuple #[strV [2, 0, 1, 97, 1, 50, 1, 1, 98], .nilIface]) (fun _ => [cellsP g [.bool false, strV [97], strV [50], .bool true, strV [98], strV []] 29]) := fun g => by
    have := bencode_ct (W := W) (F := fun _ => default) (cellsP g [.bool false, strV [97], strV [50], .bool true, strV [98], strV []] 29) (some ⟨g, 0, none⟩) 2 livE (Lv.cells rfl) (by decide +kernel) (by decide) (fun h => by rw [livE_enc] at h; cases h) (fun h => by rw [livE_enc] at h; cases h)
    rw [livE_enc] at this
    exact this
  have cN : ∀ g, Ct Tryd.prog W 12 [.slice (some ⟨g, 0, none⟩) 3 3] [cellsP g [.bool false, strV [98], strV [49], .bool true, strV [98], strV [120], .bool false, strV [97], strV []] 29] (fun x : Option Addr × Nat => .slice x.1 2 x.2)
      (fun x => [cellsP g [.bool false, strV [98], strV [49], .bool true, strV [98], strV [120], .bool false, strV [97], strV []] 29, lsP opC 29 3 (.slice x.1 2 x.2) [⟨false, [97], []⟩, ⟨true, [98], []⟩]]) := fun g => by
    have := bnormal_ct (W := W) (cellsP g [.bool false, strV [98], strV [49], .bool true, strV [98], strV [120], .bool false, strV [97], strV []] 29) (some ⟨g, 0, none⟩) 3 livN (Lv.cells rfl) (by decide)
    rw [livN_norm] at this
    exact this
  have x0 : ([⟨false, [97], []⟩, ⟨true, [98], []⟩] : List BOp)[0]? = some ⟨false, [97], []⟩ := rfl
  have x1 : ([⟨false, [97], []⟩, ⟨true, [98], []⟩] : List BOp)[1]? = some ⟨true, [98], []⟩ := rfl
  have k0 : (opC ⟨false, [97], []⟩)[1]? = some (strV [97]) := rfl
  have o0 : 0 + Int.toNat 0 * 3 + 1 = 0 * 3 + 1 := rfl
  have o1 : 0 + Int.toNat 1 * 3 = 1 * 3 := rfl
  refine Ct.enter Tryd.func10 rfl Tryd.ntmps10 (by simp) (fun R => ?_)
  repeat' (first 
    | (refine is_call ?_; first | (refine KJ_call xE (cN gb) xP rfl (fun x => ?_); obtain ⟨xa, xc⟩ := x; refine KJ.lsSome xS (by decide) (fun gn hgn => ?_); dsimp only at hgn; subst hgn) | (refine KJ_call xE (cE ga) xP rfl (fun _ => ?_)))
    | (refine is_bslice ?_; first | (refine KJ_bsliceN (len := 3) (places := [(0, 3), (3, 3), (6, 3)]) (base := opC ⟨false, [], []⟩ ++ (opC ⟨false, [], []⟩ ++ opC ⟨false, [], []⟩)) xV (by rfl) (by rfl) xW (by omega) rfl (fun gb => ?_)) | (refine KJ_bsliceN (len := 2) (places := [(0, 3), (3, 3)]) (base := opC ⟨false, [], []⟩ ++ opC ⟨false, [], []⟩) xV (by rfl) (by rfl) xW (by omega) rfl (fun ga => ?_)))
    | (refine ek_load ?_; first | refine EK_ev (Ev_loadLs enc_op rfl xS rfl o1 x1) ?_ | refine EK_ev (Ev_loadLsF enc_op rfl xS rfl o0 x0 k0) ?_)
    | (refine ek_build ?_; refine EK_ev (Ev_build xV xW) ?_)
    | (refine ek_eql ?_; first | refine EK_ev (Ev_eqlSt rfl rfl (op_eqF ⟨true, [98], []⟩ ⟨true, [98], []⟩ Tryd.underlying29) rfl) ?_ | refine EK_ev (Ev_eqlS_t rfl rfl rfl) ?_ | refine EK_ev (Ev_eqlI_t rfl rfl rfl) ?_)
    | refine xst ?_
    | (refine xsa ?_; intro _)
    | (refine xsb ?_ ?_ <;> intro _ <;> first | (exfalso; omega) | skip)
    | refine xsc ?_
    | fail)
  all_goals (exact xdn ())
end
end Go.Proofs.YtehheokalgmbgaaDoor
