/-
  TxW5.
-/
import Derived.Test.YtnbgcimalpdfoaaGreatDoorQER
/-
  The package txn: Delete.
-/
namespace Go.Proofs.YtnbgcimalpdfoaaGreatDoor
open Go Go.RowKit
section
variable {W : World} {t s m : Nat} {r : Rows} {K : List (List UInt8 × Bool)} {U : List UE}
instance fn_del1 : FnIs Tryz.prog 139 := ⟨by kernel_rfl⟩
instance fn_txdel : FnIs Tryz.prog 90 := ⟨by kernel_rfl⟩
abbrev delP (t : Nat) (key : List UInt8) (g3 g4 : Nat) : List SP := [cellsP g3 [.pointer (some ⟨t, 0, none⟩)] 25, cellsP g4 [strV key] 9]
theorem del1_ct (key : List UInt8) (g3 g4 : Nat) (hl : r.length ≤ 288230376151711744) : DoC W 139 [.pointer (some ⟨g3, 0, none⟩), .pointer (some ⟨g4, 0, none⟩)] (allP 82 (delP t key g3 g4)) t r (mdel r key) := fun s x l hT => by
  have cp := tdel_ct (W := W) (p := x.q) (b := x.b) (k := key) hT hl
  refine Ct.enter Tryz.func139 rfl Tryz.ntmps139 (by simp) (fun R => ?_)
  refine KJ.allOpen (L := delP t key g3 g4) xS ?_
  repeat' (first 
    | (refine is_call ?_; refine KJ_call xE cp xP rfl (fun y => ?_); obtain ⟨⟨N1, a1, b1⟩, g1, t1⟩ := y; dsimp only at g1 t1 ⊢)
    | refine xst ?_
    | (refine xsa ?_; intro _)
    | (refine xsb ?_ ?_ <;> intro _ <;> first | (exfalso; omega) | skip)
    | refine xsc ?_
    | (refine KJ_draws (id := 0) (.op 0 (.op 1 (.op 2 (.op 3 (.op 4 (.ef 5 [] .nil)))))) (by kernel_rfl) (by kernel_rfl) ?_)
    | refine FW_alt ?_ ?_
    | refine FW_efn rfl rfl rfl rfl rfl ?_ ?_
    | refine KJ_flow ?_ ?_
    | exact Rech.nil
    | fail)
  all_goals refine KJ.allShut (L := delP t key g3 g4) 82 xP ?_
  all_goals (exact xdn ⟨(N1, a1, b1), g1, t1⟩)
set_option maxHeartbeats 2000000 in
theorem txdel_ct (key : List UInt8) (hl : r.length ≤ 288230376151711744) (hU : (U.length + 1) * 8 ≤ 140737488355328) :
    Ct Tryz.prog W 90 [.pointer (some ⟨t, 0, none⟩), strV key] [TxP t s r K U false] (fun _ : Nat × Nat × Nat × Nat => .nilIface)
      (fun z => [TxP t s (mdel r key) (mput K key true) (U ++ [⟨key, (lk r key).getD [], (lk r key).isSome, z.1, z.2.1, z.2.2.1, z.2.2.2⟩]) false]) := by
  have cs := fun g3 g4 => step_ct (W := W) (t := t) (s := s) (r := r) (K := K) (U := U) 139 _ _ (del1_ct key g3 g4 hl) key hU
  refine Ct.enter Tryz.func90 rfl Tryz.ntmps90 (by simp) (fun R => ?_)
  repeat' (first 
    | (refine is_box ?_; first | (refine KJ_box (d := 3) rfl xF rfl (fun g4 => ?_)) | (refine KJ_box (d := 2) rfl xF rfl (fun g3 => ?_)))
    | (refine is_call ?_; refine KJ.allShut (L := delP t key g3 g4) 82 xP ?_; refine KJ_call xE (cs _ _) xP rfl (fun z => ?_))
    | (refine ek_mkFunc ?_; refine EK_ev (Ev_mkFunc2 rfl rfl) ?_)
    | refine xst ?_
    | (refine xsa ?_; intro _)
    | (refine xsb ?_ ?_ <;> intro _ <;> first | (exfalso; omega) | skip)
    | refine xsc ?_
    | fail)
  all_goals (exact xdn z)
theorem txdelQ (key : List UInt8) (hl : r.length ≤ 288230376151711744) (hm : (m + 1) * 8 ≤ 140737488355328) : Ct Tryz.prog W 90 [.pointer (some ⟨t, 0, none⟩), strV key] [TxQ t r false m] (fun _ : Unit => .nilIface) (fun _ => [TxQ t (mdel r key) false (m + 1)]) := by
  refine Ct_unpack (Hs := []) fun ⟨(s, K, U), hU⟩ => ?_
  dsimp only at hU ⊢
  exact (txdel_ct (W := W) key hl (by omega)).to (fun _ => ()) (fun _ => rfl) (fun _ R g q => TxQ.star (by rw [List.length_append]; exact Nat.succ_le_succ hU) g q)
end
end Go.Proofs.YtnbgcimalpdfoaaGreatDoor
