/-
  PoR1.
-/
import Derived.Test.YtdbfemdpdpaffaaGreatDoorPCR
import Derived.Test.YtdbfemdpdpaffaaGreatDoorPDD
/-
  PostingReads: the walk.
-/
namespace Go.Proofs.YtdbfemdpdpaffaaGreatDoor
open Go Go.RowKit Go.MapKept
section
variable {W : World} {F : Nat → Addr}
set_option maxHeartbeats 8000000 in
set_option maxRecDepth 20000 in
theorem preads_ct (hE : ErrsOn L37 W F) (s : List UInt8) (hs : s.length ≤ 9223372036854775807) :
    Ct Tryz.prog W 3 [strV s] [] (fun _ : Unit => .bool true) (fun _ => []) := by
  have er := perr_of hE
  have e1 : W.cell? ⟨5, 0, none⟩ = some (errV F 1) := hE.at_ 1 (by decide)
  have e2 : W.cell? ⟨6, 0, none⟩ = some (errV F 2) := hE.at_ 2 (by decide)
  have e5 : W.cell? ⟨8, 0, none⟩ = some (errV F 5) := hE.at_ 5 (by decide)
  have cf := fixed_ct (W := W) (F := F) hE
  obtain ⟨D, e, hD⟩ : ∃ D e, decPst s = (D, e) := ⟨(decPst s).1, (decPst s).2, rfl⟩
  have hle : e ≤ 37 := by have := dec_le s; rw [hD] at this; exact this
  have hdl : D.legs.length ≤ 4611686018427387904 := by
    by_cases he : e = 0
    · subst he
      have := (dec_fit hD).1.legs
      omega
    · rw [dec_bad hD he]
      decide
  have cD := pdecode_ct (W := W) (F := F) er s hs e1 e2 e5 D e hD
  have cE := dpdecode_ct (W := W) s hs D e hD
  have cn := num_ct (W := W) (F := F) hE e hle
  have cA := fun x1 x2 y1 y2 => alike_ct (W := W) (lsP legC 55 2 (.slice x1 D.legs.length x2) D.legs) (lsP legC 55 2 (.slice y1 D.legs.length y2) D.legs) x1 y1 x2 y2 D (Lv.own enc_leg rfl) (Lv.own enc_leg rfl) hdl
  have qe : decide (((e : Nat) : Int) = ((e : Nat) : Int)) = true := decide_eq_true rfl
  refine Ct.enter Tryz.func3 rfl Tryz.ntmps3 (by simp) (fun R => ?_)
  repeat' (first 
    | (refine is_alloc ?_; refine KJ_alloc rfl (fun g5 => ?_))
    | (refine is_call ?_; first | (refine KJ_call xE (cA _ _ _ _) xP rfl (fun _ => ?_)) | (refine KJ_call xE cn xP rfl (fun _ => ?_)) | (refine KJ_call xE cE xP rfl (fun y => ?_)) | (refine KJ_call xE cD xP rfl (fun x => ?_)) | (refine KJ_call xE cf xP rfl (fun _ => ?_)))
    | (refine ek_eql ?_; refine EK_ev (Ev_eqlI_q rfl rfl qe) ?_)
    | refine xst ?_
    | (refine xsa ?_; intro _)
    | (refine xsb ?_ ?_ <;> intro _ <;> first | (exfalso; omega) | skip)
    | refine xsc ?_
    | fail)
  all_goals (exact xdn ())
end
end Go.Proofs.YtdbfemdpdpaffaaGreatDoor
