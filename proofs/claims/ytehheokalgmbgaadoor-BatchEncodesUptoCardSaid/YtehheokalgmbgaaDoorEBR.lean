/-
  BaL3.
-/
import Derived.Test.YtehheokalgmbgaaDoorEBO
import Derived.Test.YtehheokalgmbgaaDoorEBP
import Derived.Test.YtehheokalgmbgaaDoorEBQ
/-
  The statements of chapter 12: BatchEncodes.
-/
namespace Go.Proofs.YtehheokalgmbgaaDoor
open Go Go.RowKit
/-- all texts are short -/
def ShortO (B : Nat) (ops : List BOp) : Prop := ∀ (i : Nat) (o : BOp), ops[i]? = some o → o.key.length ≤ B ∧ o.val.length ≤ B
theorem encOps_le {B : Nat} : ∀ {ops : List BOp}, ShortO B ops → (encOps ops).length ≤ ops.length * (2 * B + 21)
  | [], _ => by simp [encOps]
  | o :: ops, h => by
    have ih := encOps_le (B := B) (ops := ops) fun i o' ho => h (i + 1) o' ho
    obtain ⟨h1, h2⟩ := h 0 o rfl
    have v1 := vu_len o.key.length
    have v2 := vu_len o.val.length
    have e : encOps (o :: ops) = encOp o ++ encOps ops := by unfold encOps; rw [List.flatMap_cons]
    have e2 : (encOp o).length ≤ 2 * B + 21 := by
      unfold encOp tx
      split <;> simp only [List.length_cons, List.length_append] <;> omega
    rw [e, List.length_append, List.length_cons, Nat.add_mul]
    omega
theorem encAll_le {B : Nat} {ops : List BOp} (h : ShortO B ops) : (encAll ops).length ≤ 10 + ops.length * (2 * B + 21) := by
  have := encOps_le h
  have v := vu_len ops.length
  unfold encAll
  rw [List.length_append]; omega
theorem encode_le (ops : List BOp) : (encode ops).2 ≤ 37 := by
  unfold encode
  split
  · decide
  · split
    · decide
    · exact Nat.zero_le _
section
variable {W : World} {F : Nat → Addr}
set_option maxHeartbeats 4000000 in
set_option maxRecDepth 100000 in
theorem encodes12_ct (v : Value) (ops : List BOp) (hv : LsAt W opC 3 v ops) (hl : ops.length ≤ 1048576) (hs : ShortO 1048576 ops) (hE : ErrsOn L37 W F) : Ct Tryd.prog W 4 [v] [] (fun _ : Unit => .bool true) (fun _ => []) := by
  obtain ⟨a, c, rfl, -⟩ := id hv
  have hL := Lv.old enc_op hv
  have e4 : W.cell? ⟨0, 0, none⟩ = some (errV F 4) := hE.at_ 4 (by decide)
  have e7 : W.cell? ⟨1, 0, none⟩ = some (errV F 7) := hE.at_ 7 (by decide)
  have hen := encAll_le hs
  have cl := lives12_ct (W := W)
  have csp := spare_ct (W := W) noP a c ops hL (by omega)
  have cE : ∀ g cf, Ct Tryd.prog W 16 [.slice (some ⟨g, 0, none⟩) ops.length cf] [lsP opC 29 3 (.slice (some ⟨g, 0, none⟩) (spareL ops).length cf) (spareL ops)] (fun _ : Unit => .tuple #[strV (encode ops).1, errV F (encode ops).2]) (fun _ => [lsP opC 29 3 (.slice (some ⟨g, 0, none⟩) (spareL ops).length cf) (spareL ops)]) := fun g cf => by
    have hT := Lv.take (W := W) (enc := opC) (e := 29) (a := some ⟨g, 0, none⟩) (c := cf) (m := (spareL ops).length) (i := ops.length) (L := spareL ops) enc_op rfl
    rw [spareL_take] at hT
    exact bencode_ct (W := W) (F := F) _ (some ⟨g, 0, none⟩) cf ops hT (by omega) (by omega) (fun _ => e4) (fun _ => e7)
  have cR := rencode_ct (W := W) noP a c ops hL (by omega) (by omega)
  have cM := num_ct (W := W) hE (encode ops).2 (encode_le ops)
  obtain ⟨S, hS⟩ : ∃ S, S = (encode ops).1 := ⟨_, rfl⟩
  obtain ⟨m, hm⟩ : ∃ m, m = (encode ops).2 := ⟨_, rfl⟩
  rw [← hS, ← hm] at cR
  rw [← hm] at cM
  have cE2 := cE
  rw [← hS, ← hm] at cE
  clear cE2
  have cK : ∀ g cf, (spareL ops).length ≤ cf → _ := fun g cf h => kept_ct (W := W) noP g a cf c ops h (by omega) hL
  have hsl := spareL_len ops
  refine Ct.enter Tryd.func4 rfl Tryd.ntmps4 (by simp) (fun R => ?_)
  refine KJ.noP ?_
  repeat' (first 
    | (refine at_seq_region (id := 4) ?_; refine hold ?_)
    | (refine is_call ?_; first | (refine KJ_call xE csp xP rfl (fun x => ?_); obtain ⟨g, cf⟩ := x; refine KJ.lsOpen xS (fun a3 c3 he hcf => ?_); cases he) | (refine KJ_call xE cl xP rfl (fun _ => ?_)))
    | refine xst ?_
    | (refine xsa ?_; intro _)
    | (refine xsb ?_ ?_ <;> intro _ <;> first | (exfalso; omega) | skip)
    | refine xsc ?_
    | fail)
  refine Hold.mk ?_
  have ck := cK g cf hcf
  have ce := cE g cf
  repeat' (first 
    | (refine is_call ?_; first | (refine KJ_call xE ck xP rfl (fun _ => ?_)) | (refine KJ_call xE cM xP rfl (fun _ => ?_)) | (refine KJ_call xE cR xP rfl (fun _ => ?_)) | (refine KJ_call xE ce xP rfl (fun _ => ?_)))
    | (refine ek_neq ?_; first | refine EK_ev (Ev_neqS_f rfl rfl rfl) ?_ | refine EK_ev (Ev_neqI_f rfl rfl rfl) ?_)
    | refine xst ?_
    | (refine xsa ?_; intro _)
    | (refine xsb ?_ ?_ <;> intro _ <;> first | (exfalso; omega) | skip)
    | refine xsc ?_
    | fail)
  refine KJ_loop (fun x : {x : Nat × List BOp // x.1 ≤ ops.length ∧ x.2.length = (spareL ops).length ∧ ShortO 1048576 (x.2.take ops.length)} => [(3, .slice (some ⟨g, 0, none⟩) ops.length cf), (43, .int .i64 (ops.length : Nat)), (44, .int .i64 (x.1.1 : Nat))])
    (fun x => [lsP opC 29 3 (.slice (some ⟨g, 0, none⟩) (spareL ops).length cf) x.1.2] ++ R) (fun x => ops.length - x.1.1) ⟨(0, spareL ops), Nat.zero_le _, rfl, by dsimp only; rw [spareL_take]; exact hs⟩ xB (xN) (fun ⟨(i, M), hi, hMl, hMs⟩ => ?_)
  dsimp only at hi hMl hMs ⊢
  by_cases hlt : i < ops.length
  · have ql : decide ((i : Int) < (ops.length : Nat)) = true := decide_eq_true (by omega)
    obtain ⟨o, ho⟩ : ∃ s, M[i]? = some s := ⟨_, List.getElem?_eq_getElem (by omega)⟩
    have h2 : 0 + Int.toNat (i : Int) * 3 + 2 = i * 3 + 2 := by rw [Int.toNat_natCast]; omega
    have h0 : 0 + Int.toNat (i : Int) * 3 + 0 = i * 3 + 0 := by rw [Int.toNat_natCast]; omega
    obtain ⟨del, key, val⟩ := o
    have q2 : opC ⟨del, key, [111, 116, 104, 101, 114]⟩ = (opC ⟨del, key, val⟩).set 2 (strV [111, 116, 104, 101, 114]) := rfl
    have q0 : opC ⟨false, key, [111, 116, 104, 101, 114]⟩ = (opC ⟨del, key, [111, 116, 104, 101, 114]⟩).set 0 (.bool false) := rfl
    have l2 : (spareL ops).length = (M.set i (⟨del, key, [111, 116, 104, 101, 114]⟩ : BOp)).length := by rw [List.length_set, hMl]
    have ho2 : (M.set i (⟨del, key, [111, 116, 104, 101, 114]⟩ : BOp))[i]? = some ⟨del, key, [111, 116, 104, 101, 114]⟩ := List.getElem?_set_self (by omega)
    have hnext : ShortO 1048576 (((M.set i (⟨del, key, [111, 116, 104, 101, 114]⟩ : BOp)).set i ⟨false, key, [111, 116, 104, 101, 114]⟩).take ops.length) := fun j o' hj => by
      rw [List.getElem?_take] at hj
      split at hj
      · rename_i hjl
        by_cases e : j = i
        · subst e
          rw [List.getElem?_set_self (by rw [List.length_set]; omega)] at hj
          cases hj
          have := hMs j ⟨del, key, val⟩ (by rw [List.getElem?_take, if_pos hjl]; exact ho)
          exact ⟨this.1, by show 5 ≤ 1048576; omega⟩
        · rw [List.getElem?_set_ne (by omega), List.getElem?_set_ne (by omega)] at hj
          exact hMs j o' (by rw [List.getElem?_take, if_pos hjl]; exact hj)
      · cases hj
    repeat' (first 
    | (refine at_seq_region (id := 11) ?_; refine hold ?_)
    | (refine ek_lss ?_; refine EK_ev (Ev_lssI_q rfl rfl ql) ?_)
    | refine xst ?_
    | (refine xsa ?_; intro _)
    | (refine xsb ?_ ?_ <;> intro _ <;> first | (exfalso; omega) | skip)
    | refine xsc ?_
    | fail)
    refine Hold.mk ?_
    repeat' (first 
    | (refine is_store ?_; refine KJ_storeLsF (t := 9) enc_op rfl rfl xS hMl.symm h2 ho (by omega) q2 xF xO ?_; refine hold ?_)
    | refine xst ?_
    | (refine xsa ?_; intro _)
    | (refine xsb ?_ ?_ <;> intro _ <;> first | (exfalso; omega) | skip)
    | refine xsc ?_
    | fail)
    refine Hold.mk ?_
    repeat' (first 
    | (refine is_store ?_; refine KJ_storeLsF (t := 4) enc_op rfl rfl xS l2 h0 ho2 (by omega) q0 xF xO ?_; refine hold ?_)
    | refine xst ?_
    | (refine xsa ?_; intro _)
    | (refine xsb ?_ ?_ <;> intro _ <;> first | (exfalso; omega) | skip)
    | refine xsc ?_
    | fail)
    refine Hold.mk ?_
    repeat' (first 
    | (refine ek_add ?_; refine EK_ev (Ev_addI_v (r := ((i + 1 : Nat) : Int)) rfl rfl (by omega) (by omega)) ?_)
    | refine xst ?_
    | (refine xsa ?_; intro _)
    | (refine xsb ?_ ?_ <;> intro _ <;> first | (exfalso; omega) | skip)
    | refine xsc ?_
    | fail)
    all_goals refine KJ_again ⟨(i + 1, (M.set i (⟨del, key, [111, 116, 104, 101, 114]⟩ : BOp)).set i ⟨false, key, [111, 116, 104, 101, 114]⟩), hlt, by dsimp only; rw [List.length_set]; exact l2.symm, hnext⟩ (by show ops.length - (i + 1) < ops.length - i; omega) xB (xN)
  have ql : decide ((i : Int) < (ops.length : Nat)) = false := decide_eq_false (by omega)
  have hT := Lv.take (W := W) (enc := opC) (e := 29) (a := some ⟨g, 0, none⟩) (c := cf) (m := (spareL ops).length) (i := ops.length) (L := M) enc_op hMl.symm
  have hTl : (M.take ops.length).length = ops.length := by rw [List.length_take]; omega
  obtain ⟨T, hTe⟩ : ∃ T, T = M.take ops.length := ⟨_, rfl⟩
  rw [← hTe] at hT hTl hMs
  have hen2 := encAll_le hMs
  rw [hTl] at hen2
  have cE3 := bencode_ct (W := W) (F := F) _ (some ⟨g, 0, none⟩) cf T hT (by omega) (by omega) (fun _ => e4) (fun _ => e7)
  rw [hTl] at cE3
  have cR3 : ∀ (a' : Option Addr) (c' : Nat), Ct Tryd.prog W 17 [.slice a' ([] ++ T).length c'] [lsP opC 29 3 (.slice a' ([] ++ T).length c') ([] ++ T)] (fun _ : Unit => .tuple #[strV (encode T).1, .int .i64 ((encode T).2 : Nat)]) (fun _ => [lsP opC 29 3 (.slice a' ([] ++ T).length c') ([] ++ T)]) := fun a' c' =>
    rencode_ct (W := W) _ a' c' ([] ++ T) (Lv.own (e := 29) (c := c') enc_op rfl) (by rw [List.nil_append]; omega) (by rw [List.nil_append]; omega)
  have cM3 := num_ct (W := W) hE (encode T).2 (encode_le T)
  obtain ⟨S3, hS3⟩ : ∃ S, S = (encode T).1 := ⟨_, rfl⟩
  obtain ⟨m3, hm3⟩ : ∃ m, m = (encode T).2 := ⟨_, rfl⟩
  rw [← hS3, ← hm3] at cR3 cE3
  rw [← hm3] at cM3
  have b1 : (([] : List BOp).length + T.length) * 40 ≤ 140737488355328 := by rw [hTl, List.length_nil]; omega
  have b2 : ([] : List BOp).length + T.length ≤ 9223372036854775807 := by rw [hTl, List.length_nil]; omega
  repeat' (first 
    | (refine is_call ?_; first | (refine KJ_call xE cM3 xP rfl (fun _ => ?_)) | (refine KJ_call xE (cR3 a1 c1) xP rfl (fun _ => ?_)) | (refine KJ_call xE cE3 xP rfl (fun _ => ?_)))
    | (refine is_append ?_; refine KJ_appAll (l := ([] : List BOp)) (l2 := T) enc_op rfl rfl hTl.symm rfl xS (Src.lv hT (fun _ => rfl) xS) b1 b2 rfl (fun a1 c1 => ?_))
    | (refine is_bslice ?_; refine KJ_bslice0 rfl (fun g0 => ?_))
    | (refine ek_eql ?_; first | refine EK_ev (Ev_eqlS_t rfl rfl rfl) ?_ | refine EK_ev (Ev_eqlI_t rfl rfl rfl) ?_)
    | (refine ek_lss ?_; refine EK_ev (Ev_lssI_q rfl rfl ql) ?_)
    | refine xst ?_
    | (refine xsa ?_; intro _)
    | (refine xsb ?_ ?_ <;> intro _ <;> first | (exfalso; omega) | skip)
    | refine xsc ?_
    | fail)
  all_goals (exact xdn ())
end
end Go.Proofs.YtehheokalgmbgaaDoor
