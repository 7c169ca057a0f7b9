/-
  BaL1, BaL2, BaL3, BaL4, BaL5.
-/
import Derived.Test.YtehheokalgmbgaaDoorFBM
import Derived.Test.YtehheokalgmbgaaDoorFBN
import Derived.Test.YtehheokalgmbgaaDoorFBO
import Derived.Test.YtehheokalgmbgaaDoorFAV
import Derived.Test.YtehheokalgmbgaaDoorFBL
import Derived.Test.YtehheokalgmbgaaDoorFBR
import Derived.Test.YtehheokalgmbgaaDoorFBZ
/-
  The statements of chapter 12: lists compared, spare room, the fixed facts.
-/
namespace Go.Proofs.YtehheokalgmbgaaDoor
open Go Go.RowKit
instance : StIs Tryd.prog 29 := ⟨by kernel_rfl, by kernel_rfl⟩
theorem op_eqF (x y : BOp) {fs : Array Field} (hu : Tryd.prog.underlying 29 = some (.struct fs)) : EqF Tryd.prog (opC x) (opC y) fs.toList (decide (x = y)) := by
  have e := Tryd.underlying29.symm.trans hu
  simp only [Option.some.injEq, TypeDesc.struct.injEq] at e
  subst e
  have e2 : decide (x = y) = (decide (x.del = y.del) && (decide (x.key = y.key) && (decide (x.val = y.val) && true))) := by
    rw [Bool.eq_iff_iff]
    cases x; cases y
    simp
  rw [e2]
  refine EqF.cons rfl inferInstance rfl rfl ?_ (EqF.cons rfl inferInstance rfl rfl ?_ (EqF.cons rfl inferInstance rfl rfl ?_ EqF.nil))
  all_goals (unfold cellEq; simp)
theorem take_nextB {α : Type} {l r : List α} {i : Nat} {x y : α} (hx : l[i]? = some x) (hy : r[i]? = some y) (h : l.take i = r.take i) (e : x = y) : l.take (i + 1) = r.take (i + 1) := by
  rw [List.take_add_one, List.take_add_one, hx, hy, h, e]
section
variable {W : World}
set_option maxHeartbeats 1000000 in
theorem same_ct (A B : SP) (a b : Option Addr) (c d : Nat) (l r : List BOp) (hA : Lv W opC 3 A a l) (hB : Lv W opC 3 B b r) (h1 : l.length ≤ 4611686018427387904) :
    Ct Tryd.prog W 14 [.slice a l.length c, .slice b r.length d] [A, B] (fun _ : Unit => .bool (decide (l = r))) (fun _ => [A, B]) := by
  by_cases hl : l.length = r.length
  rotate_left
  · have q : ((l.length : Nat) : Int) ≠ (r.length : Nat) := by omega
    have e : decide (l = r) = false := decide_eq_false (fun h => hl (by rw [h]))
    rw [e]
    refine Ct.enter Tryd.func14 rfl Tryd.ntmps14 (by simp) (fun R => ?_)
    repeat' (first 
    | (refine ek_neq ?_; refine EK_ev (Ev_neqI_t rfl rfl q) ?_)
    | refine xst ?_
    | (refine xsa ?_; intro _)
    | (refine xsb ?_ ?_ <;> intro _ <;> first | (exfalso; omega) | skip)
    | refine xsc ?_
    | (refine KJ_draws (id := 6) (.op 0 (.op 1 (.op 2 (.op 3 (.op 4 (.op 5 (.op 6 (.op 7 (.op 8 .nil))))))))) (by kernel_rfl) (by kernel_rfl) ?_)
    | refine FW_alt ?_ ?_
    | refine KJ_flow ?_ ?_
    | exact Rech.nil
    | fail)
    all_goals (exact xdn ())
  have q : ((l.length : Nat) : Int) = (r.length : Nat) := by omega
  refine Ct.enter Tryd.func14 rfl Tryd.ntmps14 (by simp) (fun R => ?_)
  repeat' (first 
    | (refine ek_neq ?_; refine EK_ev (Ev_neqI_f rfl rfl q) ?_)
    | refine xst ?_
    | (refine xsa ?_; intro _)
    | (refine xsb ?_ ?_ <;> intro _ <;> first | (exfalso; omega) | skip)
    | refine xsc ?_
    | (refine KJ_draws (id := 6) (.op 0 (.op 1 (.op 2 (.op 3 (.op 4 (.op 5 (.op 6 (.op 7 (.op 8 .nil))))))))) (by kernel_rfl) (by kernel_rfl) ?_)
    | refine FW_alt ?_ ?_
    | refine KJ_flow ?_ ?_
    | exact Rech.nil
    | fail)
  refine KJ_loop (fun i : {i : Nat // i ≤ l.length ∧ l.take i = r.take i} => [(0, .slice a l.length c), (1, .slice b r.length d), (12, .int .i64 (l.length : Nat)), (13, .int .i64 (i.1 : Nat))])
    (fun _ => [A, B] ++ R) (fun i => l.length - i.1) ⟨0, Nat.zero_le _, rfl⟩ xB (xN) (fun ⟨i, hi, ht⟩ => ?_)
  dsimp only
  by_cases hlt : i < l.length
  rotate_left
  · have ql : decide ((i : Int) < (l.length : Nat)) = false := decide_eq_false (by omega)
    rw [List.take_of_length_le (by omega), List.take_of_length_le (by omega)] at ht
    have e : decide (l = r) = true := decide_eq_true ht
    rw [e]
    repeat' (first 
    | (refine ek_lss ?_; refine EK_ev (Ev_lssI_q rfl rfl ql) ?_)
    | refine xst ?_
    | (refine xsa ?_; intro _)
    | (refine xsb ?_ ?_ <;> intro _ <;> first | (exfalso; omega) | skip)
    | refine xsc ?_
    | (refine KJ_draws (id := 6) (.op 0 (.op 1 (.op 2 (.op 3 (.op 4 (.op 5 (.op 6 (.op 7 (.op 8 .nil))))))))) (by kernel_rfl) (by kernel_rfl) ?_)
    | refine FW_alt ?_ ?_
    | refine KJ_flow ?_ ?_
    | exact Rech.nil
    | fail)
    all_goals (exact xdn ())
  have ql : decide ((i : Int) < (l.length : Nat)) = true := decide_eq_true (by omega)
  obtain ⟨x, hx⟩ : ∃ s, l[i]? = some s := ⟨_, List.getElem?_eq_getElem hlt⟩
  obtain ⟨y, hy⟩ : ∃ s, r[i]? = some s := ⟨_, List.getElem?_eq_getElem (by omega)⟩
  refine KJ.lvSome hA xS (by omega) (fun ba oa hab => ?_)
  subst hab
  refine KJ.lvSome hB xS (by omega) (fun bb ob hab => ?_)
  subst hab
  have ho1 : oa + Int.toNat (i : Int) * 3 = oa + i * 3 := by rw [Int.toNat_natCast]
  have ho2 : ob + Int.toNat (i : Int) * 3 = ob + i * 3 := by rw [Int.toNat_natCast]
  by_cases hxy : x = y
  · have hq : (!decide (x = y)) = false := by simp [hxy]
    repeat' (first 
    | (refine ek_load ?_; first | refine EK_ev (Ev_loadLv enc_op hA rfl rfl xS ho1 hx) ?_ | refine EK_ev (Ev_loadLv enc_op hB rfl rfl xS ho2 hy) ?_)
    | (refine ek_add ?_; refine EK_ev (Ev_addI_v (r := ((i + 1 : Nat) : Int)) rfl rfl (by omega) (by omega)) ?_)
    | (refine ek_neq ?_; refine EK_ev (Ev_neqSt rfl rfl (op_eqF x y Tryd.underlying29) hq) ?_)
    | (refine ek_lss ?_; refine EK_ev (Ev_lssI_q rfl rfl ql) ?_)
    | refine xst ?_
    | (refine xsa ?_; intro _)
    | (refine xsb ?_ ?_ <;> intro _ <;> first | (exfalso; omega) | skip)
    | refine xsc ?_
    | (refine KJ_draws (id := 6) (.op 0 (.op 1 (.op 2 (.op 3 (.op 4 (.op 5 (.op 6 (.op 7 (.op 8 .nil))))))))) (by kernel_rfl) (by kernel_rfl) ?_)
    | refine FW_alt ?_ ?_
    | refine KJ_flow ?_ ?_
    | exact Rech.nil
    | fail)
    all_goals refine KJ_again ⟨i + 1, hlt, take_nextB hx hy ht hxy⟩ (by show l.length - (i + 1) < l.length - i; omega) xB (xN)
  · have hq : (!decide (x = y)) = true := by simp [hxy]
    have e : decide (l = r) = false := decide_eq_false (fun h => hxy (by rw [h, hy] at hx; exact (Option.some.inj hx).symm))
    rw [e]
    repeat' (first 
    | (refine ek_load ?_; first | refine EK_ev (Ev_loadLv enc_op hA rfl rfl xS ho1 hx) ?_ | refine EK_ev (Ev_loadLv enc_op hB rfl rfl xS ho2 hy) ?_)
    | (refine ek_neq ?_; refine EK_ev (Ev_neqSt rfl rfl (op_eqF x y Tryd.underlying29) hq) ?_)
    | (refine ek_lss ?_; refine EK_ev (Ev_lssI_q rfl rfl ql) ?_)
    | refine xst ?_
    | (refine xsa ?_; intro _)
    | (refine xsb ?_ ?_ <;> intro _ <;> first | (exfalso; omega) | skip)
    | refine xsc ?_
    | (refine KJ_draws (id := 6) (.op 0 (.op 1 (.op 2 (.op 3 (.op 4 (.op 5 (.op 6 (.op 7 (.op 8 .nil))))))))) (by kernel_rfl) (by kernel_rfl) ?_)
    | refine FW_alt ?_ ?_
    | refine KJ_flow ?_ ?_
    | exact Rech.nil
    | fail)
    all_goals (exact xdn ())
end
end Go.Proofs.YtehheokalgmbgaaDoor
/-
  The statements of chapter 12: the fixed facts; BatchNormals.
-/
namespace Go.Proofs.YtehheokalgmbgaaDoor
open Go Go.RowKit
def livE : List BOp := [⟨false, [97], [50]⟩, ⟨true, [98], []⟩]
def livN : List BOp := [⟨false, [98], [49]⟩, ⟨true, [98], [120]⟩, ⟨false, [97], []⟩]
theorem livE_enc : encode livE = ([2, 0, 1, 97, 1, 50, 1, 1, 98], 0) := by decide +kernel
theorem livN_norm : normD livN = [⟨false, [97], []⟩, ⟨true, [98], []⟩] := by decide +kernel
section
variable {W : World}
set_option maxHeartbeats 1000000 in
theorem lives12_ct : Ct Tryd.prog W 10 [] [] (fun _ : Unit => .bool true) (fun _ => []) := by
  have cE : ∀ g, Ct Tryd.prog W 16 [.slice (some ⟨g, 0, none⟩) 2 2] [cellsP g [.bool false, strV [97], strV [50], .bool true, strV [98], strV []] 29] (fun _ : Unit => .tuple #[strV [2, 0, 1, 97, 1, 50, 1, 1, 98], .nilIface]) (fun _ => [cellsP g [.bool false, strV [97], strV [50], .bool true, strV [98], strV []] 29]) := fun g => by
    have := bencode_ct (W := W) (F := fun _ => default) (cellsP g [.bool false, strV [97], strV [50], .bool true, strV [98], strV []] 29) (some ⟨g, 0, none⟩) 2 livE (Lv.cells rfl) (by decide +kernel) (by decide) (fun h => by rw [livE_enc] at h; cases h) (fun h => by rw [livE_enc] at h; cases h)
    rw [livE_enc] at this
    exact this
  have cN : ∀ g, Ct Tryd.prog W 12 [.slice (some ⟨g, 0, none⟩) 3 3] [cellsP g [.bool false, strV [98], strV [49], .bool true, strV [98], strV [120], .bool false, strV [97], strV []] 29] (fun x : Option Addr × Nat => .slice x.1 2 x.2)
      (fun x => [cellsP g [.bool false, strV [98], strV [49], .bool true, strV [98], strV [120], .bool false, strV [97], strV []] 29, lsP opC 29 3 (.slice x.1 2 x.2) [⟨false, [97], []⟩, ⟨true, [98], []⟩]]) := fun g => by
    have := bnormal_ct (W := W) (cellsP g [.bool false, strV [98], strV [49], .bool true, strV [98], strV [120], .bool false, strV [97], strV []] 29) (some ⟨g, 0, none⟩) 3 livN (Lv.cells rfl) (by decide)
    rw [livN_norm] at this
    exact this
  have x0 : ([⟨false, [97], []⟩, ⟨true, [98], []⟩] : List BOp)[0]? = some ⟨false, [97], []⟩ := rfl
  have x1 : ([⟨false, [97], []⟩, ⟨true, [98], []⟩] : List BOp)[1]? = some ⟨true, [98], []⟩ := rfl
  have k0 : (opC ⟨false, [97], []⟩)[1]? = some (strV [97]) := rfl
  have o0 : 0 + Int.toNat 0 * 3 + 1 = 0 * 3 + 1 := rfl
  have o1 : 0 + Int.toNat 1 * 3 = 1 * 3 := rfl
  refine Ct.enter Tryd.func10 rfl Tryd.ntmps10 (by simp) (fun R => ?_)
  repeat' (first 
    | (refine is_call ?_; first | (refine KJ_call xE (cN gb) xP rfl (fun x => ?_); obtain ⟨xa, xc⟩ := x; refine KJ.lsSome xS (by decide) (fun gn hgn => ?_); dsimp only at hgn; subst hgn) | (refine KJ_call xE (cE ga) xP rfl (fun _ => ?_)))
    | (refine is_bslice ?_; first | (refine KJ_bsliceN (len := 3) (places := [(0, 3), (3, 3), (6, 3)]) (base := opC ⟨false, [], []⟩ ++ (opC ⟨false, [], []⟩ ++ opC ⟨false, [], []⟩)) xV (by rfl) (by rfl) xW (by omega) rfl (fun gb => ?_)) | (refine KJ_bsliceN (len := 2) (places := [(0, 3), (3, 3)]) (base := opC ⟨false, [], []⟩ ++ opC ⟨false, [], []⟩) xV (by rfl) (by rfl) xW (by omega) rfl (fun ga => ?_)))
    | (refine ek_load ?_; first | refine EK_ev (Ev_loadLs enc_op rfl xS rfl o1 x1) ?_ | refine EK_ev (Ev_loadLsF enc_op rfl xS rfl o0 x0 k0) ?_)
    | (refine ek_build ?_; refine EK_ev (Ev_build xV xW) ?_)
    | (refine ek_eql ?_; first | refine EK_ev (Ev_eqlSt rfl rfl (op_eqF ⟨true, [98], []⟩ ⟨true, [98], []⟩ Tryd.underlying29) rfl) ?_ | refine EK_ev (Ev_eqlS_t rfl rfl rfl) ?_ | refine EK_ev (Ev_eqlI_t rfl rfl rfl) ?_)
    | refine xst ?_
    | (refine xsa ?_; intro _)
    | (refine xsb ?_ ?_ <;> intro _ <;> first | (exfalso; omega) | skip)
    | refine xsc ?_
    | fail)
  all_goals (exact xdn ())
end
end Go.Proofs.YtehheokalgmbgaaDoor
/-
  The statements of chapter 12: BatchEncodes.
-/
namespace Go.Proofs.YtehheokalgmbgaaDoor
open Go Go.RowKit
/-- all texts are short -/
def ShortO (B : Nat) (ops : List BOp) : Prop := ∀ (i : Nat) (o : BOp), ops[i]? = some o → o.key.length ≤ B ∧ o.val.length ≤ B
theorem encOps_le {B : Nat} : ∀ {ops : List BOp}, ShortO B ops → (encOps ops).length ≤ ops.length * (2 * B + 21)
  | [], _ => by simp [encOps]
  | o :: ops, h => by
    have ih := encOps_le (B := B) (ops := ops) fun i o' ho => h (i + 1) o' ho
    obtain ⟨h1, h2⟩ := h 0 o rfl
    have v1 := vu_len o.key.length
    have v2 := vu_len o.val.length
    have e : encOps (o :: ops) = encOp o ++ encOps ops := by unfold encOps; rw [List.flatMap_cons]
    have e2 : (encOp o).length ≤ 2 * B + 21 := by
      unfold encOp tx
      split <;> simp only [List.length_cons, List.length_append] <;> omega
    rw [e, List.length_append, List.length_cons, Nat.add_mul]
    omega
theorem encAll_le {B : Nat} {ops : List BOp} (h : ShortO B ops) : (encAll ops).length ≤ 10 + ops.length * (2 * B + 21) := by
  have := encOps_le h
  have v := vu_len ops.length
  unfold encAll
  rw [List.length_append]; omega
end Go.Proofs.YtehheokalgmbgaaDoor
/-
  The statements of chapter 12: BatchDecodes.
-/
namespace Go.Proofs.YtehheokalgmbgaaDoor
open Go Go.RowKit
theorem encOps_ge (ops : List BOp) : 2 * ops.length ≤ (encOps ops).length := by
  induction ops with
  | nil => simp [encOps]
  | cons o l ih =>
    have e : encOps (o :: l) = encOp o ++ encOps l := by unfold encOps; rw [List.flatMap_cons]
    have := encOp_len o
    rw [e, List.length_append, List.length_cons]; omega
theorem decode_len (s : List UInt8) : 2 * (decode s).1.length ≤ s.length := by
  rcases decode_cases s with ⟨_, h⟩ | ⟨n, t, os, h1, h2, h3⟩
  · rw [h]; simp
  · rw [h3]
    have e1 := congrArg List.length (vu_ru h1).1
    have e2 := congrArg List.length (rdOps_back n h2).1
    have := encOps_ge os
    simp only [List.length_append] at e1 e2
    dsimp only
    omega
end Go.Proofs.YtehheokalgmbgaaDoor
/-
  The statements of chapter 12: BatchBack.
-/
namespace Go.Proofs.YtehheokalgmbgaaDoor
open Go Go.RowKit
theorem Ev_sliceStrTo_t {P : Program} {W : World} {n : Nat} {E : Env} {H : List SP} {t : TypeId} {x z : Operand} {l r : List UInt8} {j : Int} {kj : IntKind} (hx : Env.ev E x = some (strV l)) (hz : Env.ev E z = some (.int kj j)) [hu : UIs P t .string] (hb : 0 ≤ j ∧ j ≤ l.length) (h : l.take j.toNat = r) : Ev P W n E H (.slice t x none (some z) none) (strV r) := by subst h; exact Ev_sliceStrTo (hu := hu) hx hz hb
theorem lastOf_from {l : List BOp} {k : List UInt8} {x : BOp} (h : lastOf l k = some x) : ∃ o ∈ l, x = o.nrm := by
  induction l with
  | nil => cases h
  | cons o r ih =>
    rw [lastOf] at h
    cases e : lastOf r k with
    | some y => rw [e] at h; cases h; obtain ⟨o', h1, h2⟩ := ih e; exact ⟨o', List.mem_cons_of_mem _ h1, h2⟩
    | none =>
      rw [e, Option.none_or] at h
      split at h
      · cases h; exact ⟨o, List.mem_cons_self .., rfl⟩
      · cases h
theorem normD_from {l : List BOp} {x : BOp} (h : x ∈ normD l) : ∃ o ∈ l, x = o.nrm := lastOf_from ((normD_mem l x).1 h)
theorem normD_short {B : Nat} {l : List BOp} (h : ShortO B l) : ShortO B (normD l) := fun i x hx => by
  obtain ⟨o, ho, rfl⟩ := normD_from (List.mem_of_getElem? hx)
  obtain ⟨j, hj⟩ := List.mem_iff_getElem?.1 ho
  obtain ⟨h1, h2⟩ := h j o hj
  refine ⟨h1, ?_⟩
  unfold BOp.nrm
  cases o.del <;> simp <;> omega
theorem encode_norm (l : List BOp) : encode (normD l) = (encAll (normD l), 0) :=
  encode_ok (risesB_iff.2 (normD_rising l)) fun _ _ ho _ => formB_iff.2 (normD_nrm (List.mem_of_getElem? ho))
theorem decode_norm {B : Nat} {l : List BOp} (h : ShortO B l) (hB : B ≤ 2147483647) (hl : (normD l).length < 2 ^ 64) (t : List UInt8) : decode (encAll (normD l) ++ t) = if t = [] then (normD l, 0) else ([], 5) :=
  decode_enc t (normD_rising l) (fun o ho => ⟨normD_nrm ho, by
    obtain ⟨i, hi⟩ := List.mem_iff_getElem?.1 ho
    have := normD_short h i o hi
    exact ⟨by omega, by omega⟩⟩) hl
theorem decode_nil {s : List UInt8} (h : (decode s).2 ≠ 0) : (decode s).1 = [] := by
  rcases decode_cases s with q | ⟨n, t, os, -, -, h3⟩
  · exact q.2
  · rw [h3] at h; exact absurd rfl h
section
variable {W : World} {F : Nat → Addr}
set_option maxHeartbeats 4000000 in
set_option maxRecDepth 100000 in
theorem back12_ct (v : Value) (ops : List BOp) (cut : Int) (more : List UInt8) (hv : LsAt W opC 3 v ops) (hl : ops.length ≤ 1048576) (hs : ShortO 1048576 ops) (hm : more.length ≤ 1048576) (hE : ErrsOn L37 W F) : Ct Tryd.prog W 6 [v, .int .i64 cut, strV more] [] (fun _ : Unit => .bool true) (fun _ => []) := by
  obtain ⟨a, c, rfl, -⟩ := id hv
  have hL := Lv.old enc_op hv
  have cl := lives12_ct (W := W)
  have hnl := normD_len ops
  have hsn := normD_short hs
  have hen := encAll_le hsn
  have hpos : 1 ≤ (encAll (normD ops)).length := by have := encTo_pos (normD ops) (normD ops).length; rwa [encTo_all] at this
  have hdn := decode_norm (l := ops) (B := 1048576) hs (by omega) (by omega)
  have hcut := fun c hc => decode_cut (s := encAll (normD ops)) (os := normD ops) (by have := hdn []; rwa [List.append_nil, if_pos rfl] at this) (c := c) hc
  have cN : ∀ xa ca, Ct Tryd.prog W 12 [.slice xa ([] ++ ops).length ca] [lsP opC 29 3 (.slice xa ([] ++ ops).length ca) ([] ++ ops)] (fun x : Option Addr × Nat => .slice x.1 (normD ops).length x.2) (fun x => [lsP opC 29 3 (.slice xa ([] ++ ops).length ca) ([] ++ ops), lsP opC 29 3 (.slice x.1 (normD ops).length x.2) (normD ops)]) := fun xa ca =>
    bnormal_ct (W := W) _ xa ca ([] ++ ops) (Lv.own (e := 29) (c := ca) enc_op rfl) (by rw [List.nil_append]; omega)
  have cE : ∀ xa ca, Ct Tryd.prog W 16 [.slice xa (normD ops).length ca] [lsP opC 29 3 (.slice xa (normD ops).length ca) (normD ops)] (fun _ : Unit => .tuple #[strV (encAll (normD ops)), .nilIface]) (fun _ => [lsP opC 29 3 (.slice xa (normD ops).length ca) (normD ops)]) := fun xa ca => by
    have := bencode_ct (W := W) (F := F) _ xa ca (normD ops) (Lv.own (e := 29) (c := ca) enc_op rfl) (by omega) (by omega) (fun h => by rw [encode_norm] at h; cases h) (fun h => by rw [encode_norm] at h; cases h)
    rw [encode_norm] at this
    exact this
  obtain ⟨S, hS⟩ : ∃ S, S = encAll (normD ops) := ⟨_, rfl⟩
  obtain ⟨N, hN⟩ : ∃ N, N = normD ops := ⟨_, rfl⟩
  rw [← hS] at hdn hcut hpos hen cE
  rw [← hN] at hdn hnl hen cN cE
  have cD := bdecode_ct (W := W) (F := F) S (by omega) hE
  rw [show decode S = (N, 0) by have := hdn []; rwa [List.append_nil, if_pos rfl] at this] at cD
  have cS : ∀ (xa xb : Option Addr) (ca cb : Nat), Ct Tryd.prog W 14 [.slice xa N.length ca, .slice xb N.length cb] [lsP opC 29 3 (.slice xa N.length ca) N, lsP opC 29 3 (.slice xb N.length cb) N] (fun _ : Unit => .bool true) (fun _ => [lsP opC 29 3 (.slice xa N.length ca) N, lsP opC 29 3 (.slice xb N.length cb) N]) := fun xa xb ca cb => by
    have := same_ct (W := W) _ _ xa xb ca cb N N (Lv.own (e := 29) (c := ca) enc_op rfl) (Lv.own (e := 29) (c := cb) enc_op rfl) (by omega)
    rw [decide_eq_true (rfl : N = N)] at this
    exact this
  obtain ⟨u, hu⟩ : ∃ u : Nat, IntKind.u64.wrap cut = ((u : Nat) : Int) := by
    have e : IntKind.u64.wrap cut = cut % 18446744073709551616 := rfl
    exact ⟨(cut % 18446744073709551616).toNat, by rw [e]; omega⟩
  have hsl : IntKind.u64.wrap ((S.length : Nat) : Int) = ((S.length : Nat) : Int) := u64_wrap _ (by omega)
  obtain ⟨k, hk⟩ : ∃ k, k = u % S.length := ⟨_, rfl⟩
  have hkl : k < S.length := by rw [hk]; exact Nat.mod_lt _ (by omega)
  have hrem : ((u : Nat) : Int) % ((S.length : Nat) : Int) = ((k : Nat) : Int) := by rw [hk]; rfl
  have hki : IntKind.i64.wrap ((k : Nat) : Int) = ((k : Nat) : Int) := by
    simp only [IntKind.wrap, IntKind.signed, IntKind.bits]
    simp
    omega
  have cC := bdecode_ct (W := W) (F := F) (S.take k) (by rw [List.length_take]; omega) hE
  obtain ⟨hc1, hc2⟩ := hcut k hkl
  obtain ⟨e1, he1⟩ : ∃ e, e = (decode (S.take k)).2 := ⟨_, rfl⟩
  rw [hc2, ← he1] at cC
  rw [← he1] at hc1
  have hne1 := errNe (F := F) hc1
  have htk : S.take (Int.toNat ((k : Nat) : Int)) = S.take k := by rw [Int.toNat_natCast]
  have cO := bdecode_ct (W := W) (F := F) more (by omega) hE
  have cM5 := num_ct (W := W) hE 5 (by omega)
  have hb0 : (([] : List BOp).length + ops.length) * 40 ≤ 140737488355328 := by simp; omega
  have hb1 : ([] : List BOp).length + ops.length ≤ 9223372036854775807 := by simp; omega
  have q0 : decide (((S.length : Nat) : Int) = 0) = false := decide_eq_false (by omega)
  refine Ct.enter Tryd.func6 rfl Tryd.ntmps6 (by simp) (fun R => ?_)
  refine KJ.noP ?_
  refine KJ.lvOpen hL xS (fun b0 o0 ha0 => ?_)
  repeat' (first 
    | (refine at_seq_region (id := 4) ?_; refine hold ?_)
    | (refine is_call ?_; first | (refine KJ_call xE (cN _ _) xP rfl (fun x => ?_); obtain ⟨xn, cn⟩ := x) | (refine KJ_call xE cl xP rfl (fun _ => ?_)))
    | (refine is_append ?_; refine KJ_appAll (l := ([] : List BOp)) (l2 := ops) enc_op rfl rfl rfl rfl xS (Src.lv hL ha0 xS) hb0 hb1 rfl (fun a1 c1 => ?_))
    | (refine is_bslice ?_; refine KJ_bslice0 rfl (fun g0 => ?_))
    | refine xst ?_
    | (refine xsa ?_; intro _)
    | (refine xsb ?_ ?_ <;> intro _ <;> first | (exfalso; omega) | skip)
    | refine xsc ?_
    | fail)
  refine Hold.mk ?_
  repeat' (first 
    | (refine at_seq_region (id := 8) ?_; refine hold ?_)
    | (refine is_call ?_; first | (refine KJ_call xE cD xP rfl (fun x => ?_); obtain ⟨xb, cb⟩ := x) | (refine KJ_call xE (cE xn cn) xP rfl (fun _ => ?_)))
    | (refine ek_eql ?_; refine EK_ev (Ev_eqlI_q rfl rfl q0) ?_)
    | refine xst ?_
    | (refine xsa ?_; intro _)
    | (refine xsb ?_ ?_ <;> intro _ <;> first | (exfalso; omega) | skip)
    | refine xsc ?_
    | fail)
  refine Hold.mk ?_
  repeat' (first 
    | (refine at_seq_region (id := 14) ?_; refine hold ?_)
    | (refine is_call ?_; first | (refine KJ_call xE cC xP rfl (fun x => ?_); obtain ⟨xc, cc⟩ := x) | (refine KJ_call xE (cS xb xn cb cn) xP rfl (fun _ => ?_)))
    | (refine ek_conv ?_; first | refine EK_ev (Ev_convI_v rfl hki) ?_ | refine EK_ev (Ev_convI_v rfl hsl) ?_ | refine EK_ev (Ev_convI_v rfl hu) ?_)
    | (refine ek_slice ?_; refine EK_ev (Ev_sliceStrTo_t rfl rfl (by omega) htk) ?_)
    | (refine ek_rem ?_; refine EK_ev (Ev_rem_w rfl rfl (by omega) hrem) ?_)
    | (refine ek_eql ?_; refine EK_ev (Ev_eqlNil rfl hne1) ?_)
    | (refine ek_neq ?_; refine EK_ev (Ev_neqI_f rfl rfl rfl) ?_)
    | refine xst ?_
    | (refine xsa ?_; intro _)
    | (refine xsb ?_ ?_ <;> intro _ <;> first | (exfalso; omega) | skip)
    | refine xsc ?_
    | fail)
  refine Hold.mk ?_
  have hmc : (more = [] ∨ more ≠ []) := by by_cases h : more = [] <;> simp [h]
  have cA := bdecode_ct (W := W) (F := F) (S ++ more) (by rw [List.length_append]; omega) hE
  by_cases hz : (decode more).2 = 0
  · have hde : decode more = ((decode more).1, 0) := by rw [← hz]
    obtain ⟨D, hD⟩ : ∃ D, D = (decode more).1 := ⟨_, rfl⟩
    rw [← hD] at hde
    have hb := decode_back hde
    have hdl := decode_len more
    rw [← hD] at hdl
    have hmore : more = encAll D := by have h := hb; unfold encode at h; split at h; · cases h
                                       split at h; · cases h
                                       cases h; rfl
    rw [hde] at cO
    have cE2 : ∀ xa ca, Ct Tryd.prog W 16 [.slice xa D.length ca] [lsP opC 29 3 (.slice xa D.length ca) D] (fun _ : Unit => .tuple #[strV more, .nilIface]) (fun _ => [lsP opC 29 3 (.slice xa D.length ca) D]) := fun xa ca => by
      have := bencode_ct (W := W) (F := F) _ xa ca D (Lv.own (e := 29) (c := ca) enc_op rfl) (by rw [← hmore]; omega) (by omega) (fun h => by rw [hb] at h; cases h) (fun h => by rw [hb] at h; cases h)
      rw [hb] at this
      exact this
    rcases hmc with hmo | hmo
    · have qm : decide (more ≠ []) = false := decide_eq_false (by simp [hmo])
      repeat' (first 
    | (refine at_seq_region (id := 18) ?_; refine hold ?_)
    | (refine ek_neq ?_; refine EK_ev (Ev_neqS_f rfl rfl hmo) ?_)
    | refine xst ?_
    | (refine xsa ?_; intro _)
    | (refine xsb ?_ ?_ <;> intro _ <;> first | (exfalso; omega) | skip)
    | refine xsc ?_
    | fail)
      refine Hold.mk ?_
      repeat' (first 
    | (refine is_call ?_; first | (refine KJ_call xE (cE2 _ _) xP rfl (fun _ => ?_)) | (refine KJ_call xE cO xP rfl (fun x => ?_); obtain ⟨xo, co⟩ := x))
    | (refine ek_eql ?_; refine EK_ev (Ev_eqlS_t rfl rfl rfl) ?_)
    | refine xst ?_
    | (refine xsa ?_; intro _)
    | (refine xsb ?_ ?_ <;> intro _ <;> first | (exfalso; omega) | skip)
    | refine xsc ?_
    | fail)
      all_goals (exact xdn ())
    · have h5 := hdn more
      rw [if_neg hmo] at h5
      rw [h5] at cA
      repeat' (first 
    | (refine at_seq_region (id := 18) ?_; refine hold ?_)
    | (refine is_call ?_; first | (refine KJ_call xE cM5 xP rfl (fun _ => ?_)) | (refine KJ_call xE cA xP rfl (fun x => ?_); obtain ⟨xd, cd⟩ := x))
    | (refine ek_add ?_; refine EK_ev (Ev_addS rfl rfl (by omega)) ?_)
    | (refine ek_neq ?_; first | refine EK_ev (Ev_neqI_f rfl rfl rfl) ?_ | refine EK_ev (Ev_neqS_t rfl rfl hmo) ?_)
    | refine xst ?_
    | (refine xsa ?_; intro _)
    | (refine xsb ?_ ?_ <;> intro _ <;> first | (exfalso; omega) | skip)
    | refine xsc ?_
    | fail)
      refine Hold.mk ?_
      repeat' (first 
    | (refine is_call ?_; first | (refine KJ_call xE (cE2 _ _) xP rfl (fun _ => ?_)) | (refine KJ_call xE cO xP rfl (fun x => ?_); obtain ⟨xo, co⟩ := x))
    | (refine ek_eql ?_; refine EK_ev (Ev_eqlS_t rfl rfl rfl) ?_)
    | refine xst ?_
    | (refine xsa ?_; intro _)
    | (refine xsb ?_ ?_ <;> intro _ <;> first | (exfalso; omega) | skip)
    | refine xsc ?_
    | fail)
      all_goals (exact xdn ())
  · have hdn2 := decode_nil hz
    have hne2 := errNe (F := F) hz
    obtain ⟨e2, he2⟩ : ∃ e, e = (decode more).2 := ⟨_, rfl⟩
    rw [hdn2, ← he2] at cO
    rw [← he2] at hne2
    rcases hmc with hmo | hmo
    · have qm : decide (more ≠ []) = false := decide_eq_false (by simp [hmo])
      repeat' (first 
    | (refine at_seq_region (id := 18) ?_; refine hold ?_)
    | (refine ek_neq ?_; refine EK_ev (Ev_neqS_f rfl rfl hmo) ?_)
    | refine xst ?_
    | (refine xsa ?_; intro _)
    | (refine xsb ?_ ?_ <;> intro _ <;> first | (exfalso; omega) | skip)
    | refine xsc ?_
    | fail)
      refine Hold.mk ?_
      repeat' (first 
    | (refine is_call ?_; refine KJ_call xE cO xP rfl (fun x => ?_); obtain ⟨xo, co⟩ := x)
    | (refine ek_eql ?_; refine EK_ev (Ev_eqlI_t rfl rfl rfl) ?_)
    | (refine ek_neq ?_; refine EK_ev (Ev_neqNil rfl hne2) ?_)
    | refine xst ?_
    | (refine xsa ?_; intro _)
    | (refine xsb ?_ ?_ <;> intro _ <;> first | (exfalso; omega) | skip)
    | refine xsc ?_
    | fail)
      all_goals (exact xdn ())
    · have h5 := hdn more
      rw [if_neg hmo] at h5
      rw [h5] at cA
      repeat' (first 
    | (refine at_seq_region (id := 18) ?_; refine hold ?_)
    | (refine is_call ?_; first | (refine KJ_call xE cM5 xP rfl (fun _ => ?_)) | (refine KJ_call xE cA xP rfl (fun x => ?_); obtain ⟨xd, cd⟩ := x))
    | (refine ek_add ?_; refine EK_ev (Ev_addS rfl rfl (by omega)) ?_)
    | (refine ek_neq ?_; first | refine EK_ev (Ev_neqI_f rfl rfl rfl) ?_ | refine EK_ev (Ev_neqS_t rfl rfl hmo) ?_)
    | refine xst ?_
    | (refine xsa ?_; intro _)
    | (refine xsb ?_ ?_ <;> intro _ <;> first | (exfalso; omega) | skip)
    | refine xsc ?_
    | fail)
      refine Hold.mk ?_
      repeat' (first 
    | (refine is_call ?_; refine KJ_call xE cO xP rfl (fun x => ?_); obtain ⟨xo, co⟩ := x)
    | (refine ek_eql ?_; refine EK_ev (Ev_eqlI_t rfl rfl rfl) ?_)
    | (refine ek_neq ?_; refine EK_ev (Ev_neqNil rfl hne2) ?_)
    | refine xst ?_
    | (refine xsa ?_; intro _)
    | (refine xsb ?_ ?_ <;> intro _ <;> first | (exfalso; omega) | skip)
    | refine xsc ?_
    | fail)
      all_goals (exact xdn ())
end
end Go.Proofs.YtehheokalgmbgaaDoor
