/-
  BaL2.
-/
import Derived.Test.YtehheokalgmbgaaDoorDBO
/-
  The statements of chapter 12: the fixed facts; BatchNormals.
-/
namespace Go.Proofs.YtehheokalgmbgaaDoor
open Go Go.RowKit
def livE : List BOp := [⟨false, [97], [50]⟩, ⟨true, [98], []⟩]
def livN : List BOp := [⟨false, [98], [49]⟩, ⟨true, [98], [120]⟩, ⟨false, [97], []⟩]
theorem livE_enc : encode livE = ([2, 0, 1, 97, 1, 50, 1, 1, 98], 0) := by decide +kernel
theorem livN_norm : normD livN = [⟨false, [97], []⟩, ⟨true, [98], []⟩] := by decide +kernel
section
variable {W : World}
set_option maxHeartbeats 1000000 in
theorem lives12_ct : Ct Tryd.prog W 10 [] [] (fun _ : Unit => .bool true) (fun _ => []) := by
  have cE : ∀ g, Ct Tryd.prog W 16 [.slice (some ⟨g, 0, none⟩) 2 2] [cellsP g [.bool false, strV [97], strV [50], .bool true, strV [98], strV []] 29] (fun _ : Unit => .tuple #[strV [2, 0, 1, 97, 1, 50, 1, 1, 98], .nilIface]) (fun _ => [cellsP g [.bool false, strV [97], strV [50], .bool true, strV [98], strV []] 29]) := fun g => by
    have := bencode_ct (W := W) (F := fun _ => default) (cellsP g [.bool false, strV [97], strV [50], .bool true, strV [98], strV []] 29) (some ⟨g, 0, none⟩) 2 livE (Lv.cells rfl) (by decide +kernel) (by decide) (fun h => by rw [livE_enc] at h; cases h) (fun h => by rw [livE_enc] at h; cases h)
    rw [livE_enc] at this
    exact this
  have cN : ∀ g, Ct Tryd.prog W 12 [.slice (some ⟨g, 0, none⟩) 3 3] [cellsP g [.bool false, strV [98], strV [49], .bool true, strV [98], strV [120], .bool false, strV [97], strV []] 29] (fun x : Option Addr × Nat => .slice x.1 2 x.2)
      (fun x => [cellsP g [.bool false, strV [98], strV [49], .bool true, strV [98], strV [120], .bool false, strV [97], strV []] 29, lsP opC 29 3 (.slice x.1 2 x.2) [⟨false, [97], []⟩, ⟨true, [98], []⟩]]) := fun g => by
    have := bnormal_ct (W := W) (cellsP g [.bool false, strV [98], strV [49], .bool true, strV [98], strV [120], .bool false, strV [97], strV []] 29) (some ⟨g, 0, none⟩) 3 livN (Lv.cells rfl) (by decide)
    rw [livN_norm] at this
    exact this
  have x0 : ([⟨false, [97], []⟩, ⟨true, [98], []⟩] : List BOp)[0]? = some ⟨false, [97], []⟩ := rfl
  have x1 : ([⟨false, [97], []⟩, ⟨true, [98], []⟩] : List BOp)[1]? = some ⟨true, [98], []⟩ := rfl
  have k0 : (opC ⟨false, [97], []⟩)[1]? = some (strV [97]) := rfl
  have o0 : 0 + Int.toNat 0 * 3 + 1 = 0 * 3 + 1 := rfl
  have o1 : 0 + Int.toNat 1 * 3 = 1 * 3 := rfl
  refine Ct.enter Tryd.func10 rfl Tryd.ntmps10 (by simp) (fun R => ?_)
  repeat' (first 
    | (refine is_call ?_; first | (refine KJ_call xE (cN gb) xP rfl (fun x => ?_); obtain ⟨xa, xc⟩ := x; refine KJ.lsSome xS (by decide) (fun gn hgn => ?_); dsimp only at hgn; subst hgn) | (refine KJ_call xE (cE ga) xP rfl (fun _ => ?_)))
    | (refine is_bslice ?_; first | (refine KJ_bsliceN (len := 3) (places := [(0, 3), (3, 3), (6, 3)]) (base := opC ⟨false, [], []⟩ ++ (opC ⟨false, [], []⟩ ++ opC ⟨false, [], []⟩)) xV (by rfl) (by rfl) xW (by omega) rfl (fun gb => ?_)) | (refine KJ_bsliceN (len := 2) (places := [(0, 3), (3, 3)]) (base := opC ⟨false, [], []⟩ ++ opC ⟨false, [], []⟩) xV (by rfl) (by rfl) xW (by omega) rfl (fun ga => ?_)))
    | (refine ek_load ?_; first | refine EK_ev (Ev_loadLs enc_op rfl xS rfl o1 x1) ?_ | refine EK_ev (Ev_loadLsF enc_op rfl xS rfl o0 x0 k0) ?_)
    | (refine ek_build ?_; refine EK_ev (Ev_build xV xW) ?_)
    | (refine ek_eql ?_; first | refine EK_ev (Ev_eqlSt rfl rfl (op_eqF ⟨true, [98], []⟩ ⟨true, [98], []⟩ Tryd.underlying29) rfl) ?_ | refine EK_ev (Ev_eqlS_t rfl rfl rfl) ?_ | refine EK_ev (Ev_eqlI_t rfl rfl rfl) ?_)
    | refine xst ?_
    | (refine xsa ?_; intro _)
    | (refine xsb ?_ ?_ <;> intro _ <;> first | (exfalso; omega) | skip)
    | refine xsc ?_
    | fail)
  all_goals (exact xdn ())
def moreO : BOp := ⟨false, [109, 111, 114, 101], []⟩
def kvO : BOp := ⟨false, [107], [118]⟩
theorem normD_rep (n : Nat) : normD (List.replicate (n + 1) kvO) = [kvO] := by
  induction n with
  | zero => decide +kernel
  | succ n ih =>
    rw [List.replicate_succ, normD, ih]
    rfl
theorem rep_next {L : List BOp} {i : Nat} (h : L.take i = List.replicate i kvO) (hi : i < L.length) : (L.set i kvO).take (i + 1) = List.replicate (i + 1) kvO := by
  have e : (L.set i kvO)[i]? = some kvO := by simp [hi]
  rw [List.take_add_one, e, List.take_set_of_le (Nat.le_refl i), h, List.replicate_succ']
  rfl
set_option maxHeartbeats 4000000 in
set_option maxRecDepth 100000 in
theorem normals12_ct (v : Value) (ops : List BOp) (hv : LsAt W opC 3 v ops) (hl : ops.length * 40 ≤ 140737488351232) : Ct Tryd.prog W 3 [v] [] (fun _ : Unit => .bool true) (fun _ => []) := by
  obtain ⟨a, c, rfl, -⟩ := id hv
  have hL := Lv.old enc_op hv
  have hnl := normD_len ops
  have hid := normD_idem ops
  obtain ⟨N, hN⟩ : ∃ N, N = normD ops := ⟨_, rfl⟩
  have cl := lives12_ct (W := W)
  have csp := spare_ct (W := W) noP a c ops hL (by omega)
  have cN : ∀ g cf, Ct Tryd.prog W 12 [.slice (some ⟨g, 0, none⟩) ops.length cf] [lsP opC 29 3 (.slice (some ⟨g, 0, none⟩) (spareL ops).length cf) (spareL ops)] (fun x : Option Addr × Nat => .slice x.1 N.length x.2)
      (fun x => [lsP opC 29 3 (.slice (some ⟨g, 0, none⟩) (spareL ops).length cf) (spareL ops), lsP opC 29 3 (.slice x.1 N.length x.2) N]) := fun g cf => by
    have hT := Lv.take (W := W) (enc := opC) (e := 29) (a := some ⟨g, 0, none⟩) (c := cf) (m := (spareL ops).length) (i := ops.length) (L := spareL ops) enc_op rfl
    rw [spareL_take] at hT
    have := bnormal_ct (W := W) _ (some ⟨g, 0, none⟩) cf ops hT (by omega)
    rw [← hN] at this
    exact this
  have cR := rnormal_ct (W := W) noP a c ops hL (by omega)
  rw [← hN] at cR hnl
  have hNl : N.length ≤ 4611686018427387904 := by omega
  have cS : ∀ (xa xb : Option Addr) (ca cb : Nat), Ct Tryd.prog W 14 [.slice xa N.length ca, .slice xb N.length cb] [lsP opC 29 3 (.slice xa N.length ca) N, lsP opC 29 3 (.slice xb N.length cb) N] (fun _ : Unit => .bool true) (fun _ => [lsP opC 29 3 (.slice xa N.length ca) N, lsP opC 29 3 (.slice xb N.length cb) N]) := fun xa xb ca cb => by
    have := same_ct (W := W) _ _ xa xb ca cb N N (Lv.own (e := 29) (c := ca) enc_op rfl) (Lv.own (e := 29) (c := cb) enc_op rfl) hNl
    rw [decide_eq_true (rfl : N = N)] at this
    exact this
  have cNN : ∀ (xa : Option Addr) (ca : Nat), Ct Tryd.prog W 12 [.slice xa N.length ca] [lsP opC 29 3 (.slice xa N.length ca) N] (fun x : Option Addr × Nat => .slice x.1 N.length x.2) (fun x => [lsP opC 29 3 (.slice xa N.length ca) N, lsP opC 29 3 (.slice x.1 N.length x.2) N]) := fun xa ca => by
    have := bnormal_ct (W := W) _ xa ca N (Lv.own (e := 29) (c := ca) enc_op rfl) (by omega)
    rw [hN, hid, ← hN] at this
    exact this
  clear hid
  have cK : ∀ g cf, (spareL ops).length ≤ cf → _ := fun g cf h => kept_ct (W := W) noP g a cf c ops h (by omega) hL
  have hsl := spareL_len ops
  refine Ct.enter Tryd.func3 rfl Tryd.ntmps3 (by simp) (fun R => ?_)
  refine KJ.noP ?_
  repeat' (first 
    | (refine at_seq_region (id := 4) ?_; refine hold ?_)
    | (refine is_call ?_; first | (refine KJ_call xE csp xP rfl (fun x => ?_); obtain ⟨g, cf⟩ := x; refine KJ.lsOpen xS (fun a3 c3 he hcf => ?_); cases he) | (refine KJ_call xE cl xP rfl (fun _ => ?_)))
    | refine xst ?_
    | (refine xsa ?_; intro _)
    | (refine xsb ?_ ?_ <;> intro _ <;> first | (exfalso; omega) | skip)
    | refine xsc ?_
    | fail)
  refine Hold.mk ?_
  have ck := cK g cf hcf
  have cn := cN g cf
  repeat' (first 
    | (refine at_seq_region (id := 5) ?_; refine hold ?_)
    | (refine is_call ?_; refine KJ_call xE cn xP rfl (fun x => ?_); obtain ⟨xa, ca⟩ := x)
    | refine xst ?_
    | (refine xsa ?_; intro _)
    | (refine xsb ?_ ?_ <;> intro _ <;> first | (exfalso; omega) | skip)
    | refine xsc ?_
    | fail)
  refine Hold.mk ?_
  repeat' (first 
    | (refine at_seq_region (id := 6) ?_; refine hold ?_)
    | (refine is_call ?_; refine KJ_call xE cn xP rfl (fun x => ?_); obtain ⟨xb, cb⟩ := x)
    | refine xst ?_
    | (refine xsa ?_; intro _)
    | (refine xsb ?_ ?_ <;> intro _ <;> first | (exfalso; omega) | skip)
    | refine xsc ?_
    | fail)
  refine Hold.mk ?_
  repeat' (first 
    | (refine at_seq_region (id := 7) ?_; refine hold ?_)
    | (refine is_call ?_; refine KJ_call xE cR xP rfl (fun x => ?_); obtain ⟨xw, cw⟩ := x)
    | refine xst ?_
    | (refine xsa ?_; intro _)
    | (refine xsb ?_ ?_ <;> intro _ <;> first | (exfalso; omega) | skip)
    | refine xsc ?_
    | fail)
  refine Hold.mk ?_
  repeat' (first 
    | (refine is_call ?_; first | (refine KJ_call xE (cS xa xw ca cw) xP rfl (fun _ => ?_)) | (refine KJ_call xE (cS xb xw cb cw) xP rfl (fun _ => ?_)) | (refine KJ_call xE (cS xn xw cn2 cw) xP rfl (fun _ => ?_)) | (refine KJ_call xE ck xP rfl (fun _ => ?_)) | (refine KJ_call xE (cNN xw cw) xP rfl (fun x => ?_); obtain ⟨xn, cn2⟩ := x))
    | refine xst ?_
    | (refine xsa ?_; intro _)
    | (refine xsb ?_ ?_ <;> intro _ <;> first | (exfalso; omega) | skip)
    | refine xsc ?_
    | fail)
  refine KJ_loop (fun x : {x : Nat × List BOp // x.1 ≤ N.length ∧ x.2.length = N.length} => [(0, .slice a ops.length c), (3, .slice (some ⟨g, 0, none⟩) ops.length cf), (4, .slice (some ⟨g, 0, none⟩) (spareL ops).length cf), (5, .slice xa N.length ca), (6, .slice xb N.length cb), (7, .slice xw N.length cw), (48, .int .i64 (N.length : Nat)), (49, .int .i64 (x.1.1 : Nat))])
    (fun x => [lsP opC 29 3 (.slice xa N.length ca) x.1.2, lsP opC 29 3 (.slice xb N.length cb) N, lsP opC 29 3 (.slice xw N.length cw) N, lsP opC 29 3 (.slice (some ⟨g, 0, none⟩) (spareL ops).length cf) (spareL ops), noP] ++ R) (fun x => N.length - x.1.1) ⟨(0, N), Nat.zero_le _, rfl⟩ xB (xN) (fun ⟨(i, L), hi, hLl⟩ => ?_)
  dsimp only at hi hLl ⊢
  by_cases hlt : i < N.length
  · have ql : decide ((i : Int) < (N.length : Nat)) = true := decide_eq_true (by omega)
    obtain ⟨o, ho⟩ : ∃ s, L[i]? = some s := ⟨_, List.getElem?_eq_getElem (by omega)⟩
    refine KJ.lsSome (a := xa) xS (by omega) (fun ga hga => ?_)
    subst hga
    have hoff : 0 + Int.toNat (i : Int) * 3 + 1 = i * 3 + 1 := by rw [Int.toNat_natCast]; omega
    obtain ⟨del, key, val⟩ := o
    have he : opC ⟨del, [115, 112, 111, 105, 108, 116], val⟩ = (opC ⟨del, key, val⟩).set 1 (strV [115, 112, 111, 105, 108, 116]) := rfl
    repeat' (first 
    | (refine is_store ?_; refine KJ_storeLsF enc_op rfl rfl xS hLl.symm hoff ho (by omega) he xF xO ?_)
    | (refine ek_add ?_; refine EK_ev (Ev_addI_v (r := ((i + 1 : Nat) : Int)) rfl rfl (by omega) (by omega)) ?_)
    | (refine ek_lss ?_; refine EK_ev (Ev_lssI_q rfl rfl ql) ?_)
    | refine xst ?_
    | (refine xsa ?_; intro _)
    | (refine xsb ?_ ?_ <;> intro _ <;> first | (exfalso; omega) | skip)
    | refine xsc ?_
    | fail)
    all_goals refine KJ_again ⟨(i + 1, L.set i ⟨del, [115, 112, 111, 105, 108, 116], val⟩), hlt, by dsimp only; rw [List.length_set]; exact hLl⟩ (by show N.length - (i + 1) < N.length - i; omega) xB (xN)
  have ql : decide ((i : Int) < (N.length : Nat)) = false := decide_eq_false (by omega)
  have b1 : (L.length + 1) * 40 ≤ 140737488355328 := by omega
  have b2 : L.length + 1 ≤ 9223372036854775807 := by omega
  have hm1 : (L ++ [moreO]).length = N.length + 1 := by simp [hLl]
  have hsub : (((L ++ [moreO]).length : Nat) : Int) - 1 = ((N.length : Nat) : Int) := by rw [hm1]; omega
  have hx : (L ++ [moreO])[N.length]? = some moreO := by rw [← hLl]; simp
  have kx : (opC moreO)[1]? = some (strV [109, 111, 114, 101]) := rfl
  have hox : 0 + Int.toNat ((N.length : Nat) : Int) * 3 + 1 = N.length * 3 + 1 := by rw [Int.toNat_natCast]; omega
  repeat' (first 
    | (refine is_call ?_; first | (refine KJ_call xE (cS xb xw cb cw) xP rfl (fun _ => ?_)) | (refine KJ_call xE ck xP rfl (fun _ => ?_)))
    | (refine is_append ?_; refine KJ_appOne (a := moreO) enc_op rfl rfl rfl xS xS b1 b2 rfl (fun g' c' => ?_))
    | (refine is_bslice ?_; refine KJ_bslice1 rfl xF (by rfl) (by omega) rfl (fun gb => ?_))
    | (refine ek_load ?_; refine EK_ev (Ev_loadLsF enc_op rfl xS rfl hox hx kx) ?_)
    | (refine ek_build ?_; refine EK_ev (Ev_build xV xW) ?_)
    | (refine ek_sub ?_; refine EK_ev (Ev_subI_v (r := ((N.length : Nat) : Int)) rfl rfl hsub (by omega)) ?_)
    | (refine ek_neq ?_; refine EK_ev (Ev_neqS_f rfl rfl rfl) ?_)
    | (refine ek_lss ?_; refine EK_ev (Ev_lssI_q rfl rfl ql) ?_)
    | refine xst ?_
    | (refine xsa ?_; intro _)
    | (refine xsb ?_ ?_ <;> intro _ <;> first | (exfalso; omega) | skip)
    | refine xsc ?_
    | fail)
  refine KJ_loop (fun x : {x : Nat × List BOp // x.1 ≤ ops.length ∧ x.2.length = (spareL ops).length ∧ x.2.take x.1 = List.replicate x.1 kvO} => [(3, .slice (some ⟨g, 0, none⟩) ops.length cf), (6, .slice xb N.length cb), (7, .slice xw N.length cw), (82, .int .i64 (ops.length : Nat)), (83, .int .i64 (x.1.1 : Nat))])
    (fun x => [lsP opC 29 3 (.slice (some ⟨g, 0, none⟩) (spareL ops).length cf) x.1.2, lsP opC 29 3 (.slice xb N.length cb) N, lsP opC 29 3 (.slice xw N.length cw) N] ++ R) (fun x => ops.length - x.1.1) ⟨(0, spareL ops), Nat.zero_le _, rfl, rfl⟩ xB (xN) (fun ⟨(j, M), hj, hMl, hMt⟩ => ?_)
  dsimp only at hj hMl hMt ⊢
  by_cases hlt2 : j < ops.length
  · have q2 : decide ((j : Int) < (ops.length : Nat)) = true := decide_eq_true (by omega)
    have hoff : 0 + Int.toNat (j : Int) * 3 = j * 3 := by rw [Int.toNat_natCast]; omega
    have hjM : j < M.length := by omega
    repeat' (first 
    | (refine is_store ?_; refine KJ_storeLs (a := kvO) enc_op rfl rfl xS hMl.symm hoff hjM ?_)
    | (refine ek_build ?_; refine EK_ev (Ev_build xV xW) ?_)
    | (refine ek_add ?_; refine EK_ev (Ev_addI_v (r := ((j + 1 : Nat) : Int)) rfl rfl (by omega) (by omega)) ?_)
    | (refine ek_lss ?_; refine EK_ev (Ev_lssI_q rfl rfl q2) ?_)
    | refine xst ?_
    | (refine xsa ?_; intro _)
    | (refine xsb ?_ ?_ <;> intro _ <;> first | (exfalso; omega) | skip)
    | refine xsc ?_
    | fail)
    all_goals refine KJ_again ⟨(j + 1, M.set j kvO), hlt2, by dsimp only; rw [List.length_set]; exact hMl, rep_next hMt hjM⟩ (by show ops.length - (j + 1) < ops.length - j; omega) xB (xN)
  have q2 : decide ((j : Int) < (ops.length : Nat)) = false := decide_eq_false (by omega)
  obtain rfl : j = ops.length := by omega
  have hT := Lv.take (W := W) (enc := opC) (e := 29) (a := some ⟨g, 0, none⟩) (c := cf) (m := (spareL ops).length) (i := ops.length) (L := M) enc_op hMl.symm
  rw [hMt] at hT
  have cM := bnormal_ct (W := W) _ (some ⟨g, 0, none⟩) cf _ hT (by rw [List.length_replicate]; omega)
  rw [List.length_replicate] at cM
  by_cases hz : ops.length = 0
  · have q3 : decide (((ops.length : Nat) : Int) = 0) = true := decide_eq_true (by omega)
    have e0 : normD (List.replicate ops.length kvO) = [] := by rw [hz]; rfl
    rw [e0] at cM
    repeat' (first 
    | (refine is_call ?_; first | (refine KJ_call xE (cS xb xw cb cw) xP rfl (fun _ => ?_)) | (refine KJ_call xE cM xP rfl (fun x => ?_)))
    | (refine ek_eql ?_; first | refine EK_ev (Ev_eqlI_q rfl rfl q3) ?_ | refine EK_ev (Ev_eqlI_t rfl rfl rfl) ?_)
    | (refine ek_lss ?_; refine EK_ev (Ev_lssI_q rfl rfl q2) ?_)
    | refine xst ?_
    | (refine xsa ?_; intro _)
    | (refine xsb ?_ ?_ <;> intro _ <;> first | (exfalso; omega) | skip)
    | refine xsc ?_
    | fail)
    all_goals (exact xdn ())
  · have q3 : decide (((ops.length : Nat) : Int) = 0) = false := decide_eq_false (by omega)
    have q4 : decide ((0 : Int) < (ops.length : Nat)) = true := decide_eq_true (by omega)
    have e0 : normD (List.replicate ops.length kvO) = [kvO] := by
      obtain ⟨k, hk⟩ : ∃ k, ops.length = k + 1 := ⟨ops.length - 1, by omega⟩
      rw [hk, normD_rep]
    rw [e0] at cM
    have cS2 : ∀ (xc : Option Addr) (cc gk : Nat), Ct Tryd.prog W 14 [.slice xc 1 cc, .slice (some ⟨gk, 0, none⟩) 1 1] [lsP opC 29 3 (.slice xc 1 cc) [kvO], cellsP gk [.bool false, strV [107], strV [118]] 29] (fun _ : Unit => .bool true) (fun _ => [lsP opC 29 3 (.slice xc 1 cc) [kvO], cellsP gk [.bool false, strV [107], strV [118]] 29]) := fun xc cc gk => by
      have := same_ct (W := W) _ (cellsP gk [.bool false, strV [107], strV [118]] 29) xc (some ⟨gk, 0, none⟩) cc 1 [kvO] [kvO] (Lv.own (e := 29) (c := cc) (m := 1) enc_op rfl) (Lv.cells rfl) (by decide)
      rw [decide_eq_true (rfl : [kvO] = [kvO])] at this
      exact this
    repeat' (first 
    | (refine is_call ?_; first | (refine KJ_call xE (cS xb xw cb cw) xP rfl (fun _ => ?_)) | (refine KJ_call xE (cS2 xc cc gk) xP rfl (fun _ => ?_)) | (refine KJ_call xE cM xP rfl (fun x => ?_); obtain ⟨xc, cc⟩ := x))
    | (refine is_bslice ?_; refine KJ_bslice1 rfl xF (by rfl) (by omega) rfl (fun gk => ?_))
    | (refine ek_build ?_; refine EK_ev (Ev_build xV xW) ?_)
    | (refine ek_eql ?_; refine EK_ev (Ev_eqlI_q rfl rfl q3) ?_)
    | (refine ek_lss ?_; refine EK_ev (Ev_lssI_q rfl rfl q2) ?_)
    | (refine ek_gtr ?_; refine EK_ev (Ev_gtrI_q rfl rfl q4) ?_)
    | refine xst ?_
    | (refine xsa ?_; intro _)
    | (refine xsb ?_ ?_ <;> intro _ <;> first | (exfalso; omega) | skip)
    | refine xsc ?_
    | fail)
    all_goals (exact xdn ())
end
end Go.Proofs.YtehheokalgmbgaaDoor
