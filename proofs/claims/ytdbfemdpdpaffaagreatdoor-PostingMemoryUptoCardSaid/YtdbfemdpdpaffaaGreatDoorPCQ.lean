/-
  PoL1, PoL2.
-/
import Derived.Test.YtdbfemdpdpaffaaGreatDoorPCO
import Derived.Test.YtdbfemdpdpaffaaGreatDoorPBL
/-
  The helpers of chapter 16's laws: sameLegs, alike, copied, deposit.
-/
namespace Go.Proofs.YtdbfemdpdpaffaaGreatDoor
open Go Go.RowKit Go.MapKept
instance stLeg : StIs Tryz.prog 55 := ⟨by kernel_rfl, by kernel_rfl⟩
instance : Inhabited Leg := ⟨⟨[], 0⟩⟩
theorem leg_eqF (x y : Leg) {fs : Array Field} (hu : Tryz.prog.underlying 55 = some (.struct fs)) : EqF Tryz.prog (legC x) (legC y) fs.toList (decide (x = y)) := by
  have e := Tryz.underlying55.symm.trans hu
  simp only [Option.some.injEq, TypeDesc.struct.injEq] at e
  subst e
  have e2 : decide (x = y) = (decide (x.acc = y.acc) && (decide (x.amt = y.amt) && true)) := by
    rw [Bool.eq_iff_iff]
    cases x; cases y
    simp
  rw [e2]
  refine EqF.cons rfl inferInstance rfl rfl ?_ (EqF.cons rfl inferInstance rfl rfl ?_ EqF.nil)
  all_goals (unfold cellEq; simp)
theorem take_nextL {α : Type} {l r : List α} {i : Nat} {x y : α} (hx : l[i]? = some x) (hy : r[i]? = some y) (h : l.take i = r.take i) (e : x = y) : l.take (i + 1) = r.take (i + 1) := by
  rw [List.take_add_one, List.take_add_one, hx, hy, h, e]
section
variable {W : World} {F : Nat → Addr}
/-- a list in old memory can be read whatever is owned -/
theorem Lv.any {A : SP} {a : Option Addr} {l : List Leg} (h : Lv W legC 2 noP a l) : Lv W legC 2 A a l :=
  ⟨fun w H _ _ s hne => h.go w (noP :: H) H Sel.here (s.mono noP_star) hne⟩
theorem Lv.bagL {A B : SP} {k : Nat} {a : Option Addr} {l : List Leg} (h : Lv W legC 2 A a l) : Lv W legC 2 (bagP k [A, B]) a l :=
  ⟨fun w _ R hs s hne => h.go w (A :: B :: R) (B :: R) Sel.here ((s.perm hs.perm).mono fun _ q => bag_open (L := [A, B]) q) hne⟩
theorem Lv.bagR {A B : SP} {k : Nat} {a : Option Addr} {l : List Leg} (h : Lv W legC 2 B a l) : Lv W legC 2 (bagP k [A, B]) a l :=
  ⟨fun w _ R hs s hne => h.go w (A :: B :: R) (A :: R) (Sel.there Sel.here) ((s.perm hs.perm).mono fun _ q => bag_open (L := [A, B]) q) hne⟩
theorem psame2_ct (A B : SP) (a b : Option Addr) (c d : Nat) (p q : Pst) (hA : Lv W legC 2 A a p.legs) (hB : Lv W legC 2 B b q.legs) (hp : p.legs.length ≤ 4611686018427387904) :
    Ct Tryz.prog W 22 [.agg (pstC p a c).toArray, .agg (pstC q b d).toArray] [A, B] (fun _ : Unit => .bool (sameP p q)) (fun _ => [A, B]) :=
  (psame_ct (bagP 70 [A, B]) a b c d p q hA.bagL hB.bagR hp).mapX (fun _ _ q => bag_shut (L := [A, B]) q) id (fun _ => rfl) (fun _ _ _ q => bag_open (L := [A, B]) q)
set_option maxHeartbeats 1000000 in
theorem samelegs_ct (A B : SP) (a b : Option Addr) (c d : Nat) (l r : List Leg) (hA : Lv W legC 2 A a l) (hB : Lv W legC 2 B b r) (h1 : l.length ≤ 4611686018427387904) :
    Ct Tryz.prog W 25 [.slice a l.length c, .slice b r.length d] [A, B] (fun _ : Unit => .bool (decide (l = r))) (fun _ => [A, B]) := by
  by_cases hl : l.length = r.length
  rotate_left
  · have q : ((l.length : Nat) : Int) ≠ (r.length : Nat) := by omega
    have e : decide (l = r) = false := decide_eq_false (fun h => hl (by rw [h]))
    rw [e]
    refine Ct.enter Tryz.func25 rfl Tryz.ntmps25 (by simp) (fun R => ?_)
    repeat' (first 
    | (refine ek_neq ?_; refine EK_ev (Ev_neqI_t rfl rfl q) ?_)
    | refine xst ?_
    | (refine xsa ?_; intro _)
    | (refine xsb ?_ ?_ <;> intro _ <;> first | (exfalso; omega) | skip)
    | refine xsc ?_
    | (refine KJ_draws (id := 6) (.op 0 (.op 1 (.op 2 (.op 3 (.op 4 (.op 5 (.op 6 (.op 7 (.op 8 .nil))))))))) (by kernel_rfl) (by kernel_rfl) ?_)
    | refine FW_alt ?_ ?_
    | refine FW_efn rfl rfl rfl rfl rfl ?_ ?_
    | refine KJ_flow ?_ ?_
    | exact Rech.nil
    | fail)
    all_goals (exact xdn ())
  have q : ((l.length : Nat) : Int) = (r.length : Nat) := by omega
  refine Ct.enter Tryz.func25 rfl Tryz.ntmps25 (by simp) (fun R => ?_)
  repeat' (first 
    | (refine ek_neq ?_; refine EK_ev (Ev_neqI_f rfl rfl q) ?_)
    | refine xst ?_
    | (refine xsa ?_; intro _)
    | (refine xsb ?_ ?_ <;> intro _ <;> first | (exfalso; omega) | skip)
    | refine xsc ?_
    | (refine KJ_draws (id := 6) (.op 0 (.op 1 (.op 2 (.op 3 (.op 4 (.op 5 (.op 6 (.op 7 (.op 8 .nil))))))))) (by kernel_rfl) (by kernel_rfl) ?_)
    | refine FW_alt ?_ ?_
    | refine FW_efn rfl rfl rfl rfl rfl ?_ ?_
    | refine KJ_flow ?_ ?_
    | exact Rech.nil
    | fail)
  refine KJ_loop (fun i : {i : Nat // i ≤ l.length ∧ l.take i = r.take i} => [(0, .slice a l.length c), (1, .slice b r.length d), (12, .int .i64 (l.length : Nat)), (13, .int .i64 (i.1 : Nat))])
    (fun _ => [A, B] ++ R) (fun i => l.length - i.1) ⟨0, Nat.zero_le _, rfl⟩ xB (xN) (fun ⟨i, hi, ht⟩ => ?_)
  dsimp only
  by_cases hlt : i < l.length
  rotate_left
  · have ql : decide ((i : Int) < (l.length : Nat)) = false := decide_eq_false (by omega)
    rw [List.take_of_length_le (by omega), List.take_of_length_le (by omega)] at ht
    have e : decide (l = r) = true := decide_eq_true ht
    rw [e]
    repeat' (first 
    | (refine ek_lss ?_; refine EK_ev (Ev_lssI_q rfl rfl ql) ?_)
    | refine xst ?_
    | (refine xsa ?_; intro _)
    | (refine xsb ?_ ?_ <;> intro _ <;> first | (exfalso; omega) | skip)
    | refine xsc ?_
    | (refine KJ_draws (id := 6) (.op 0 (.op 1 (.op 2 (.op 3 (.op 4 (.op 5 (.op 6 (.op 7 (.op 8 .nil))))))))) (by kernel_rfl) (by kernel_rfl) ?_)
    | refine FW_alt ?_ ?_
    | refine FW_efn rfl rfl rfl rfl rfl ?_ ?_
    | refine KJ_flow ?_ ?_
    | exact Rech.nil
    | fail)
    all_goals (exact xdn ())
  have ql : decide ((i : Int) < (l.length : Nat)) = true := decide_eq_true (by omega)
  obtain ⟨x, hx⟩ : ∃ s, l[i]? = some s := ⟨_, List.getElem?_eq_getElem hlt⟩
  obtain ⟨y, hy⟩ : ∃ s, r[i]? = some s := ⟨_, List.getElem?_eq_getElem (by omega)⟩
  refine KJ.lvSome hA xS (by omega) (fun ba oa hab => ?_)
  subst hab
  refine KJ.lvSome hB xS (by omega) (fun bb ob hab => ?_)
  subst hab
  have ho1 : oa + Int.toNat (i : Int) * 2 = oa + i * 2 := by rw [Int.toNat_natCast]
  have ho2 : ob + Int.toNat (i : Int) * 2 = ob + i * 2 := by rw [Int.toNat_natCast]
  by_cases hxy : x = y
  · have hq : (!decide (x = y)) = false := by simp [hxy]
    repeat' (first 
    | (refine ek_load ?_; first | refine EK_ev (Ev_loadLv enc_leg hA rfl rfl xS ho1 hx) ?_ | refine EK_ev (Ev_loadLv enc_leg hB rfl rfl xS ho2 hy) ?_)
    | (refine ek_add ?_; refine EK_ev (Ev_addI_v (r := ((i + 1 : Nat) : Int)) rfl rfl (by omega) (by omega)) ?_)
    | (refine ek_neq ?_; refine EK_ev (Ev_neqSt rfl rfl (leg_eqF x y Tryz.underlying55) hq) ?_)
    | (refine ek_lss ?_; refine EK_ev (Ev_lssI_q rfl rfl ql) ?_)
    | refine xst ?_
    | (refine xsa ?_; intro _)
    | (refine xsb ?_ ?_ <;> intro _ <;> first | (exfalso; omega) | skip)
    | refine xsc ?_
    | (refine KJ_draws (id := 6) (.op 0 (.op 1 (.op 2 (.op 3 (.op 4 (.op 5 (.op 6 (.op 7 (.op 8 .nil))))))))) (by kernel_rfl) (by kernel_rfl) ?_)
    | refine FW_alt ?_ ?_
    | refine FW_efn rfl rfl rfl rfl rfl ?_ ?_
    | refine KJ_flow ?_ ?_
    | exact Rech.nil
    | fail)
    all_goals refine KJ_again ⟨i + 1, hlt, take_nextL hx hy ht hxy⟩ (by show l.length - (i + 1) < l.length - i; omega) xB (xN)
  · have hq : (!decide (x = y)) = true := by simp [hxy]
    have e : decide (l = r) = false := decide_eq_false (fun h => hxy (by rw [h, hy] at hx; exact (Option.some.inj hx).symm))
    rw [e]
    repeat' (first 
    | (refine ek_load ?_; first | refine EK_ev (Ev_loadLv enc_leg hA rfl rfl xS ho1 hx) ?_ | refine EK_ev (Ev_loadLv enc_leg hB rfl rfl xS ho2 hy) ?_)
    | (refine ek_neq ?_; refine EK_ev (Ev_neqSt rfl rfl (leg_eqF x y Tryz.underlying55) hq) ?_)
    | (refine ek_lss ?_; refine EK_ev (Ev_lssI_q rfl rfl ql) ?_)
    | refine xst ?_
    | (refine xsa ?_; intro _)
    | (refine xsb ?_ ?_ <;> intro _ <;> first | (exfalso; omega) | skip)
    | refine xsc ?_
    | (refine KJ_draws (id := 6) (.op 0 (.op 1 (.op 2 (.op 3 (.op 4 (.op 5 (.op 6 (.op 7 (.op 8 .nil))))))))) (by kernel_rfl) (by kernel_rfl) ?_)
    | refine FW_alt ?_ ?_
    | refine FW_efn rfl rfl rfl rfl rfl ?_ ?_
    | refine KJ_flow ?_ ?_
    | exact Rech.nil
    | fail)
    all_goals (exact xdn ())
/-- alike over postings that are alike -/
theorem alike_ct (A B : SP) (a b : Option Addr) (c d : Nat) (p : Pst) (hA : Lv W legC 2 A a p.legs) (hB : Lv W legC 2 B b p.legs) (h1 : p.legs.length ≤ 4611686018427387904) :
    Ct Tryz.prog W 13 [.agg (pstC p a c).toArray, .agg (pstC p b d).toArray] [A, B] (fun _ : Unit => .bool true) (fun _ => [A, B]) := by
  have cl := samelegs_ct A B a b c d p.legs p.legs hA hB h1
  rw [decide_eq_true rfl] at cl
  obtain ⟨id, tick, note, legs⟩ := p
  unfold pstC
  dsimp only at cl ⊢
  have q : decide (tick = tick) = true := decide_eq_true rfl
  refine Ct.enter Tryz.func13 rfl Tryz.ntmps13 (by simp) (fun R => ?_)
  repeat' (first 
    | (refine is_call ?_; refine KJ_call xE cl xP rfl (fun _ => ?_))
    | (refine ek_eql ?_; first | refine EK_ev (Ev_eqlS_t rfl rfl rfl) ?_ | refine EK_ev (Ev_eqlI_q rfl rfl q) ?_)
    | refine xst ?_
    | (refine xsa ?_; intro _)
    | (refine xsb ?_ ?_ <;> intro _ <;> first | (exfalso; omega) | skip)
    | refine xsc ?_
    | fail)
  all_goals (exact xdn ())
end
/-- the chapter's first example -/
def dep1 : Leg := ⟨[111, 117, 116, 115, 105, 100, 101, 46, 71, 66, 80], -100⟩
def dep2 : Leg := ⟨[71, 66, 56, 50, 87, 69, 83, 84, 49, 50, 51, 52, 53, 54, 57, 56, 55, 54, 53, 52, 51, 50], 100⟩
def depP : Pst := ⟨[100, 49], 5, [100, 101, 112, 111, 115, 105, 116], [dep1, dep2]⟩
section
variable {W : World} {F : Nat → Addr}
theorem deposit_ct : Ct Tryz.prog W 28 [] [] (fun g : Nat => .agg (pstC depP (some ⟨g, 0, none⟩) 2).toArray) (fun g => [cellsP g (legC dep1 ++ legC dep2) 55]) := by
  refine Ct.enter Tryz.func28 rfl Tryz.ntmps28 (by simp) (fun R => ?_)
  repeat' (first 
    | (refine is_alloc ?_; refine KJ_alloc rfl (fun g5 => ?_))
    | (refine is_bslice ?_; refine KJ_bsliceN (len := 2) (places := [(0, 2), (2, 2)]) (base := [strV [], .int .i64 0, strV [], .int .i64 0]) xV (by rfl) (by rfl) xW (by omega) rfl (fun gb => ?_))
    | (refine ek_build ?_; refine EK_ev (Ev_build xV xW) ?_)
    | refine xst ?_
    | (refine xsa ?_; intro _)
    | (refine xsb ?_ ?_ <;> intro _ <;> first | (exfalso; omega) | skip)
    | refine xsc ?_
    | fail)
  all_goals (refine is_ex ?_; exact KJ_done (by first | exact Or.inl rfl | exact Or.inr rfl) rfl (Rvs.agg (T := 25) rfl inferInstance inferInstance xS xC Rvs.nil) gb (by rfl) (xN))
theorem dep_lv {g : Nat} : Lv W legC 2 (cellsP g (legC dep1 ++ legC dep2) 55) (some ⟨g, 0, none⟩) depP.legs := Lv.cells rfl
end
end Go.Proofs.YtdbfemdpdpaffaaGreatDoor
/-
  Chapter 16's fixed calls.
-/
namespace Go.Proofs.YtdbfemdpdpaffaaGreatDoor
open Go Go.RowKit Go.MapKept
def depB : List UInt8 := [2, 100, 49, 5, 7, 100, 101, 112, 111, 115, 105, 116, 2, 11, 111, 117, 116, 115, 105, 100, 101, 46, 71, 66, 80, 199, 1, 22, 71, 66, 56, 50, 87, 69, 83, 84, 49, 50, 51, 52, 53, 54, 57, 56, 55, 54, 53, 52, 51, 50, 200, 1]
theorem dep_enc : encPst depP = depB := by decide +kernel
theorem dep_ok : checkE depP = 0 := by decide +kernel
def depH : Pst := ⟨[35], 5, [100, 101, 112, 111, 115, 105, 116], [dep1, dep2]⟩
theorem depH_bad : checkE depH = 26 := by decide +kernel
theorem depP_fit : PstFit depP := ⟨by decide, by decide, by decide, by decide, by decide, by decide⟩
theorem depH_fit : PstFit depH := ⟨by decide, by decide, by decide, by decide, by decide, by decide⟩
theorem dep_dec : decPst depB = (depP, 0) := by rw [← dep_enc]; exact dec_enc dep_ok
theorem dep_not : sameP depH depP = false := by decide +kernel
section
variable {W : World} {F : Nat → Addr}
theorem perr_of (hE : ErrsOn L37 W F) : PErr W F := ⟨hE.at_ 3 (by decide), hE.at_ 7 (by decide), hE.at_ 8 (by decide), hE.at_ 9 (by decide), hE.at_ 20 (by decide), hE.at_ 24 (by decide), hE.at_ 26 (by decide), hE.at_ 33 (by decide)⟩
set_option maxHeartbeats 8000000 in
set_option maxRecDepth 20000 in
theorem fixed_ct (hE : ErrsOn L37 W F) : Ct Tryz.prog W 9 [] [] (fun _ : Unit => .bool true) (fun _ => []) := by
  have er := perr_of hE
  have e1 : W.cell? ⟨5, 0, none⟩ = some (errV F 1) := hE.at_ 1 (by decide)
  have e2 : W.cell? ⟨6, 0, none⟩ = some (errV F 2) := hE.at_ 2 (by decide)
  have e5 : W.cell? ⟨8, 0, none⟩ = some (errV F 5) := hE.at_ 5 (by decide)
  have cd := deposit_ct (W := W)
  have ce : ∀ g, Ct Tryz.prog W 17 [.agg (pstC depP (some ⟨g, 0, none⟩) 2).toArray] [cellsP g (legC dep1 ++ legC dep2) 55] (fun _ : Unit => .tuple #[strV depB, errV F 0]) (fun _ => [cellsP g (legC dep1 ++ legC dep2) 55]) := fun g => by
    have := pencode_ct (W := W) (F := F) er _ (some ⟨g, 0, none⟩) 2 depP depP_fit (dep_lv (W := W) (g := g))
    rwa [if_pos dep_ok, dep_ok, dep_enc] at this
  have cD := pdecode_ct (W := W) (F := F) er depB (by decide) e1 e2 e5 depP 0 dep_dec
  have ca := fun a c g => alike_ct (W := W) (lsP legC 55 2 (.slice a depP.legs.length c) depP.legs) (cellsP g (legC dep1 ++ legC dep2) 55) a (some ⟨g, 0, none⟩) c 2 depP (Lv.own enc_leg rfl) dep_lv (by decide)
  have cc : ∀ a c, Ct Tryz.prog W 16 [.agg (pstC depH a c).toArray] [lsP legC 55 2 (.slice a depP.legs.length c) depP.legs] (fun _ : Unit => errV F 26) (fun _ => [lsP legC 55 2 (.slice a depP.legs.length c) depP.legs]) := fun a c => by
    have := pcheck_ct (W := W) (F := F) er (lsP legC 55 2 (.slice a depP.legs.length c) depP.legs) a c depH depH_fit (Lv.own enc_leg rfl)
    rwa [depH_bad] at this
  have cn := num_ct (W := W) (F := F) hE 26 (by omega)
  have cs1 : ∀ a c g, Ct Tryz.prog W 22 [.agg (pstC depH a c).toArray, .agg (pstC depP (some ⟨g, 0, none⟩) 2).toArray] [lsP legC 55 2 (.slice a depP.legs.length c) depP.legs, cellsP g (legC dep1 ++ legC dep2) 55] (fun _ : Unit => .bool false) (fun _ => [lsP legC 55 2 (.slice a depP.legs.length c) depP.legs, cellsP g (legC dep1 ++ legC dep2) 55]) := fun a c g => by
    have := psame2_ct (W := W) (lsP legC 55 2 (.slice a depP.legs.length c) depP.legs) (cellsP g (legC dep1 ++ legC dep2) 55) a (some ⟨g, 0, none⟩) c 2 depH depP (Lv.own enc_leg rfl) dep_lv (by decide)
    rwa [dep_not] at this
  have cs2 : ∀ g k, Ct Tryz.prog W 22 [.agg (pstC depP (some ⟨g, 0, none⟩) 2).toArray, .agg (pstC depP (some ⟨k, 0, none⟩) 2).toArray] [cellsP g (legC dep1 ++ legC dep2) 55, cellsP k (legC dep1 ++ legC dep2) 55] (fun _ : Unit => .bool true) (fun _ => [cellsP g (legC dep1 ++ legC dep2) 55, cellsP k (legC dep1 ++ legC dep2) 55]) := fun g k => by
    have := psame2_ct (W := W) (cellsP g (legC dep1 ++ legC dep2) 55) (cellsP k (legC dep1 ++ legC dep2) 55) (some ⟨g, 0, none⟩) (some ⟨k, 0, none⟩) 2 2 depP depP dep_lv dep_lv (by decide)
    rwa [sameP_refl] at this
  have q26 : decide (((26 : Nat) : Int) = 26) = true := rfl
  refine Ct.enter Tryz.func9 rfl Tryz.ntmps9 (by simp) (fun R => ?_)
  repeat' (first 
    | (refine is_alloc ?_; refine KJ_alloc rfl (fun g5 => ?_))
    | (refine is_call ?_; first | (refine KJ_call xE (cs2 _ _) xP rfl (fun _ => ?_)) | (refine KJ_call xE (cs1 _ _ _) xP rfl (fun _ => ?_)) | (refine KJ_call xE cn xP rfl (fun _ => ?_)) | (refine KJ_call xE (cc _ _) xP rfl (fun _ => ?_)) | (refine KJ_call xE (ca _ _ _) xP rfl (fun _ => ?_)) | (refine KJ_call xE cD xP rfl (fun x => ?_)) | (refine KJ_call xE (ce _) xP rfl (fun _ => ?_)) | (refine KJ_call xE cd xP rfl (fun g => ?_)))
    | (refine ek_eql ?_; refine EK_ev (Ev_eqlI_q rfl rfl q26) ?_)
    | (refine ek_neq ?_; refine EK_ev (Ev_neqS_f rfl rfl rfl) ?_)
    | refine xst ?_
    | (refine xsa ?_; intro _)
    | (refine xsb ?_ ?_ <;> intro _ <;> first | (exfalso; omega) | skip)
    | refine xsc ?_
    | (refine KJ_draws (id := 5) (.op 0 (.op 1 (.op 2 (.op 3 (.ef 4 [3] (.ef 5 [] (.op 6 (.op 7 .nil)))))))) (by kernel_rfl) (by kernel_rfl) ?_)
    | (refine KJ_draws (id := 8) (.op 0 (.ef 1 [] (.ef 2 [] (.op 3 (.op 4 (.op 5 (.ef 6 [5] (.ef 7 [] (.op 8 (.op 9 (.op 10 (.ef 11 [] (.ef 12 [] (.ef 13 [] (.op 14 (.op 15 .nil)))))))))))))))) (by kernel_rfl) (by kernel_rfl) ?_)
    | refine FW_alt ?_ ?_
    | refine FW_efn rfl rfl rfl rfl rfl ?_ ?_
    | refine KJ_flow ?_ ?_
    | exact Rech.nil
    | fail)
  all_goals (exact xdn ())
end
end Go.Proofs.YtdbfemdpdpaffaaGreatDoor
