/-
  PoE1, PoE2.
-/
import Derived.Test.YtdbfemdpdpaffaaGreatDoorPCQ
import Derived.Test.YtdbfemdpdpaffaaGreatDoorPCS
/-
  The document's order of legs (chapter 16): less, sorted.
-/
namespace Go.Proofs.YtdbfemdpdpaffaaGreatDoor
open Go Go.RowKit Go.MapKept
section
variable {P : Program} {W : World} {n d : Nat} {E : Env} {H H' R R' : List SP} {k : KK} {t u e : TypeId} {x y z : Operand} {b off c : Nat} {α : Type} {enc : α → List Value} {sz : Nat}
theorem Lv.post (K : EncOk enc sz) {A : SP} {b0 o0 : Nat} {l : List α} (h : Lv W enc sz A (some ⟨b0, o0, none⟩) l) {i : Nat} (hi : i ≤ l.length) : Lv W enc sz A (some ⟨b0, o0 + i * sz, none⟩) (l.drop i) :=
  ⟨fun w H R hs s hne => by
    obtain ⟨b, o, ha, hr⟩ := h.go w H R hs s (by intro q; subst q; simp at hne)
    cases ha
    refine ⟨b0, o0 + i * sz, rfl, fun j v hj => ?_⟩
    have := hr _ v (K.drop_at hi hj)
    rwa [← Nat.add_assoc] at this⟩
theorem Ev_sliceTo_d {j m c s : Nat} {kj : IntKind} (hx : Env.ev E x = some (.slice (some ⟨b, off, none⟩) m c)) (hz : Env.ev E z = some (.int kj ((j : Nat) : Int))) [hu : UIs P t (.slice e)] [hi : SzIs P e s] (hb : j ≤ c) : Ev P W n E H (.slice t x none (some z) none) (.slice (some ⟨b, off, none⟩) j c) := by
  have := Ev_sliceToG (W := W) (n := n) (H := H) (s := s) hx hz (hu := hu) (hi := hi) ⟨by omega, by omega⟩
  rwa [Int.toNat_natCast] at this
end
end Go.Proofs.YtdbfemdpdpaffaaGreatDoor
/-
  Reversed postings; the document's Same (chapter 16).
-/
namespace Go.Proofs.YtdbfemdpdpaffaaGreatDoor
open Go Go.RowKit Go.MapKept
def negA (x : Int) : Int := IntKind.i64.wrap (0 - x)
def revL (l : List Leg) : List Leg := l.map fun x => ⟨x.acc, negA x.amt⟩
theorem revL_len (l : List Leg) : (revL l).length = l.length := by unfold revL; simp
theorem revL_next {l : List Leg} {i : Nat} {x : Leg} (hx : l[i]? = some x) : revL (l.take i) ++ [⟨x.acc, negA x.amt⟩] = revL (l.take (i + 1)) := by
  unfold revL
  rw [List.take_add_one, hx, List.map_append]
  rfl
section
variable {W : World}
set_option maxHeartbeats 4000000 in
theorem preverse0 (T : SP) (a : Option Addr) (c : Nat) (p : Pst) (name : List UInt8) (hL : Lv W legC 2 T a p.legs) (hn : p.legs.length ≤ 2000000) :
    Ct Tryz.prog W 19 [.agg (pstC p a c).toArray, strV name] [T] (fun x : Option Addr × Nat => .agg #[strV name, .int .i64 p.tick, strV p.note, .slice x.1 (revL p.legs).length x.2]) (fun x => [T, lsP legC 55 2 (.slice x.1 (revL p.legs).length x.2) (revL p.legs)]) := by
  obtain ⟨id, tick, note, legs⟩ := p
  unfold pstC
  dsimp only at hL hn ⊢
  obtain ⟨V, hV⟩ : ∃ V, V = revL legs := ⟨_, rfl⟩
  rw [← hV]
  refine Ct.enter Tryz.func19 rfl Tryz.ntmps19 (by simp) (fun R => ?_)
  repeat' (first 
    | (refine is_alloc ?_; refine KJ_alloc rfl (fun g4 => ?_); refine hold ?_)
    | (refine is_box ?_; refine KJ_box rfl xF rfl (fun g2 => ?_))
    | (refine ek_build ?_; refine EK_ev (Ev_build xV xW) ?_)
    | refine xst ?_
    | (refine xsa ?_; intro _)
    | (refine xsb ?_ ?_ <;> intro _ <;> first | (exfalso; omega) | skip)
    | refine xsc ?_
    | fail)
  refine Hold.mk ?_
  repeat' (first 
    | (refine is_alloc ?_; refine KJ_alloc rfl (fun g5 => ?_))
    | (refine ek_build ?_; refine EK_ev (Ev_build xV xW) ?_)
    | refine xst ?_
    | (refine xsa ?_; intro _)
    | (refine xsb ?_ ?_ <;> intro _ <;> first | (exfalso; omega) | skip)
    | refine xsc ?_
    | fail)
  refine KJ.nilrow 55 2 ?_
  refine KJ_loop (fun x : {x : Nat × List Leg × Option Addr × Nat // x.1 ≤ legs.length ∧ x.2.1 = revL (legs.take x.1)} => [(4, .pointer (some ⟨g4, 0, none⟩)), (5, .pointer (some ⟨g5, 0, none⟩)), (15, .slice a legs.length c), (16, .int .i64 (legs.length : Nat)), (17, .int .i64 (x.1.1 : Nat))])
    (fun x => [cellsP g5 [strV name, .int .i64 tick, strV note, .slice x.1.2.2.1 x.1.2.1.length x.1.2.2.2] 25, lsP legC 55 2 (.slice x.1.2.2.1 x.1.2.1.length x.1.2.2.2) x.1.2.1, T, cellsP g4 [strV [], .int .i64 0, strV [], .slice none 0 0] 25] ++ R) (fun x => legs.length - x.1.1) ⟨(0, [], none, 0), by omega, rfl⟩ xB (xN) (fun ⟨(i, L, sa, sc), hi, hLs⟩ => ?_)
  dsimp only at hi hLs ⊢
  have hLl : L.length = i := by rw [hLs, revL_len, List.length_take]; omega
  by_cases hlt : i < legs.length
  · have ql : decide ((i : Int) < (legs.length : Nat)) = true := decide_eq_true (by omega)
    obtain ⟨x, hx⟩ : ∃ s, legs[i]? = some s := ⟨_, List.getElem?_eq_getElem hlt⟩
    refine KJ.lvSome hL xS (by omega) (fun b0 of hab => ?_)
    subst hab
    have hoff : of + Int.toNat (i : Int) * 2 = of + i * 2 := by simp
    have b1 : (L.length + 1) * 24 ≤ 140737488355328 := by omega
    have b2 : L.length + 1 ≤ 9223372036854775807 := by omega
    have hnx := revL_next hx
    rw [← hLs] at hnx
    obtain ⟨ac, x0⟩ := x
    obtain ⟨am, ham⟩ : ∃ am, am = negA x0 := ⟨_, rfl⟩
    have w1 : IntKind.i64.wrap (0 - x0) = am := ham.symm
    dsimp only at hnx
    rw [← ham] at hnx
    repeat' (first 
    | (refine is_alloc ?_; refine KJ_alloc rfl (fun g7 => ?_))
    | (refine is_append ?_; refine KJ_appOne (a := (⟨ac, am⟩ : Leg)) enc_leg rfl rfl rfl xS xS b1 b2 rfl (fun g1 c1 => ?_))
    | (refine is_bslice ?_; refine KJ_bslice1 rfl xF (by rfl) (by omega) rfl (fun gs => ?_))
    | (refine ek_load ?_; refine EK_ev (Ev_loadLv enc_leg hL rfl rfl xS hoff hx) ?_)
    | (refine ek_un ?_; refine EK_ev (Ev_neg_v rfl w1) ?_)
    | (refine ek_build ?_; refine EK_ev (Ev_build xV xW) ?_)
    | (refine ek_add ?_; refine EK_ev (Ev_addI_v (r := ((i + 1 : Nat) : Int)) rfl rfl (by omega) (by omega)) ?_)
    | (refine ek_lss ?_; refine EK_ev (Ev_lssI_q rfl rfl ql) ?_)
    | refine xst ?_
    | (refine xsa ?_; intro _)
    | (refine xsb ?_ ?_ <;> intro _ <;> first | (exfalso; omega) | skip)
    | refine xsc ?_
    | fail)
    all_goals refine KJ_again ⟨(i + 1, L ++ [⟨ac, am⟩], some ⟨g1, 0, none⟩, c1), hlt, hnx⟩ (by show legs.length - (i + 1) < legs.length - i; omega) xB (xN)
  have ql : decide ((i : Int) < (legs.length : Nat)) = false := decide_eq_false (by omega)
  have ei : i = legs.length := by omega
  subst ei
  rw [List.take_length, ← hV] at hLs
  subst hLs
  repeat' (first 
    | (refine ek_lss ?_; refine EK_ev (Ev_lssI_q rfl rfl ql) ?_)
    | refine xst ?_
    | (refine xsa ?_; intro _)
    | (refine xsb ?_ ?_ <;> intro _ <;> first | (exfalso; omega) | skip)
    | refine xsc ?_
    | fail)
  all_goals (refine is_ex ?_; exact KJ_done (by first | exact Or.inl rfl | exact Or.inr rfl) rfl (Rvs.agg (T := 25) rfl inferInstance inferInstance xS xC Rvs.nil) (sa, sc) (by rfl) (xN))
theorem preverse_ct (T : SP) (a : Option Addr) (c : Nat) (p : Pst) (name : List UInt8) (hL : Lv W legC 2 T a p.legs) (hn : p.legs.length ≤ 2000000) :
    Ct Tryz.prog W 19 [.agg (pstC p a c).toArray, strV name] [T] (fun x : Option Addr × Nat => .agg #[strV name, .int .i64 p.tick, strV p.note, .slice x.1 p.legs.length x.2]) (fun x => [T, lsP legC 55 2 (.slice x.1 p.legs.length x.2) (revL p.legs)]) := by
  have h := preverse0 (W := W) T a c p name hL hn
  rw [revL_len] at h
  exact h
end
end Go.Proofs.YtdbfemdpdpaffaaGreatDoor
