/-
  PoX1, PoX2, PoX3, PoX4, PoX5.
-/
import Derived.Test.YtdbfemdpdpaffaaGreatDoorPBX
import Derived.Test.YtdbfemdpdpaffaaGreatDoorPBY
import Derived.Test.YtdbfemdpdpaffaaGreatDoorPBZ
import Derived.Test.YtdbfemdpdpaffaaGreatDoorPCF
import Derived.Test.YtdbfemdpdpaffaaGreatDoorPBD
import Derived.Test.YtdbfemdpdpaffaaGreatDoorPBA
/-
  posting.checkLegs.
-/
namespace Go.Proofs.YtdbfemdpdpaffaaGreatDoor
open Go Go.RowKit Go.MapKept
def legC (x : Leg) : List Value := [strV x.acc, .int .i64 x.amt]
theorem enc_leg : EncOk legC 2 := ⟨fun _ => rfl, fun x => by unfold legC; exact xO, by omega⟩
instance zvInt : ZvIs Tryz.prog 3 (.int .i64 0) := ⟨by kernel_rfl⟩
theorem ky_acc : KyOk Tryz.prog 9 strV := ky_str Tryz.underlying9
section
variable {P : Program} {W : World} {n : Nat} {E : Env} {H R : List SP} {t kt e : TypeId} {x : Operand} {α β : Type} {kf : α → Value} {vf : β → Value} {b : Nat} {m : List (α × β)}
theorem Ev_len_mp (hx : Env.ev E x = some (.map (some b))) [hu : UIs P t (.map kt e)] (hs : Sel (mapP kf vf b m) H R) : Ev P W n E H (.call { callee := .builtin .len, args := #[x], argTypes := #[t] }) (.int .i64 (m.length : Nat)) :=
  Ev.mk fun o ho a w p q => by
    obtain ⟨es, c, hb, _, h2⟩ := q.map hs
    have hl : es.size = m.length := by
      have := congrArg List.length h2
      simpa [kvs, encs] using this
    simp [execOp, ho, resolve, invoke, builtin, p.ev hx, Builtin.len_, run_underlying hu.h, goInt, Go.getObj, Sem.run, hb, hl, Result.andThen]
end
def intV (x : Int) : Value := .int .i64 x
theorem elim_getD {m : List (List UInt8 × Int)} {a : List UInt8} : (lk m a).elim (Value.int .i64 0) intV = .int .i64 ((lk m a).getD 0) := by
  cases lk m a <;> rfl
theorem legsE_acc {l : List Leg} {i : Nat} {x : Leg} (hx : l[i]? = some x) (h : accB x.acc = false) : legsE l = 20 := by
  unfold legsE
  rw [if_pos (List.all_eq_false.2 ⟨x, List.mem_of_getElem? hx, by rw [h]; decide⟩)]
def amtB (x : Leg) : Bool := decide (x.amt ≠ 0) && decide (x.amt ≤ 4611686018427387904) && decide (-4611686018427387904 ≤ x.amt)
theorem legsE_amt {l : List Leg} {i : Nat} {x : Leg} (ha : l.all (fun x => accB x.acc) = true) (hx : l[i]? = some x) (h : amtB x = false) : legsE l = 9 := by
  unfold legsE
  rw [if_neg (by rw [ha]; decide), if_pos]
  exact List.all_eq_false.2 ⟨x, List.mem_of_getElem? hx, by show ¬ amtB x = true; rw [h]; decide⟩
theorem legsE_end {l : List Leg} (ha : l.all (fun x => accB x.acc) = true) (hb : l.all amtB = true) : legsE l = if (l.map (·.acc)).Nodup ∧ (l.map (·.amt)).sum = 0 then 0 else 24 := by
  unfold legsE
  rw [if_neg (by rw [ha]; decide), if_neg]
  rw [show (l.all fun x => decide (x.amt ≠ 0) && decide (x.amt ≤ 4611686018427387904) && decide (-4611686018427387904 ≤ x.amt)) = l.all amtB from rfl, hb]
  decide
def sumTo (l : List Leg) (i : Nat) : Int := ((l.take i).map (·.amt)).sum
theorem sumTo_next {l : List Leg} {i : Nat} {x : Leg} (hx : l[i]? = some x) : sumTo l (i + 1) = sumTo l i + x.amt := by
  unfold sumTo
  rw [List.take_add_one, hx, List.map_append, List.sum_append]
  simp
/-- what is known on the way: the first i legs -/
structure LegI (l : List Leg) (i : Nat) (s : Bool) (z : NSt) (m : List (List UInt8 × Int)) : Prop where
  ok : NOk z
  sg : s = true → z.n ≠ 0
  val : ival s z = sumTo l i
  lo : -(4611686018427387904 * (i : Int)) ≤ sumTo l i
  hi : sumTo l i ≤ 4611686018427387904 * (i : Int)
  seen : SeenI ((l.take i).map (·.acc)) m
  all : (l.take i).all amtB = true
theorem LegI.zero (l : List Leg) : LegI l 0 false ⟨none, 0⟩ [] := ⟨.no, by simp, rfl, by unfold sumTo; simp, by unfold sumTo; simp, SeenI.nil, rfl⟩
theorem LegI.mag {l : List Leg} {i : Nat} {s : Bool} {z : NSt} {m : List (List UInt8 × Int)} (h : LegI l i s z m) : (z.m : Int) ≤ 4611686018427387904 * (i : Int) := by
  have h1 := h.val; have h2 := h.lo; have h3 := h.hi
  unfold ival at h1
  split at h1 <;> omega
theorem LegI.next {l : List Leg} {i : Nat} {s s' : Bool} {z z' : NSt} {m : List (List UInt8 × Int)} {x : Leg} (h : LegI l i s z m) (hx : l[i]? = some x) (hb : amtB x = true) (hz : NOk z') (hs : s' = true → z'.n ≠ 0) (hv : ival s' z' = ival s z + x.amt) (v : Int) : LegI l (i + 1) s' z' (mput m x.acc v) := by
  have e := sumTo_next hx
  have h2 := h.lo; have h3 := h.hi
  have hb' := hb
  unfold amtB at hb'
  simp only [Bool.and_eq_true, decide_eq_true_eq] at hb'
  refine ⟨hz, hs, by rw [hv, h.val, e], by rw [e]; omega, by rw [e]; omega, ?_, ?_⟩
  · rw [List.take_add_one, hx, List.map_append]
    exact h.seen.next _ _
  · rw [List.take_add_one, hx, List.all_append, h.all, Option.toList_some, List.all_cons, hb]; rfl
end Go.Proofs.YtdbfemdpdpaffaaGreatDoor
/-
  posting.checkLegs: the walk.
-/
namespace Go.Proofs.YtdbfemdpdpaffaaGreatDoor
open Go Go.RowKit Go.MapKept
/-- the errors that a posting's Check tells lie in their variables -/
structure PErr (W : World) (F : Nat → Addr) : Prop where
  e3 : W.cell? ⟨2, 0, none⟩ = some (errV F 3)
  e7 : W.cell? ⟨10, 0, none⟩ = some (errV F 7)
  e8 : W.cell? ⟨11, 0, none⟩ = some (errV F 8)
  e9 : W.cell? ⟨12, 0, none⟩ = some (errV F 9)
  e20 : W.cell? ⟨22, 0, none⟩ = some (errV F 20)
  e24 : W.cell? ⟨3, 0, none⟩ = some (errV F 24)
  e26 : W.cell? ⟨0, 0, none⟩ = some (errV F 26)
  e33 : W.cell? ⟨1, 0, none⟩ = some (errV F 33)
section
variable {W : World} {F : Nat → Addr}
theorem big_sign {p : Nat} (s : Bool) (z : NSt) (hz : NOk z) (hs : s = true → z.n ≠ 0) : ∃ r : Int, (r = 0 ↔ ival s z = 0) ∧ Ct Tryz.prog W 50 [.pointer (some ⟨p, 0, none⟩)] [bigP p s z] (fun _ : Unit => .int .i64 r) (fun _ => [bigP p s z]) := by
  have hn : z.n ≤ 100 := by cases hz <;> simp
  refine ⟨if z.n = 0 then 0 else if s = true then -1 else 1, ?_, isign_ct hs hn⟩
  have := hz.pos
  unfold ival
  by_cases h : z.n = 0
  · rw [if_pos h, this.1 h]; simp
  · have hm : z.m ≠ 0 := fun q => h (this.2 q)
    rw [if_neg h]
    split <;> constructor <;> intro q <;> omega
set_option maxHeartbeats 8000000 in
theorem checklegs_ct (er : PErr W F) (A : SP) (a : Option Addr) (c : Nat) (legs : List Leg) (hL : Lv W legC 2 A a legs) (hlen : legs.length ≤ 1000000) (hacc : ∀ x ∈ legs, x.acc.length ≤ 2000000) :
    Ct Tryz.prog W 37 [.slice a legs.length c] [A] (fun _ : Unit => errV F (legsE legs)) (fun _ => [A]) := by
  obtain ⟨r0, hr0⟩ : ∃ r0, r0 = legsE legs := ⟨_, rfl⟩
  rw [← hr0]
  refine Ct.enter Tryz.func37 rfl Tryz.ntmps37 (by simp) (fun R => ?_)
  repeat' (first 
    | refine xst ?_
    | (refine xsa ?_; intro _)
    | (refine xsb ?_ ?_ <;> intro _ <;> first | (exfalso; omega) | skip)
    | refine xsc ?_
    | fail)
  refine KJ_loop (fun i : {i : Nat // i ≤ legs.length ∧ (legs.take i).all (fun x => accB x.acc) = true} => [(0, .slice a legs.length c), (9, .slice a legs.length c), (10, .int .i64 (legs.length : Nat)), (11, .int .i64 (i.1 : Nat))])
    (fun _ => [A] ++ R) (fun i => legs.length - i.1) ⟨0, by omega, rfl⟩ xB (xN) (fun ⟨i, hi, hall⟩ => ?_)
  dsimp only
  by_cases hlt : i < legs.length
  · have ql : decide (((i : Nat) : Int) < ((legs.length : Nat) : Int)) = true := decide_eq_true (by omega)
    obtain ⟨x, hx⟩ : ∃ x, legs[i]? = some x := ⟨_, List.getElem?_eq_getElem hlt⟩
    refine KJ.lvSome hL xS (by omega) (fun b of hab => ?_)
    subst hab
    have hoff : of + Int.toNat (i : Int) * 2 = of + i * 2 := by simp
    have cf := accfits_ct (W := W) (F := F) x.acc (hacc x (List.mem_of_getElem? hx)) er.e7 er.e8
    have e20 := er.e20
    have hn1 : (legs.take (i + 1)).all (fun x => accB x.acc) = accB x.acc := by
      rw [List.take_add_one, hx, List.all_append, hall, Option.toList_some, List.all_cons, Bool.true_and]; simp
    cases hb : accB x.acc with
    | true =>
      rw [hb] at cf
      obtain ⟨acc, amt⟩ := x
      repeat' (first 
    | (refine is_alloc ?_; refine KJ_alloc rfl (fun g5 => ?_))
    | (refine is_call ?_; refine KJ_call xE cf xP rfl (fun _ => ?_))
    | (refine ek_load ?_; refine EK_ev (Ev_loadLv enc_leg hL rfl rfl xS hoff hx) ?_)
    | (refine ek_lss ?_; refine EK_ev (Ev_lssI_q rfl rfl ql) ?_)
    | refine xst ?_
    | (refine xsa ?_; intro _)
    | (refine xsb ?_ ?_ <;> intro _ <;> first | (exfalso; omega) | skip)
    | refine xsc ?_
    | fail)
      all_goals exact KJ_again ⟨i + 1, by omega, by rw [hn1, hb]⟩ (by show legs.length - (i + 1) < legs.length - i; omega) xB (xN)
    | false =>
      rw [hb] at cf
      have hr : r0 = 20 := hr0.trans (legsE_acc hx hb)
      subst hr
      obtain ⟨acc, amt⟩ := x
      repeat' (first 
    | (refine is_alloc ?_; refine KJ_alloc rfl (fun g5 => ?_))
    | (refine is_call ?_; refine KJ_call xE cf xP rfl (fun _ => ?_))
    | (refine ek_load ?_; first | refine EK_ev (Ev_loadLv enc_leg hL rfl rfl xS hoff hx) ?_ | refine EK_ev (Ev_loadOld rfl e20) ?_)
    | (refine ek_lss ?_; refine EK_ev (Ev_lssI_q rfl rfl ql) ?_)
    | refine xst ?_
    | (refine xsa ?_; intro _)
    | (refine xsb ?_ ?_ <;> intro _ <;> first | (exfalso; omega) | skip)
    | refine xsc ?_
    | fail)
      all_goals (exact xdn ())
  have ql : decide (((i : Nat) : Int) < ((legs.length : Nat) : Int)) = false := decide_eq_false (by omega)
  have ei : i = legs.length := by omega
  subst ei
  rw [List.take_length] at hall
  repeat' (first 
    | (refine is_alloc ?_; refine KJ_alloc rfl (fun p => ?_))
    | (refine is_mkMap ?_; refine KJ_makeMap (t := 117) strV intV rfl (fun mb => ?_))
    | (refine ek_lss ?_; refine EK_ev (Ev_lssI_q rfl rfl ql) ?_)
    | refine xst ?_
    | (refine xsa ?_; intro _)
    | (refine xsb ?_ ?_ <;> intro _ <;> first | (exfalso; omega) | skip)
    | refine xsc ?_
    | fail)
  refine KJ.bagShut (L := []) 61 Pick.nil ?_
  refine KJ_loop (fun x : {x : Nat × Bool × NSt × List (List UInt8 × Int) // x.1 ≤ legs.length ∧ LegI legs x.1 x.2.1 x.2.2.1 x.2.2.2} => [(0, .slice a legs.length c), (5, .pointer (some ⟨p, 0, none⟩)), (6, .map (some mb)), (23, .slice a legs.length c), (24, .int .i64 (legs.length : Nat)), (25, .int .i64 (x.1.1 : Nat))])
    (fun x => [bigP p x.1.2.1 x.1.2.2.1, natP x.1.2.2.1, mapP strV intV mb x.1.2.2.2, A] ++ R) (fun x => legs.length - x.1.1) ⟨(0, false, ⟨none, 0⟩, []), by omega, LegI.zero legs⟩ xB (xN) (fun ⟨(i, s, z, m), hi, hI⟩ => ?_)
  dsimp only at hi hI ⊢
  have hmag := hI.mag
  by_cases hlt : i < legs.length
  · have ql : decide (((i : Nat) : Int) < ((legs.length : Nat) : Int)) = true := decide_eq_true (by omega)
    obtain ⟨x, hx⟩ : ∃ x, legs[i]? = some x := ⟨_, List.getElem?_eq_getElem hlt⟩
    refine KJ.lvSome hL xS (by omega) (fun b of hab => ?_)
    subst hab
    have hoff : of + Int.toNat (i : Int) * 2 = of + i * 2 := by simp
    have e9 := er.e9
    cases hb : amtB x with
    | false =>
      have hr : r0 = 9 := hr0.trans (legsE_amt hall hx hb)
      subst hr
      obtain ⟨acc, amt⟩ := x
      cases q1 : decide (amt = 0) with
      | true =>
        repeat' (first 
    | (refine is_alloc ?_; refine KJ_alloc rfl (fun g5 => ?_))
    | (refine ek_load ?_; first | refine EK_ev (Ev_loadLv enc_leg hL rfl rfl xS hoff hx) ?_ | refine EK_ev (Ev_loadOld rfl e9) ?_)
    | (refine ek_eql ?_; refine EK_ev (Ev_eqlI_q rfl rfl q1) ?_)
    | (refine ek_lss ?_; refine EK_ev (Ev_lssI_q rfl rfl ql) ?_)
    | refine xst ?_
    | (refine xsa ?_; intro _)
    | (refine xsb ?_ ?_ <;> intro _ <;> first | (exfalso; omega) | skip)
    | refine xsc ?_
    | fail)
        all_goals (exact xdn ())
      | false =>
        cases q2 : decide ((4611686018427387904 : Int) < amt) with
        | true =>
          repeat' (first 
    | (refine is_alloc ?_; refine KJ_alloc rfl (fun g5 => ?_))
    | (refine ek_load ?_; first | refine EK_ev (Ev_loadLv enc_leg hL rfl rfl xS hoff hx) ?_ | refine EK_ev (Ev_loadOld rfl e9) ?_)
    | (refine ek_eql ?_; refine EK_ev (Ev_eqlI_q rfl rfl q1) ?_)
    | (refine ek_lss ?_; refine EK_ev (Ev_lssI_q rfl rfl ql) ?_)
    | (refine ek_gtr ?_; refine EK_ev (Ev_gtrI_q rfl rfl q2) ?_)
    | refine xst ?_
    | (refine xsa ?_; intro _)
    | (refine xsb ?_ ?_ <;> intro _ <;> first | (exfalso; omega) | skip)
    | refine xsc ?_
    | fail)
          all_goals (exact xdn ())
        | false =>
          have q3 : decide (amt < -4611686018427387904) = true := by
            refine decide_eq_true ?_
            have h1 := of_decide_eq_false q1
            have h2 := of_decide_eq_false q2
            unfold amtB at hb
            dsimp only at hb
            rw [decide_eq_true (show amt ≠ 0 from h1), decide_eq_true (show amt ≤ 4611686018427387904 by omega)] at hb
            have := of_decide_eq_false (show decide (-4611686018427387904 ≤ amt) = false by simpa using hb)
            omega
          repeat' (first 
    | (refine is_alloc ?_; refine KJ_alloc rfl (fun g5 => ?_))
    | (refine ek_load ?_; first | refine EK_ev (Ev_loadLv enc_leg hL rfl rfl xS hoff hx) ?_ | refine EK_ev (Ev_loadOld rfl e9) ?_)
    | (refine ek_eql ?_; refine EK_ev (Ev_eqlI_q rfl rfl q1) ?_)
    | (refine ek_lss ?_; first | refine EK_ev (Ev_lssI_q rfl rfl ql) ?_ | refine EK_ev (Ev_lssI_q rfl rfl q3) ?_)
    | (refine ek_gtr ?_; refine EK_ev (Ev_gtrI_q rfl rfl q2) ?_)
    | refine xst ?_
    | (refine xsa ?_; intro _)
    | (refine xsb ?_ ?_ <;> intro _ <;> first | (exfalso; omega) | skip)
    | refine xsc ?_
    | fail)
          all_goals (exact xdn ())
    | true =>
      have hnx := fun s' z' hz hs hv v => hI.next (s' := s') (z' := z') hx hb hz hs hv v
      obtain ⟨acc, amt⟩ := x
      have hb' := hb
      unfold amtB at hb'
      simp only [Bool.and_eq_true, decide_eq_true_eq] at hb'
      have q1 : decide (amt = 0) = false := decide_eq_false hb'.1.1
      have q2 : decide ((4611686018427387904 : Int) < amt) = false := decide_eq_false (by omega)
      have q3 : decide (amt < -4611686018427387904) = false := decide_eq_false (by omega)
      have cn := newint_ct (W := W) amt hb'.1.1 (by omega)
      have ca := fun q h => big_add (W := W) (p := p) (q := q) (h := h) (y := amt.natAbs) s z hI.ok hI.sg (decide (amt < 0)) (by omega) (by omega) (by omega)
      have hl := elim_getD (m := m) (a := acc)
      have hv0 : (if decide (amt < 0) = true then -((amt.natAbs : Nat) : Int) else ((amt.natAbs : Nat) : Int)) = amt := by
        by_cases h : amt < 0
        · rw [if_pos (decide_eq_true h)]; omega
        · rw [if_neg (by rw [decide_eq_false h]; decide)]; omega
      repeat' (first 
    | (refine is_alloc ?_; refine KJ_alloc rfl (fun g5 => ?_))
    | (refine is_call ?_; first | (refine KJ_call xE cn xP rfl (fun qh => ?_)) | (refine KJ_call xE (ca _ _) xP rfl (fun rz => ?_); refine hold ?_))
    | (refine ek_load ?_; refine EK_ev (Ev_loadLv enc_leg hL rfl rfl xS hoff hx) ?_)
    | (refine ek_eql ?_; refine EK_ev (Ev_eqlI_q rfl rfl q1) ?_)
    | (refine ek_lss ?_; first | refine EK_ev (Ev_lssI_q rfl rfl ql) ?_ | refine EK_ev (Ev_lssI_q rfl rfl q3) ?_)
    | (refine ek_gtr ?_; refine EK_ev (Ev_gtrI_q rfl rfl q2) ?_)
    | refine xst ?_
    | (refine xsa ?_; intro _)
    | (refine xsb ?_ ?_ <;> intro _ <;> first | (exfalso; omega) | skip)
    | refine xsc ?_
    | fail)
      refine Hold.mk ?_
      obtain ⟨⟨s', z'⟩, hz', hs', hv'⟩ := rz
      dsimp only at hz' hs' hv' ⊢
      rw [hv0] at hv'
      obtain ⟨v, hv⟩ : ∃ v, v = IntKind.i64.wrap ((lk m acc).getD 0 + 1) := ⟨_, rfl⟩
      have hfin := hnx s' z' hz' hs' hv' v
      dsimp only at hfin
      repeat' (first 
    | (refine is_mapUpdate ?_; refine KJ_mapUpdate (a := acc) (v := v) ky_acc rfl rfl rfl xS ?_)
    | (refine ek_lookup ?_; refine EK_ev (Ev_lookup (a := acc) (zv := .int .i64 0) ky_acc rfl rfl xS hl) ?_)
    | (refine ek_add ?_; first | refine EK_ev (Ev_addI_v (r := ((i + 1 : Nat) : Int)) rfl rfl (by omega) (by omega)) ?_ | refine EK_ev (Ev_add_w rfl rfl hv.symm) ?_)
    | refine xst ?_
    | (refine xsa ?_; intro _)
    | (refine xsb ?_ ?_ <;> intro _ <;> first | (exfalso; omega) | skip)
    | refine xsc ?_
    | fail)
      all_goals exact KJ_again ⟨(i + 1, s', z', mput m acc v), by show i + 1 ≤ legs.length; omega, hfin⟩ (by show legs.length - (i + 1) < legs.length - i; omega) xB (xN)
  have ql : decide (((i : Nat) : Int) < ((legs.length : Nat) : Int)) = false := decide_eq_false (by omega)
  have ei : i = legs.length := by omega
  subst ei
  have hend := legsE_end hall (by have := hI.all; rwa [List.take_length] at this)
  have hsum : sumTo legs legs.length = (legs.map (·.amt)).sum := by unfold sumTo; rw [List.take_length]
  have hseen := hI.seen
  rw [List.take_length] at hseen
  obtain ⟨r, hr, cs⟩ := big_sign (W := W) (p := p) s z hI.ok hI.sg
  have hm := hseen.2.2
  rw [List.length_map] at hm
  have e24 := er.e24
  cases qm : decide (((m.length : Nat) : Int) = ((legs.length : Nat) : Int)) with
  | false =>
    have hne : ((m.length : Nat) : Int) ≠ ((legs.length : Nat) : Int) := of_decide_eq_false qm
    have hr2 : r0 = 24 := by
      rw [hr0, hend, if_neg]
      intro h
      have := hm.2 h.1
      omega
    subst hr2
    repeat' (first 
    | (refine ek_load ?_; refine EK_ev (Ev_loadOld rfl e24) ?_)
    | (refine ek_len ?_; refine EK_ev (Ev_len_mp rfl xS) ?_)
    | (refine ek_neq ?_; refine EK_ev (Ev_neqI_t rfl rfl hne) ?_)
    | (refine ek_lss ?_; refine EK_ev (Ev_lssI_q rfl rfl ql) ?_)
    | refine xst ?_
    | (refine xsa ?_; intro _)
    | (refine xsb ?_ ?_ <;> intro _ <;> first | (exfalso; omega) | skip)
    | refine xsc ?_
    | fail)
    all_goals (exact xdn ())
  | true =>
    have heq : ((m.length : Nat) : Int) = ((legs.length : Nat) : Int) := of_decide_eq_true qm
    by_cases h0 : r = 0
    · have hr2 : r0 = 0 := by
        rw [hr0, hend, if_pos]
        exact ⟨hm.1 (by omega), by rw [← hsum, ← hI.val]; exact hr.1 h0⟩
      subst hr2
      repeat' (first 
    | (refine is_call ?_; refine KJ_call xE cs xP rfl (fun _ => ?_))
    | (refine ek_len ?_; refine EK_ev (Ev_len_mp rfl xS) ?_)
    | (refine ek_neq ?_; first | refine EK_ev (Ev_neqI_f rfl rfl heq) ?_ | refine EK_ev (Ev_neqI_f rfl rfl h0) ?_)
    | (refine ek_lss ?_; refine EK_ev (Ev_lssI_q rfl rfl ql) ?_)
    | refine xst ?_
    | (refine xsa ?_; intro _)
    | (refine xsb ?_ ?_ <;> intro _ <;> first | (exfalso; omega) | skip)
    | refine xsc ?_
    | fail)
      all_goals (exact xdn ())
    · have hr2 : r0 = 24 := by
        rw [hr0, hend, if_neg]
        intro h
        exact h0 (hr.2 (by rw [hI.val, hsum]; exact h.2))
      subst hr2
      repeat' (first 
    | (refine is_call ?_; refine KJ_call xE cs xP rfl (fun _ => ?_))
    | (refine ek_load ?_; refine EK_ev (Ev_loadOld rfl e24) ?_)
    | (refine ek_len ?_; refine EK_ev (Ev_len_mp rfl xS) ?_)
    | (refine ek_neq ?_; first | refine EK_ev (Ev_neqI_f rfl rfl heq) ?_ | refine EK_ev (Ev_neqI_t rfl rfl h0) ?_)
    | (refine ek_lss ?_; refine EK_ev (Ev_lssI_q rfl rfl ql) ?_)
    | refine xst ?_
    | (refine xsa ?_; intro _)
    | (refine xsb ?_ ?_ <;> intro _ <;> first | (exfalso; omega) | skip)
    | refine xsc ?_
    | fail)
      all_goals (exact xdn ())
end
end Go.Proofs.YtdbfemdpdpaffaaGreatDoor
/-
  The package wire: signed numbers. posting.Check.
-/
namespace Go.Proofs.YtdbfemdpdpaffaaGreatDoor
open Go Go.RowKit Go.MapKept
structure XorF (kd : IntKind) (i j y : Int) : Prop where
  h : bits .xor kd i j = y
theorem Ev_xor_s {P : Program} {W : World} {n : Nat} {E : Env} {H : List SP} {t u : TypeId} {x y : Operand} {kd : IntKind} {i j r : Int} (hx : Env.ev E x = some (.int kd i)) (hy : Env.ev E y = some (.int kd j)) (h : XorF kd i j r) : Ev P W n E H (.binOp .xor t x y u) (.int kd r) := by
  have q := h.h
  subst q
  exact Ev_xor hx hy
theorem i64_wrap (x : Int) (h : -9223372036854775808 ≤ x ∧ x ≤ 9223372036854775807) : IntKind.i64.wrap x = x := by
  simp only [IntKind.wrap, IntKind.signed, IntKind.bits]; simp; omega
theorem shl1 (x : Int) : ShlF .i64 x 1 (IntKind.i64.wrap (2 * x)) := ⟨by omega, by
  show IntKind.i64.wrap (x * 2 ^ 1) = _
  rw [Int.pow_one, Int.mul_comm]⟩
/-- twice a signed number, as an unsigned word -/
def dbl (x : Int) : Nat := if x < 0 then (18446744073709551616 + 2 * x).toNat else (2 * x).toNat
theorem dbl_eq (x : Int) (h : -9223372036854775808 ≤ x ∧ x ≤ 9223372036854775807) : IntKind.u64.wrap (IntKind.i64.wrap (2 * x)) = ((dbl x : Nat) : Int) := by
  unfold dbl
  by_cases hx : x < 0
  · rw [if_pos hx]
    simp only [IntKind.wrap, IntKind.signed, IntKind.bits]
    simp
    split <;> omega
  · rw [if_neg hx]
    simp only [IntKind.wrap, IntKind.signed, IntKind.bits]
    simp
    split <;> omega
theorem shr63 (x : Int) (h : -9223372036854775808 ≤ x ∧ x ≤ 9223372036854775807) : ShrF .i64 x 63 (if x < 0 then -1 else 0) := ⟨by omega, by
  show x.fdiv (2 ^ 63) = _
  rw [Int.fdiv_eq_ediv_of_nonneg _ (by decide)]
  split <;> omega⟩
theorem neg_bits (x : Int) : IntKind.u64.wrap (if x < 0 then -1 else 0) = (if x < 0 then 18446744073709551615 else 0) := by
  split <;> rfl
theorem ofInt_nat (x : Nat) (h : x < 18446744073709551616) : (BitVec.ofInt 64 (x : Int)).toNat = x := by rw [BitVec.toNat_ofInt]; omega
theorem xor_zig (x : Int) (h : -9223372036854775808 ≤ x ∧ x ≤ 9223372036854775807) : XorF .u64 ((dbl x : Nat) : Int) (if x < 0 then 18446744073709551615 else 0) ((zig x : Nat) : Int) := by
  refine ⟨?_⟩
  have hd : dbl x < 18446744073709551616 := by unfold dbl; split <;> omega
  have e : ∀ j : Int, bits .xor .u64 ((dbl x : Nat) : Int) j = IntKind.u64.wrap ((BitVec.ofInt 64 ((dbl x : Nat) : Int) ^^^ BitVec.ofInt 64 j).toNat : Int) := fun _ => rfl
  rw [e]
  by_cases hx : x < 0
  · rw [if_pos hx]
    have e2 : BitVec.ofInt 64 (18446744073709551615 : Int) = BitVec.allOnes 64 := by decide
    rw [e2, BitVec.xor_allOnes, BitVec.toNat_not, ofInt_nat _ hd]
    rw [u64_wrap _ (by omega)]
    congr 1
    unfold dbl zig
    rw [if_pos hx, if_pos hx]
    omega
  · rw [if_neg hx]
    have e2 : BitVec.ofInt 64 (0 : Int) = 0#64 := by decide
    rw [e2, BitVec.xor_zero, ofInt_nat _ hd, u64_wrap _ hd]
    congr 1
    unfold dbl zig
    rw [if_neg hx, if_neg hx]
theorem zig_lt64 (x : Int) (h : -9223372036854775808 ≤ x ∧ x ≤ 9223372036854775807) : zig x < 18446744073709551616 := by
  unfold zig; split <;> omega
theorem shr1 (u : Nat) : ShrF .u64 (u : Int) 1 ((u / 2 : Nat) : Int) := ⟨by omega, by
  show (u : Int).fdiv (2 ^ 1) = _
  rw [Int.fdiv_eq_ediv_of_nonneg _ (by decide)]
  omega⟩
theorem and1 (u : Nat) (h : u < 18446744073709551616) : AndF .u64 (u : Int) 1 ((u % 2 : Nat) : Int) := by
  refine ⟨?_⟩
  have e : bits .and .u64 (u : Int) 1 = IntKind.u64.wrap ((BitVec.ofInt 64 (u : Int) &&& BitVec.ofInt 64 1).toNat : Int) := rfl
  have e2 : (BitVec.ofInt 64 (1 : Int)).toNat = 1 := by decide
  rw [e, BitVec.toNat_and, ofInt_nat _ h, e2, Nat.and_one_is_mod, u64_wrap _ (by omega)]
theorem xor_zag (u : Nat) (h : u < 18446744073709551616) : XorF .i64 ((u / 2 : Nat) : Int) (-((u % 2 : Nat) : Int)) (zag u) := by
  refine ⟨?_⟩
  have e : ∀ j : Int, bits .xor .i64 ((u / 2 : Nat) : Int) j = IntKind.i64.wrap ((BitVec.ofInt 64 ((u / 2 : Nat) : Int) ^^^ BitVec.ofInt 64 j).toNat : Int) := fun _ => rfl
  rw [e]
  unfold zag
  by_cases hx : u % 2 = 1
  · rw [if_pos hx, hx]
    have e2 : BitVec.ofInt 64 (-((1 : Nat) : Int)) = BitVec.allOnes 64 := by decide
    rw [e2, BitVec.xor_allOnes, BitVec.toNat_not, ofInt_nat _ (by omega)]
    simp only [IntKind.wrap, IntKind.signed, IntKind.bits]
    simp
    omega
  · rw [if_neg hx, show u % 2 = 0 by omega]
    have e2 : BitVec.ofInt 64 (-((0 : Nat) : Int)) = 0#64 := by decide
    rw [e2, BitVec.xor_zero, ofInt_nat _ (by omega), i64_wrap _ (by omega)]
section
variable {W : World} {F : Nat → Addr} {p : Nat}
theorem wint_ct {l : List UInt8} (x : Int) (h : -9223372036854775808 ≤ x ∧ x ≤ 9223372036854775807) (hl : l.length + 10 ≤ 140737488355328) : Ct Tryz.prog W 41 [.pointer (some ⟨p, 0, none⟩), .int .i64 x] [WrP p l] (fun _ : Unit => .tuple #[]) (fun _ => [WrP p (l ++ vu (zig x))]) := by
  have cu := wuint_ct (W := W) (p := p) (l := l) (zig x) (zig_lt64 x h) hl
  have e1 := dbl_eq x h
  have e2 := shr63 x h
  have e3 := neg_bits x
  have e4 := xor_zig x h
  refine Ct.enter Tryz.func41 rfl Tryz.ntmps41 (by simp) (fun R => ?_)
  repeat' (first 
    | (refine is_call ?_; refine KJ_call xE cu xP rfl (fun _ => ?_))
    | (refine ek_conv ?_; first | refine EK_ev (Ev_convI_v rfl e3) ?_ | refine EK_ev (Ev_convI_v rfl e1) ?_)
    | (refine ek_xor ?_; refine EK_ev (Ev_xor_s rfl rfl e4) ?_)
    | (refine ek_shl ?_; refine EK_ev (Ev_shl_t rfl rfl (shl1 x)) ?_)
    | (refine ek_shr ?_; refine EK_ev (Ev_shr_s rfl rfl e2) ?_)
    | refine xst ?_
    | (refine xsa ?_; intro _)
    | (refine xsb ?_ ?_ <;> intro _ <;> first | (exfalso; omega) | skip)
    | refine xsc ?_
    | fail)
  all_goals (exact xdn ())
theorem rint_ct {s : List UInt8} {a : Nat} (ha : a ≤ s.length) (hs : s.length ≤ 9223372036854775807) (e1 : W.cell? ⟨5, 0, none⟩ = some (errV F 1)) (e2 : W.cell? ⟨6, 0, none⟩ = some (errV F 2)) (q : Rd Nat) (hq : ru (s.drop a) = q) :
    Ct Tryz.prog W 54 [.pointer (some ⟨p, 0, none⟩)] [rdP p s a] (fun _ : Unit => .tuple #[.int .i64 (zag (rdN q)), errV F (rdE q)]) (fun _ => [rdP p s (a + rdL q)]) := by
  have cu := ruint_ct (W := W) (F := F) (p := p) ha hs e1 e2 q hq
  have hu : rdN q < 18446744073709551616 := by
    cases q with
    | bad e => show (0 : Nat) < _; omega
    | ok x t => exact (vu_ru hq).2
  obtain ⟨u, hu0⟩ : ∃ u, u = rdN q := ⟨_, rfl⟩
  rw [← hu0] at cu hu ⊢
  have f1 := shr1 u
  have f2 := and1 u hu
  have f3 := xor_zag u hu
  have g1 : IntKind.i64.wrap ((u / 2 : Nat) : Int) = ((u / 2 : Nat) : Int) := i64_wrap _ (by omega)
  have g2 : IntKind.i64.wrap ((u % 2 : Nat) : Int) = ((u % 2 : Nat) : Int) := i64_wrap _ (by omega)
  have g3 : IntKind.i64.wrap (0 - ((u % 2 : Nat) : Int)) = -((u % 2 : Nat) : Int) := by rw [i64_wrap _ (by omega)]; omega
  refine Ct.enter Tryz.func54 rfl Tryz.ntmps54 (by simp) (fun R => ?_)
  repeat' (first 
    | (refine is_call ?_; refine KJ_call xE cu xP rfl (fun _ => ?_))
    | (refine ek_un ?_; refine EK_ev (Ev_neg_v rfl g3) ?_)
    | (refine ek_conv ?_; first | refine EK_ev (Ev_convI_v rfl g2) ?_ | refine EK_ev (Ev_convI_v rfl g1) ?_)
    | (refine ek_and ?_; refine EK_ev (Ev_and_s rfl rfl f2) ?_)
    | (refine ek_xor ?_; refine EK_ev (Ev_xor_s rfl rfl f3) ?_)
    | (refine ek_shr ?_; refine EK_ev (Ev_shr_s rfl rfl f1) ?_)
    | refine xst ?_
    | (refine xsa ?_; intro _)
    | (refine xsb ?_ ?_ <;> intro _ <;> first | (exfalso; omega) | skip)
    | refine xsc ?_
    | fail)
  all_goals (exact xdn ())
end
end Go.Proofs.YtdbfemdpdpaffaaGreatDoor
/-
  posting.Check, posting.Encode.
-/
namespace Go.Proofs.YtdbfemdpdpaffaaGreatDoor
open Go Go.RowKit Go.MapKept
def pstC (p : Pst) (a : Option Addr) (c : Nat) : List Value := [strV p.id, .int .i64 p.tick, strV p.note, .slice a p.legs.length c]
/-- a posting's texts and numbers are of Go's sizes -/
structure PstFit (p : Pst) : Prop where
  id : p.id.length ≤ 2000000
  tick : -9223372036854775808 ≤ p.tick ∧ p.tick ≤ 9223372036854775807
  note : p.note.length ≤ 2000000
  legs : p.legs.length ≤ 2000000
  acc : ∀ x ∈ p.legs, x.acc.length ≤ 2000000
  amt : ∀ x ∈ p.legs, -9223372036854775808 ≤ x.amt ∧ x.amt ≤ 9223372036854775807
section
variable {W : World} {F : Nat → Addr}
set_option maxHeartbeats 4000000 in
theorem pcheck_ct (er : PErr W F) (A : SP) (a : Option Addr) (c : Nat) (p : Pst) (hp : PstFit p) (hL : Lv W legC 2 A a p.legs) :
    Ct Tryz.prog W 16 [.agg (pstC p a c).toArray] [A] (fun _ : Unit => errV F (checkE p)) (fun _ => [A]) := by
  obtain ⟨id, tick, note, legs⟩ := p
  obtain ⟨h1, h2, h3, h4, h5, h6⟩ := hp
  dsimp only at h1 h2 h3 h4 h5 h6 hL
  have ci := idfits_ct (W := W) (F := F) id h1 er.e26
  obtain ⟨e3, e7, e8, e9, e20, e24, e26, e33⟩ := er
  obtain ⟨r0, hr0⟩ : ∃ r0, r0 = checkE ⟨id, tick, note, legs⟩ := ⟨_, rfl⟩
  rw [← hr0]
  unfold checkE at hr0
  dsimp only at hr0
  unfold pstC
  dsimp only
  cases hi : pidOk id with
  | false =>
    rw [hi] at ci hr0
    have hr : r0 = 26 := hr0.trans (if_pos rfl)
    subst hr
    refine Ct.enter Tryz.func16 rfl Tryz.ntmps16 (by simp) (fun R => ?_)
    repeat' (first 
    | (refine is_box ?_; refine KJ_box rfl xF rfl (fun g => ?_))
    | (refine is_call ?_; refine KJ_call xE ci xP rfl (fun _ => ?_))
    | (refine ek_load ?_; refine EK_ev (Ev_loadOld rfl e26) ?_)
    | refine xst ?_
    | (refine xsa ?_; intro _)
    | (refine xsb ?_ ?_ <;> intro _ <;> first | (exfalso; omega) | skip)
    | refine xsc ?_
    | fail)
    all_goals (exact xdn ())
  | true =>
  rw [hi] at ci hr0
  replace hr0 := hr0.trans (if_neg (by decide))
  cases q1 : decide (tick < 0) with
  | true =>
    have hr : r0 = 33 := hr0.trans (if_pos (.inl (of_decide_eq_true q1)))
    subst hr
    refine Ct.enter Tryz.func16 rfl Tryz.ntmps16 (by simp) (fun R => ?_)
    repeat' (first 
    | (refine is_box ?_; refine KJ_box rfl xF rfl (fun g => ?_))
    | (refine is_call ?_; refine KJ_call xE ci xP rfl (fun _ => ?_))
    | (refine ek_load ?_; refine EK_ev (Ev_loadOld rfl e33) ?_)
    | (refine ek_lss ?_; refine EK_ev (Ev_lssI_q rfl rfl q1) ?_)
    | refine xst ?_
    | (refine xsa ?_; intro _)
    | (refine xsb ?_ ?_ <;> intro _ <;> first | (exfalso; omega) | skip)
    | refine xsc ?_
    | fail)
    all_goals (exact xdn ())
  | false =>
  cases q2 : decide ((1099511627776 : Int) < tick) with
  | true =>
    have hr : r0 = 33 := hr0.trans (if_pos (.inr (of_decide_eq_true q2)))
    subst hr
    refine Ct.enter Tryz.func16 rfl Tryz.ntmps16 (by simp) (fun R => ?_)
    repeat' (first 
    | (refine is_box ?_; refine KJ_box rfl xF rfl (fun g => ?_))
    | (refine is_call ?_; refine KJ_call xE ci xP rfl (fun _ => ?_))
    | (refine ek_load ?_; refine EK_ev (Ev_loadOld rfl e33) ?_)
    | (refine ek_lss ?_; refine EK_ev (Ev_lssI_q rfl rfl q1) ?_)
    | (refine ek_gtr ?_; refine EK_ev (Ev_gtrI_q rfl rfl q2) ?_)
    | refine xst ?_
    | (refine xsa ?_; intro _)
    | (refine xsb ?_ ?_ <;> intro _ <;> first | (exfalso; omega) | skip)
    | refine xsc ?_
    | fail)
    all_goals (exact xdn ())
  | false =>
  replace hr0 := hr0.trans (if_neg (fun h => h.elim (of_decide_eq_false q1) (of_decide_eq_false q2)))
  by_cases h255 : 255 < note.length
  · have q3 : decide ((255 : Int) < ((note.length : Nat) : Int)) = true := decide_eq_true (by omega)
    have hr : r0 = 3 := hr0.trans (if_pos h255)
    subst hr
    refine Ct.enter Tryz.func16 rfl Tryz.ntmps16 (by simp) (fun R => ?_)
    repeat' (first 
    | (refine is_box ?_; refine KJ_box rfl xF rfl (fun g => ?_))
    | (refine is_call ?_; refine KJ_call xE ci xP rfl (fun _ => ?_))
    | (refine ek_load ?_; refine EK_ev (Ev_loadOld rfl e3) ?_)
    | (refine ek_lss ?_; refine EK_ev (Ev_lssI_q rfl rfl q1) ?_)
    | (refine ek_gtr ?_; first | refine EK_ev (Ev_gtrI_q rfl rfl q3) ?_ | refine EK_ev (Ev_gtrI_q rfl rfl q2) ?_)
    | refine xst ?_
    | (refine xsa ?_; intro _)
    | (refine xsb ?_ ?_ <;> intro _ <;> first | (exfalso; omega) | skip)
    | refine xsc ?_
    | fail)
    all_goals (exact xdn ())
  have q3 : decide ((255 : Int) < ((note.length : Nat) : Int)) = false := decide_eq_false (by omega)
  replace hr0 := hr0.trans (if_neg h255)
  by_cases hl2 : legs.length < 2
  · have q4 : decide (((legs.length : Nat) : Int) < 2) = true := decide_eq_true (by omega)
    have hr : r0 = 24 := hr0.trans (if_pos (.inl hl2))
    subst hr
    refine Ct.enter Tryz.func16 rfl Tryz.ntmps16 (by simp) (fun R => ?_)
    repeat' (first 
    | (refine is_box ?_; refine KJ_box rfl xF rfl (fun g => ?_))
    | (refine is_call ?_; refine KJ_call xE ci xP rfl (fun _ => ?_))
    | (refine ek_load ?_; refine EK_ev (Ev_loadOld rfl e24) ?_)
    | (refine ek_lss ?_; first | refine EK_ev (Ev_lssI_q rfl rfl q4) ?_ | refine EK_ev (Ev_lssI_q rfl rfl q1) ?_)
    | (refine ek_gtr ?_; first | refine EK_ev (Ev_gtrI_q rfl rfl q3) ?_ | refine EK_ev (Ev_gtrI_q rfl rfl q2) ?_)
    | refine xst ?_
    | (refine xsa ?_; intro _)
    | (refine xsb ?_ ?_ <;> intro _ <;> first | (exfalso; omega) | skip)
    | refine xsc ?_
    | fail)
    all_goals (exact xdn ())
  have q4 : decide (((legs.length : Nat) : Int) < 2) = false := decide_eq_false (by omega)
  by_cases hl8 : 8 < legs.length
  · have q5 : decide ((8 : Int) < ((legs.length : Nat) : Int)) = true := decide_eq_true (by omega)
    have hr : r0 = 24 := hr0.trans (if_pos (.inr hl8))
    subst hr
    refine Ct.enter Tryz.func16 rfl Tryz.ntmps16 (by simp) (fun R => ?_)
    repeat' (first 
    | (refine is_box ?_; refine KJ_box rfl xF rfl (fun g => ?_))
    | (refine is_call ?_; refine KJ_call xE ci xP rfl (fun _ => ?_))
    | (refine ek_load ?_; refine EK_ev (Ev_loadOld rfl e24) ?_)
    | (refine ek_lss ?_; first | refine EK_ev (Ev_lssI_q rfl rfl q4) ?_ | refine EK_ev (Ev_lssI_q rfl rfl q1) ?_)
    | (refine ek_gtr ?_; first | refine EK_ev (Ev_gtrI_q rfl rfl q5) ?_ | refine EK_ev (Ev_gtrI_q rfl rfl q3) ?_ | refine EK_ev (Ev_gtrI_q rfl rfl q2) ?_)
    | refine xst ?_
    | (refine xsa ?_; intro _)
    | (refine xsb ?_ ?_ <;> intro _ <;> first | (exfalso; omega) | skip)
    | refine xsc ?_
    | fail)
    all_goals (exact xdn ())
  have q5 : decide ((8 : Int) < ((legs.length : Nat) : Int)) = false := decide_eq_false (by omega)
  replace hr0 := hr0.trans (if_neg (fun h => h.elim hl2 hl8))
  have cl := checklegs_ct (W := W) (F := F) ⟨e3, e7, e8, e9, e20, e24, e26, e33⟩ A a c legs hL (by omega) h5
  rw [← hr0] at cl
  refine Ct.enter Tryz.func16 rfl Tryz.ntmps16 (by simp) (fun R => ?_)
  repeat' (first 
    | (refine is_box ?_; refine KJ_box rfl xF rfl (fun g => ?_))
    | (refine is_call ?_; first | (refine KJ_call xE cl xP rfl (fun _ => ?_)) | (refine KJ_call xE ci xP rfl (fun _ => ?_)))
    | (refine ek_lss ?_; first | refine EK_ev (Ev_lssI_q rfl rfl q4) ?_ | refine EK_ev (Ev_lssI_q rfl rfl q1) ?_)
    | (refine ek_gtr ?_; first | refine EK_ev (Ev_gtrI_q rfl rfl q5) ?_ | refine EK_ev (Ev_gtrI_q rfl rfl q3) ?_ | refine EK_ev (Ev_gtrI_q rfl rfl q2) ?_)
    | refine xst ?_
    | (refine xsa ?_; intro _)
    | (refine xsb ?_ ?_ <;> intro _ <;> first | (exfalso; omega) | skip)
    | refine xsc ?_
    | fail)
  all_goals (exact xdn ())
end
end Go.Proofs.YtdbfemdpdpaffaaGreatDoor
/-
  posting.Encode.
-/
namespace Go.Proofs.YtdbfemdpdpaffaaGreatDoor
open Go Go.RowKit Go.MapKept
theorem tx_le (s : List UInt8) : (tx s).length ≤ s.length + 10 := by
  unfold tx
  rw [List.length_append]
  have : (vu s.length).length ≤ 10 := vuF_le 10 _
  omega
/-- what is written when i legs are -/
def encX (p : Pst) (i : Nat) : List UInt8 := tx p.id ++ vu p.tick.toNat ++ tx p.note ++ vu p.legs.length ++ (p.legs.take i).flatMap encLeg
theorem encX_zero (p : Pst) : encX p 0 = tx p.id ++ vu p.tick.toNat ++ tx p.note ++ vu p.legs.length := by unfold encX; simp
theorem encX_all (p : Pst) : encX p p.legs.length = encPst p := by unfold encX encPst; rw [List.take_length]
theorem encX_next {p : Pst} {i : Nat} {x : Leg} (hx : p.legs[i]? = some x) : encX p (i + 1) = encX p i ++ tx x.acc ++ vu (zig x.amt) := by
  unfold encX encLeg
  rw [List.take_add_one, hx]
  simp [List.append_assoc]
theorem encX_len {p : Pst} (h : checkE p = 0) (i : Nat) : (encX p i).length ≤ 1000 := by
  obtain ⟨h1, h2, h3, h4, h5, h6, h7⟩ := checkE_zero h
  have q := legs_len (p.legs.take i) (fun x hx => legsE_ok h7 x (List.mem_of_mem_take hx))
  have hid := pidOk_len h1
  have v1 := vu_short (x := p.id.length) (k := 1) (by omega) (by omega)
  have v2 := vu_short (x := p.tick.toNat) (k := 6) (by omega) (by omega)
  have v3 := vu_short (x := p.note.length) (k := 2) (by omega) (by omega)
  have v4 := vu_short (x := p.legs.length) (k := 1) (by omega) (by omega)
  have v5 : (p.legs.take i).length ≤ 8 := by rw [List.length_take]; omega
  unfold encX
  simp only [List.length_append, tx]
  omega
section
variable {W : World} {F : Nat → Addr}
set_option maxHeartbeats 4000000 in
theorem pencode_ct (er : PErr W F) (A : SP) (a : Option Addr) (c : Nat) (p : Pst) (hp : PstFit p) (hL : Lv W legC 2 A a p.legs) :
    Ct Tryz.prog W 17 [.agg (pstC p a c).toArray] [A] (fun _ : Unit => .tuple #[strV (if checkE p = 0 then encPst p else []), errV F (checkE p)]) (fun _ => [A]) := by
  have cc := pcheck_ct er A a c p hp hL
  by_cases h0 : checkE p = 0
  case neg =>
    have hne := errNe (F := F) h0
    rw [if_neg h0]
    unfold pstC at cc ⊢
    refine Ct.enter Tryz.func17 rfl Tryz.ntmps17 (by simp) (fun R => ?_)
    repeat' (first 
    | (refine is_box ?_; refine KJ_box rfl xF rfl (fun g => ?_))
    | (refine is_call ?_; refine KJ_call xE cc xP rfl (fun _ => ?_))
    | (refine ek_neq ?_; refine EK_ev (Ev_neqNil rfl hne) ?_)
    | refine xst ?_
    | (refine xsa ?_; intro _)
    | (refine xsb ?_ ?_ <;> intro _ <;> first | (exfalso; omega) | skip)
    | refine xsc ?_
    | fail)
    all_goals (exact xdn ())
  rw [h0] at cc
  rw [if_pos h0, h0]
  have hx0 := encX_zero p
  have hxa := encX_all p
  have hxn := fun i x => encX_next (p := p) (i := i) (x := x)
  have hxl := encX_len h0
  obtain ⟨k1, k2, k3, k4, k5, k6, k7⟩ := checkE_zero h0
  have kl := legsE_zero k7
  have kid := pidOk_len k1
  have hamt := hp.amt
  obtain ⟨B, hB⟩ : ∃ B : Nat → List UInt8, B = encX p := ⟨_, rfl⟩
  obtain ⟨out, hout⟩ : ∃ out, out = encPst p := ⟨_, rfl⟩
  rw [← hB] at hx0 hxa hxn hxl
  rw [← hout] at hxa ⊢
  have hpos : 0 < out.length := by
    rw [← hxa]
    cases hn : p.legs.length with
    | zero => omega
    | succ m =>
      obtain ⟨x, hx⟩ : ∃ x, p.legs[m]? = some x := ⟨_, List.getElem?_eq_getElem (by omega)⟩
      rw [hxn m x hx]
      have : 1 ≤ (vu (zig x.amt)).length := vuF_pos 9 _
      simp only [List.length_append]; omega
  clear hB hout
  obtain ⟨id, tick, note, legs⟩ := p
  dsimp only at k1 k2 k3 k4 k5 k6 kl kid hamt hx0 hxa hxn hL
  have ex : IntKind.u64.wrap tick = ((tick.toNat : Nat) : Int) := by
    have := u64_wrap tick.toNat (by omega)
    rwa [Int.toNat_of_nonneg k2] at this ⊢
  have el : IntKind.u64.wrap ((legs.length : Nat) : Int) = ((legs.length : Nat) : Int) := u64_wrap _ (by omega)
  have cn := wnew_ct (W := W)
  have c1 : ∀ w, Ct Tryz.prog W 39 [.pointer (some ⟨w, 0, none⟩), strV id] [WrP w []] (fun _ : Unit => .tuple #[]) (fun _ => [WrP w (tx id)]) := fun w => wtext_ct (W := W) (p := w) (l := []) id (by simp; omega)
  have c2 : ∀ w, Ct Tryz.prog W 40 [.pointer (some ⟨w, 0, none⟩), .int .u64 (tick.toNat : Nat)] [WrP w (tx id)] (fun _ : Unit => .tuple #[]) (fun _ => [WrP w (tx id ++ vu tick.toNat)]) := fun w => wuint_ct (W := W) (p := w) (l := tx id) tick.toNat (by omega) (by have := tx_le id; omega)
  have c3 : ∀ w, Ct Tryz.prog W 39 [.pointer (some ⟨w, 0, none⟩), strV note] [WrP w (tx id ++ vu tick.toNat)] (fun _ : Unit => .tuple #[]) (fun _ => [WrP w (tx id ++ vu tick.toNat ++ tx note)]) := fun w => wtext_ct (W := W) (p := w) (l := tx id ++ vu tick.toNat) note (by have := tx_le id; have := vu_len tick.toNat; rw [List.length_append]; omega)
  have c4 : ∀ w, Ct Tryz.prog W 40 [.pointer (some ⟨w, 0, none⟩), .int .u64 (legs.length : Nat)] [WrP w (tx id ++ vu tick.toNat ++ tx note)] (fun _ : Unit => .tuple #[]) (fun _ => [WrP w (B 0)]) := fun w => by
    rw [hx0]
    exact wuint_ct (W := W) (p := w) (l := tx id ++ vu tick.toNat ++ tx note) legs.length (by omega) (by have := tx_le id; have := vu_len tick.toNat; have := tx_le note; rw [List.length_append, List.length_append]; omega)
  have co := fun w => wout_ct (W := W) (p := w) (l := out) hpos
  unfold pstC at cc ⊢
  dsimp only at cc ⊢
  refine Ct.enter Tryz.func17 rfl Tryz.ntmps17 (by simp) (fun R => ?_)
  repeat' (first 
    | (refine is_box ?_; refine KJ_box rfl xF rfl (fun g => ?_))
    | (refine is_call ?_; first | (refine KJ_call xE cn xP rfl (fun w => ?_)) | (refine KJ_call xE (c4 _) xP rfl (fun _ => ?_)) | (refine KJ_call xE (c3 _) xP rfl (fun _ => ?_)) | (refine KJ_call xE (c2 _) xP rfl (fun _ => ?_)) | (refine KJ_call xE (c1 _) xP rfl (fun _ => ?_)) | (refine KJ_call xE cc xP rfl (fun _ => ?_)))
    | (refine ek_conv ?_; first | refine EK_ev (Ev_convI_v rfl el) ?_ | refine EK_ev (Ev_convI_v rfl ex) ?_)
    | refine xst ?_
    | (refine xsa ?_; intro _)
    | (refine xsb ?_ ?_ <;> intro _ <;> first | (exfalso; omega) | skip)
    | refine xsc ?_
    | fail)
  refine KJ_loop (fun i : {i : Nat // i ≤ legs.length} => [(5, .pointer (some ⟨w, 0, none⟩)), (34, .slice a legs.length c), (35, .int .i64 (legs.length : Nat)), (36, .int .i64 (i.1 : Nat))])
    (fun i => [WrP w (B i.1), A] ++ R) (fun i => legs.length - i.1) ⟨0, Nat.zero_le _⟩ xB (xN) (fun ⟨i, hi⟩ => ?_)
  dsimp only
  by_cases hlt : i < legs.length
  · have ql : decide ((i : Int) < (legs.length : Nat)) = true := decide_eq_true (by omega)
    obtain ⟨x, hx⟩ : ∃ s, legs[i]? = some s := ⟨_, List.getElem?_eq_getElem hlt⟩
    refine KJ.lvSome hL xS (by omega) (fun b of hab => ?_)
    subst hab
    have hoff : of + Int.toNat (i : Int) * 2 = of + i * 2 := by simp
    have hnx := hxn i x hx
    have hl := hxl i
    have hm := List.mem_of_getElem? hx
    have ha := hamt x hm
    have hq := accB_len (kl.1 x hm)
    obtain ⟨acc, amt⟩ := x
    dsimp only at hnx ha hq
    obtain ⟨X, hX⟩ : ∃ X, X = B i := ⟨_, rfl⟩
    obtain ⟨Y, hY⟩ : ∃ Y, Y = B (i + 1) := ⟨_, rfl⟩
    rw [← hX] at hnx hl ⊢
    rw [← hY] at hnx
    have c5 : Ct Tryz.prog W 39 [.pointer (some ⟨w, 0, none⟩), strV acc] [WrP w X] (fun _ : Unit => .tuple #[]) (fun _ => [WrP w (X ++ tx acc)]) := wtext_ct (W := W) (p := w) (l := X) acc (by omega)
    have c6 : Ct Tryz.prog W 41 [.pointer (some ⟨w, 0, none⟩), .int .i64 amt] [WrP w (X ++ tx acc)] (fun _ : Unit => .tuple #[]) (fun _ => [WrP w Y]) := by
      rw [hnx]
      exact wint_ct (W := W) (p := w) (l := X ++ tx acc) amt ha (by have := tx_le acc; rw [List.length_append]; omega)
    rw [hY] at c6
    repeat' (first 
    | (refine is_alloc ?_; refine KJ_alloc rfl (fun g5 => ?_))
    | (refine is_call ?_; first | (refine KJ_call xE c6 xP rfl (fun _ => ?_)) | (refine KJ_call xE c5 xP rfl (fun _ => ?_)))
    | (refine ek_load ?_; refine EK_ev (Ev_loadLv enc_leg hL rfl rfl xS hoff hx) ?_)
    | (refine ek_add ?_; refine EK_ev (Ev_addI_v (r := ((i + 1 : Nat) : Int)) rfl rfl (by omega) (by omega)) ?_)
    | (refine ek_lss ?_; refine EK_ev (Ev_lssI_q rfl rfl ql) ?_)
    | refine xst ?_
    | (refine xsa ?_; intro _)
    | (refine xsb ?_ ?_ <;> intro _ <;> first | (exfalso; omega) | skip)
    | refine xsc ?_
    | fail)
    all_goals refine KJ_again ⟨i + 1, hlt⟩ (by show legs.length - (i + 1) < legs.length - i; omega) xB (xN)
  have ql : decide ((i : Int) < (legs.length : Nat)) = false := decide_eq_false (by omega)
  have ei : i = legs.length := by omega
  subst ei
  rw [hxa]
  have cow := co w
  repeat' (first 
    | (refine is_call ?_; refine KJ_call xE cow xP rfl (fun _ => ?_))
    | (refine ek_lss ?_; refine EK_ev (Ev_lssI_q rfl rfl ql) ?_)
    | refine xst ?_
    | (refine xsa ?_; intro _)
    | (refine xsb ?_ ?_ <;> intro _ <;> first | (exfalso; omega) | skip)
    | refine xsc ?_
    | fail)
  all_goals (exact xdn ())
end
end Go.Proofs.YtdbfemdpdpaffaaGreatDoor
