/-
  ChLP.
-/
import Derived.Test.YtnbgcimalpdfoaaGreatDoorQAU
/-
  ChartLives (chapter 15) as plain data: an account number that is made; what the calls do to rows.
-/
namespace Go.Proofs.YtnbgcimalpdfoaaGreatDoor
open Go Go.RowKit
abbrev frB : List UInt8 := [70, 82]
def bodyOk (b : List UInt8) : Bool := decide (1 ≤ b.length) && decide (b.length ≤ 30) && b.all fun x => capB x || digB x
theorem dig2_ok {x : Nat} (h : x < 97) : (dig2 x).all digB = true := by
  have h1 : digB (UInt8.ofNat (48 + (98 - x) / 10)) = true := by
    unfold digB
    rw [UInt8.toNat_ofNat']
    simp only [Bool.and_eq_true, decide_eq_true_eq]
    omega
  have h2 : digB (UInt8.ofNat (48 + (98 - x) % 10)) = true := by
    unfold digB
    rw [UInt8.toNat_ofNat']
    simp only [Bool.and_eq_true, decide_eq_true_eq]
    omega
  unfold dig2
  simp only [List.all_cons, List.all_nil, h1, h2]
  rfl
theorem made_ok {b : List UInt8} (hb : bodyOk b = true) {x : Nat} (hx : restG ((b ++ frB) ++ [48, 48]) 0 = some x) : accE (frB ++ dig2 x ++ b) = 0 := by
  unfold bodyOk at hb
  simp only [Bool.and_eq_true, decide_eq_true_eq] at hb
  obtain ⟨⟨h1, h2⟩, h3⟩ := hb
  have hd : (dig2 x).length = 2 := rfl
  have e2 : (frB ++ dig2 x ++ b).take 2 = frB := rfl
  have e24 : ((frB ++ dig2 x ++ b).drop 2).take 2 = dig2 x := rfl
  have e4 : (frB ++ dig2 x ++ b).drop 4 = b := rfl
  have hl : (frB ++ dig2 x ++ b).length = b.length + 4 := by rw [List.length_append, List.length_append, hd]; show 2 + 2 + b.length = _; omega
  have hx97 := restG_lt _ (show 0 < 97 by omega) hx
  have hf : formA (frB ++ dig2 x ++ b) = true := by
    unfold formA
    rw [e2, e24, e4, hl, dig2_ok hx97, h3]
    simp only [Bool.and_true, Bool.and_eq_true, decide_eq_true_eq]
    exact ⟨⟨by omega, by omega⟩, by decide⟩
  have hne : b ++ frB ≠ [] := by intro h; have := congrArg List.length h; rw [List.length_append] at this; exact absurd this (by show b.length + 2 ≠ 0; omega)
  have hdg : digits2 (b ++ frB) = some (dig2 x) := by unfold digits2; rw [if_neg hne, hx]; rfl
  unfold accE
  rw [if_neg (by rw [hf]; decide), e4, e2, e24, hdg, if_pos rfl]
theorem openQ_yes {r : Rows} {id c : List UInt8} (h1 : accE id = 0) (h2 : codeB c = true) (h3 : lk r (aKey id) = none) : openE r id c = 0 ∧ openR r id c = putR r (aKey id) (rowA (newA id c)) := by
  have e : openE r id c = 0 := by unfold openE; rw [if_neg (by omega), h2, h3]; rfl
  exact ⟨e, if_pos e⟩
theorem openQ_there {r : Rows} {id c v : List UInt8} (h1 : accE id = 0) (h2 : codeB c = true) (h3 : lk r (aKey id) = some v) : openE r id c = 21 ∧ openR r id c = r := by
  have e : openE r id c = 21 := by unfold openE; rw [if_neg (by omega), h2, h3]; rfl
  exact ⟨e, if_neg (by rw [e]; decide)⟩
theorem custO_row {r : Rows} {id : List UInt8} {a : Acct} (h : lk r (aKey id) = some (rowA a)) (hi : a.id = id) (hg : goodA a = true) (hk : a.kind = 1) : custO r id = some a := by
  have hd : decA id (rowA a) = some a := dec_iff.2 ⟨hi, hg, rfl⟩
  unfold custO getO
  rw [h, Option.bind_some, hd, Option.bind_some, if_pos hk]
theorem custO_gone {r : Rows} {id : List UInt8} (h : lk r (aKey id) = none) : custO r id = none ∧ custE r id = 20 := by
  have e : getO id (lk r (aKey id)) = none := by rw [h]; rfl
  constructor
  · unfold custO; rw [e]; rfl
  · unfold custE; rw [e, h]; rfl
theorem closeQ_none {r : Rows} {id : List UInt8} (h : lk r (aKey id) = none) : closeE r id = 20 ∧ closeR r id = r := by
  obtain ⟨h1, h2⟩ := custO_gone h
  have e : closeE r id = 20 := by unfold closeE; rw [h1]; exact h2
  exact ⟨e, if_neg (by rw [e]; decide)⟩
theorem closeQ_use {r : Rows} {id : List UInt8} {a : Acct} (h : custO r id = some a) (hb : a.bal ≠ 0 ∨ a.held ≠ 0) : closeE r id = 37 ∧ closeR r id = r := by
  have e : closeE r id = 37 := by unfold closeE; rw [h]; exact if_pos hb
  exact ⟨e, if_neg (by rw [e]; decide)⟩
theorem closeQ_yes {r : Rows} {id : List UInt8} {a : Acct} (h : custO r id = some a) (hb : a.bal = 0) (hh : a.held = 0) : closeE r id = 0 ∧ closeR r id = mdel r (aKey id) := by
  have e : closeE r id = 0 := by unfold closeE; rw [h]; exact if_neg (by omega)
  exact ⟨e, if_pos e⟩
theorem setQ_yes {r : Rows} {a : Acct} {v : List UInt8} (hg : goodA a = true) (h : lk r (aKey a.id) = some v) : setE r a = 0 ∧ setR r a = putR r (aKey a.id) (rowA a) := by
  have e : setE r a = 0 := by unfold setE; rw [hg, h]; rfl
  exact ⟨e, if_pos e⟩
theorem freezeQ {r : Rows} {id : List UInt8} {a : Acct} (hr : RisR r) (h : lk r (aKey id) = some (rowA a)) (hi : a.id = id) (hg : goodA a = true) (hk : a.kind = 1) (on : Bool) :
    custE r id = 0 ∧ RisR (freezeR r id on) ∧ (∀ y, lk (freezeR r id on) y = if y = aKey id then some (rowA { a with frozen := on }) else lk r y) := by
  have hc := custO_row h hi hg hk
  refine ⟨(custO_some hc).1, ?_, fun y => ?_⟩
  · unfold freezeR
    rw [hc]
    dsimp only
    split
    · exact hr
    · exact putR_ris hr _ _
  · unfold freezeR
    rw [hc]
    dsimp only
    split
    · rename_i hf
      have e : ({ a with frozen := on } : Acct) = a := by cases a; cases hf; rfl
      rw [e]
      split
      · rename_i hy; rw [hy, h]
      · rfl
    · exact lk_putR hr _ _ _
end Go.Proofs.YtnbgcimalpdfoaaGreatDoor
