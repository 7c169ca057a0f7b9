/-
  PoP.
-/
import Derived.Test.YtdbfemdpdpaffaaDoorPAM
/-
  Chapters 3, 4, 5 and 16 as plain data: check digits, currencies, account numbers, ids.
-/
namespace Go.Proofs.YtdbfemdpdpaffaaDoor
open Go Go.RowKit
def capB (b : UInt8) : Bool := decide (65 ≤ b.toNat) && decide (b.toNat ≤ 90)
def digB (b : UInt8) : Bool := decide (48 ≤ b.toNat) && decide (b.toNat ≤ 57)
def lowB (b : UInt8) : Bool := decide (97 ≤ b.toNat) && decide (b.toNat ≤ 122)
def idB (b : UInt8) : Bool := capB b || digB b || lowB b || decide (b.toNat = 46) || decide (b.toNat = 95) || decide (b.toNat = 45)
/-- what a text of digits and capitals leaves, divided by 97 -/
def restG : List UInt8 → Nat → Option Nat
  | [], r => some r
  | b :: l, r => if digB b = true then restG l ((10 * r + (b.toNat - 48)) % 97) else if capB b = true then restG l ((100 * r + (b.toNat - 65) + 10) % 97) else none
theorem restG_lt : ∀ (l : List UInt8) {r x : Nat}, r < 97 → restG l r = some x → x < 97
  | [], r, x, h, e => by cases e; exact h
  | b :: l, r, x, h, e => by
    unfold restG at e
    split at e
    · exact restG_lt l (Nat.mod_lt _ (by omega)) e
    split at e
    · exact restG_lt l (Nat.mod_lt _ (by omega)) e
    · cases e
theorem restG_all : ∀ (l : List UInt8) (r : Nat), (restG l r).isSome = l.all fun b => digB b || capB b
  | [], _ => rfl
  | b :: l, r => by
    unfold restG
    cases h1 : digB b with
    | true => rw [if_pos rfl, restG_all]; simp [h1]
    | false =>
      rw [if_neg (by decide)]
      cases h2 : capB b with
      | true => rw [if_pos rfl, restG_all]; simp [h1, h2]
      | false => rw [if_neg (by decide)]; simp [h1, h2]
/-- the two check digits -/
def dig2 (r : Nat) : List UInt8 := [UInt8.ofNat (48 + (98 - r) / 10), UInt8.ofNat (48 + (98 - r) % 10)]
def digits2 (s : List UInt8) : Option (List UInt8) := if s = [] then none else (restG (s ++ [48, 48]) 0).map dig2
/-- an account number's error: 0, 7 (form), 8 (digits) -/
def formA (s : List UInt8) : Bool := decide (5 ≤ s.length) && decide (s.length ≤ 34) && (s.take 2).all capB && ((s.drop 2).take 2).all digB && (s.drop 4).all fun b => capB b || digB b
def accE (s : List UInt8) : Nat := if formA s = false then 7 else if digits2 (s.drop 4 ++ s.take 2) = some ((s.drop 2).take 2) then 0 else 8
def codeB (s : List UInt8) : Bool := decide (s.length = 3) && s.all capB
/-- "outside.", "suspense.", "clearing.", "fees." -/
def kinds4 : List (List UInt8) := [[111, 117, 116, 115, 105, 100, 101, 46], [115, 117, 115, 112, 101, 110, 115, 101, 46], [99, 108, 101, 97, 114, 105, 110, 103, 46], [102, 101, 101, 115, 46]]
def sysB (s : List UInt8) : Bool := kinds4.any fun p => decide (s.take p.length = p) && codeB (s.drop p.length)
/-- a leg's account -/
def accB (s : List UInt8) : Bool := decide (accE s = 0) || sysB s
/-- a payment's or a posting's id -/
def idOk (s : List UInt8) : Bool := decide (1 ≤ s.length) && decide (s.length ≤ 32) && s.all idB
def pidOk (s : List UInt8) : Bool := match s with
  | [] => false
  | b :: l => if b.toNat = 35 then idOk l && decide (l.length ≤ 31) else idOk s
structure Leg where
  acc : List UInt8
  amt : Int
  deriving DecidableEq
structure Pst where
  id : List UInt8
  tick : Int
  note : List UInt8
  legs : List Leg
/-- a posting's error by its legs -/
def legsE (l : List Leg) : Nat := if l.all (fun x => accB x.acc) = false then 20 else if l.all (fun x => decide (x.amt ≠ 0) && decide (x.amt ≤ 4611686018427387904) && decide (-4611686018427387904 ≤ x.amt)) = false then 9
  else if (l.map (·.acc)).Nodup ∧ (l.map (·.amt)).sum = 0 then 0 else 24
def checkE (p : Pst) : Nat := if pidOk p.id = false then 26 else if p.tick < 0 ∨ 1099511627776 < p.tick then 33 else if 255 < p.note.length then 3 else if p.legs.length < 2 ∨ 8 < p.legs.length then 24 else legsE p.legs
def zig (x : Int) : Nat := if x < 0 then (2 * (-(x + 1)) + 1).toNat else (2 * x).toNat
def zag (x : Nat) : Int := if x % 2 = 1 then -((x / 2 : Nat) : Int) - 1 else ((x / 2 : Nat) : Int)
theorem zag_zig (x : Int) : zag (zig x) = x := by
  unfold zag zig
  split <;> split <;> omega
theorem zig_zag (x : Nat) : zig (zag x) = x := by
  unfold zag zig
  split <;> split <;> omega
def encLeg (l : Leg) : List UInt8 := tx l.acc ++ vu (zig l.amt)
def encPst (p : Pst) : List UInt8 := tx p.id ++ vu p.tick.toNat ++ tx p.note ++ vu p.legs.length ++ p.legs.flatMap encLeg
def rup (most : Nat) (l : List UInt8) : Rd Nat := match ru l with
  | .bad e => .bad e
  | .ok n t => if most < n then .bad 3 else .ok n t
def rdLeg (l : List UInt8) : Rd Leg := match rtx 34 l with
  | .bad e => .bad e
  | .ok a t => match ru t with
    | .bad e => .bad e
    | .ok x t => .ok ⟨a, zag x⟩ t
def rdLegs : Nat → List UInt8 → Rd (List Leg)
  | 0, l => .ok [] l
  | n + 1, l => match rdLeg l with
    | .bad e => .bad e
    | .ok x t => match rdLegs n t with
      | .bad e => .bad e
      | .ok xs t => .ok (x :: xs) t
def rdPst (s : List UInt8) : Rd Pst := match rtx 32 s with
  | .bad e => .bad e
  | .ok i t => match rup 1099511627776 t with
    | .bad e => .bad e
    | .ok k t => match rtx 255 t with
      | .bad e => .bad e
      | .ok n t => match rup 8 t with
        | .bad e => .bad e
        | .ok c t => match rdLegs c t with
          | .bad e => .bad e
          | .ok ls t => if t = [] then .ok ⟨i, k, n, ls⟩ [] else .bad 5
/-- Decode: the posting, the error's number -/
def decPst (s : List UInt8) : Pst × Nat := match rdPst s with
  | .bad e => (⟨[], 0, [], []⟩, e)
  | .ok p _ => if checkE p = 0 then (p, 0) else (⟨[], 0, [], []⟩, checkE p)
end Go.Proofs.YtdbfemdpdpaffaaDoor
