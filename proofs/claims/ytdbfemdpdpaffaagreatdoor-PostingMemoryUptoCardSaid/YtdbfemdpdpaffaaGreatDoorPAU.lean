/-
  Mor2, Gen.
-/
import Derived.Test.YtdbfemdpdpaffaaGreatDoorPAQ
import Derived.Test.YtdbfemdpdpaffaaGreatDoorPAS
import Derived.Test.YtdbfemdpdpaffaaGreatDoorPAE
/-
  More rules of the walk: bits, complements, parts of a slice to one end, copies of a string, known answers.
-/
namespace Go.Proofs.YtdbfemdpdpaffaaGreatDoor
open Go Go.RowKit
section
variable {P : Program} {W : World} {n d : Nat} {E : Env} {H H' R : List SP} {t u e : TypeId} {x y z : Operand} {T : TypeId} {b off : Nat} {k : KK}
theorem Ev_xor {kd : IntKind} {i j : Int} (hx : Env.ev E x = some (.int kd i)) (hy : Env.ev E y = some (.int kd j)) : Ev P W n E H (.binOp .xor t x y u) (.int kd (bits .xor kd i j)) := Ev_bits (.inr (.inr (.inl rfl))) hx hy fun _ => rfl
theorem Ev_and {kd : IntKind} {i j : Int} (hx : Env.ev E x = some (.int kd i)) (hy : Env.ev E y = some (.int kd j)) : Ev P W n E H (.binOp .and t x y u) (.int kd (bits .and kd i j)) := Ev_bits (.inl rfl) hx hy fun _ => rfl
theorem Ev_or {kd : IntKind} {i j : Int} (hx : Env.ev E x = some (.int kd i)) (hy : Env.ev E y = some (.int kd j)) : Ev P W n E H (.binOp .or t x y u) (.int kd (bits .or kd i j)) := Ev_bits (.inr (.inl rfl)) hx hy fun _ => rfl
theorem Ev_geqI_q {kd : IntKind} {i j : Int} {q : Bool} (hx : Env.ev E x = some (.int kd i)) (hy : Env.ev E y = some (.int kd j)) (h : decide (j ≤ i) = q) : Ev P W n E H (.binOp .geq t x y u) (.bool q) := by
  subst h; exact Ev_geqI hx hy
theorem Ev_gtrI_q {kd : IntKind} {i j : Int} {q : Bool} (hx : Env.ev E x = some (.int kd i)) (hy : Env.ev E y = some (.int kd j)) (h : decide (j < i) = q) : Ev P W n E H (.binOp .gtr t x y u) (.bool q) := by
  subst h; exact Ev_gtrI hx hy
theorem Ev_leqI_q {kd : IntKind} {i j : Int} {q : Bool} (hx : Env.ev E x = some (.int kd i)) (hy : Env.ev E y = some (.int kd j)) (h : decide (i ≤ j) = q) : Ev P W n E H (.binOp .leq t x y u) (.bool q) := by
  subst h; exact Ev_leqI hx hy
theorem Ev_lssI_q {kd : IntKind} {i j : Int} {q : Bool} (hx : Env.ev E x = some (.int kd i)) (hy : Env.ev E y = some (.int kd j)) (h : decide (i < j) = q) : Ev P W n E H (.binOp .lss t x y u) (.bool q) := by
  subst h; exact Ev_lssI hx hy
theorem Ev_neqI_t {kd : IntKind} {i j : Int} (hx : Env.ev E x = some (.int kd i)) (hy : Env.ev E y = some (.int kd j)) (h : i ≠ j) : Ev P W n E H (.binOp .neq t x y u) (.bool true) := by
  have := Ev_neqI (P := P) (W := W) (n := n) (E := E) (H := H) (t := t) (u := u) hx hy
  rw [decide_eq_true (by exact h)] at this; exact this
theorem Ev_sliceFrom {i : Int} {ki : IntKind} {m c s : Nat} (hx : Env.ev E x = some (.slice (some ⟨b, off, none⟩) m c)) (hy : Env.ev E y = some (.int ki i)) [hu : UIs P t (.slice e)] [hi : SzIs P e s] (hb : 0 ≤ i ∧ i ≤ m ∧ m ≤ c ∧ i < c) : Ev P W n E H (.slice t x (some y) none none) (.slice (some ⟨b, off + i.toNat * s, none⟩) (m - i.toNat) (c - i.toNat)) :=
  Ev.mk fun o ho a w p _ => by
    have h3 : ¬ c = i.toNat := by omega
    have h4 : ¬ c ≤ i.toNat := by omega
    have hi := hi.h
    cases hq : P.info? e with
    | none => simp [hq] at hi
    | some q =>
      have hi : q.size = s := by simpa [hq] using hi
      have h5 : ¬ (c - i.toNat = 0) := by omega
      have h6 : (m : Int) ≤ c := by omega
      simp [execOp, ho, p.ev hx, p.ev hy, Instr.sliceAt, Instr.slice, run_underlying hu.h, Instr.sliceBounds, Instr.sliceBound, asIntOf, hb, h3, sizeOf, typeInfo, hq, hi, Addr.add_mid]
end
end Go.Proofs.YtdbfemdpdpaffaaGreatDoor
/-
  Laid bytes, and more rules of the walk on bytes.
-/
namespace Go.Proofs.YtdbfemdpdpaffaaGreatDoor
open Go Go.RowKit
theorem bvs_length' (l : List UInt8) : (bvs l).length = l.length := by simp [bvs]
section
variable {P : Program} {W : World} {n : Nat} {E : Env} {H : List SP} {x : Operand}
theorem Ev_convI_v {s d : TypeId} {ks kd : IntKind} {k : IntKind} {i j : Int} (hx : Env.ev E x = some (.int k i)) [hs : UIs P s (.int ks)] [hd : UIs P d (.int kd)] (h : kd.wrap i = j) : Ev P W n E H (.convert s d x) (.int kd j) := by
  subst h; exact Ev_convI hx
end
end Go.Proofs.YtdbfemdpdpaffaaGreatDoor
