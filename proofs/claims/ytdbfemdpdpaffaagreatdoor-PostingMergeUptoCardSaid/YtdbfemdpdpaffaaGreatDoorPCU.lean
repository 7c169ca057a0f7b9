/-
  PoE1.
-/
import Derived.Test.YtdbfemdpdpaffaaGreatDoorPCQ
import Derived.Test.YtdbfemdpdpaffaaGreatDoorPCT
/-
  The document's order of legs (chapter 16): less, sorted.
-/
namespace Go.Proofs.YtdbfemdpdpaffaaGreatDoor
open Go Go.RowKit Go.MapKept
section
variable {P : Program} {W : World} {n d : Nat} {E : Env} {H H' R R' : List SP} {k : KK} {t u e : TypeId} {x y z : Operand} {b off c : Nat} {α : Type} {enc : α → List Value} {sz : Nat}
theorem Lv.pre (K : EncOk enc sz) {A : SP} {a : Option Addr} {l : List α} (h : Lv W enc sz A a l) (i : Nat) : Lv W enc sz A a (l.take i) :=
  ⟨fun w H R hs s hne => by
    obtain ⟨b, o, ha, hr⟩ := h.go w H R hs s (by intro q; subst q; simp at hne)
    exact ⟨b, o, ha, fun j v hj => hr j v (K.take_at hj)⟩⟩
theorem Lv.post (K : EncOk enc sz) {A : SP} {b0 o0 : Nat} {l : List α} (h : Lv W enc sz A (some ⟨b0, o0, none⟩) l) {i : Nat} (hi : i ≤ l.length) : Lv W enc sz A (some ⟨b0, o0 + i * sz, none⟩) (l.drop i) :=
  ⟨fun w H R hs s hne => by
    obtain ⟨b, o, ha, hr⟩ := h.go w H R hs s (by intro q; subst q; simp at hne)
    cases ha
    refine ⟨b0, o0 + i * sz, rfl, fun j v hj => ?_⟩
    have := hr _ v (K.drop_at hi hj)
    rwa [← Nat.add_assoc] at this⟩
end
end Go.Proofs.YtdbfemdpdpaffaaGreatDoor
