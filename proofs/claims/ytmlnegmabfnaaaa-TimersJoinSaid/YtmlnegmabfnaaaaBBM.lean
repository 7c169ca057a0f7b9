/-
  Gnl2, Gnl3.
-/
import Derived.Test.YtmlnegmabfnaaaaBAZ
import Derived.Great.BuildSlice
/-
  A list that is read only: it lies in old memory, or in what some claim owns.
-/
namespace Go.Proofs.Ytmlnegmabfnaaaa
open Go Go.RowKit
/-- what is known without any claim -/
abbrev noP : SP := factP True
section
variable {P : Program} {W : World} {n d : Nat} {E : Env} {H H' R R' : List SP} {k : KK} {t u e : TypeId} {x y z : Operand} {b off c : Nat} {α : Type} {enc : α → List Value} {sz : Nat}
/-- a list whose things can be read wherever A is owned -/
structure Lv (W : World) (enc : α → List Value) (sz : Nat) (A : SP) (a : Option Addr) (l : List α) : Prop where
  go : ∀ w H R, Sel A H R → St W H w → l ≠ [] → ∃ b o, a = some ⟨b, o, none⟩ ∧ w.rangeAt b o (l.flatMap enc)
theorem Lv.old (K : EncOk enc sz) {a : Option Addr} {l : List α} {c : Nat} (h : LsAt W enc sz (.slice a l.length c) l) : Lv W enc sz noP a l :=
  ⟨fun w H R _ s hne => by
    obtain ⟨a', c', hv, hx⟩ := h
    cases hv
    obtain ⟨b, o, ha, hb, hr⟩ := hx hne
    refine ⟨b, o, ha, fun j v hj => s.old ?_⟩
    have hlt : j < l.length * sz := by
      have := (List.getElem?_eq_some_iff.1 hj).1
      rwa [K.flat] at this
    have hi : j / sz < l.length := Nat.div_lt_of_lt_mul (by rw [Nat.mul_comm]; exact hlt)
    have hm : j % sz < sz := Nat.mod_lt _ K.pos
    have e := flatE_get K.len l (j / sz) (j % sz) hm
    rw [Nat.div_add_mod', hj, List.getElem?_eq_getElem hi] at e
    have := hr (j / sz) l[j / sz] (List.getElem?_eq_getElem hi) (j % sz) v e.symm
    have ej : sz * (j / sz) + j % sz = j := Nat.div_add_mod j sz
    rw [Nat.add_assoc, ej] at this
    exact this⟩
theorem Lv.take (K : EncOk enc sz) {a : Option Addr} {c i m : Nat} {L : List α} (hm : m = L.length) : Lv W enc sz (lsP enc e sz (.slice a m c) L) a (L.take i) :=
  ⟨fun w H R hs q hne => by
    subst hm
    have hrow := q.row hs
    rcases hrow.2 with ⟨_, h0⟩ | ⟨g, cap, cur, hv, _⟩
    · exact absurd (by rw [List.length_eq_zero_iff.1 h0]; simp) hne
    · cases hv
      refine ⟨g, 0, rfl, fun j v hj => ?_⟩
      have := hrow.cells (g := g) rfl j v (K.take_at hj)
      rwa [Addr.add_mid] at this⟩
theorem Lv.own (K : EncOk enc sz) {a : Option Addr} {c m : Nat} {L : List α} (hm : m = L.length) : Lv W enc sz (lsP enc e sz (.slice a m c) L) a L := by
  have h := Lv.take (W := W) (e := e) (a := a) (c := c) (i := L.length) K hm
  rwa [List.take_length] at h
/-- a list that holds something has a place -/
theorem KJ.lvSome {A : SP} {a : Option Addr} {l : List α} (hL : Lv W enc sz A a l) (hs : Sel A H R) (hm : 0 < l.length) (h : ∀ b o, a = some ⟨b, o, none⟩ → KJ W n k E H) : KJ W n k E H :=
  ⟨fun ac w q s => by
    obtain ⟨b, o, ha, -⟩ := hL.go w _ _ (hs.app _) s (by intro h; subst h; simp at hm)
    exact (h b o ha).go ac w q s⟩
/-- a thing of the list -/
theorem Ev_loadLv {A : SP} {a : Option Addr} {i : Nat} {l : List α} {q : α} {b0 o : Nat} (K : EncOk enc sz) (hL : Lv W enc sz A a l) (ha : a = some ⟨b0, o, none⟩) (hx : Env.ev E x = some (.pointer (some ⟨b0, off, none⟩))) [hu : AgIs P t] [hi : SzIs P t sz] (hs : Sel A H R) (ho : off = o + i * sz) (hq : l[i]? = some q) : Ev P W n E H (.load t x) (.agg (enc q).toArray) :=
  Ev.mk fun op hop ac w p s => by
    obtain ⟨dd, hu, hd⟩ := hu.h
    subst ho
    obtain ⟨b', o', ha', hr⟩ := hL.go w H R hs s (by intro h; subst h; simp at hq)
    rw [ha] at ha'
    cases ha'
    have hc : w.rangeAt b0 (o + i * sz) (enc q) := fun j v hj => by
      have := hr _ v (K.at_ hq hj)
      rwa [← Nat.add_assoc] at this
    have := run_loadAt_mid (P := P) w b0 (o + i * sz) t (enc q) dd hc hu (isRow_of hd) (by rw [K.len]; exact hi.h)
    simp [execOp, hop, p.ev hx, this, Result.andThen]
theorem noP_star : ∀ g, starL H g → starL (noP :: H) g := fun g q => ⟨fun _ => none, g, (fun _ _ q => by cases q), (fun _ _ q => by cases q), .rfl, trivial, q⟩
theorem KJ.noP (h : KJ W n k E (noP :: H)) : KJ W n k E H := ⟨fun a w q s => h.go a w q (s.mono noP_star)⟩
/-- where the things lie that are appended -/
theorem Src.lv {A : SP} {a : Option Addr} {l : List α} {b0 o : Nat} (hL : Lv W enc sz A a l) (ha : l ≠ [] → a = some ⟨b0, o, none⟩) (hs : Sel A H R) : Src W H a (l.flatMap enc) :=
  ⟨fun hne => by
    have hl : l ≠ [] := by intro h; subst h; exact hne rfl
    refine ⟨b0, o, ha hl, fun w q => ?_⟩
    obtain ⟨b', o', ha', hr⟩ := hL.go w H R hs q hl
    rw [ha hl] at ha'
    cases ha'
    exact hr⟩
/-- a list is laid open: where it lies, if it holds something -/
theorem KJ.lvOpen {A : SP} {a : Option Addr} {l : List α} (hL : Lv W enc sz A a l) (hs : Sel A H R) (h : ∀ b o, (l ≠ [] → a = some ⟨b, o, none⟩) → KJ W n k E H) : KJ W n k E H :=
  ⟨fun ac w q s => by
    by_cases hl : l = []
    · exact (h 0 0 (fun h => absurd hl h)).go ac w q s
    · obtain ⟨b, o, ha, -⟩ := hL.go w _ _ (hs.app _) s hl
      exact (h b o (fun _ => ha)).go ac w q s⟩
end
end Go.Proofs.Ytmlnegmabfnaaaa
/-
  Slices of several elements written out; a field of a list's thing stored; a list in a block.
-/
namespace Go.Proofs.Ytmlnegmabfnaaaa
open Go Go.RowKit
section
variable {P : Program} {W : World} {n d : Nat} {E : Env} {H H' R R' : List SP} {k : KK} {t u e T : TypeId} {x y z : Operand} {b off c m : Nat} {α : Type} {enc : α → List Value} {sz : Nat}
/-- a list that a block holds -/
theorem Lv.cells {g : Nat} {cs : List Value} {l : List α} (hc : l.flatMap enc = cs) : Lv W enc sz (cellsP g cs T) (some ⟨g, 0, none⟩) l :=
  ⟨fun w H R hs q _ => ⟨g, 0, rfl, fun j v hj => by
    subst hc
    rw [(q.blk hs).2.cell, Nat.zero_add]
    exact hj⟩⟩
end
end Go.Proofs.Ytmlnegmabfnaaaa
