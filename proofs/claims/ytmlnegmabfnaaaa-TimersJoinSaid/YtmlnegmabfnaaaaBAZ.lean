/-
  Gnl.
-/
import Derived.Test.YtmlnegmabfnaaaaBAV
import Derived.Test.YtmlnegmabfnaaaaBAY
import Derived.Test.YtmlnegmabfnaaaaBAR
import Derived.Deep.Upon
/-
  Lists of like things in rows: appended to, read, written; and rules that name no program.
-/
namespace Go.Proofs.Ytmlnegmabfnaaaa
open Go Go.RowKit
/-- the walk stops here -/
structure Hold (A : Prop) : Prop where
  go : A
theorem hold {A : Prop} (h : Hold A) : A := h.go
section
variable {P : Program} {W : World} {n d : Nat} {E : Env} {H H' R : List SP} {k : KK} {t u e : TypeId} {x y z : Operand} {b off : Nat}
theorem nilrow_star {e sz : Nat} : ∀ g, starL H g → starL (rowP (.slice none 0 0) e sz 0 [] :: H) g :=
  fun g q => ⟨fun _ => none, g, (fun _ _ q => by cases q), (fun _ _ q => by cases q), .rfl, ⟨by simp, .inl ⟨rfl, rfl⟩⟩, q⟩
/-- a nil slice owns nothing -/
theorem KJ.nilrow (e sz : Nat) (h : KJ W n k E (rowP (.slice none 0 0) e sz 0 [] :: H)) : KJ W n k E H := ⟨fun a w q s => h.go a w q (s.mono nilrow_star)⟩
theorem KJ.packs {α : Type} {tag key : Nat} {F : α → List SP} (a : α) (p : Pick (F a) H R) (h : KJ W n k E (packP tag key F :: R)) : KJ W n k E H :=
  ⟨fun ac w q s => h.go ac w q ((s.perm (p.perm.append_right _)).mono (star_app (fun g hg => pack_star a g hg) _))⟩
theorem Ev_mkFunc {f : Fn} {xs ys : List Operand} {us vs : List Value} (hx : Evs E xs us) (hy : Evs E ys vs) (hc : (Instr.makeFunc f us.toArray vs.toArray) = pure (.func f us.toArray vs.toArray)) : Ev P W n E H (.makeFunc f xs.toArray ys.toArray) (.func f us.toArray vs.toArray) :=
  Ev.mk fun o ho a w p _ => by
    have h1 := p.evs hx
    have h2 := p.evs hy
    simp [execOp, ho, h1, h2, hc]
theorem Ev_eqlI_q {kd : IntKind} {i j : Int} {q : Bool} (hx : Env.ev E x = some (.int kd i)) (hy : Env.ev E y = some (.int kd j)) (h : decide (i = j) = q) : Ev P W n E H (.binOp .eql t x y u) (.bool q) := by
  subst h; exact Ev_eqlI hx hy
end
section
variable {P : Program} {W : World} {n d : Nat} {E : Env} {H H' R : List SP} {k : KK} {t u e : TypeId} {x y z : Operand} {b off : Nat}
theorem Ev_sliceToG {j : Int} {kj : IntKind} {m c s : Nat} (hx : Env.ev E x = some (.slice (some ⟨b, off, none⟩) m c)) (hz : Env.ev E z = some (.int kj j)) [hu : UIs P t (.slice e)] [hi : SzIs P e s] (hb : 0 ≤ j ∧ j ≤ c) : Ev P W n E H (.slice t x none (some z) none) (.slice (some ⟨b, off, none⟩) j.toNat c) :=
  Ev.mk fun o ho a w p _ => by
    have hi := hi.h
    cases hq : P.info? e with
    | none => simp [hq] at hi
    | some q =>
      have hi : q.size = s := by simpa [hq] using hi
      by_cases h3 : c = 0
      · subst h3
        have hj : j = 0 := by omega
        subst hj
        simp [execOp, ho, p.ev hx, p.ev hz, Instr.sliceAt, Instr.slice, run_underlying hu.h, Instr.sliceBounds, Instr.sliceBound, asIntOf, sizeOf, typeInfo, hq, Addr.add]
      · have h1 : 0 ≤ j := by omega
        simp [execOp, ho, p.ev hx, p.ev hz, Instr.sliceAt, Instr.slice, run_underlying hu.h, Instr.sliceBounds, Instr.sliceBound, asIntOf, h1, hb, sizeOf, typeInfo, hq, Addr.add]
end
/-- a list of like things that a row of one's own holds -/
abbrev lsP {α : Type} (enc : α → List Value) (e sz : Nat) (v : Value) (l : List α) : SP := rowP v e sz l.length (l.flatMap enc)
/-- enc: each thing takes sz plain cells -/
structure EncOk {α : Type} (enc : α → List Value) (sz : Nat) : Prop where
  len : ∀ x, (enc x).length = sz
  ones : ∀ x, Ones (enc x)
  pos : 0 < sz
section
variable {P : Program} {W : World} {n d : Nat} {E : Env} {H H' R R' : List SP} {k : KK} {t u e : TypeId} {x y z : Operand} {b off c : Nat} {α : Type} {enc : α → List Value} {sz : Nat}
theorem EncOk.flat (K : EncOk enc sz) (l : List α) : (l.flatMap enc).length = l.length * sz := flatE_length K.len l
theorem EncOk.all (K : EncOk enc sz) : ∀ l : List α, Ones (l.flatMap enc)
  | [] => Ones.nil
  | a :: l => by
    rw [List.flatMap_cons]
    refine Ones.of fun v hv => ?_
    rcases List.mem_append.1 hv with h | h
    · exact (K.ones a).all v h
    · exact (K.all l).all v h
theorem EncOk.at_ (K : EncOk enc sz) {l : List α} {i : Nat} {a : α} (h : l[i]? = some a) {j : Nat} {v : Value} (hv : (enc a)[j]? = some v) : (l.flatMap enc)[i * sz + j]? = some v := by
  have hj := (List.getElem?_eq_some_iff.1 hv).1
  rw [K.len] at hj
  rw [flatE_get K.len l i j hj, h]
  exact hv
theorem EncOk.set_ (K : EncOk enc sz) : ∀ (l : List α) (i : Nat) (a : α), i < l.length → lay (l.flatMap enc) (i * sz) (enc a) = (l.set i a).flatMap enc
  | [], _, _, h => by simp at h
  | c :: l, 0, a, _ => by
    have hc := K.len c
    have ha := K.len a
    simp only [List.flatMap_cons, List.set_cons_zero, lay, Nat.zero_mul, List.take_zero, List.nil_append, Nat.zero_add, ha]
    rw [List.drop_left' hc]
  | c :: l, i + 1, a, h => by
    have hc := K.len c
    have ih := K.set_ l i a (by simpa using h)
    simp only [List.flatMap_cons, List.set_cons_succ]
    rw [← ih]
    unfold lay
    rw [Nat.add_mul, Nat.one_mul, List.take_append, List.take_of_length_le (by omega), hc, List.drop_append, List.drop_of_length_le (by rw [hc]; omega), hc]
    simp only [Nat.add_sub_cancel, List.nil_append, List.append_assoc]
    congr 4
    omega
/-- append(v, x) -/
theorem KJ_appOne {v : Value} {l : List α} {a : α} {bytes g : Nat} {T : TypeId} (K : EncOk enc sz) (hx : Env.ev E x = some v) (hy : Env.ev E y = some (.slice (some ⟨g, 0, none⟩) 1 1)) [hu : UIs P t (.slice e)] [hs : SzIs P e sz] [hb : ByIs P e bytes] {zs : List Value} [hz : ZcIs P e zs] (hzs : zs.length = sz)
    (hsel : Sel (lsP enc e sz v l) H R) (hsrc : Sel (cellsP g (enc a) T) H R') (hbd : (l.length + 1) * bytes ≤ 140737488355328) (hbl : l.length + 1 ≤ 9223372036854775807) (hn : Nat.blt d n = true)
    (h : ∀ g' c', KJ W n k ((d, .slice (some ⟨g', 0, none⟩) (l ++ [a]).length c') :: E) (lsP enc e sz (.slice (some ⟨g', 0, none⟩) (l ++ [a]).length c') (l ++ [a]) :: R)) : KJ W n (.oper P (.call { callee := .builtin .append, args := #[x, y], argTypes := #[t, t] }) (some d) k) E H := by
  have e1 : (l ++ [a]).length = l.length + 1 := by simp
  have e2 : (l ++ [a]).flatMap enc = l.flatMap enc ++ enc a := by simp
  have hcut : Cut (enc a) 0 sz (enc a) := by
    have := Cut.of (cs := enc a) (k := 0) (m := sz) (by rw [K.len]; omega)
    rwa [List.drop_zero, List.take_of_length_le (by rw [K.len]; omega)] at this
  refine KJ_append (hs := hs) (hb := hb) (hz := hz) (l := 1) (news := enc a) (a2 := 0) hx hy hzs K.pos hsel (Src.cells hsrc hcut) (by rw [K.len]; omega) (by omega) (K.ones a) hbd hbl hn rfl (fun g' c' => ?_)
  have := h g' c'
  rw [show lsP enc e sz (.slice (some ⟨g', 0, none⟩) (l ++ [a]).length c') (l ++ [a]) = rowP (.slice (some ⟨g', 0, none⟩) (l.length + 1) c') e sz (l.length + 1) (l.flatMap enc ++ enc a) by unfold lsP; rw [e1, e2], e1] at this
  exact this
/-- a slice's shape -/
theorem St.lsShape {w : World} {v : Value} {l : List α} (s : St W H w) (hsel : Sel (lsP enc e sz v l) H R) : ∃ a c, v = .slice a l.length c ∧ l.length ≤ c := by
  rcases (s.row hsel).2 with ⟨hv, h0⟩ | ⟨g, cap, cur, hv, _, _, h1, _⟩
  · exact ⟨none, 0, by rw [hv, h0], by omega⟩
  · exact ⟨_, cap, hv, h1⟩
/-- a slice is laid open -/
theorem KJ.lsOpen {v : Value} {l : List α} (hsel : Sel (lsP enc e sz v l) H R) (h : ∀ a c, v = .slice a l.length c → l.length ≤ c → KJ W n k E H) : KJ W n k E H :=
  ⟨fun ac w q s => by obtain ⟨a, c, hv, hc⟩ := s.lsShape (hsel.app _); exact (h a c hv hc).go ac w q s⟩
/-- a thing of the list -/
theorem Ev_loadLs {g m c i : Nat} {l : List α} {a : α} (K : EncOk enc sz) (hx : Env.ev E x = some (.pointer (some ⟨g, off, none⟩))) [hu : AgIs P t] [hi : SzIs P t sz] (hs : Sel (lsP enc e sz (.slice (some ⟨g, 0, none⟩) m c) l) H R) (hm : m = l.length) (ho : off = i * sz) (ha : l[i]? = some a) : Ev P W n E H (.load t x) (.agg (enc a).toArray) := by
  subst hm
  subst ho
  exact Ev_loadRowAgg (hi := hi) hx hs (fun j v hj => K.at_ ha hj) (K.len a)
/-- a thing of the list is written -/
theorem KJ_storeLs {g m c i : Nat} {l : List α} {a : α} (K : EncOk enc sz) (hx : Env.ev E x = some (.pointer (some ⟨g, off, none⟩))) (hy : Env.ev E y = some (.agg (enc a).toArray)) [hi : SzIs P t sz] (hs : Sel (lsP enc e sz (.slice (some ⟨g, 0, none⟩) m c) l) H R) (hm : m = l.length) (ho : off = i * sz) (hl : i < l.length)
    (h : KJ W n k E (lsP enc e sz (.slice (some ⟨g, 0, none⟩) m c) (l.set i a) :: R)) : KJ W n (.oper P (.store t x y) none k) E H := by
  subst hm
  subst ho
  have hfit : i * sz + sz ≤ (l.flatMap enc).length := by
    rw [K.flat]
    have := Nat.mul_le_mul_right sz (show i + 1 ≤ l.length from hl)
    rwa [Nat.add_mul, Nat.one_mul] at this
  refine KJ_storeRow (hi := hi) (vs := enc a) hx hy hs CellsOf.agg (K.len a) (K.ones a) hfit ?_
  rw [K.set_ l i a hl]
  unfold lsP at h
  rw [List.length_set] at h
  exact h
/-- append(v, w...), w's things known -/
theorem KJ_appAll {v : Value} {l l2 : List α} {bytes c2 m : Nat} {xa : Option Addr} (K : EncOk enc sz) (hx : Env.ev E x = some v) (hy : Env.ev E y = some (.slice xa m c2)) (hm : m = l2.length) [hu : UIs P t (.slice e)] [hs : SzIs P e sz] [hb : ByIs P e bytes] {zs : List Value} [hz : ZcIs P e zs] (hzs : zs.length = sz)
    (hsel : Sel (lsP enc e sz v l) H R) (hsrc : Src W H xa (l2.flatMap enc)) (hbd : (l.length + l2.length) * bytes ≤ 140737488355328) (hbl : l.length + l2.length ≤ 9223372036854775807) (hn : Nat.blt d n = true)
    (h : ∀ a' c', KJ W n k ((d, .slice a' (l ++ l2).length c') :: E) (lsP enc e sz (.slice a' (l ++ l2).length c') (l ++ l2) :: R)) : KJ W n (.oper P (.call { callee := .builtin .append, args := #[x, y], argTypes := #[t, t] }) (some d) k) E H := by
  subst hm
  cases l2 with
  | nil =>
    refine KJ.lsOpen hsel (fun a c hv hc => ?_)
    subst hv
    have e1 : (l ++ ([] : List α)).length = l.length := by simp
    have e2 : l ++ ([] : List α) = l := by simp
    have h3 := h a c
    rw [e1] at h3
    rw [show lsP enc e sz (.slice a l.length c) (l ++ []) = lsP enc e sz (.slice a l.length c) l by rw [e2]] at h3
    refine ⟨fun ac w p s o ho hd => ?_⟩
    have hs := hs.h
    cases hq : P.info? e with
    | none => simp [hq] at hs
    | some it =>
      have hsr : Go.Src P it.size t (.slice xa 0 c2) 0 [] w := by
        cases xa with
        | none => exact Go.Src.ofNil w hu.h c2
        | some a => exact Go.Src.ofSlice w hu.h a 0 c2 [] (by simp) (fun j u hj => by simp at hj) (fun u hj => by cases hj)
      have hrun := run_append_nothing (P := P) w t t o.type e it hu.h hq a l.length c hc _ hsr
      show uponP P o ac _ ((execOp ac.eval o).run P w)
      have hr2 : (execOp ac.eval o).run P w = .ok (.value (.slice a l.length c)) w := by
        simp only [execOp, ho, resolve, invoke, builtin, Sem.run_bind, Sem.run_pure, Result.andThen_ok, List.map_toArray, List.map_cons, List.map_nil, p.ev hx, p.ev hy, List.length_nil, hrun]
      rw [hr2]
      have := h3.go _ w (p.put (d := some d) hn _) (by show St W _ w; rw [put_defers]; exact s.perm (hsel.app _).perm)
      rw [← hd] at this
      exact this
  | cons b r =>
    have e1 : (l ++ b :: r).length = l.length + (b :: r).length := by simp
    have e2 : (l ++ b :: r).flatMap enc = l.flatMap enc ++ (b :: r).flatMap enc := by simp
    refine KJ_append (hs := hs) (hb := hb) (hz := hz) (l := (b :: r).length) (news := (b :: r).flatMap enc) (a2 := 0) hx hy hzs K.pos hsel hsrc (K.flat _) (by simp) (K.all _) hbd hbl hn rfl (fun g' c' => ?_)
    have := h (some ⟨g', 0, none⟩) c'
    rw [show lsP enc e sz (.slice (some ⟨g', 0, none⟩) (l ++ b :: r).length c') (l ++ b :: r) = rowP (.slice (some ⟨g', 0, none⟩) (l.length + (b :: r).length) c') e sz (l.length + (b :: r).length) (l.flatMap enc ++ (b :: r).flatMap enc) by unfold lsP; rw [e2, e1], e1] at this
    exact this
/-- a slice that holds something has a place -/
theorem KJ.lsSome {a : Option Addr} {m c : Nat} {l : List α} (hsel : Sel (lsP enc e sz (.slice a m c) l) H R) (hm : 0 < l.length) (h : ∀ g, a = some ⟨g, 0, none⟩ → KJ W n k E H) : KJ W n k E H :=
  ⟨fun ac w q s => by
    rcases (s.row (hsel.app _)).2 with ⟨_, h0⟩ | ⟨g, cap, cur, hv, _⟩
    · omega
    · cases hv
      exact (h g rfl).go ac w q s⟩
theorem EncOk.take_at (_ : EncOk enc sz) {l : List α} {i j : Nat} {v : Value} (h : ((l.take i).flatMap enc)[j]? = some v) : (l.flatMap enc)[j]? = some v := by
  have e : l.flatMap enc = (l.take i).flatMap enc ++ (l.drop i).flatMap enc := by rw [← List.flatMap_append, List.take_append_drop]
  rw [e, List.getElem?_append_left (List.getElem?_eq_some_iff.1 h).1]
  exact h
/-- a list that lay there before -/
def LsAt (w : World) (enc : α → List Value) (sz : Nat) (v : Value) (l : List α) : Prop :=
  ∃ a c, v = .slice a l.length c ∧ (l ≠ [] → ∃ b o, a = some ⟨b, o, none⟩ ∧ b < w.heap.size ∧ ∀ i x, l[i]? = some x → w.rangeAt b (o + sz * i) (enc x))
end
end Go.Proofs.Ytmlnegmabfnaaaa
