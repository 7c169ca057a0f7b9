/-
  Mp.
-/
import Derived.Test.YtmlnegmabfnaaaaBAK
import Derived.MapKept
import Derived.Maps.RangeRun
/-
  Maps of one's own: made, looked up, written, struck, gone over.
-/
namespace Go.Proofs.Ytmlnegmabfnaaaa
open Go Go.RowKit Go.MapKept
section
variable {P : Program} {W : World} {n : Nat} {E : Env} {H H' R : List SP} {k : KK} {op : Op} {dd : Option Tmp}
/-- a step that turns memory, whose result is told by some x -/
theorem KJ_eff {X : Type} {v : X → Value} {H' : X → List SP} (hr : ∀ o : Oper, o.op = op → ∀ a w M, Hd n E a → St W (H ++ M) w → ∃ x w', ((execOp a.eval o).run P w = .ok (.value (v x)) w' ∨ (v x = undef ∧ (execOp a.eval o).run P w = .ok .skip w')) ∧ St W (H' x ++ M) w')
    (hn : dstOk n dd = true) (h : ∀ x, KJ W n k (Env.put E dd (v x)) (H' x)) : KJ W n (.oper P op dd k) E H := by
  refine ⟨fun a w p s o ho hd => ?_⟩
  show uponP P o a _ ((execOp a.eval o).run P w)
  obtain ⟨x, w', hrun, s'⟩ := hr o ho a w (dm a.defers) p s
  have := (h x).go _ w' (p.put hn (v x)) (by show St W (H' x ++ dm (a.put dd (v x)).defers) _; rw [put_defers]; exact s')
  rw [← hd] at this
  rcases hrun with e | ⟨e0, e⟩
  · rw [e]; exact this
  · rw [e]; rw [e0] at this; exact this
end
/-- what the laws on a map need of its keys: kf: a key as a value -/
structure KyOk (P : Program) (k : TypeId) {α : Type} (kf : α → Value) : Prop where
  inj : ∀ a b, kf a = kf b → a = b
  check : ∀ w em a, (Instr.checkKey em 10000 k (kf a)).run P w = .ok () w
  find : ∀ w a (es : List MapEntry), (∀ e ∈ es, ∃ b, e.key = kf b) → ((Instr.findKey k (kf a) es).run P w = .ok none w ∧ ∀ e ∈ es, e.key ≠ kf a) ∨ ∃ j e, (Instr.findKey k (kf a) es).run P w = .ok (some (j, e.val)) w ∧ es[j]? = some e ∧ e.key = kf a
  stays : ∀ w a, (Instr.keyThatStays (kf a) (kf a)).run P w = .ok (kf a) w
theorem ky_plain {P : Program} {k : TypeId} {d : TypeDesc} {α : Type} {kf : α → Value} (hu : P.underlying k = some d) (hk : ∀ a, IsKey d (kf a)) (inj : ∀ a b, kf a = kf b → a = b) : KyOk P k kf where
  inj := inj
  check := fun w em a => run_checkKey hu (hk a) em 9999
  find := fun w a es hes => by
    rcases findNow_spec (hk a) es 0 (fun e he => by obtain ⟨b, hb⟩ := hes e he; rw [hb]; exact hk b) with ⟨h1, h2⟩ | ⟨j, e0, h1, h2, h3⟩
    · exact .inl ⟨run_findKey hu h1, h2⟩
    · exact .inr ⟨j, e0, by simpa using run_findKey hu h1, h2, h3⟩
  stays := fun w a => run_keyThatStays (hk a)
theorem ky_int {P : Program} {k : TypeId} {q : IntKind} (hu : P.underlying k = some (.int q)) : KyOk P k (Value.int q) :=
  ky_plain hu (fun _ => rfl) (fun a b h => by simpa using h)

section
variable {α β : Type} [DecidableEq α]
/-- a map as a list of its entries -/
def lk : List (α × β) → α → Option β
  | [], _ => none
  | p :: m, a => if p.1 = a then some p.2 else lk m a
def mput (m : List (α × β)) (a : α) (v : β) : List (α × β) := if (lk m a).isSome then m.map (fun p => if p.1 = a then (a, v) else p) else m ++ [(a, v)]
def mdel (m : List (α × β)) (a : α) : List (α × β) := m.filter (fun p => decide (p.1 ≠ a))
theorem lk_none {m : List (α × β)} {a : α} : lk m a = none ↔ ∀ p ∈ m, p.1 ≠ a := by
  induction m with
  | nil => simp [lk]
  | cons p m ih =>
    by_cases h : p.1 = a
    · simp [lk, h]
    · simp [lk, h, ih]
theorem lk_of {m : List (α × β)} (hn : (m.map (·.1)).Nodup) {p : α × β} (h : p ∈ m) : lk m p.1 = some p.2 := by
  induction m with
  | nil => cases h
  | cons q m ih =>
    simp only [List.map_cons, List.nodup_cons] at hn
    rcases List.mem_cons.1 h with rfl | h
    · simp [lk]
    · have : q.1 ≠ p.1 := fun e => hn.1 (by rw [e]; exact List.mem_map.2 ⟨p, h, rfl⟩)
      simp [lk, this, ih hn.2 h]
end
theorem map_erase {γ δ : Type} (f : γ → δ) : ∀ (l : List γ) (j : Nat), (l.eraseIdx j).map f = (l.map f).eraseIdx j
  | [], _ => rfl
  | x :: l, 0 => rfl
  | x :: l, j + 1 => by simp [map_erase f l j]
def kvs (es : List MapEntry) : List (Value × Value) := es.map fun e => (e.key, e.val)
section
variable {α β : Type} {kf : α → Value} {vf : β → Value}
abbrev encs (kf : α → Value) (vf : β → Value) (m : List (α × β)) : List (Value × Value) := m.map fun p => (kf p.1, vf p.2)
/-- a map of one's own -/
def mapP (kf : α → Value) (vf : β → Value) (b : Nat) (m : List (α × β)) : SP := ⟨11, b, fun h => ∃ es clock, h b = some (.map es clock) ∧ Stamped es clock ∧ kvs es.toList = encs kf vf m⟩
theorem mapP_up {b : Nat} {m : List (α × β)} : ∀ h g, Hl.le h g → (mapP kf vf b m).ok h → (mapP kf vf b m).ok g := fun _ _ le ⟨es, c, q, r⟩ => ⟨es, c, le _ _ q, r⟩
theorem kvs_get {es : List MapEntry} {m : List (α × β)} (h : kvs es = encs kf vf m) {j : Nat} {e : MapEntry} (he : es[j]? = some e) : ∃ p, m[j]? = some p ∧ e.key = kf p.1 ∧ e.val = vf p.2 := by
  have h1 : (kvs es)[j]? = some (e.key, e.val) := by simp [kvs, he]
  rw [h] at h1
  simp only [encs, List.getElem?_map, Option.map_eq_some_iff, Prod.mk.injEq] at h1
  obtain ⟨p, hp, h2, h3⟩ := h1
  exact ⟨p, hp, h2.symm, h3.symm⟩
theorem kvs_mem {es : List MapEntry} {m : List (α × β)} (h : kvs es = encs kf vf m) {e : MapEntry} (he : e ∈ es) : ∃ p ∈ m, e.key = kf p.1 ∧ e.val = vf p.2 := by
  obtain ⟨j, hj⟩ := List.getElem?_of_mem he
  obtain ⟨p, hp, q⟩ := kvs_get h hj
  exact ⟨p, List.mem_of_getElem? hp, q⟩
theorem kvs_nodup {es : Array MapEntry} {clock : Nat} {m : List (α × β)} (hs : Stamped es clock) (h : kvs es.toList = encs kf vf m) : (m.map (·.1)).Nodup := by
  have h1 : es.toList.map (·.key) = m.map (fun p => kf p.1) := by
    have := congrArg (List.map Prod.fst) h
    simpa [kvs, encs, Function.comp_def] using this
  have h2 := hs.2.2
  rw [h1] at h2
  have h3 : (m.map (fun p => kf p.1)) = (m.map (·.1)).map kf := by simp [Function.comp_def]
  rw [h3] at h2
  exact List.Pairwise.of_map kf (fun a b hab e => hab (by rw [e])) h2
section
variable [DecidableEq α] {P : Program} {w : World} {kt : TypeId}
/-- where a key stands in the block -/
theorem find_lk (K : KyOk P kt kf) {es : Array MapEntry} {clock : Nat} {m : List (α × β)} (hs : Stamped es clock) (h : kvs es.toList = encs kf vf m) (a : α) :
    ((Instr.findKey kt (kf a) es.toList).run P w = .ok none w ∧ lk m a = none ∧ ∀ e ∈ es.toList, e.key ≠ kf a) ∨ ∃ j e v, (Instr.findKey kt (kf a) es.toList).run P w = .ok (some (j, e.val)) w ∧ es.toList[j]? = some e ∧ e.key = kf a ∧ e.val = vf v ∧ lk m a = some v ∧ m[j]? = some (a, v) := by
  rcases K.find w a es.toList (fun e he => by obtain ⟨p, _, hp, _⟩ := kvs_mem h he; exact ⟨_, hp⟩) with ⟨h1, h2⟩ | ⟨j, e, h1, h2, h3⟩
  · refine .inl ⟨h1, lk_none.2 (fun p hp e => ?_), h2⟩
    obtain ⟨j, hj⟩ := List.getElem?_of_mem hp
    have : (encs kf vf m)[j]? = some (kf p.1, vf p.2) := by simp [encs, hj]
    rw [← h] at this
    simp only [kvs, List.getElem?_map, Option.map_eq_some_iff, Prod.mk.injEq] at this
    obtain ⟨x, hx, hx1, _⟩ := this
    exact h2 x (List.mem_of_getElem? hx) (by rw [hx1, e])
  · obtain ⟨p, hp, hk, hv⟩ := kvs_get h h2
    have e0 : p.1 = a := K.inj _ _ (by rw [← hk, h3])
    refine .inr ⟨j, e, p.2, h1, h2, h3, hv, ?_, by rw [hp, ← e0]⟩
    rw [← e0]
    exact lk_of (kvs_nodup hs h) (List.mem_of_getElem? hp)
theorem mapset_set (m : List (α × β)) (hn : (m.map (·.1)).Nodup) (j : Nat) (a : α) (v u : β) (hj : m[j]? = some (a, v)) : m.map (fun p => if p.1 = a then (a, u) else p) = m.set j (a, u) := by
  induction m generalizing j with
  | nil => cases hj
  | cons q m ih =>
    simp only [List.map_cons, List.nodup_cons] at hn
    cases j with
    | zero =>
      cases hj
      simp only [List.map_cons, if_true, List.set_cons_zero, List.cons.injEq, true_and]
      have : ∀ p ∈ m, p.1 ≠ a := fun p hp e => hn.1 (by show a ∈ _; rw [← e]; exact List.mem_map.2 ⟨p, hp, rfl⟩)
      have e2 : m.map (fun p => if p.1 = a then (a, u) else p) = m.map id := List.map_congr_left (fun p hp => if_neg (this p hp))
      rw [e2]; simp
    | succ j =>
      have hj : m[j]? = some (a, v) := by simpa using hj
      have : q.1 ≠ a := fun e => hn.1 (by rw [e]; exact List.mem_map.2 ⟨_, List.mem_of_getElem? hj, rfl⟩)
      simp [this, ih hn.2 j hj]
theorem run_lookup_lk (K : KyOk P kt kf) {t e : TypeId} (ht : P.underlying t = some (.map kt e)) {z : Value} (hz : (zeroValue e).run P w = .ok z w) {b : Nat} {es : Array MapEntry} {clock : Nat} {m : List (α × β)} (hb : w.heap[b]? = some (.map es clock)) (hs : Stamped es clock) (h : kvs es.toList = encs kf vf m) (a : α) (c : Bool) :
    (Instr.lookup t (.map (some b)) (kf a) c).run P w = .ok (if c then .tuple #[(lk m a).elim z vf, .bool (lk m a).isSome] else (lk m a).elim z vf) w := by
  rcases find_lk (P := P) (w := w) K hs h a with ⟨h1, h2, _⟩ | ⟨j, e0, v, h1, h2, h3, h4, h5, _⟩
  · rw [h2]
    simp [Instr.lookup, run_underlying ht, Go.MapKept.run_getObj_map hb, K.check w _ a, h1, hz, Result.andThen]
  · rw [h5]
    simp [Instr.lookup, run_underlying ht, Go.MapKept.run_getObj_map hb, K.check w _ a, h1, h4, Result.andThen]
theorem run_mapUpdate_put (K : KyOk P kt kf) {t e : TypeId} (ht : P.underlying t = some (.map kt e)) {b : Nat} {es : Array MapEntry} {clock : Nat} {m : List (α × β)} (hb : w.heap[b]? = some (.map es clock)) (hs : Stamped es clock) (h : kvs es.toList = encs kf vf m) (a : α) (v : β) :
    ∃ es' clock', (Instr.mapUpdate t (.map (some b)) (kf a) (vf v)).run P w = .ok () (w.putObj b (.map es' clock')) ∧ Stamped es' clock' ∧ kvs es'.toList = encs kf vf (mput m a v) := by
  have hset : ∀ o, (setObj b o).run P w = .ok () (w.putObj b o) := fun o => Go.MapKept.run_setObj_map o hb
  rcases find_lk (P := P) (w := w) K hs h a with ⟨h1, h2, h3⟩ | ⟨j, e0, v0, h1, h2, h3, h4, h5, h6⟩
  · refine ⟨es.push ⟨kf a, vf v, clock⟩, clock + 1, ?_, stamped_push hs h3, ?_⟩
    · simp [Instr.mapUpdate, run_underlying ht, Go.MapKept.run_getObj_map hb, K.check w _ a, h1, hset, Result.andThen]
    · unfold mput
      rw [h2]
      simp only [Option.isSome_none, Bool.false_eq_true, if_false, encs, List.map_append, List.map_cons, List.map_nil]
      rw [← encs, ← h]
      simp [kvs]
  · have hj : es[j]? = some e0 := by simpa using h2
    refine ⟨es.modify j (fun e' => { e' with key := kf a, val := vf v }), clock, ?_, stamped_modify hs _ _ (fun _ _ => rfl) (fun e' _ he' => by rw [hj] at he'; cases he'; exact h3.symm), ?_⟩
    · simp [Instr.mapUpdate, run_underlying ht, Go.MapKept.run_getObj_map hb, K.check w _ a, h1, hj, h3, K.stays w a, hset, Result.andThen]
    · unfold mput
      rw [h5]
      simp only [Option.isSome_some, if_true]
      rw [mapset_set m (kvs_nodup hs h) j a v0 v h6]
      have e1 : (es.modify j (fun e' => { e' with key := kf a, val := vf v })).toList = es.toList.set j { e0 with key := kf a, val := vf v } := by
        apply List.ext_getElem?
        intro i
        rw [Array.getElem?_toList, Array.getElem?_modify, List.getElem?_set]
        by_cases hij : j = i
        · subst hij
          have hl := (Array.getElem?_eq_some_iff.1 hj).1
          rw [if_pos rfl, if_pos rfl, if_pos (by simpa using hl), hj]; rfl
        · rw [if_neg hij, if_neg hij, Array.getElem?_toList]
      rw [e1]
      simp only [kvs, List.map_set, encs]
      rw [show es.toList.map (fun e => (e.key, e.val)) = m.map (fun p => (kf p.1, vf p.2)) from h]
theorem run_delete_del (K : KyOk P kt kf) {t e ty : TypeId} (ht : P.underlying t = some (.map kt e)) {b : Nat} {es : Array MapEntry} {clock : Nat} {m : List (α × β)} (hb : w.heap[b]? = some (.map es clock)) (hs : Stamped es clock) (h : kvs es.toList = encs kf vf m) (a : α) :
    ∃ es', (Builtin.delete_ #[t, kt] ty #[.map (some b), kf a]).run P w = .ok (.tuple #[]) (w.putObj b (.map es' clock)) ∧ Stamped es' clock ∧ kvs es'.toList = encs kf vf (mdel m a) := by
  have hset : ∀ o, (setObj b o).run P w = .ok () (w.putObj b o) := fun o => Go.MapKept.run_setObj_map o hb
  rcases find_lk (P := P) (w := w) K hs h a with ⟨h1, h2, h3⟩ | ⟨j, e0, v0, h1, h2, h3, h4, h5, h6⟩
  · refine ⟨es, ?_, hs, ?_⟩
    · simp [Builtin.delete_, run_underlying ht, Go.MapKept.run_getObj_map hb, K.check w _ a, h1, hset, Result.andThen]
    · have : mdel m a = m := List.filter_eq_self.2 (fun p hp => by simpa using lk_none.1 h2 p hp)
      rw [this]; exact h
  · have hjl : j < es.size := by have := (List.getElem?_eq_some_iff.1 h2).1; simpa using this
    have hsub : (es.eraseIdxIfInBounds j).toList = es.toList.eraseIdx j := by
      unfold Array.eraseIdxIfInBounds
      rw [dif_pos hjl]
      simp
    refine ⟨es.eraseIdxIfInBounds j, ?_, stamped_erase hs j, ?_⟩
    · simp [Builtin.delete_, run_underlying ht, Go.MapKept.run_getObj_map hb, K.check w _ a, h1, hset, Result.andThen]
    · have key : ∀ (m : List (α × β)) (j : Nat), (m.map (·.1)).Nodup → m[j]? = some (a, v0) → mdel m a = m.eraseIdx j := by
        intro m
        induction m with
        | nil => intro j _ hj; cases hj
        | cons q m ih =>
          intro j hn hj
          simp only [List.map_cons, List.nodup_cons] at hn
          cases j with
          | zero =>
            cases hj
            have : ∀ p ∈ m, p.1 ≠ a := fun p hp e => hn.1 (by show a ∈ _; rw [← e]; exact List.mem_map.2 ⟨p, hp, rfl⟩)
            simp only [mdel, ne_eq, not_true_eq_false, decide_false, List.eraseIdx_cons_zero, List.filter_cons, Bool.false_eq_true, if_false]
            exact List.filter_eq_self.2 (fun p hp => by simpa using this p hp)
          | succ j =>
            have hj : m[j]? = some (a, v0) := by simpa using hj
            have : q.1 ≠ a := fun e => hn.1 (by rw [e]; exact List.mem_map.2 ⟨_, List.mem_of_getElem? hj, rfl⟩)
            have e3 : mdel (q :: m) a = q :: mdel m a := by simp [mdel, this]
            rw [e3, ih j hn.2 hj]; rfl
      rw [key m j (kvs_nodup hs h) h6, hsub]
      have e2 : kvs (es.toList.eraseIdx j) = (kvs es.toList).eraseIdx j := by simp [kvs, map_erase]
      rw [e2, h]
      simp [encs, map_erase]
end
end
section
variable {P : Program} {W w : World} {n d : Nat} {E : Env} {H H' R : List SP} {k : KK} {t kt e : TypeId} {x y z : Operand}
theorem St.putTurn {b : Nat} {o' : Obj} {A A' : SP} (s : St W (A :: R) w) (hA : ∀ h, A.ok h → ∃ o, h b = some o) (hA' : A'.ok (Hl.one b o')) : St W (A' :: R) (w.putObj b o') := by
  refine St.act (A := [A]) (B := [A']) (H := R) s rfl rfl rfl (by simp) ?_
  intro h1 ⟨h, _, _, le, _, a, _⟩ lies
  obtain ⟨o, ho⟩ := hA h a
  have hlt := lies.lt (le _ _ ho)
  refine ⟨Hl.one b o', starL_one hA', fun k x hx => ?_, fun k x hx => ?_, fun k _ hn => World.putObj_heap_other ?_⟩
  · obtain ⟨rfl, rfl⟩ := Hl.one_some hx; exact World.putObj_heap_same hlt
  · obtain ⟨rfl, rfl⟩ := Hl.one_some hx; exact .inl ⟨_, le _ _ ho⟩
  · intro e; subst e; rw [le _ _ ho] at hn; cases hn
variable {α β : Type} {kf : α → Value} {vf : β → Value} {b : Nat} {m : List (α × β)}
theorem St.map {R : List SP} (s : St W H w) (p : Sel (mapP kf vf b m) H R) : ∃ es clock, w.heap[b]? = some (.map es clock) ∧ Stamped es clock ∧ kvs es.toList = encs kf vf m := by
  obtain ⟨h, ⟨es, c, q, r⟩, ls⟩ := s.sel p mapP_up
  exact ⟨es, c, (ls _ _ q).2, r⟩
/-- make(map[K]V) -/
theorem KJ_makeMap (kf : α → Value) (vf : β → Value) (hn : Nat.blt d n = true) (h : ∀ g, KJ W n k ((d, .map (some g)) :: E) (mapP kf vf g [] :: H)) : KJ W n (.oper P (.makeMap t none) (some d) k) E H := by
  refine KJ_eff (X := Nat) (v := fun g => .map (some g)) (H' := fun g => mapP kf vf g [] :: H) (fun o ho a w M p s => ⟨w.heap.size, w.alloc (.map #[] 0), .inl ?_, ?_⟩) hn h
  · simp [execOp, ho, Instr.makeMap, Go.newObj, Sem.run, Result.andThen]
  · exact s.alloc ⟨#[], 0, Hl.one_self _ _, stamped_empty 0, rfl⟩
class ZvIs (P : Program) (t : TypeId) (v : outParam Value) : Prop where h : (P.info? t).map (·.zero) = some (some v)
theorem ZvIs.run {v : Value} [hz : ZvIs P t v] (w : World) : (zeroValue t).run P w = .ok v w := by
  have hz := hz.h
  cases hq : P.info? t with
  | none => simp [hq] at hz
  | some i =>
    have hz : i.zero = some v := by simpa [hq] using hz
    simp [zeroValue, typeInfo, hq, hz]
section
variable [DecidableEq α]
theorem Ev_lookupOk {zv v : Value} {ok : Bool} {a : α} (K : KyOk P kt kf) (hx : Env.ev E x = some (.map (some b))) (hy : Env.ev E y = some (kf a)) [hu : UIs P t (.map kt e)] [hz : ZvIs P e zv] (hs : Sel (mapP kf vf b m) H R) (hv : (lk m a).elim zv vf = v) (hk : (lk m a).isSome = ok) : Ev P W n E H (.lookup t x y true) (.tuple #[v, .bool ok]) :=
  Ev.mk fun o ho a' w p q => by
    obtain ⟨es, c, hb, h1, h2⟩ := q.map hs
    have := run_lookup_lk (P := P) (w := w) K hu.h (ZvIs.run w) hb h1 h2 a true
    subst hv hk
    simp [execOp, ho, p.ev hx, p.ev hy, this]
/-- m[k] = v -/
theorem KJ_mapUpdate {a : α} {v : β} (K : KyOk P kt kf) (hx : Env.ev E x = some (.map (some b))) (hy : Env.ev E y = some (kf a)) (hz : Env.ev E z = some (vf v)) [hu : UIs P t (.map kt e)] (hs : Sel (mapP kf vf b m) H R)
    (h : KJ W n k E (mapP kf vf b (mput m a v) :: R)) : KJ W n (.oper P (.mapUpdate t x y z) none k) E H := by
  refine KJ_eff (X := Unit) (v := fun _ => undef) (H' := fun _ => mapP kf vf b (mput m a v) :: R) (fun o ho a' w M p s => ?_) rfl (fun _ => h)
  obtain ⟨es, c, hb, h1, h2⟩ := s.map (hs.app M)
  obtain ⟨es', c', hrun, h3, h4⟩ := run_mapUpdate_put (P := P) (w := w) K hu.h hb h1 h2 a v
  refine ⟨(), w.putObj b (.map es' c'), .inr ⟨rfl, ?_⟩, St.putTurn (s.perm (hs.app M).perm) (fun h ⟨es, c, q, _⟩ => ⟨_, q⟩) ⟨es', c', Hl.one_self _ _, h3, h4⟩⟩
  simp [execOp, ho, p.ev hx, p.ev hy, p.ev hz, hrun, Result.andThen]
/-- delete(m, k) -/
theorem KJ_mapDelete {a : α} {dd : Option Tmp} (K : KyOk P kt kf) (hx : Env.ev E x = some (.map (some b))) (hy : Env.ev E y = some (kf a)) [hu : UIs P t (.map kt e)] (hs : Sel (mapP kf vf b m) H R) (hn : dstOk n dd = true)
    (h : KJ W n k (Env.put E dd (.tuple #[])) (mapP kf vf b (mdel m a) :: R)) : KJ W n (.oper P (.call { callee := .builtin .delete, args := #[x, y], argTypes := #[t, kt] }) dd k) E H := by
  refine KJ_eff (X := Unit) (v := fun _ => .tuple #[]) (H' := fun _ => mapP kf vf b (mdel m a) :: R) (fun o ho a' w M p s => ?_) hn (fun _ => h)
  obtain ⟨es, c, hb, h1, h2⟩ := s.map (hs.app M)
  obtain ⟨es', hrun, h3, h4⟩ := run_delete_del (P := P) (w := w) (ty := o.type) K hu.h hb h1 h2 a
  refine ⟨(), w.putObj b (.map es' c), .inl ?_, St.putTurn (s.perm (hs.app M).perm) (fun h ⟨es, c, q, _⟩ => ⟨_, q⟩) ⟨es', c, Hl.one_self _ _, h3, h4⟩⟩
  simp [execOp, ho, resolve, invoke, builtin, p.ev hx, p.ev hy, hrun, Result.andThen]
end
end
end Go.Proofs.Ytmlnegmabfnaaaa
