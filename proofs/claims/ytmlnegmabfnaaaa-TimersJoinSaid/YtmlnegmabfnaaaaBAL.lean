/-
  More.
-/
import Derived.Test.YtmlnegmabfnaaaaBAK
import Derived.Test.YtmlnegmabfnaaaaBAF
/-
  More of the operations' rules: struct values, bytes, rows that grow.
-/
namespace Go.Proofs.Ytmlnegmabfnaaaa
open Go Go.RowKit
/-- how a struct is built: its cells of nought, and each field's place -/
class BuIs (P : Program) (t : TypeId) (zs : outParam (List Value)) (places : outParam (List (Nat × Nat))) : Prop where h : ∀ parts, P.built t parts = Instr.fill (places.toArray[·]?) zs.toArray parts
inductive EvP (E : Env) : List (Nat × Operand) → List (Nat × Value) → Prop
  | nil : EvP E [] []
  | cons {i : Nat} {x : Operand} {v : Value} {ps : List (Nat × Operand)} {vs : List (Nat × Value)} : Env.ev E x = some v → EvP E ps vs → EvP E ((i, x) :: ps) ((i, v) :: vs)
inductive Fills (places : List (Nat × Nat)) : List Value → List (Nat × Value) → List Value → Prop
  | nil {zs : List Value} : Fills places zs [] zs
  | cons {i off m : Nat} {v : Value} {zs zs' ws vs : List Value} {ps : List (Nat × Value)} : places[i]? = some (off, m) → CellsOf v ws → ws.length = m → Laid zs off ws zs' → Fills places zs' ps vs → Fills places zs ((i, v) :: ps) vs
theorem xV {E : Env} {ps : List (Nat × Operand)} {pv : List (Nat × Value)} (h : EvP E ps pv := by (repeat' (first | exact EvP.nil | (apply EvP.cons; exact rfl))); first | done | fail) : EvP E ps pv := h
theorem xW {places : List (Nat × Nat)} {zs vs : List Value} {ps : List (Nat × Value)} (h : Fills places zs ps vs := by (repeat' (first | exact Fills.nil | (apply Fills.cons; exact rfl; (first | exact CellsOf.agg | exact CellsOf.one rfl); exact rfl; (repeat' (first | exact Laid.nil | apply Laid.cons | apply Laid.skip))))); first | done | fail) : Fills places zs ps vs := h
theorem Fills.fill {places : List (Nat × Nat)} {zs vs : List Value} {ps : List (Nat × Value)} (h : Fills places zs ps vs) : Instr.fill (places.toArray[·]?) zs.toArray ps = some vs.toArray := by
  induction h with
  | nil => rfl
  | cons hp hv hl hL hf ih =>
    rename_i i off m v zs zs' ws vs ps
    obtain ⟨hfit, rfl⟩ := hL.spec
    have hc := hv.spec
    unfold Instr.fill
    have hp' : places.toArray[i]? = some (off, m) := by simpa using hp
    simp only [hp']
    rw [if_neg (by simp [hc, hl]; omega)]
    rw [hc]
    have e : ((ws.toArray.zipIdx).foldl (fun cs (x : Value × Nat) => cs.setIfInBounds (off + x.2) x.1) zs.toArray) = (lay zs off ws).toArray := by
      rw [← Array.foldl_toList]
      simp only [Array.toList_zipIdx]
      have key : ∀ (l : List Value) (k : Nat) (base : Array Value), off + k + l.length ≤ base.size → ((l.zipIdx k).foldl (fun cs (x : Value × Nat) => cs.setIfInBounds (off + x.2) x.1) base).toList = base.toList.take (off + k) ++ (l ++ base.toList.drop (off + k + l.length)) := by
        intro l
        induction l with
        | nil => intro k base h; simp
        | cons v l ih2 =>
          intro k base h
          simp only [List.length_cons] at h
          rw [List.zipIdx_cons, List.foldl_cons, ih2 (k + 1) _ (by simp; omega)]
          simp only [Array.toList_setIfInBounds, List.length_cons]
          have e1 : (base.toList.set (off + k) v).take (off + (k + 1)) = base.toList.take (off + k) ++ [v] := by
            rw [List.take_set, show off + (k + 1) = off + k + 1 by omega]
            rw [List.take_succ_eq_append_getElem (by simp; omega), List.set_append_right _ _ (by simp; omega)]
            simp [show min (off + k) base.size = off + k by omega]
          have e2 : (base.toList.set (off + k) v).drop (off + (k + 1) + l.length) = base.toList.drop (off + k + (l.length + 1)) := by
            rw [List.drop_set_of_lt (by omega)]
            congr 1; omega
          rw [e1, e2]
          simp
      have := key ws 0 zs.toArray (by simpa using hfit)
      rw [← Array.toList_inj]
      simpa [lay] using this
    rw [e]
    exact ih

section
variable {P : Program} {W : World} {n : Nat} {E : Env} {H R : List SP} {k : KK} {x y z : Operand} {t e T : TypeId} {b off d m c : Nat}
theorem EvP.map {a : Act} (p : Hd n E a) {ps : List (Nat × Operand)} {pv : List (Nat × Value)} (h : EvP E ps pv) : ps.map (fun (i, x) => (i, a.eval x)) = pv := by
  induction h with
  | nil => rfl
  | cons hx _ ih => simp [p.ev hx, ih]
theorem Ev_build {ps : List (Nat × Operand)} {pv : List (Nat × Value)} {zs vs : List Value} {places : List (Nat × Nat)} (hp : EvP E ps pv) [hb : BuIs P t zs places] (hf : Fills places zs pv vs) : Ev P W n E H (.build t ps.toArray) (.agg vs.toArray) :=
  Ev.mk fun o ho a w p _ => by
    have e : (ps.toArray.map fun (i, x) => (i, a.eval x)).toList = pv := by
      rw [← hp.map p]; simp
    have h1 := run_build (P := P) w t (ps.toArray.map fun (i, x) => (i, a.eval x)) vs.toArray (by rw [e, hb.h]; exact hf.fill)
    simp only [execOp, ho, Sem.run_bind, h1, Result.andThen_ok, Sem.run_pure]

theorem Ev_neqI_f {u : TypeId} {kd : IntKind} {i j : Int} (hx : Env.ev E x = some (.int kd i)) (hy : Env.ev E y = some (.int kd j)) (h : i = j) : Ev P W n E H (.binOp .neq t x y u) (.bool false) := by
  have := Ev_neqI (P := P) (W := W) (n := n) (E := E) (H := H) (t := t) (u := u) hx hy
  rw [decide_eq_false (by simpa using h)] at this; exact this
/-- where appended cells lie -/
structure Src (W : World) (H : List SP) (xa : Option Addr) (news : List Value) : Prop where
  go : news ≠ [] → ∃ b o, xa = some ⟨b, o, none⟩ ∧ ∀ w, St W H w → w.rangeAt b o news
theorem Src.cells {cs news : List Value} {i : Nat} (hs : Sel (cellsP b cs T) H R) (hc : Cut cs off i news) : Src W H (some ⟨b, off, none⟩) news := ⟨fun _ => ⟨b, off, rfl, fun w q j v hj => by rw [(q.blk hs).2.cell]; exact hc.spec.2 j v hj⟩⟩
theorem Src.old {news : List Value} (hc : W.rangeAt b off news) : Src W H (some ⟨b, off, none⟩) news := ⟨fun _ => ⟨b, off, rfl, fun _ q => q.oldRange hc⟩⟩
theorem Src.nil {xa : Option Addr} : Src W H xa [] := ⟨fun h => absurd rfl h⟩
/-- append to a row of one's own -/
theorem KJ_append {v : Value} {i l size bytes : Nat} {xs news : List Value} {a2 c2 : Nat} {xa : Option Addr} (hx : Env.ev E x = some v) (hy : Env.ev E y = some (.slice xa l c2)) [hu : UIs P t (.slice e)] [hs : SzIs P e size] [hb : ByIs P e bytes] {zs : List Value} [hz : ZcIs P e zs] (hsz : zs.length = size) (h0 : 0 < size) (hsel : Sel (rowP v e size i xs) H R)
    (hsrc : Src W H xa news) (hl : news.length = l * size) (hl0 : 0 < l) (h1 : Ones news) (h63 : (i + l) * bytes ≤ 140737488355328) (h64 : i + l ≤ 9223372036854775807) (hn : Nat.blt d n = true) (_ha : a2 = a2)
    (h : ∀ g c, KJ W n k ((d, .slice (some ⟨g, 0, none⟩) (i + l) c) :: E) (rowP (.slice (some ⟨g, 0, none⟩) (i + l) c) e size (i + l) (xs ++ news) :: R)) : KJ W n (.oper P (.call { callee := .builtin .append, args := #[x, y], argTypes := #[t, t] }) (some d) k) E H := by
  refine ⟨fun a w p s o ho hd => ?_⟩
  have hz := hz.h
  have hs := hs.h
  have hb := hb.h
  replace hsel := hsel.app (dm a.defers)
  have hrow := s.row hsel
  have hne : news ≠ [] := by intro q; subst q; have := Nat.mul_pos hl0 h0; simp at hl; omega
  obtain ⟨sb, so, rfl, hrange⟩ := hsrc.go hne
  cases hq : P.info? e with
  | none => simp [hq] at hz
  | some it =>
    simp [hq] at hz hs hb
    obtain ⟨zv, hz1, hz2⟩ := hz
    obtain ⟨v', w', hrun, hown, hgrow, -, hloc⟩ := run_append_own_at (P := P) w W.heap.size t o.type e it zv size bytes hu.h hq hz1 hs hb (by rw [hz2]; simpa using hsz) h0 v i xs hrow ⟨sb, so, none⟩ l c2 news hl (fun j u hj => by rw [Addr.add_mid]; exact hrange w s.left j u hj) h1.all (by unfold maxLen; omega) h63 s.size
    have hshape : ∃ g c, v' = .slice (some ⟨g, 0, none⟩) (i + l) c := by
      rcases hown.2 with ⟨_, q⟩ | ⟨g, cap, cur, hv, _⟩
      · omega
      · exact ⟨g, cap, hv⟩
    obtain ⟨g, cc, rfl⟩ := hshape
    show uponP P o a _ ((execOp a.eval o).run P w)
    have hr2 : (execOp a.eval o).run P w = .ok (.value (.slice (some ⟨g, 0, none⟩) (i + l) cc)) w' := by
      simp only [execOp, ho, resolve, invoke, builtin, Sem.run_bind, Sem.run_pure, Result.andThen_ok, List.map_toArray, List.map_cons, List.map_nil, p.ev hx, p.ev hy, hrun]
    rw [hr2]
    have st : St W (rowP (.slice (some ⟨g, 0, none⟩) (i + l) cc) e size (i + l) (xs ++ news) :: (R ++ dm a.defers)) w' := by
      obtain ⟨g1, g2, dj, hA, hH, l1, l2⟩ := (show St W ([rowP v e size i xs] ++ (R ++ dm a.defers)) w from s.perm hsel.perm).split
      rcases hown.2 with ⟨_, q⟩ | ⟨g', cap, cur, hv, hbase, hh, hrest⟩
      · omega
      · cases hv
        have hold : ∀ gg, v.ownBlock = some gg → ∃ o, g1 gg = some o := by
          intro gg hgg
          obtain ⟨ha, _, _, le, _, ⟨_, hd⟩, _⟩ := hA
          rcases hd with ⟨hv0, _⟩ | ⟨g'', cap', cur', hv0, hh0, _⟩
          · rw [hv0] at hgg; simp [Value.ownBlock] at hgg
          · rw [hv0] at hgg; simp [Value.ownBlock] at hgg; subst hgg; exact ⟨_, le _ _ hh0⟩
        refine St.join (B := [rowP (.slice (some ⟨g, 0, none⟩) (i + l) cc) e size (i + l) (xs ++ news)]) (g := Hl.one g (.cells cur e (0, 0))) s.below dj hH l1 l2 (starL_one ⟨hown.1, .inr ⟨g, cc, cur, rfl, Hl.one_self _ _, hrest⟩⟩) hgrow.os hgrow.tape hgrow.output hgrow.size ?_ ?_ ?_
        · intro kk o q; obtain ⟨rfl, rfl⟩ := Hl.one_some q; exact hh
        · intro kk o q
          obtain ⟨rfl, rfl⟩ := Hl.one_some q
          rcases hloc with hl | hl
          · exact .inl (hold kk (by rw [← hl]; rfl))
          · have : kk = w.heap.size := by simpa [Value.ownBlock] using hl
            exact .inr (by omega)
        · intro kk hk hnone
          refine hgrow.block kk hk (fun e => ?_)
          obtain ⟨o, ho⟩ := hold kk e.symm
          rw [hnone] at ho; cases ho
    have := (h g cc).go _ w' (p.put (d := some d) hn _) st
    rw [← hd] at this
    exact this
theorem Ev_loadRowAgg {g i size : Nat} {xs vs : List Value} (hx : Env.ev E x = some (.pointer (some ⟨g, off, none⟩))) [hu : AgIs P t] [hi : SzIs P t m] (hs : Sel (rowP (.slice (some ⟨g, 0, none⟩) i c) e size i xs) H R) (hv : ∀ j v, vs[j]? = some v → xs[off + j]? = some v) (hl : vs.length = m) : Ev P W n E H (.load t x) (.agg vs.toArray) :=
  Ev.mk fun o ho a w p q => by
    obtain ⟨d, hu, hd⟩ := hu.h
    have hr := q.row hs
    have hc : w.rangeAt g off vs := fun j v hj => by
      have := hr.cells (g := g) rfl (off + j) v (hv j v hj)
      rwa [Addr.add_mid, Nat.zero_add] at this
    have := run_loadAt_mid (P := P) w g off t vs d hc hu (isRow_of hd) (by rw [hl]; exact hi.h)
    simp [execOp, ho, p.ev hx, this, Result.andThen]
/-- []T{v}, of one element -/
theorem KJ_bslice1 {v : Value} {vs : List Value} (hx : Env.ev E x = some v) [hu : UIs P t (.slice e)] [hs : SzIs P e m] {zs : List Value} [hz : ZcIs P e zs] (hv : CellsOf v vs) (hl : vs.length = m) (hm : 0 < m ∧ m ≤ 16777216) (hn : Nat.blt d n = true)
    (h : ∀ g, KJ W n k ((d, .slice (some ⟨g, 0, none⟩) 1 1) :: E) (cellsP g vs e :: H)) : KJ W n (.oper P (.buildSlice t 1 #[(0, x)]) (some d) k) E H := by
  refine ⟨fun a w p s o ho hd => ?_⟩
  have hz := hz.h
  have hs := hs.h
  cases hq : P.info? e with
  | none => simp [hq] at hz
  | some it =>
    simp [hq] at hz hs
    obtain ⟨zv, hz1, hz2⟩ := hz
    have hr := run_buildSlice_one (P := P) w t e it zv v hu.h hq hz1 (by rw [hv.spec]; simp; omega) (by omega) (by omega)
    show uponP P o a _ ((execOp a.eval o).run P w)
    have hr2 : (execOp a.eval o).run P w = .ok (.value (.slice (some ⟨w.heap.size, 0, none⟩) 1 1)) (w.alloc (.cells vs.toArray e)) := by
      rw [hv.spec] at hr
      simp only [execOp, ho, List.map_toArray, List.map_cons, List.map_nil, p.ev hx, Sem.run_bind, Sem.run_pure, Result.andThen_ok, hr]
    rw [hr2]
    have := (h w.heap.size).go _ _ (p.put (d := some d) hn _) s.new
    rw [← hd] at this
    exact this
end
end Go.Proofs.Ytmlnegmabfnaaaa
