/-
  Bld, Sec, Sec2, Sec3, Sec4, Slo, Slo3, Rt, Ends, Errq, Are, Are2, Calm, Rdk.
-/
import Derived.Lib.Builder
import Derived.Lib.UnsafeStr
import Derived.Laws.Externs
import Derived.Test.YteklldbfdmaafaaDoorTie
import Derived.Test.YteklldbfdmaafaaDoorCards
import Derived.WalkKit
import Derived.ProofKit
import Derived.OpenShut
import Derived.Lay
import Derived.LaidLaws
import Derived.MakeChecks
import Derived.Carry
import Derived.Below
import Derived.Deep.DeepHandedRow
import Derived.Deep.Slices
import Derived.Deep.Fields
import Derived.Deep.Grids
import Derived.Lib.SmallJoins
import Derived.Lib.LaidTab
import Derived.Test.YteklldbfdmaafaaDoorHB
/-
  A strings.Builder of one's own: copyCheck, WriteString, String.
-/
namespace Go.Proofs.YteklldbfdmaafaaDoor
open Go Go.RowKit
section
variable {P : Program} {W : World} {n : Nat} {ops : Array Oper} {q : QQ} {E : Env} {H R : List SP} {k : KK} {d : Nat} {t u e T s : TypeId} {b off : Nat} {x y : Operand}
theorem is_unsafeString {xs : Array Operand} {ts : Array TypeId} {dd : Option Tmp} (h : KJ W n (.oper P (.call { callee := .builtin .unsafeString, args := xs, argTypes := ts }) dd k) E H) : KJ W n (.oper P (.call { callee := .builtin .unsafeString, args := xs, argTypes := ts }) dd k) E H := h
theorem ek_unsafeSliceData {xs : Array Operand} {ts : Array TypeId} {C : Value → Prop} (h : EK P W n E H (.call { callee := .builtin .unsafeSliceData, args := xs, argTypes := ts }) C) : EK P W n E H (.call { callee := .builtin .unsafeSliceData, args := xs, argTypes := ts }) C := h
/-- internal/abi.NoEscape: the pointer as it is -/
theorem KJ_noEscape {f : FuncId} {fn : Func} {ts : Array TypeId} {v : Value} (hf : P.funcs[f]? = some fn) (h1 : (fn.name == "runtime.NumGoroutine") = false) (h2 : fn.body.isNone = true) (h3 : Extern.findNext fn = none) (h4 : Extern.find fn = some Extern.AbiNoEscape.same)
    (hx : Env.ev E x = some v) (hn : Nat.blt d n = true) (h : KJ W n k ((d, v) :: E) H) : KJ W n (.oper P (.call { callee := .value (.func f), args := #[x], argTypes := ts }) (some d) k) E H :=
  KJ_ev (Ev.mk fun o ho a w p _ => by
    have e : a.eval (.func f) = .func (.func f) #[] #[] := rfl
    have hc := run_callFunc_extern hf h1 h2 h3 h4 #[v] w
    rw [Lib.run_noEscape] at hc
    simp [execOp, ho, resolve, e, Deferred.ofValue, invoke, p.ev hx, hc, Result.andThen]) hn h
/-- *T to unsafe.Pointer -/
theorem Ev_toUnsafe {cs : List Value} {z : Nat} (hx : Env.ev E x = some (.pointer (some ⟨b, off, none⟩))) [hs : UIs P s (.pointer u)] [hd : UIs P t .unsafePointer] [hz : SzIs P u (z + 1)] (hsel : Sel (cellsP b cs T) H R) (ho : off < cs.length) : Ev P W n E H (.convert s t x) (.pointer (some ⟨b, off, none⟩)) :=
  Ev.mk fun o hop a w p q => by
    have hz := hz.h
    cases hq : P.info? u with
    | none => simp [hq] at hz
    | some j =>
      simp [hq] at hz
      have hb := (q.blk hsel).2
      have hsh : w.shape? (⟨b, off, none⟩ : Addr).block = some (T, cs.length) := by
        have : w.heap[b]? = some (.cells cs.toArray T (0, 0)) := hb
        simp [World.shape?, this]
      have := Lib.run_to_unsafe (P := P) w ⟨b, off, none⟩ hs.h hd.h hq (by omega) hsh ho
      simp [execOp, hop, p.ev hx, this, Result.andThen]
/-- unsafe.Pointer to *U -/
theorem Ev_fromUnsafe {cs : List Value} {z : Nat} (hx : Env.ev E x = some (.pointer (some ⟨b, off, none⟩))) [hs : UIs P s .unsafePointer] [hd : UIs P t (.pointer u)] [hz : SzIs P u z] (hsel : Sel (cellsP b cs T) H R) (hl : liesAt P P.depth T (cs.length / P.cellsOf T) off u 1 = true) : Ev P W n E H (.convert s t x) (.pointer (some ⟨b, off, none⟩)) :=
  Ev.mk fun o hop a w p q => by
    have hz := hz.h
    cases hq : P.info? u with
    | none => simp [hq] at hz
    | some j =>
      have hb := (q.blk hsel).2
      have hsh : w.shape? (⟨b, off, none⟩ : Addr).block = some (T, cs.length) := by
        have : w.heap[b]? = some (.cells cs.toArray T (0, 0)) := hb
        simp [World.shape?, this]
      have := Lib.run_from_unsafe (P := P) w ⟨b, off, none⟩ hs.h hd.h hq hsh hl
      simp [execOp, hop, p.ev hx, this, Result.andThen]
/-- a pointer against itself -/
theorem Ev_neqSame {a : Addr} {z : Nat} (hx : Env.ev E x = some (.pointer (some a))) (hy : Env.ev E y = some (.pointer (some a))) [hu : UIs P t (.pointer u)] [hz : SzIs P u z] {v : TypeId} (hg : ∀ w, (eqGuard .neq t x y (.pointer (some a)) (.pointer (some a))).run P w = .ok () w) : Ev P W n E H (.binOp .neq t x y v) (.bool false) :=
  Ev_bin hx hy hg fun w => by
    have hz := hz.h
    cases hq : P.info? u with
    | none => simp [hq] at hz
    | some j => exact Lib.run_neq_ptr_same w a hu.h hq
theorem Ev_sliceData0 (hx : Env.ev E x = some (.slice none off b)) {ts : Array TypeId} : Ev P W n E H (.call { callee := .builtin .unsafeSliceData, args := #[x], argTypes := ts }) (.pointer none) :=
  Ev.mk fun o ho a w p _ => by
    simp only [execOp, ho, resolve, invoke, builtin, Sem.run_bind, Sem.run_pure, Result.andThen_ok, List.map_toArray, List.map_cons, List.map_nil, p.ev hx, Lib.run_unsafeSliceData_nil]
theorem Ev_sliceData {g i c sz : Nat} {xs : List Value} (hx : Env.ev E x = some (.slice (some ⟨g, 0, none⟩) i c)) (hsel : Sel (rowP (.slice (some ⟨g, 0, none⟩) i c) e sz i xs) H R) (h0 : i ≠ 0) {ts : Array TypeId} : Ev P W n E H (.call { callee := .builtin .unsafeSliceData, args := #[x], argTypes := ts }) (.pointer (some ⟨g, 0, none⟩)) :=
  Ev.mk fun o ho a w p q => by
    have hc : c ≠ 0 := by
      rcases (q.row hsel).2 with ⟨h, _⟩ | ⟨g', cap, cur, h, _, _, hle, _⟩
      · cases h
      · cases h; omega
    simp only [execOp, ho, resolve, invoke, builtin, Sem.run_bind, Sem.run_pure, Result.andThen_ok, List.map_toArray, List.map_cons, List.map_nil, p.ev hx, Lib.run_unsafeSliceData_row _ _ _ _ _ _ hc]
theorem KJ_unsafeString0 (hx : Env.ev E x = some (.pointer none)) (hy : Env.ev E y = some (.int .i64 0)) (hn : Nat.blt d n = true) (h : KJ W n k ((d, strV []) :: E) H) : KJ W n (.oper P (.call { callee := .builtin .unsafeString, args := #[x, y], argTypes := #[t, u] }) (some d) k) E H :=
  KJ_ev (Ev.mk fun o ho a w p _ => by
    simp only [execOp, ho, resolve, invoke, builtin, Sem.run_bind, Sem.run_pure, Result.andThen_ok, List.map_toArray, List.map_cons, List.map_nil, p.ev hx, p.ev hy, Lib.run_unsafeString_none]
    rfl) hn h
theorem St.frozen {w : World} {g i c sz m : Nat} {xs : List Value} (s : St W H w) (p : Sel (rowP (.slice (some ⟨g, 0, none⟩) i c) e sz i xs) H R) : St W R (w.freeze ⟨g, 0, none⟩ m) := by
  by_cases hm : m = 0
  · have : w.freeze ⟨g, 0, none⟩ m = w := by simp [World.freeze, hm]
    rw [this]
    exact (s.perm p.perm).mono fun h q => (DropTo.there .refl).star h q
  refine St.act (A := [rowP (.slice (some ⟨g, 0, none⟩) i c) e sz i xs]) (B := []) (H := R) (s.perm p.perm) (by simp [World.freeze, hm]) (by simp [World.freeze, hm]) (by simp [World.freeze, hm]) (by simp [World.freeze, hm]) ?_
  intro h1 ⟨h, _, _, le, _, a, _⟩ l
  refine ⟨fun _ => none, trivial, (fun _ _ (hx : none = some _) => nomatch hx), (fun _ _ (hx : none = some _) => nomatch hx), fun kk _ hk => ?_⟩
  have hne : kk ≠ g := by
    rintro rfl
    rcases a.2 with ⟨h', _⟩ | ⟨g', cap, cur, h', hg, _⟩
    · cases h'
    · cases h'
      rw [le _ _ hg] at hk; cases hk
  simp [World.freeze, hm, Array.getElem?_modify, Ne.symm hne]
/-- unsafe.String over a row of one's own: the row is gone -/
theorem KJ_unsafeString {g c : Nat} {l : List UInt8} (hx : Env.ev E x = some (.pointer (some ⟨g, 0, none⟩))) (hy : Env.ev E y = some (.int .i64 l.length)) [hu : UIs P t (.pointer e)] [SzIs P e 1] (hsel : Sel (rowP (.slice (some ⟨g, 0, none⟩) l.length c) e 1 l.length (bvs l)) H R) (hc1 : P.cellsOf e = 1) (h0 : l ≠ []) (h63 : l.length ≤ 9223372036854775807)
    (hn : Nat.blt d n = true) (h : KJ W n k ((d, strV l) :: E) R) : KJ W n (.oper P (.call { callee := .builtin .unsafeString, args := #[x, y], argTypes := #[t, u] }) (some d) k) E H := by
  refine ⟨fun a w p s o ho hd Q => ?_⟩
  rcases (s.row hsel).2 with ⟨h', _⟩ | ⟨g', cap, cur, h', hge, hcell, hle, hmax, hsz, htk⟩
  · cases h'
  cases h'
  rw [Nat.mul_one] at hsz htk
  have hsh : w.shape? g = some (e, c) := by simp [World.shape?, hcell, hsz]
  have hcells : ∀ j z, l[j]? = some z → w.cell? ((⟨g, 0, none⟩ : Addr).add j) = some (.int .u8 z.toNat) := by
    intro j z hj
    have hjl := (List.getElem?_eq_some_iff.1 hj).1
    have h2 : (bvs l)[j]? = some (bv z) := by simp [bvs, hj]
    rw [← htk, List.getElem?_take_of_lt hjl] at h2
    have e1 : (⟨g, 0, none⟩ : Addr).add j = ⟨g, j, none⟩ := by unfold Addr.add; by_cases hj0 : j = 0 <;> simp [hj0]
    rw [e1, Lib.cell_of_heap hcell]
    simpa [bv] using h2
  have hrun := Lib.run_unsafeString_row (P := P) w t u o.type e hu.h hc1 g c hsh l h0 hle h63 hcells
  show o.upon P a _ _ ((execOp a.eval o).run P w)
  have hr2 : (execOp a.eval o).run P w = .ok (.value (strV l)) (w.freeze ⟨g, 0, none⟩ l.length) := by
    simp only [execOp, ho, resolve, invoke, builtin, Sem.run_bind, Sem.run_pure, Result.andThen_ok, List.map_toArray, List.map_cons, List.map_nil, p.ev hx, p.ev hy, hrun]
  rw [hr2]
  have := h.go _ _ (p.put (d := some d) hn _) (s.frozen (m := l.length) hsel)
  rw [← hd] at this
  exact this
end
section
variable {W : World} {b : Nat}
/-- the builder's block -/
abbrev bldP (b : Nat) (q v : Value) : SP := cellsP b [q, v] 152
theorem copyCheck_new (v : Value) : Ct Tryd.prog W 118 [.pointer (some ⟨b, 0, none⟩)] [bldP b (.pointer none) v] (fun _ : Unit => .tuple #[]) (fun _ => [bldP b (.pointer (some ⟨b, 0, none⟩)) v]) := by
  refine Ct.enter Tryd.func118 rfl Tryd.ntmps118 (by simp) (fun R => ?_)
  repeat' (first 
    | refine KJ_stp (by first | constructor | fail) ?_
    | (refine is_oper ?_; first | (refine is_store ?_; first | (refine KJ_store rfl rfl (by (repeat' (first | exact Sel.here | apply Sel.there)); first | done | fail) (by first | exact CellsOf.agg | exact CellsOf.one rfl) (by rfl) (by (repeat' (first | exact Ones.nil | exact Ones_bvs _ | refine Ones.cons rfl ?_)); first | done | fail) (by (repeat' (first | exact Laid.nil | apply Laid.cons | apply Laid.skip)); first | done | fail) (by (repeat' (first | exact Rep.here | apply Rep.there)); first | done | fail) ?_)) | (refine is_call ?_; first | (refine KJ_noEscape Tryd.func131 (by kernel_rfl) (by kernel_rfl) (by kernel_rfl) (by kernel_rfl) rfl rfl ?_)) | (refine KJ_ek rfl ?_) | (refine KJ_ek0 ?_))
    | (refine is_ek ?_; first | (refine ek_move ?_; first | (refine EK_ev (Ev_move rfl) ?_)) | (refine ek_nilCheck ?_; first | (refine EK_ev (Ev_nilCheck rfl) ?_)) | (refine ek_fieldAddr ?_; first | (refine EK_ev (Ev_field rfl) ?_)) | (refine ek_load ?_; first | (refine EK_ev (Ev_load rfl (by (repeat' (first | exact Sel.here | apply Sel.there)); first | done | fail) (by rfl)) ?_) | (refine EK_ev (Ev_loadOld rfl (by assumption)) ?_) | (refine EK_ev (Ev_loadAgg rfl (by (repeat' (first | exact Sel.here | apply Sel.there)); first | done | fail) (by (repeat' (first | exact Cut.nil | apply Cut.cons | apply Cut.skip)); first | done | fail)) ?_)) | (refine ek_conv ?_; first | (refine EK_ev (Ev_toUnsafe rfl (by (repeat' (first | exact Sel.here | apply Sel.there)); first | done | fail) (by show (0 : Nat) < 2; omega)) ?_) | (refine EK_ev (Ev_fromUnsafe rfl (by (repeat' (first | exact Sel.here | apply Sel.there)); first | done | fail) (by kernel_rfl)) ?_) | (refine EK_ev (Ev_convI64 rfl (by omega)) ?_) | (refine EK_ev (Ev_convI rfl) ?_) | (refine EK_ev (Ev_convS rfl) ?_)) | (refine ek_eql ?_; first | (refine EK_ev (Ev_eqlI rfl rfl) ?_) | (refine EK_ev (Ev_eqlS rfl rfl) ?_) | (refine EK_ev (Ev_eqlNil rfl rfl) ?_) | (refine EK_ev (Ev_eqlB rfl rfl) ?_) | (refine EK_ev (Ev_eqlO rfl rfl rfl (fun _ => rfl)) ?_)) | (refine ek_neq ?_; first | (refine EK_ev (Ev_neqSame rfl rfl (fun _ => rfl)) ?_) | (refine EK_ev (Ev_neqI rfl rfl) ?_) | (refine EK_ev (Ev_neqS rfl rfl) ?_) | (refine EK_ev (Ev_neqNil rfl rfl) ?_) | (refine EK_ev (Ev_neqB rfl rfl) ?_) | (refine EK_ev (Ev_neqO rfl rfl rfl (fun _ => rfl)) ?_)))
    | (refine is_ex ?_; first | (refine KJ_blk_exit' rfl ?_))
    | (refine is_code ?_; first | (refine KJ_cond_dec rfl (fun _ => ?_) (fun _ => ?_) <;> first | (exfalso; omega) | skip) | (refine KJ_cond_t rfl ?_) | (refine KJ_cond_f rfl ?_)))
  all_goals (refine is_ex ?_; exact KJ_done (by first | exact Or.inl rfl | exact Or.inr rfl) rfl (by (repeat' (first | exact Rvs.nil | (apply Rvs.tmp; exact rfl))); first | done | fail) () (by rfl) (Ent.of (by (repeat' (first | exact Pick.nil | apply Pick.cons | exact Sel.here | apply Sel.there)); first | done | fail) (by (repeat' (first | exact DropTo.refl | apply DropTo.there)); first | done | fail)))
theorem copyCheck_used (v : Value) : Ct Tryd.prog W 118 [.pointer (some ⟨b, 0, none⟩)] [bldP b (.pointer (some ⟨b, 0, none⟩)) v] (fun _ : Unit => .tuple #[]) (fun _ => [bldP b (.pointer (some ⟨b, 0, none⟩)) v]) := by
  refine Ct.enter Tryd.func118 rfl Tryd.ntmps118 (by simp) (fun R => ?_)
  repeat' (first 
    | refine KJ_stp (by first | constructor | fail) ?_
    | (refine is_oper ?_; first | (refine is_store ?_; first | (refine KJ_store rfl rfl (by (repeat' (first | exact Sel.here | apply Sel.there)); first | done | fail) (by first | exact CellsOf.agg | exact CellsOf.one rfl) (by rfl) (by (repeat' (first | exact Ones.nil | exact Ones_bvs _ | refine Ones.cons rfl ?_)); first | done | fail) (by (repeat' (first | exact Laid.nil | apply Laid.cons | apply Laid.skip)); first | done | fail) (by (repeat' (first | exact Rep.here | apply Rep.there)); first | done | fail) ?_)) | (refine KJ_ek rfl ?_) | (refine KJ_ek0 ?_))
    | (refine is_ek ?_; first | (refine ek_move ?_; first | (refine EK_ev (Ev_move rfl) ?_)) | (refine ek_nilCheck ?_; first | (refine EK_ev (Ev_nilCheck rfl) ?_)) | (refine ek_fieldAddr ?_; first | (refine EK_ev (Ev_field rfl) ?_)) | (refine ek_load ?_; first | (refine EK_ev (Ev_load rfl (by (repeat' (first | exact Sel.here | apply Sel.there)); first | done | fail) (by rfl)) ?_) | (refine EK_ev (Ev_loadOld rfl (by assumption)) ?_) | (refine EK_ev (Ev_loadAgg rfl (by (repeat' (first | exact Sel.here | apply Sel.there)); first | done | fail) (by (repeat' (first | exact Cut.nil | apply Cut.cons | apply Cut.skip)); first | done | fail)) ?_)) | (refine ek_conv ?_; first | (refine EK_ev (Ev_convI64 rfl (by omega)) ?_) | (refine EK_ev (Ev_convI rfl) ?_) | (refine EK_ev (Ev_convS rfl) ?_)) | (refine ek_eql ?_; first | (refine EK_ev (Ev_eqlI rfl rfl) ?_) | (refine EK_ev (Ev_eqlS rfl rfl) ?_) | (refine EK_ev (Ev_eqlNil rfl rfl) ?_) | (refine EK_ev (Ev_eqlB rfl rfl) ?_) | (refine EK_ev (Ev_eqlO rfl rfl rfl (fun _ => rfl)) ?_)) | (refine ek_neq ?_; first | (refine EK_ev (Ev_neqSame rfl rfl (fun _ => rfl)) ?_) | (refine EK_ev (Ev_neqI rfl rfl) ?_) | (refine EK_ev (Ev_neqS rfl rfl) ?_) | (refine EK_ev (Ev_neqNil rfl rfl) ?_) | (refine EK_ev (Ev_neqB rfl rfl) ?_) | (refine EK_ev (Ev_neqO rfl rfl rfl (fun _ => rfl)) ?_)))
    | (refine is_ex ?_; first | (refine KJ_blk_exit' rfl ?_))
    | (refine is_code ?_; first | (refine KJ_cond_dec rfl (fun _ => ?_) (fun _ => ?_) <;> first | (exfalso; omega) | skip) | (refine KJ_cond_t rfl ?_) | (refine KJ_cond_f rfl ?_)))
  all_goals (refine is_ex ?_; exact KJ_done (by first | exact Or.inl rfl | exact Or.inr rfl) rfl (by (repeat' (first | exact Rvs.nil | (apply Rvs.tmp; exact rfl))); first | done | fail) () (by rfl) (Ent.of (by (repeat' (first | exact Pick.nil | apply Pick.cons | exact Sel.here | apply Sel.there)); first | done | fail) (by (repeat' (first | exact DropTo.refl | apply DropTo.there)); first | done | fail)))
theorem writeString_ct (q : Value) (hq : q = .pointer none ∨ q = .pointer (some ⟨b, 0, none⟩)) (v : Value) (acc s : List UInt8) (h0 : s ≠ []) (hb : acc.length + s.length ≤ 140737488355328) :
    Ct Tryd.prog W 88 [.pointer (some ⟨b, 0, none⟩), strV s] [bldP b q v, rowP v 5 1 acc.length (bvs acc)] (fun _ : Nat × Nat => .tuple #[.int .i64 s.length, .nilIface])
      (fun x => [bldP b (.pointer (some ⟨b, 0, none⟩)) (.slice (some ⟨x.1, 0, none⟩) (acc.length + s.length) x.2), rowP (.slice (some ⟨x.1, 0, none⟩) (acc.length + s.length) x.2) 5 1 (acc.length + s.length) (bvs acc ++ bvs s)]) := by
  have c1 : Ct Tryd.prog W 118 [.pointer (some ⟨b, 0, none⟩)] [bldP b q v] (fun _ : Unit => .tuple #[]) (fun _ => [bldP b (.pointer (some ⟨b, 0, none⟩)) v]) := by
    rcases hq with rfl | rfl
    · exact copyCheck_new v
    · exact copyCheck_used v
  refine Ct.enter Tryd.func88 rfl Tryd.ntmps88 (by simp) (fun R => ?_)
  repeat' (first 
    | refine KJ_stp (by first | constructor | fail) ?_
    | (refine is_oper ?_; first | (refine is_store ?_; first | (refine KJ_store rfl rfl (by (repeat' (first | exact Sel.here | apply Sel.there)); first | done | fail) (by first | exact CellsOf.agg | exact CellsOf.one rfl) (by rfl) (by (repeat' (first | exact Ones.nil | exact Ones_bvs _ | refine Ones.cons rfl ?_)); first | done | fail) (by (repeat' (first | exact Laid.nil | apply Laid.cons | apply Laid.skip)); first | done | fail) (by (repeat' (first | exact Rep.here | apply Rep.there)); first | done | fail) ?_)) | (refine is_call ?_; first | (refine KJ_call (by (repeat' (first | exact Evs.nil | refine Evs.cons rfl ?_)); first | done | fail) c1 (by (repeat' (first | exact Pick.nil | apply Pick.cons | exact Sel.here | apply Sel.there)); first | done | fail) rfl (fun _ => ?_))) | (refine is_append ?_; first | (refine KJ_appendStr rfl rfl (by (repeat' (first | exact Sel.here | apply Sel.there)); first | done | fail) (.inl h0) hb rfl (fun g c => ?_))) | (refine KJ_ek rfl ?_) | (refine KJ_ek0 ?_))
    | (refine is_ek ?_; first | (refine ek_move ?_; first | (refine EK_ev (Ev_move rfl) ?_)) | (refine ek_assign ?_; first | (refine EK_ev (Ev_assign rfl) ?_)) | (refine ek_nilCheck ?_; first | (refine EK_ev (Ev_nilCheck rfl) ?_)) | (refine ek_fieldAddr ?_; first | (refine EK_ev (Ev_field rfl) ?_)) | (refine ek_load ?_; first | (refine EK_ev (Ev_load rfl (by (repeat' (first | exact Sel.here | apply Sel.there)); first | done | fail) (by rfl)) ?_) | (refine EK_ev (Ev_loadOld rfl (by assumption)) ?_) | (refine EK_ev (Ev_loadAgg rfl (by (repeat' (first | exact Sel.here | apply Sel.there)); first | done | fail) (by (repeat' (first | exact Cut.nil | apply Cut.cons | apply Cut.skip)); first | done | fail)) ?_)) | (refine ek_len ?_; first | (refine EK_ev (Ev_len_str rfl) ?_) | (refine EK_ev (Ev_len_slice rfl) ?_) | (refine EK_ev (Ev_len_arr rfl) ?_) | (refine EK_ev (Ev_len_map rfl (by (repeat' (first | exact Sel.here | apply Sel.there)); first | done | fail)) ?_)))
    | (refine is_ex ?_; first | (refine KJ_blk_exit' rfl ?_))
    | (refine is_code ?_; first | (refine KJ_cond_dec rfl (fun _ => ?_) (fun _ => ?_) <;> first | (exfalso; omega) | skip) | (refine KJ_cond_t rfl ?_) | (refine KJ_cond_f rfl ?_)))
  all_goals (refine is_ex ?_; exact KJ_done (by first | exact Or.inl rfl | exact Or.inr rfl) rfl (by (repeat' (first | exact Rvs.nil | (apply Rvs.tmp; exact rfl))); first | done | fail) (_, _) (by rfl) (Ent.of (by (repeat' (first | exact Pick.nil | apply Pick.cons | exact Sel.here | apply Sel.there)); first | done | fail) (by (repeat' (first | exact DropTo.refl | apply DropTo.there)); first | done | fail)))
theorem string_nil (q : Value) : Ct Tryd.prog W 89 [.pointer (some ⟨b, 0, none⟩)] [bldP b q (.slice none 0 0)] (fun _ : Unit => strV []) (fun _ => []) := by
  refine Ct.enter Tryd.func89 rfl Tryd.ntmps89 (by simp) (fun R => ?_)
  repeat' (first 
    | refine KJ_stp (by first | constructor | fail) ?_
    | (refine is_oper ?_; first | (refine is_unsafeString ?_; first | (refine KJ_unsafeString0 rfl rfl rfl ?_)) | (refine KJ_ek rfl ?_) | (refine KJ_ek0 ?_))
    | (refine is_ek ?_; first | (refine ek_move ?_; first | (refine EK_ev (Ev_move rfl) ?_)) | (refine ek_assign ?_; first | (refine EK_ev (Ev_assign rfl) ?_)) | (refine ek_nilCheck ?_; first | (refine EK_ev (Ev_nilCheck rfl) ?_)) | (refine ek_fieldAddr ?_; first | (refine EK_ev (Ev_field rfl) ?_)) | (refine ek_load ?_; first | (refine EK_ev (Ev_load rfl (by (repeat' (first | exact Sel.here | apply Sel.there)); first | done | fail) (by rfl)) ?_) | (refine EK_ev (Ev_loadOld rfl (by assumption)) ?_) | (refine EK_ev (Ev_loadAgg rfl (by (repeat' (first | exact Sel.here | apply Sel.there)); first | done | fail) (by (repeat' (first | exact Cut.nil | apply Cut.cons | apply Cut.skip)); first | done | fail)) ?_)) | (refine ek_unsafeSliceData ?_; first | (refine EK_ev (Ev_sliceData0 rfl) ?_)) | (refine ek_len ?_; first | (refine EK_ev (Ev_len_str rfl) ?_) | (refine EK_ev (Ev_len_slice rfl) ?_) | (refine EK_ev (Ev_len_arr rfl) ?_) | (refine EK_ev (Ev_len_map rfl (by (repeat' (first | exact Sel.here | apply Sel.there)); first | done | fail)) ?_)))
    | (refine is_ex ?_; first | (refine KJ_blk_exit' rfl ?_))
    | (refine is_code ?_; first | (refine KJ_cond_dec rfl (fun _ => ?_) (fun _ => ?_) <;> first | (exfalso; omega) | skip) | (refine KJ_cond_t rfl ?_) | (refine KJ_cond_f rfl ?_) | (refine KJ_draws (id := 1) (.op 0 (.op 1 (.op 2 (.op 3 (.op 4 (.op 5 (.op 6 (.op 7 (.op 8 (.op 9 (.ef 10 [] (.op 11 .nil)))))))))))) (by kernel_rfl) (by kernel_rfl) ?_))
    | (refine is_fw ?_; first | (refine FW_open rfl ?_) | (refine FW_nil ?_) | (refine FW_ef rfl ?_) | (refine FW_efg rfl rfl rfl ?_) | (refine FW_alt ?_ ?_))
    | (refine is_fo ?_; first | (refine FO_dec_t rfl rfl (fun _ => ?_) (fun _ => ?_) <;> first | (exfalso; omega) | skip) | (refine FO_dec_f rfl rfl (fun _ => ?_) (fun _ => ?_) <;> first | (exfalso; omega) | skip) | (refine FO_no rfl rfl rfl rfl ?_) | (refine FO_ekg rfl rfl rfl ?_) | (refine FO_ek rfl ?_))
    | (refine is_ro ?_; first | (refine RO_no rfl rfl rfl rfl ?_) | (refine RO_ekg rfl rfl ?_) | (refine RO_ek ?_))
    | (refine is_raw ?_; first | (refine KJ_flow ?_ ?_))
    | (refine AtR_mk rfl ?_)
    | exact Rech.nil
    | (refine Rech_open rfl ?_))
  all_goals (refine is_ex ?_; exact KJ_done (by first | exact Or.inl rfl | exact Or.inr rfl) rfl (by (repeat' (first | exact Rvs.nil | (apply Rvs.tmp; exact rfl))); first | done | fail) () (by rfl) (Ent.of (by (repeat' (first | exact Pick.nil | apply Pick.cons | exact Sel.here | apply Sel.there)); first | done | fail) (by (repeat' (first | exact DropTo.refl | apply DropTo.there)); first | done | fail)))
theorem string_ct (q : Value) (g c : Nat) (acc : List UInt8) (h0 : acc ≠ []) (hb : acc.length ≤ 9223372036854775807) : Ct Tryd.prog W 89 [.pointer (some ⟨b, 0, none⟩)] [bldP b q (.slice (some ⟨g, 0, none⟩) acc.length c), rowP (.slice (some ⟨g, 0, none⟩) acc.length c) 5 1 acc.length (bvs acc)] (fun _ : Unit => strV acc) (fun _ => []) := by
  have hne : acc.length ≠ 0 := by simpa using h0
  refine Ct.enter Tryd.func89 rfl Tryd.ntmps89 (by simp) (fun R => ?_)
  repeat' (first 
    | refine KJ_stp (by first | constructor | fail) ?_
    | (refine is_oper ?_; first | (refine is_unsafeString ?_; first | (refine KJ_unsafeString rfl rfl (by (repeat' (first | exact Sel.here | apply Sel.there)); first | done | fail) (by kernel_rfl) h0 hb rfl ?_)) | (refine KJ_ek rfl ?_) | (refine KJ_ek0 ?_))
    | (refine is_ek ?_; first | (refine ek_move ?_; first | (refine EK_ev (Ev_move rfl) ?_)) | (refine ek_assign ?_; first | (refine EK_ev (Ev_assign rfl) ?_)) | (refine ek_nilCheck ?_; first | (refine EK_ev (Ev_nilCheck rfl) ?_)) | (refine ek_fieldAddr ?_; first | (refine EK_ev (Ev_field rfl) ?_)) | (refine ek_load ?_; first | (refine EK_ev (Ev_load rfl (by (repeat' (first | exact Sel.here | apply Sel.there)); first | done | fail) (by rfl)) ?_) | (refine EK_ev (Ev_loadOld rfl (by assumption)) ?_) | (refine EK_ev (Ev_loadAgg rfl (by (repeat' (first | exact Sel.here | apply Sel.there)); first | done | fail) (by (repeat' (first | exact Cut.nil | apply Cut.cons | apply Cut.skip)); first | done | fail)) ?_)) | (refine ek_unsafeSliceData ?_; first | (refine EK_ev (Ev_sliceData rfl (by (repeat' (first | exact Sel.here | apply Sel.there)); first | done | fail) hne) ?_)) | (refine ek_len ?_; first | (refine EK_ev (Ev_len_str rfl) ?_) | (refine EK_ev (Ev_len_slice rfl) ?_) | (refine EK_ev (Ev_len_arr rfl) ?_) | (refine EK_ev (Ev_len_map rfl (by (repeat' (first | exact Sel.here | apply Sel.there)); first | done | fail)) ?_)))
    | (refine is_ex ?_; first | (refine KJ_blk_exit' rfl ?_))
    | (refine is_code ?_; first | (refine KJ_cond_dec rfl (fun _ => ?_) (fun _ => ?_) <;> first | (exfalso; omega) | skip) | (refine KJ_cond_t rfl ?_) | (refine KJ_cond_f rfl ?_) | (refine KJ_draws (id := 1) (.op 0 (.op 1 (.op 2 (.op 3 (.op 4 (.op 5 (.op 6 (.op 7 (.op 8 (.op 9 (.ef 10 [] (.op 11 .nil)))))))))))) (by kernel_rfl) (by kernel_rfl) ?_))
    | (refine is_fw ?_; first | (refine FW_open rfl ?_) | (refine FW_nil ?_) | (refine FW_ef rfl ?_) | (refine FW_efg rfl rfl rfl ?_) | (refine FW_alt ?_ ?_))
    | (refine is_fo ?_; first | (refine FO_dec_t rfl rfl (fun _ => ?_) (fun _ => ?_) <;> first | (exfalso; omega) | skip) | (refine FO_dec_f rfl rfl (fun _ => ?_) (fun _ => ?_) <;> first | (exfalso; omega) | skip) | (refine FO_no rfl rfl rfl rfl ?_) | (refine FO_ekg rfl rfl rfl ?_) | (refine FO_ek rfl ?_))
    | (refine is_ro ?_; first | (refine RO_no rfl rfl rfl rfl ?_) | (refine RO_ekg rfl rfl ?_) | (refine RO_ek ?_))
    | (refine is_raw ?_; first | (refine KJ_flow ?_ ?_))
    | (refine AtR_mk rfl ?_)
    | exact Rech.nil
    | (refine Rech_open rfl ?_))
  all_goals (refine is_ex ?_; exact KJ_done (by first | exact Or.inl rfl | exact Or.inr rfl) rfl (by (repeat' (first | exact Rvs.nil | (apply Rvs.tmp; exact rfl))); first | done | fail) () (by rfl) (Ent.of (by (repeat' (first | exact Pick.nil | apply Pick.cons | exact Sel.here | apply Sel.there)); first | done | fail) (by (repeat' (first | exact DropTo.refl | apply DropTo.there)); first | done | fail)))
end
end Go.Proofs.YteklldbfdmaafaaDoor
/-
  The package checks' sum and the package sector, as plain data, and their contracts.
-/
namespace Go.Proofs.YteklldbfdmaafaaDoor
open Go Go.RowKit
def nibT : List Int := [0, 274646895, 549293790, 820201905, 1098587580, 1361435347, 1640403810, 1905808397, 2197175160, 2460548119, 2722870694, 2987750089, 3280807620, 3553878443, 3811616794, 4084100981]
/-- the table lies in its variable -/
def NibAt (W : World) : Prop := ∀ i, i < 16 → W.cell? ⟨37, i, none⟩ = some (.int .u32 (nibT.getD i 0))
def nibStep (a : Int) : Int := bits .xor .u32 (a.fdiv (2 ^ (min (4 : Int).toNat IntKind.u32.bits))) (nibT.getD (bits .and .u32 a 15).toNat 0)
def crcStep (s : Int) (c : UInt8) : Int := nibStep (nibStep (bits .xor .u32 s (IntKind.u32.wrap c.toNat)))
def crcAll (s : Int) (l : List UInt8) : Int := l.foldl crcStep s
def crcNot (s : Int) : Int := bits .xor .u32 (if IntKind.u32.signed then -1 else IntKind.u32.max) s
def crcSum (l : List UInt8) : Int := crcNot (crcAll (crcNot 0) l)
theorem and15 (a : Int) : 0 ≤ bits .and .u32 a 15 ∧ bits .and .u32 a 15 < ((16 : Nat) : Int) := by
  have h : (BitVec.ofInt 32 a &&& BitVec.ofInt 32 15).toNat ≤ 15 := by
    rw [BitVec.toNat_and]
    exact Nat.and_le_right
  have e : bits .and .u32 a 15 = IntKind.u32.wrap ((BitVec.ofInt 32 a &&& BitVec.ofInt 32 15).toNat) := rfl
  have e2 : IntKind.u32.wrap ((BitVec.ofInt 32 a &&& BitVec.ofInt 32 15).toNat) = ((BitVec.ofInt 32 a &&& BitVec.ofInt 32 15).toNat : Int) % 4294967296 := rfl
  rw [e, e2]
  omega
theorem NibAt.at_ {W : World} (h : NibAt W) (a : Int) : W.cell? ⟨37, 0 + (bits .and .u32 a 15).toNat * 1, none⟩ = some (.int .u32 (nibT.getD (bits .and .u32 a 15).toNat 0)) := by
  have := and15 a
  rw [Nat.zero_add, Nat.mul_one]
  exact h _ (by omega)
theorem crcAll_next (s : Int) (l : List UInt8) (i : Nat) (c : UInt8) (h : l[i]? = some c) : crcAll s (l.take (i + 1)) = crcStep (crcAll s (l.take i)) c := by
  unfold crcAll
  rw [List.take_add_one, h]
  simp

section
variable {P : Program} {W : World} {n : Nat} {E : Env} {H : List SP} {t : TypeId} {x : Operand}
theorem Ev_crcNot {i : Int} (hx : Env.ev E x = some (.int .u32 i)) : Ev P W n E H (.unOp .xor t x) (.int .u32 (crcNot i)) := Ev_compl hx
end
set_option maxHeartbeats 400000 in
set_option maxRecDepth 100000 in
theorem extend_ct {W : World} (hN : NibAt W) (s : Int) (l : List UInt8) (hl : l.length < 4611686018427387904) : Ct Tryd.prog W 129 [.int .u32 s, strV l] [] (fun _ : Unit => .int .u32 (crcNot (crcAll (crcNot s) l))) (fun _ => []) := by
  obtain ⟨A, hA⟩ : ∃ A : Nat → Int, A = fun i => crcAll (crcNot s) (l.take i) := ⟨_, rfl⟩
  have hA0 : crcNot s = A 0 := by rw [hA]; simp [crcAll]
  have hAl : crcAll (crcNot s) l = A l.length := by rw [hA]; simp
  have hAn : ∀ i c, l[i]? = some c → A (i + 1) = crcStep (A i) c := fun i c h => by rw [hA]; exact crcAll_next _ l i c h
  rw [hAl]
  clear hA hAl
  refine Ct.enter Tryd.func129 rfl Tryd.ntmps129 (by simp) (fun R => ?_)
  repeat' (first 
    | refine KJ_stp (by first | constructor | fail) ?_
    | (refine is_oper ?_; first | (refine KJ_ek rfl ?_) | (refine KJ_ek0 ?_))
    | (refine is_ek ?_; first | (refine ek_move ?_; first | (refine EK_ev (Ev_move rfl) ?_)) | (refine ek_assign ?_; first | (refine EK_ev (Ev_assign rfl) ?_)) | (refine ek_load ?_; first | (refine EK_ev (Ev_load rfl (by (repeat' (first | exact Sel.here | apply Sel.there)); first | done | fail) (by rfl)) ?_) | (refine EK_ev (Ev_loadOld rfl (by assumption)) ?_) | (refine EK_ev (Ev_loadAgg rfl (by (repeat' (first | exact Sel.here | apply Sel.there)); first | done | fail) (by (repeat' (first | exact Cut.nil | apply Cut.cons | apply Cut.skip)); first | done | fail)) ?_)) | (refine ek_un ?_; first | (refine EK_ev (Ev_crcNot rfl) ?_) | (refine EK_ev (Ev_notD rfl) ?_) | (refine EK_ev (Ev_not rfl) ?_) | (refine EK_ev (Ev_neg rfl) ?_)) | (refine ek_conv ?_; first | (refine EK_ev (Ev_convI64 rfl (by omega)) ?_) | (refine EK_ev (Ev_convI rfl) ?_) | (refine EK_ev (Ev_convS rfl) ?_)) | (refine ek_indexAddr ?_; first | (refine EK_ev (Ev_indexSlice rfl rfl (by omega)) ?_) | (refine EK_ev (Ev_indexArr rfl rfl (by omega)) ?_)) | (refine ek_len ?_; first | (refine EK_ev (Ev_len_str rfl) ?_) | (refine EK_ev (Ev_len_slice rfl) ?_) | (refine EK_ev (Ev_len_arr rfl) ?_) | (refine EK_ev (Ev_len_map rfl (by (repeat' (first | exact Sel.here | apply Sel.there)); first | done | fail)) ?_)) | (refine ek_add ?_; first | (refine EK_ev (Ev_addI rfl rfl (by omega)) ?_) | (refine EK_ev (Ev_addS rfl rfl (by simp <;> omega)) ?_) | (refine EK_ev (Ev_add rfl rfl) ?_)) | (refine ek_shr ?_; first | (refine EK_ev (Ev_shr rfl rfl (by omega)) ?_)) | (refine ek_lss ?_; first | (refine EK_ev (Ev_lssI rfl rfl) ?_) | (refine EK_ev (Ev_lssS rfl rfl) ?_)))
    | (refine is_ex ?_; first | (refine KJ_blk_exit' rfl ?_))
    | (refine is_code ?_; first | (refine KJ_cond_dec rfl (fun _ => ?_) (fun _ => ?_) <;> first | (exfalso; omega) | skip) | (refine KJ_cond_t rfl ?_) | (refine KJ_cond_f rfl ?_)))
  rw [hA0]
  refine KJ_loop (fun i : {k : Nat // k ≤ l.length} => [(0, .int .u32 (A i.1)), (1, strV l), (5, .int .i64 (i.1 : Nat))]) (fun _ => R) (fun i => l.length - i.1) ⟨0, by omega⟩ (by (repeat' (first | exact Subs.nil | refine Subs.cons rfl ?_)); first | done | fail) (fun _ q => q) (fun ⟨k, hk⟩ => ?_)
  dsimp only
  by_cases hlt : k < l.length
  · obtain ⟨c, hc⟩ : ∃ c, l[k]? = some c := ⟨_, List.getElem?_eq_getElem hlt⟩
    have hnx := hAn k c hc
    have hc' : l[(k : Int).toNat]? = some c := by rw [Int.toNat_natCast]; exact hc
    repeat' (first 
    | refine KJ_stp (by first | constructor | fail) ?_
    | (refine is_oper ?_; first | (refine KJ_ek rfl ?_) | (refine KJ_ek0 ?_))
    | (refine is_ek ?_; first | (refine ek_move ?_; first | (refine EK_ev (Ev_move rfl) ?_)) | (refine ek_assign ?_; first | (refine EK_ev (Ev_assign rfl) ?_)) | (refine ek_load ?_; first | (refine EK_ev (Ev_loadOld rfl (hN.at_ _)) ?_) | (refine EK_ev (Ev_load rfl (by (repeat' (first | exact Sel.here | apply Sel.there)); first | done | fail) (by rfl)) ?_) | (refine EK_ev (Ev_loadOld rfl (by assumption)) ?_) | (refine EK_ev (Ev_loadAgg rfl (by (repeat' (first | exact Sel.here | apply Sel.there)); first | done | fail) (by (repeat' (first | exact Cut.nil | apply Cut.cons | apply Cut.skip)); first | done | fail)) ?_)) | (refine ek_un ?_; first | (refine EK_ev (Ev_notD rfl) ?_) | (refine EK_ev (Ev_not rfl) ?_) | (refine EK_ev (Ev_neg rfl) ?_)) | (refine ek_conv ?_; first | (refine EK_ev (Ev_convI rfl) ?_) | (refine EK_ev (Ev_convI64 rfl (by omega)) ?_) | (refine EK_ev (Ev_convI rfl) ?_) | (refine EK_ev (Ev_convS rfl) ?_)) | (refine ek_indexAddr ?_; first | (refine EK_ev (Ev_indexArr rfl rfl (and15 _)) ?_) | (refine EK_ev (Ev_indexSlice rfl rfl (by omega)) ?_) | (refine EK_ev (Ev_indexArr rfl rfl (by omega)) ?_)) | (refine ek_index ?_; first | (refine EK_ev (Ev_indexStr rfl rfl (by omega) hc') ?_)) | (refine ek_len ?_; first | (refine EK_ev (Ev_len_str rfl) ?_) | (refine EK_ev (Ev_len_slice rfl) ?_) | (refine EK_ev (Ev_len_arr rfl) ?_) | (refine EK_ev (Ev_len_map rfl (by (repeat' (first | exact Sel.here | apply Sel.there)); first | done | fail)) ?_)) | (refine ek_add ?_; first | (refine EK_ev (Ev_addI rfl rfl (by omega)) ?_) | (refine EK_ev (Ev_addS rfl rfl (by simp <;> omega)) ?_) | (refine EK_ev (Ev_add rfl rfl) ?_)) | (refine ek_and ?_; first | (refine EK_ev (Ev_and rfl rfl) ?_)) | (refine ek_xor ?_; first | (refine EK_ev (Ev_xor rfl rfl) ?_)) | (refine ek_shr ?_; first | (refine EK_ev (Ev_shr rfl rfl (by omega)) ?_)) | (refine ek_lss ?_; first | (refine EK_ev (Ev_lssI rfl rfl) ?_) | (refine EK_ev (Ev_lssS rfl rfl) ?_)))
    | (refine is_ex ?_; first | (refine KJ_blk_exit' rfl ?_))
    | (refine is_code ?_; first | (refine KJ_cond_dec rfl (fun _ => ?_) (fun _ => ?_) <;> first | (exfalso; omega) | skip) | (refine KJ_cond_t rfl ?_) | (refine KJ_cond_f rfl ?_)))
    refine KJ_again ⟨k + 1, by omega⟩ (by show l.length - (k + 1) < l.length - k; omega) ?_ (fun _ q => q)
    rw [hnx]
    exact (by (repeat' (first | exact Subs.nil | refine Subs.cons rfl ?_)); first | done | fail)
  · have hkl : k = l.length := by omega
    subst hkl
    repeat' (first 
    | refine KJ_stp (by first | constructor | fail) ?_
    | (refine is_oper ?_; first | (refine KJ_ek rfl ?_) | (refine KJ_ek0 ?_))
    | (refine is_ek ?_; first | (refine ek_move ?_; first | (refine EK_ev (Ev_move rfl) ?_)) | (refine ek_assign ?_; first | (refine EK_ev (Ev_assign rfl) ?_)) | (refine ek_load ?_; first | (refine EK_ev (Ev_load rfl (by (repeat' (first | exact Sel.here | apply Sel.there)); first | done | fail) (by rfl)) ?_) | (refine EK_ev (Ev_loadOld rfl (by assumption)) ?_) | (refine EK_ev (Ev_loadAgg rfl (by (repeat' (first | exact Sel.here | apply Sel.there)); first | done | fail) (by (repeat' (first | exact Cut.nil | apply Cut.cons | apply Cut.skip)); first | done | fail)) ?_)) | (refine ek_un ?_; first | (refine EK_ev (Ev_crcNot rfl) ?_) | (refine EK_ev (Ev_notD rfl) ?_) | (refine EK_ev (Ev_not rfl) ?_) | (refine EK_ev (Ev_neg rfl) ?_)) | (refine ek_conv ?_; first | (refine EK_ev (Ev_convI64 rfl (by omega)) ?_) | (refine EK_ev (Ev_convI rfl) ?_) | (refine EK_ev (Ev_convS rfl) ?_)) | (refine ek_indexAddr ?_; first | (refine EK_ev (Ev_indexSlice rfl rfl (by omega)) ?_) | (refine EK_ev (Ev_indexArr rfl rfl (by omega)) ?_)) | (refine ek_len ?_; first | (refine EK_ev (Ev_len_str rfl) ?_) | (refine EK_ev (Ev_len_slice rfl) ?_) | (refine EK_ev (Ev_len_arr rfl) ?_) | (refine EK_ev (Ev_len_map rfl (by (repeat' (first | exact Sel.here | apply Sel.there)); first | done | fail)) ?_)) | (refine ek_add ?_; first | (refine EK_ev (Ev_addI rfl rfl (by omega)) ?_) | (refine EK_ev (Ev_addS rfl rfl (by simp <;> omega)) ?_) | (refine EK_ev (Ev_add rfl rfl) ?_)) | (refine ek_shr ?_; first | (refine EK_ev (Ev_shr rfl rfl (by omega)) ?_)) | (refine ek_lss ?_; first | (refine EK_ev (Ev_lssI rfl rfl) ?_) | (refine EK_ev (Ev_lssS rfl rfl) ?_)))
    | (refine is_ex ?_; first | (refine KJ_blk_exit' rfl ?_))
    | (refine is_code ?_; first | (refine KJ_cond_dec rfl (fun _ => ?_) (fun _ => ?_) <;> first | (exfalso; omega) | skip) | (refine KJ_cond_t rfl ?_) | (refine KJ_cond_f rfl ?_)))
    all_goals (refine is_ex ?_; exact KJ_done (by first | exact Or.inl rfl | exact Or.inr rfl) rfl (by (repeat' (first | exact Rvs.nil | (apply Rvs.tmp; exact rfl))); first | done | fail) () (by rfl) (Ent.of (by (repeat' (first | exact Pick.nil | apply Pick.cons | exact Sel.here | apply Sel.there)); first | done | fail) (by (repeat' (first | exact DropTo.refl | apply DropTo.there)); first | done | fail)))
theorem sum_ct {W : World} (hN : NibAt W) (l : List UInt8) (hl : l.length < 4611686018427387904) : Ct Tryd.prog W 113 [strV l] [] (fun _ : Unit => .int .u32 (crcSum l)) (fun _ => []) := by
  have c1 : Ct Tryd.prog W 129 [.int .u32 0, strV l] [] (fun _ : Unit => .int .u32 (crcSum l)) (fun _ => []) := extend_ct hN 0 l hl
  refine Ct.enter Tryd.func113 rfl Tryd.ntmps113 (by simp) (fun R => ?_)
  repeat' (first 
    | refine KJ_stp (by first | constructor | fail) ?_
    | (refine is_oper ?_; first | (refine is_call ?_; first | (refine KJ_call (by (repeat' (first | exact Evs.nil | refine Evs.cons rfl ?_)); first | done | fail) c1 (by (repeat' (first | exact Pick.nil | apply Pick.cons | exact Sel.here | apply Sel.there)); first | done | fail) rfl (fun _ => ?_))) | (refine KJ_ek rfl ?_) | (refine KJ_ek0 ?_))
    | (refine is_ek ?_; first | (refine ek_move ?_; first | (refine EK_ev (Ev_move rfl) ?_)) | (refine ek_assign ?_; first | (refine EK_ev (Ev_assign rfl) ?_)))
    | (refine is_ex ?_; first | (refine KJ_blk_exit' rfl ?_))
    | (refine is_code ?_; first | (refine KJ_cond_dec rfl (fun _ => ?_) (fun _ => ?_) <;> first | (exfalso; omega) | skip) | (refine KJ_cond_t rfl ?_) | (refine KJ_cond_f rfl ?_)))
  all_goals (refine is_ex ?_; exact KJ_done (by first | exact Or.inl rfl | exact Or.inr rfl) rfl (by (repeat' (first | exact Rvs.nil | (apply Rvs.tmp; exact rfl))); first | done | fail) () (by rfl) (Ent.of (by (repeat' (first | exact Pick.nil | apply Pick.cons | exact Sel.here | apply Sel.there)); first | done | fail) (by (repeat' (first | exact DropTo.refl | apply DropTo.there)); first | done | fail)))

def byteI (x : Int) (i : Nat) : Int := IntKind.u8.wrap (x.fdiv (2 ^ (min (8 * (i : Int)).toNat IntKind.u64.bits)))
def byteAt (x : Int) (i : Nat) : UInt8 := UInt8.ofNat (byteI x i).toNat
theorem byteAt_bv (x : Int) (i : Nat) : Value.int .u8 (byteI x i) = bv (byteAt x i) := by
  have e : byteI x i = (x.fdiv (2 ^ (min (8 * (i : Int)).toNat IntKind.u64.bits))) % 256 := rfl
  have h : 0 ≤ byteI x i ∧ byteI x i < 256 := by rw [e]; omega
  unfold bv byteAt
  rw [UInt8.toNat_ofNat']
  congr 1
  omega
def putB (x : Int) (n : Nat) : List UInt8 := (List.range n).map (byteAt x)
theorem putB_length (x : Int) (n : Nat) : (putB x n).length = n := by simp [putB]
theorem putB_next (x : Int) (n : Nat) : putB x (n + 1) = putB x n ++ [byteAt x n] := by simp [putB, List.range_succ]
theorem lay_snoc (l : List UInt8) (o : Nat) (b : List UInt8) (c : UInt8) (h : o + b.length < l.length) : lay (lay l o b) (o + b.length) [c] = lay l o (b ++ [c]) := by
  unfold lay
  have e1 : (l.take o ++ (b ++ l.drop (o + b.length))).take (o + b.length) = l.take o ++ b := by
    rw [← List.append_assoc, List.take_left' (by simp; omega)]
  have e2 : (l.take o ++ (b ++ l.drop (o + b.length))).drop (o + b.length + [c].length) = l.drop (o + (b ++ [c]).length) := by
    rw [← List.append_assoc, List.drop_append, List.drop_of_length_le (by simp; omega)]
    simp only [List.nil_append, List.drop_drop]
    congr 1
    simp
    omega
  rw [e1, e2]
  simp
theorem lay_next (l : List UInt8) (o : Nat) (b : List UInt8) (c : UInt8) (h : o + b.length < l.length) : lay (bvs (lay l o b)) (o + b.length) [bv c] = bvs (lay l o (b ++ [c])) := by
  rw [show [bv c] = bvs [c] from rfl, bvs_lay, lay_snoc l o b c h]

set_option maxHeartbeats 200000 in
set_option maxRecDepth 100000 in
theorem put_ct {W : World} (g off m c : Nat) (l : List UInt8) (x : Int) (n : Nat) (h1 : n ≤ m) (h2 : off + m ≤ l.length) (h3 : m ≤ 1048576) (T : TypeId) :
    Ct Tryd.prog W 112 [.slice (some ⟨g, off, none⟩) m c, .int .u64 x, .int .i64 (n : Nat)] [cellsP g (bvs l) T] (fun _ : Unit => .tuple #[]) (fun _ => [cellsP g (bvs (lay l off (putB x n))) T]) := by
  refine Ct.enter Tryd.func112 rfl Tryd.ntmps112 (by simp) (fun R => ?_)
  repeat' (first 
    | refine KJ_stp (by first | constructor | fail) ?_
    | (refine is_oper ?_; first | (refine is_store ?_; first | (refine KJ_store rfl rfl (by (repeat' (first | exact Sel.here | apply Sel.there)); first | done | fail) (by first | exact CellsOf.agg | exact CellsOf.one rfl) (by rfl) (by (repeat' (first | exact Ones.nil | exact Ones_bvs _ | refine Ones.cons rfl ?_)); first | done | fail) (by (repeat' (first | exact Laid.nil | apply Laid.cons | apply Laid.skip)); first | done | fail) (by (repeat' (first | exact Rep.here | apply Rep.there)); first | done | fail) ?_)) | (refine KJ_ek rfl ?_) | (refine KJ_ek0 ?_))
    | (refine is_ek ?_; first | (refine ek_move ?_; first | (refine EK_ev (Ev_move rfl) ?_)) | (refine ek_assign ?_; first | (refine EK_ev (Ev_assign rfl) ?_)) | (refine ek_conv ?_; first | (refine EK_ev (Ev_convI64 rfl (by omega)) ?_) | (refine EK_ev (Ev_convI rfl) ?_) | (refine EK_ev (Ev_convS rfl) ?_)) | (refine ek_indexAddr ?_; first | (refine EK_ev (Ev_indexSlice rfl rfl (by omega)) ?_) | (refine EK_ev (Ev_indexArr rfl rfl (by omega)) ?_)) | (refine ek_add ?_; first | (refine EK_ev (Ev_addI rfl rfl (by omega)) ?_) | (refine EK_ev (Ev_addS rfl rfl (by simp <;> omega)) ?_) | (refine EK_ev (Ev_add rfl rfl) ?_)) | (refine ek_mul ?_; first | (refine EK_ev (Ev_mulI rfl rfl (by omega)) ?_) | (refine EK_ev (Ev_mul rfl rfl) ?_)) | (refine ek_shr ?_; first | (refine EK_ev (Ev_shr rfl rfl (by omega)) ?_)) | (refine ek_lss ?_; first | (refine EK_ev (Ev_lssI rfl rfl) ?_) | (refine EK_ev (Ev_lssS rfl rfl) ?_)))
    | (refine is_ex ?_; first | (refine KJ_blk_exit' rfl ?_))
    | (refine is_code ?_; first | (refine KJ_cond_dec rfl (fun _ => ?_) (fun _ => ?_) <;> first | (exfalso; omega) | skip) | (refine KJ_cond_t rfl ?_) | (refine KJ_cond_f rfl ?_)))
  have h0 : lay l off (putB x 0) = l := lay_nil l off
  refine KJ_loop (fun i : {k : Nat // k ≤ n} => [(0, .slice (some ⟨g, off, none⟩) m c), (1, .int .u64 x), (7, .int .i64 (n : Nat)), (8, .int .i64 (i.1 : Nat))]) (fun i => [cellsP g (bvs (lay l off (putB x i.1))) T] ++ R) (fun i => n - i.1) ⟨0, by omega⟩ (by (repeat' (first | exact Subs.nil | refine Subs.cons rfl ?_)); first | done | fail)
    (by show ∀ h, starL ([cellsP g (bvs l) T] ++ R) h → starL ([cellsP g (bvs (lay l off (putB x 0))) T] ++ R) h; rw [h0]; exact fun _ q => q) (fun ⟨k, hk⟩ => ?_)
  dsimp only
  by_cases hlt : k < n
  · have hlen : (lay l off (putB x k)).length = l.length := lay_length _ _ _ (by rw [putB_length]; omega)
    have hfit : off + (k : Int).toNat * 1 + [Value.int IntKind.u8 (byteI x k)].length ≤ (bvs (lay l off (putB x k))).length := by rw [bvs_length', hlen]; simp; omega
    repeat' (first 
    | refine KJ_stp (by first | constructor | fail) ?_
    | (refine is_oper ?_; first | (refine is_store ?_; first | (refine KJ_store (v := .int .u8 (byteI x k)) rfl rfl (by (repeat' (first | exact Sel.here | apply Sel.there)); first | done | fail) (by first | exact CellsOf.agg | exact CellsOf.one rfl) (by rfl) (by (repeat' (first | exact Ones.nil | exact Ones_bvs _ | refine Ones.cons rfl ?_)); first | done | fail) (Laid.of hfit) (by (repeat' (first | exact Rep.here | apply Rep.there)); first | done | fail) ?_) | (refine KJ_store rfl rfl (by (repeat' (first | exact Sel.here | apply Sel.there)); first | done | fail) (by first | exact CellsOf.agg | exact CellsOf.one rfl) (by rfl) (by (repeat' (first | exact Ones.nil | exact Ones_bvs _ | refine Ones.cons rfl ?_)); first | done | fail) (by (repeat' (first | exact Laid.nil | apply Laid.cons | apply Laid.skip)); first | done | fail) (by (repeat' (first | exact Rep.here | apply Rep.there)); first | done | fail) ?_)) | (refine KJ_ek rfl ?_) | (refine KJ_ek0 ?_))
    | (refine is_ek ?_; first | (refine ek_move ?_; first | (refine EK_ev (Ev_move rfl) ?_)) | (refine ek_assign ?_; first | (refine EK_ev (Ev_assign rfl) ?_)) | (refine ek_conv ?_; first | (refine EK_ev (Ev_convI rfl) ?_) | (refine EK_ev (Ev_convI64 rfl (by omega)) ?_) | (refine EK_ev (Ev_convI rfl) ?_) | (refine EK_ev (Ev_convS rfl) ?_)) | (refine ek_indexAddr ?_; first | (refine EK_ev (Ev_indexSlice rfl rfl (by omega)) ?_) | (refine EK_ev (Ev_indexArr rfl rfl (by omega)) ?_)) | (refine ek_add ?_; first | (refine EK_ev (Ev_addI rfl rfl (by omega)) ?_) | (refine EK_ev (Ev_addS rfl rfl (by simp <;> omega)) ?_) | (refine EK_ev (Ev_add rfl rfl) ?_)) | (refine ek_mul ?_; first | (refine EK_ev (Ev_mulI rfl rfl (by omega)) ?_) | (refine EK_ev (Ev_mul rfl rfl) ?_)) | (refine ek_shr ?_; first | (refine EK_ev (Ev_shr rfl rfl (by omega)) ?_)) | (refine ek_lss ?_; first | (refine EK_ev (Ev_lssI rfl rfl) ?_) | (refine EK_ev (Ev_lssS rfl rfl) ?_)))
    | (refine is_ex ?_; first | (refine KJ_blk_exit' rfl ?_))
    | (refine is_code ?_; first | (refine KJ_cond_dec rfl (fun _ => ?_) (fun _ => ?_) <;> first | (exfalso; omega) | skip) | (refine KJ_cond_t rfl ?_) | (refine KJ_cond_f rfl ?_)))
    refine KJ_again ⟨k + 1, by omega⟩ (by show n - (k + 1) < n - k; omega) (by (repeat' (first | exact Subs.nil | refine Subs.cons rfl ?_)); first | done | fail) ?_
    have e := lay_next l off (putB x k) (byteAt x k) (by rw [putB_length]; omega)
    rw [putB_length, ← putB_next, ← byteAt_bv] at e
    have e3 : off + (k : Int).toNat * 1 = off + k := by simp
    rw [e3, e]
    exact (Ent.of (by (repeat' (first | exact Pick.nil | apply Pick.cons | exact Sel.here | apply Sel.there)); first | done | fail) (by (repeat' (first | exact DropTo.refl | apply DropTo.there)); first | done | fail))
  · have hkn : k = n := by omega
    subst hkn
    repeat' (first 
    | refine KJ_stp (by first | constructor | fail) ?_
    | (refine is_oper ?_; first | (refine is_store ?_; first | (refine KJ_store rfl rfl (by (repeat' (first | exact Sel.here | apply Sel.there)); first | done | fail) (by first | exact CellsOf.agg | exact CellsOf.one rfl) (by rfl) (by (repeat' (first | exact Ones.nil | exact Ones_bvs _ | refine Ones.cons rfl ?_)); first | done | fail) (by (repeat' (first | exact Laid.nil | apply Laid.cons | apply Laid.skip)); first | done | fail) (by (repeat' (first | exact Rep.here | apply Rep.there)); first | done | fail) ?_)) | (refine KJ_ek rfl ?_) | (refine KJ_ek0 ?_))
    | (refine is_ek ?_; first | (refine ek_move ?_; first | (refine EK_ev (Ev_move rfl) ?_)) | (refine ek_assign ?_; first | (refine EK_ev (Ev_assign rfl) ?_)) | (refine ek_conv ?_; first | (refine EK_ev (Ev_convI64 rfl (by omega)) ?_) | (refine EK_ev (Ev_convI rfl) ?_) | (refine EK_ev (Ev_convS rfl) ?_)) | (refine ek_indexAddr ?_; first | (refine EK_ev (Ev_indexSlice rfl rfl (by omega)) ?_) | (refine EK_ev (Ev_indexArr rfl rfl (by omega)) ?_)) | (refine ek_add ?_; first | (refine EK_ev (Ev_addI rfl rfl (by omega)) ?_) | (refine EK_ev (Ev_addS rfl rfl (by simp <;> omega)) ?_) | (refine EK_ev (Ev_add rfl rfl) ?_)) | (refine ek_mul ?_; first | (refine EK_ev (Ev_mulI rfl rfl (by omega)) ?_) | (refine EK_ev (Ev_mul rfl rfl) ?_)) | (refine ek_shr ?_; first | (refine EK_ev (Ev_shr rfl rfl (by omega)) ?_)) | (refine ek_lss ?_; first | (refine EK_ev (Ev_lssI rfl rfl) ?_) | (refine EK_ev (Ev_lssS rfl rfl) ?_)))
    | (refine is_ex ?_; first | (refine KJ_blk_exit' rfl ?_))
    | (refine is_code ?_; first | (refine KJ_cond_dec rfl (fun _ => ?_) (fun _ => ?_) <;> first | (exfalso; omega) | skip) | (refine KJ_cond_t rfl ?_) | (refine KJ_cond_f rfl ?_)))
    all_goals (refine is_ex ?_; exact KJ_done (by first | exact Or.inl rfl | exact Or.inr rfl) rfl (by (repeat' (first | exact Rvs.nil | (apply Rvs.tmp; exact rfl))); first | done | fail) () (by rfl) (Ent.of (by (repeat' (first | exact Pick.nil | apply Pick.cons | exact Sel.here | apply Sel.there)); first | done | fail) (by (repeat' (first | exact DropTo.refl | apply DropTo.there)); first | done | fail)))
end Go.Proofs.YteklldbfdmaafaaDoor
/-
  The package sector: get, Seal, Ends, Open, as plain data, and their contracts.
-/
namespace Go.Proofs.YteklldbfdmaafaaDoor
open Go Go.RowKit
def getPart (x : Int) (i : Nat) (c : UInt8) : Int := bits .or .u64 x (IntKind.u64.wrap (IntKind.u64.wrap c.toNat * 2 ^ (min (8 * (i : Int)).toNat IntKind.u64.bits)))
def getB (l : List UInt8) : Nat → Int
  | 0 => 0
  | n + 1 => getPart (getB l n) n (l.getD n 0)
theorem bits_lt (op : BinOp) (hop : op = .and ∨ op = .or ∨ op = .xor) (x y : Int) (m : Nat) (hm : m ≤ 64) (hx : 0 ≤ x ∧ x < 2 ^ m) (hy : 0 ≤ y ∧ y < 2 ^ m) : 0 ≤ bits op .u64 x y ∧ bits op .u64 x y < 2 ^ m := by
  have hp : (2 : Int) ^ m ≤ 18446744073709551616 := by
    have : (2 : Nat) ^ m ≤ 2 ^ 64 := Nat.pow_le_pow_right (by omega) hm
    have h2 : ((2 ^ m : Nat) : Int) ≤ ((2 ^ 64 : Nat) : Int) := by exact_mod_cast this
    simpa using h2
  have b1 : (BitVec.ofInt 64 x).toNat = x.toNat := by
    rw [BitVec.toNat_ofInt]; omega
  have b2 : (BitVec.ofInt 64 y).toNat = y.toNat := by
    rw [BitVec.toNat_ofInt]; omega
  have hpc : ((2 ^ m : Nat) : Int) = 2 ^ m := by simp
  have hx' : x.toNat < 2 ^ m := by omega
  have hy' : y.toNat < 2 ^ m := by omega
  have key : ∀ r : Nat, r < 2 ^ m → 0 ≤ IntKind.u64.wrap (r : Int) ∧ IntKind.u64.wrap (r : Int) < 2 ^ m := fun r hr => by
    have e : IntKind.u64.wrap (r : Int) = (r : Int) % 18446744073709551616 := rfl
    rw [e]
    omega
  rcases hop with rfl | rfl | rfl
  · refine key _ ?_
    show (BitVec.ofInt 64 x &&& BitVec.ofInt 64 y).toNat < _
    rw [BitVec.toNat_and, b1, b2]
    exact Nat.and_lt_two_pow _ hy'
  · refine key _ ?_
    show (BitVec.ofInt 64 x ||| BitVec.ofInt 64 y).toNat < _
    rw [BitVec.toNat_or, b1, b2]
    exact Nat.or_lt_two_pow hx' hy'
  · refine key _ ?_
    show (BitVec.ofInt 64 x ^^^ BitVec.ofInt 64 y).toNat < _
    rw [BitVec.toNat_xor, b1, b2]
    exact Nat.xor_lt_two_pow hx' hy'
theorem part0 (c : UInt8) : IntKind.u64.wrap (IntKind.u64.wrap c.toNat * 2 ^ (min (8 * ((0 : Nat) : Int)).toNat IntKind.u64.bits)) = (c.toNat : Int) := by
  have h0 := UInt8.toNat_lt c
  have e : ∀ z, IntKind.u64.wrap z = z % 18446744073709551616 := fun _ => rfl
  have e2 : (min (8 * ((0 : Nat) : Int)).toNat IntKind.u64.bits) = 0 := rfl
  rw [e, e, e2]
  omega
theorem part1 (c : UInt8) : IntKind.u64.wrap (IntKind.u64.wrap c.toNat * 2 ^ (min (8 * ((1 : Nat) : Int)).toNat IntKind.u64.bits)) = (c.toNat : Int) * 256 := by
  have h0 := UInt8.toNat_lt c
  have e : ∀ z, IntKind.u64.wrap z = z % 18446744073709551616 := fun _ => rfl
  have e2 : (min (8 * ((1 : Nat) : Int)).toNat IntKind.u64.bits) = 8 := rfl
  rw [e, e, e2]
  omega
theorem getB_two (l : List UInt8) : 0 ≤ getB l 2 ∧ getB l 2 < 65536 := by
  have e3 : getB l 2 = bits .or .u64 (bits .or .u64 0 ((l.getD 0 0).toNat : Int)) (((l.getD 1 0).toNat : Int) * 256) := by
    show getPart (getPart 0 0 (l.getD 0 0)) 1 (l.getD 1 0) = _
    unfold getPart
    rw [part0, part1]
  rw [e3]
  obtain ⟨c0, hc0⟩ : ∃ c, c = l.getD 0 0 := ⟨_, rfl⟩
  obtain ⟨c1, hc1⟩ : ∃ c, c = l.getD 1 0 := ⟨_, rfl⟩
  rw [← hc0, ← hc1]
  have h0 := UInt8.toNat_lt c0
  have h1 := UInt8.toNat_lt c1
  have a1 := bits_lt .or (.inr (.inl rfl)) 0 (c0.toNat : Int) 16 (by omega) (by omega) (by omega)
  have a2 := bits_lt .or (.inr (.inl rfl)) (bits .or .u64 0 (c0.toNat : Int)) ((c1.toNat : Int) * 256) 16 (by omega) a1 (by omega)
  exact a2

set_option maxHeartbeats 400000 in
set_option maxRecDepth 100000 in
theorem get_ct {W : World} (l : List UInt8) (n : Nat) (h1 : n ≤ l.length) (h2 : n ≤ 1048576) : Ct Tryd.prog W 117 [strV l, .int .i64 (n : Nat)] [] (fun _ : Unit => .int .u64 (getB l n)) (fun _ => []) := by
  obtain ⟨A, hA⟩ : ∃ A : Nat → Int, A = getB l := ⟨_, rfl⟩
  have hA0 : A 0 = 0 := by rw [hA]; rfl
  have hAn : ∀ i, A (i + 1) = getPart (A i) i (l.getD i 0) := fun i => by rw [hA]; rfl
  rw [← hA]
  clear hA
  refine Ct.enter Tryd.func117 rfl Tryd.ntmps117 (by simp) (fun R => ?_)
  repeat' (first 
    | refine KJ_stp (by first | constructor | fail) ?_
    | (refine is_oper ?_; first | (refine KJ_ek rfl ?_) | (refine KJ_ek0 ?_))
    | (refine is_ek ?_; first | (refine ek_move ?_; first | (refine EK_ev (Ev_move rfl) ?_)) | (refine ek_assign ?_; first | (refine EK_ev (Ev_assign rfl) ?_)) | (refine ek_conv ?_; first | (refine EK_ev (Ev_convI64 rfl (by omega)) ?_) | (refine EK_ev (Ev_convI rfl) ?_) | (refine EK_ev (Ev_convS rfl) ?_)) | (refine ek_add ?_; first | (refine EK_ev (Ev_addI rfl rfl (by omega)) ?_) | (refine EK_ev (Ev_addS rfl rfl (by simp <;> omega)) ?_) | (refine EK_ev (Ev_add rfl rfl) ?_)) | (refine ek_mul ?_; first | (refine EK_ev (Ev_mulI rfl rfl (by omega)) ?_) | (refine EK_ev (Ev_mul rfl rfl) ?_)) | (refine ek_shl ?_; first | (refine EK_ev (Ev_shl rfl rfl (by omega)) ?_)) | (refine ek_lss ?_; first | (refine EK_ev (Ev_lssI rfl rfl) ?_) | (refine EK_ev (Ev_lssS rfl rfl) ?_)))
    | (refine is_ex ?_; first | (refine KJ_blk_exit' rfl ?_))
    | (refine is_code ?_; first | (refine KJ_cond_dec rfl (fun _ => ?_) (fun _ => ?_) <;> first | (exfalso; omega) | skip) | (refine KJ_cond_t rfl ?_) | (refine KJ_cond_f rfl ?_)))
  refine KJ_loop (fun i : {k : Nat // k ≤ n} => [(0, strV l), (5, .int .u64 (A i.1)), (7, .int .i64 (n : Nat)), (8, .int .i64 (i.1 : Nat))]) (fun _ => R) (fun i => n - i.1) ⟨0, by omega⟩ ?_ (fun _ q => q) (fun ⟨k, hk⟩ => ?_)
  · exact Subs.cons rfl (Subs.cons (show _ = some (Value.int .u64 (A 0)) from by rw [hA0]; rfl) (by (repeat' (first | exact Subs.nil | refine Subs.cons rfl ?_)); first | done | fail))
  dsimp only
  by_cases hlt : k < n
  · obtain ⟨c, hc⟩ : ∃ c, l[k]? = some c := ⟨_, List.getElem?_eq_getElem (by omega)⟩
    have hnx := hAn k
    have hcd : l.getD k 0 = c := by rw [List.getD, hc]; rfl
    rw [hcd] at hnx
    have hc' : l[(k : Int).toNat]? = some c := by rw [Int.toNat_natCast]; exact hc
    repeat' (first 
    | refine KJ_stp (by first | constructor | fail) ?_
    | (refine is_oper ?_; first | (refine KJ_ek rfl ?_) | (refine KJ_ek0 ?_))
    | (refine is_ek ?_; first | (refine ek_move ?_; first | (refine EK_ev (Ev_move rfl) ?_)) | (refine ek_assign ?_; first | (refine EK_ev (Ev_assign rfl) ?_)) | (refine ek_conv ?_; first | (refine EK_ev (Ev_convI rfl) ?_) | (refine EK_ev (Ev_convI64 rfl (by omega)) ?_) | (refine EK_ev (Ev_convI rfl) ?_) | (refine EK_ev (Ev_convS rfl) ?_)) | (refine ek_index ?_; first | (refine EK_ev (Ev_indexStr rfl rfl (by omega) hc') ?_)) | (refine ek_add ?_; first | (refine EK_ev (Ev_addI rfl rfl (by omega)) ?_) | (refine EK_ev (Ev_addS rfl rfl (by simp <;> omega)) ?_) | (refine EK_ev (Ev_add rfl rfl) ?_)) | (refine ek_mul ?_; first | (refine EK_ev (Ev_mulI rfl rfl (by omega)) ?_) | (refine EK_ev (Ev_mul rfl rfl) ?_)) | (refine ek_or ?_; first | (refine EK_ev (Ev_or rfl rfl) ?_)) | (refine ek_shl ?_; first | (refine EK_ev (Ev_shl rfl rfl (by omega)) ?_)) | (refine ek_lss ?_; first | (refine EK_ev (Ev_lssI rfl rfl) ?_) | (refine EK_ev (Ev_lssS rfl rfl) ?_)))
    | (refine is_ex ?_; first | (refine KJ_blk_exit' rfl ?_))
    | (refine is_code ?_; first | (refine KJ_cond_dec rfl (fun _ => ?_) (fun _ => ?_) <;> first | (exfalso; omega) | skip) | (refine KJ_cond_t rfl ?_) | (refine KJ_cond_f rfl ?_)))
    refine KJ_again ⟨k + 1, by omega⟩ (by show n - (k + 1) < n - k; omega) ?_ (fun _ q => q)
    rw [hnx]
    exact (by (repeat' (first | exact Subs.nil | refine Subs.cons rfl ?_)); first | done | fail)
  · have hkn : k = n := by omega
    subst hkn
    repeat' (first 
    | refine KJ_stp (by first | constructor | fail) ?_
    | (refine is_oper ?_; first | (refine KJ_ek rfl ?_) | (refine KJ_ek0 ?_))
    | (refine is_ek ?_; first | (refine ek_move ?_; first | (refine EK_ev (Ev_move rfl) ?_)) | (refine ek_assign ?_; first | (refine EK_ev (Ev_assign rfl) ?_)) | (refine ek_conv ?_; first | (refine EK_ev (Ev_convI64 rfl (by omega)) ?_) | (refine EK_ev (Ev_convI rfl) ?_) | (refine EK_ev (Ev_convS rfl) ?_)) | (refine ek_add ?_; first | (refine EK_ev (Ev_addI rfl rfl (by omega)) ?_) | (refine EK_ev (Ev_addS rfl rfl (by simp <;> omega)) ?_) | (refine EK_ev (Ev_add rfl rfl) ?_)) | (refine ek_mul ?_; first | (refine EK_ev (Ev_mulI rfl rfl (by omega)) ?_) | (refine EK_ev (Ev_mul rfl rfl) ?_)) | (refine ek_shl ?_; first | (refine EK_ev (Ev_shl rfl rfl (by omega)) ?_)) | (refine ek_lss ?_; first | (refine EK_ev (Ev_lssI rfl rfl) ?_) | (refine EK_ev (Ev_lssS rfl rfl) ?_)))
    | (refine is_ex ?_; first | (refine KJ_blk_exit' rfl ?_))
    | (refine is_code ?_; first | (refine KJ_cond_dec rfl (fun _ => ?_) (fun _ => ?_) <;> first | (exfalso; omega) | skip) | (refine KJ_cond_t rfl ?_) | (refine KJ_cond_f rfl ?_)))
    all_goals (refine is_ex ?_; exact KJ_done (by first | exact Or.inl rfl | exact Or.inr rfl) rfl (by (repeat' (first | exact Rvs.nil | (apply Rvs.tmp; exact rfl))); first | done | fail) () (by rfl) (Ent.of (by (repeat' (first | exact Pick.nil | apply Pick.cons | exact Sel.here | apply Sel.there)); first | done | fail) (by (repeat' (first | exact DropTo.refl | apply DropTo.there)); first | done | fail)))

end Go.Proofs.YteklldbfdmaafaaDoor
/-
  The package sector: Seal and Open, as plain data, and their contracts.
-/
namespace Go.Proofs.YteklldbfdmaafaaDoor
open Go Go.RowKit
def sealB1 (stamp : Int) : List UInt8 := lay (List.replicate 256 0) 0 (putB stamp 8)
def sealB2 (stamp : Int) (pl : List UInt8) : List UInt8 := lay (sealB1 stamp) 8 (putB (IntKind.u64.wrap pl.length) 2)
def sealB3 (stamp : Int) (pl : List UInt8) : List UInt8 := lay (sealB2 stamp pl) 10 pl
def sealB4 (stamp : Int) (pl : List UInt8) : List UInt8 := lay (sealB3 stamp pl) 244 (putB (IntKind.u64.wrap (crcSum ((sealB3 stamp pl).take 244))) 4)
/-- the sector that Seal makes -/
def sealB (stamp : Int) (pl : List UInt8) : List UInt8 := lay (sealB4 stamp pl) 248 (putB stamp 8)
theorem sealB1_length (stamp : Int) : (sealB1 stamp).length = 256 := by
  unfold sealB1; rw [lay_length _ _ _ (by rw [putB_length, List.length_replicate]; omega), List.length_replicate]
theorem sealB2_length (stamp : Int) (pl : List UInt8) : (sealB2 stamp pl).length = 256 := by
  unfold sealB2; rw [lay_length _ _ _ (by rw [putB_length, sealB1_length]; omega), sealB1_length]
theorem sealB3_length (stamp : Int) (pl : List UInt8) (h : pl.length ≤ 234) : (sealB3 stamp pl).length = 256 := by
  unfold sealB3; rw [lay_length _ _ _ (by rw [sealB2_length]; omega), sealB2_length]
theorem sealB4_length (stamp : Int) (pl : List UInt8) (h : pl.length ≤ 234) : (sealB4 stamp pl).length = 256 := by
  unfold sealB4; rw [lay_length _ _ _ (by rw [putB_length, sealB3_length _ _ h]; omega), sealB3_length _ _ h]
theorem sealB_length (stamp : Int) (pl : List UInt8) (h : pl.length ≤ 234) : (sealB stamp pl).length = 256 := by
  unfold sealB; rw [lay_length _ _ _ (by rw [putB_length, sealB4_length _ _ h]; omega), sealB4_length _ _ h]

set_option maxHeartbeats 100000 in
set_option maxRecDepth 100000 in
theorem seal_ok {W : World} (hN : NibAt W) (stamp : Int) (pl : List UInt8) (h0 : stamp ≠ 0) (hl : pl.length ≤ 234) :
    Ct Tryd.prog W 83 [.int .u64 stamp, strV pl] [] (fun _ : Unit => .tuple #[strV (sealB stamp pl), .nilIface]) (fun _ => []) := by
  have l1 := sealB1_length stamp
  have l2 := sealB2_length stamp pl
  have l3 := sealB3_length stamp pl hl
  have l4 := sealB4_length stamp pl hl
  have l5 := sealB_length stamp pl hl
  have c1 : ∀ g, Ct Tryd.prog W 112 [.slice (some ⟨g, 0, none⟩) 256 256, .int .u64 stamp, .int .i64 8] [cellsP g (bvs (List.replicate 256 0)) 5] (fun _ : Unit => .tuple #[]) (fun _ => [cellsP g (bvs (sealB1 stamp)) 5]) := fun g => put_ct g 0 256 256 _ stamp 8 (by omega) (by rw [List.length_replicate]; omega) (by omega) _
  have c2 : ∀ g, Ct Tryd.prog W 112 [.slice (some ⟨g, 8, none⟩) 248 248, .int .u64 (IntKind.u64.wrap pl.length), .int .i64 2] [cellsP g (bvs (sealB1 stamp)) 5] (fun _ : Unit => .tuple #[]) (fun _ => [cellsP g (bvs (sealB2 stamp pl)) 5]) := fun g => put_ct g 8 248 248 _ _ 2 (by omega) (by omega) (by omega) _
  have c3 : Ct Tryd.prog W 113 [strV ((sealB3 stamp pl).take 244)] [] (fun _ : Unit => .int .u32 (crcSum ((sealB3 stamp pl).take 244))) (fun _ => []) := sum_ct hN _ (by rw [List.length_take]; omega)
  have c4 : ∀ g c, Ct Tryd.prog W 112 [.slice (some ⟨g, 244, none⟩) 12 c, .int .u64 (IntKind.u64.wrap (crcSum ((sealB3 stamp pl).take 244))), .int .i64 4] [cellsP g (bvs (sealB3 stamp pl)) 5] (fun _ : Unit => .tuple #[]) (fun _ => [cellsP g (bvs (sealB4 stamp pl)) 5]) := fun g c => put_ct g 244 12 c _ _ 4 (by omega) (by omega) (by omega) _
  have c5 : ∀ g c, Ct Tryd.prog W 112 [.slice (some ⟨g, 248, none⟩) 8 c, .int .u64 stamp, .int .i64 8] [cellsP g (bvs (sealB4 stamp pl)) 5] (fun _ : Unit => .tuple #[]) (fun _ => [cellsP g (bvs (sealB stamp pl)) 5]) := fun g c => put_ct g 248 8 c _ _ 8 (by omega) (by omega) (by omega) _
  have e3 : lay (sealB2 stamp pl) 10 pl = sealB3 stamp pl := rfl
  obtain ⟨B1, hB1⟩ : ∃ B, B = sealB1 stamp := ⟨_, rfl⟩
  obtain ⟨B2, hB2⟩ : ∃ B, B = sealB2 stamp pl := ⟨_, rfl⟩
  obtain ⟨B3, hB3⟩ : ∃ B, B = sealB3 stamp pl := ⟨_, rfl⟩
  obtain ⟨B4, hB4⟩ : ∃ B, B = sealB4 stamp pl := ⟨_, rfl⟩
  obtain ⟨B5, hB5⟩ : ∃ B, B = sealB stamp pl := ⟨_, rfl⟩
  rw [← hB5]
  simp only [← hB1, ← hB2, ← hB3, ← hB4, ← hB5] at l1 l2 l3 l4 l5 c1 c2 c3 c4 c5 e3
  clear hB1 hB2 hB3 hB4 hB5
  refine Ct.enter Tryd.func83 rfl Tryd.ntmps83 (by simp) (fun R => ?_)
  repeat' (first 
    | refine KJ_stp (by first | constructor | fail) ?_
    | (refine is_oper ?_; first | (refine is_call ?_; first | (refine KJ_call (by (repeat' (first | exact Evs.nil | refine Evs.cons rfl ?_)); first | done | fail) (c5 _ _) (by (repeat' (first | exact Pick.nil | apply Pick.cons | exact Sel.here | apply Sel.there)); first | done | fail) rfl (fun _ => ?_)) | (refine KJ_call (by (repeat' (first | exact Evs.nil | refine Evs.cons rfl ?_)); first | done | fail) (c4 _ _) (by (repeat' (first | exact Pick.nil | apply Pick.cons | exact Sel.here | apply Sel.there)); first | done | fail) rfl (fun _ => ?_)) | (refine KJ_call (by (repeat' (first | exact Evs.nil | refine Evs.cons rfl ?_)); first | done | fail) c3 (by (repeat' (first | exact Pick.nil | apply Pick.cons | exact Sel.here | apply Sel.there)); first | done | fail) rfl (fun _ => ?_)) | (refine KJ_call (by (repeat' (first | exact Evs.nil | refine Evs.cons rfl ?_)); first | done | fail) (c2 _) (by (repeat' (first | exact Pick.nil | apply Pick.cons | exact Sel.here | apply Sel.there)); first | done | fail) rfl (fun _ => ?_)) | (refine KJ_call (by (repeat' (first | exact Evs.nil | refine Evs.cons rfl ?_)); first | done | fail) (c1 _) (by (repeat' (first | exact Pick.nil | apply Pick.cons | exact Sel.here | apply Sel.there)); first | done | fail) rfl (fun _ => ?_))) | (refine is_copy ?_; first | (refine KJ_copyStrB (l' := B3) rfl rfl (by (repeat' (first | exact Sel.here | apply Sel.there)); first | done | fail) (by show pl.length ≤ 256 - 10; omega) (by show 10 + pl.length ≤ B2.length; omega) e3 (by (repeat' (first | exact Rep.here | apply Rep.there)); first | done | fail) rfl ?_)) | (refine is_mkSlice ?_; first | (refine KJ_makeBytes (m := 256) rfl rfl rfl (by omega) rfl (fun g => ?_))) | (refine KJ_ek rfl ?_) | (refine KJ_ek0 ?_))
    | (refine is_ek ?_; first | (refine ek_move ?_; first | (refine EK_ev (Ev_move rfl) ?_)) | (refine ek_assign ?_; first | (refine EK_ev (Ev_assign rfl) ?_)) | (refine ek_load ?_; first | (refine EK_ev (Ev_load rfl (by (repeat' (first | exact Sel.here | apply Sel.there)); first | done | fail) (by rfl)) ?_) | (refine EK_ev (Ev_loadOld rfl (by assumption)) ?_) | (refine EK_ev (Ev_loadAgg rfl (by (repeat' (first | exact Sel.here | apply Sel.there)); first | done | fail) (by (repeat' (first | exact Cut.nil | apply Cut.cons | apply Cut.skip)); first | done | fail)) ?_)) | (refine ek_conv ?_; first | (refine EK_ev (Ev_bytesTake rfl (by (repeat' (first | exact Sel.here | apply Sel.there)); first | done | fail) (by show 244 ≤ B3.length; omega)) ?_) | (refine EK_ev (Ev_bytesAll rfl (by (repeat' (first | exact Sel.here | apply Sel.there)); first | done | fail) l5) ?_) | (refine EK_ev (Ev_convI rfl) ?_) | (refine EK_ev (Ev_convI64 rfl (by omega)) ?_) | (refine EK_ev (Ev_convI rfl) ?_) | (refine EK_ev (Ev_convS rfl) ?_)) | (refine ek_slice ?_; first | (refine EK_ev (Ev_sliceTo rfl rfl (by omega)) ?_) | (refine EK_ev (Ev_sliceFrom rfl rfl (by omega)) ?_)) | (refine ek_len ?_; first | (refine EK_ev (Ev_len_str rfl) ?_) | (refine EK_ev (Ev_len_slice rfl) ?_) | (refine EK_ev (Ev_len_arr rfl) ?_) | (refine EK_ev (Ev_len_map rfl (by (repeat' (first | exact Sel.here | apply Sel.there)); first | done | fail)) ?_)) | (refine ek_eql ?_; first | (refine EK_ev (Ev_eqlI_f rfl rfl h0) ?_) | (refine EK_ev (Ev_eqlI rfl rfl) ?_) | (refine EK_ev (Ev_eqlS rfl rfl) ?_) | (refine EK_ev (Ev_eqlNil rfl rfl) ?_) | (refine EK_ev (Ev_eqlB rfl rfl) ?_) | (refine EK_ev (Ev_eqlO rfl rfl rfl (fun _ => rfl)) ?_)) | (refine ek_gtr ?_; first | (refine EK_ev (Ev_gtrI rfl rfl) ?_) | (refine EK_ev (Ev_gtrS rfl rfl) ?_)))
    | (refine is_ex ?_; first | (refine KJ_blk_exit' rfl ?_))
    | (refine is_code ?_; first | (refine KJ_cond_dec rfl (fun _ => ?_) (fun _ => ?_) <;> first | (exfalso; omega) | skip) | (refine KJ_cond_t rfl ?_) | (refine KJ_cond_f rfl ?_) | (refine KJ_draws (id := 2) (.op 0 (.op 1 (.op 2 .nil))) (by kernel_rfl) (by kernel_rfl) ?_) | (refine KJ_draws (id := 4) (.op 0 (.op 1 (.op 2 .nil))) (by kernel_rfl) (by kernel_rfl) ?_) | (refine KJ_draws (id := 9) (.op 0 (.op 1 (.op 2 (.op 3 (.op 4 (.ef 5 [1, 0] (.op 6 (.ef 7 [] .nil)))))))) (by kernel_rfl) (by kernel_rfl) ?_))
    | (refine is_fw ?_; first | (refine FW_open rfl ?_) | (refine FW_nil ?_) | (refine FW_ef rfl ?_) | (refine FW_efg rfl rfl rfl ?_) | (refine FW_alt ?_ ?_))
    | (refine is_fo ?_; first | (refine FO_dec_t rfl rfl (fun _ => ?_) (fun _ => ?_) <;> first | (exfalso; omega) | skip) | (refine FO_dec_f rfl rfl (fun _ => ?_) (fun _ => ?_) <;> first | (exfalso; omega) | skip) | (refine FO_no rfl rfl rfl rfl ?_) | (refine FO_ekg rfl rfl rfl ?_) | (refine FO_ek rfl ?_))
    | (refine is_ro ?_; first | (refine RO_no rfl rfl rfl rfl ?_) | (refine RO_ekg rfl rfl ?_) | (refine RO_ek ?_))
    | (refine is_raw ?_; first | (refine KJ_flow ?_ ?_))
    | (refine AtR_mk rfl ?_)
    | exact Rech.nil
    | (refine Rech_open rfl ?_))
  all_goals (refine is_ex ?_; exact KJ_done (by first | exact Or.inl rfl | exact Or.inr rfl) rfl (by (repeat' (first | exact Rvs.nil | (apply Rvs.tmp; exact rfl))); first | done | fail) () (by rfl) (Ent.of (by (repeat' (first | exact Pick.nil | apply Pick.cons | exact Sel.here | apply Sel.there)); first | done | fail) (by (repeat' (first | exact DropTo.refl | apply DropTo.there)); first | done | fail)))
end Go.Proofs.YteklldbfdmaafaaDoor
/-
  The package sector: Open, as plain data, and its contract.
-/
namespace Go.Proofs.YteklldbfdmaafaaDoor
open Go Go.RowKit
def openN (raw : List UInt8) : Nat := (getB (raw.drop 8) 2).toNat
def openP (raw : List UInt8) : List UInt8 := (raw.take (10 + openN raw)).drop 10
/-- what Open tells -/
def openS (stamp : Int) (raw : List UInt8) : Option (List UInt8) :=
  if stamp = 0 then none else if raw.length ≠ 256 then none else if 234 < openN raw then none else if sealB stamp (openP raw) = raw then some (openP raw) else none

theorem open_zero {W : World} (raw : List UInt8) : Ct Tryd.prog W 87 [.int .u64 0, strV raw] [] (fun _ : Unit => .tuple #[strV [], .bool false]) (fun _ => []) := by
  refine Ct.enter Tryd.func87 rfl Tryd.ntmps87 (by simp) (fun R => ?_)
  repeat' (first 
    | refine KJ_stp (by first | constructor | fail) ?_
    | (refine is_list ?_; first | (refine KJ_guard_dec_t rfl rfl rfl (fun _ => ?_) (fun _ => ?_) <;> first | (exfalso; omega) | skip) | (refine KJ_guard_dec_f rfl rfl rfl (fun _ => ?_) (fun _ => ?_) <;> first | (exfalso; omega) | skip) | (refine KJ_guard_yes rfl rfl ?_) | (refine KJ_guard_no rfl rfl rfl rfl ?_))
    | (refine is_oper ?_; first | (refine KJ_ek rfl ?_) | (refine KJ_ek0 ?_))
    | (refine is_ek ?_; first | (refine ek_move ?_; first | (refine EK_ev (Ev_move rfl) ?_)) | (refine ek_assign ?_; first | (refine EK_ev (Ev_assign rfl) ?_)) | (refine ek_pick ?_; first | (refine EK_ev (Ev_pick_t rfl rfl) ?_) | (refine EK_ev (Ev_pick_f rfl rfl) ?_)) | (refine ek_conv ?_; first | (refine EK_ev (Ev_convI64 rfl (by omega)) ?_) | (refine EK_ev (Ev_convI rfl) ?_) | (refine EK_ev (Ev_convS rfl) ?_)) | (refine ek_extract ?_; first | (refine EK_ev (Ev_extract rfl rfl) ?_)) | (refine ek_len ?_; first | (refine EK_ev (Ev_len_str rfl) ?_) | (refine EK_ev (Ev_len_slice rfl) ?_) | (refine EK_ev (Ev_len_arr rfl) ?_) | (refine EK_ev (Ev_len_map rfl (by (repeat' (first | exact Sel.here | apply Sel.there)); first | done | fail)) ?_)) | (refine ek_add ?_; first | (refine EK_ev (Ev_addI rfl rfl (by omega)) ?_) | (refine EK_ev (Ev_addS rfl rfl (by simp <;> omega)) ?_) | (refine EK_ev (Ev_add rfl rfl) ?_)) | (refine ek_eql ?_; first | (refine EK_ev (Ev_eqlI_t rfl rfl rfl) ?_) | (refine EK_ev (Ev_eqlI rfl rfl) ?_) | (refine EK_ev (Ev_eqlS rfl rfl) ?_) | (refine EK_ev (Ev_eqlNil rfl rfl) ?_) | (refine EK_ev (Ev_eqlB rfl rfl) ?_) | (refine EK_ev (Ev_eqlO rfl rfl rfl (fun _ => rfl)) ?_)) | (refine ek_neq ?_; first | (refine EK_ev (Ev_neqI rfl rfl) ?_) | (refine EK_ev (Ev_neqS rfl rfl) ?_) | (refine EK_ev (Ev_neqNil rfl rfl) ?_) | (refine EK_ev (Ev_neqB rfl rfl) ?_) | (refine EK_ev (Ev_neqO rfl rfl rfl (fun _ => rfl)) ?_)) | (refine ek_gtr ?_; first | (refine EK_ev (Ev_gtrI rfl rfl) ?_) | (refine EK_ev (Ev_gtrS rfl rfl) ?_)))
    | (refine is_ex ?_; first | (refine KJ_blk_exit' rfl ?_))
    | (refine is_code ?_; first | (refine KJ_cond_dec rfl (fun _ => ?_) (fun _ => ?_) <;> first | (exfalso; omega) | skip) | (refine KJ_cond_t rfl ?_) | (refine KJ_cond_f rfl ?_)))
  all_goals (refine is_ex ?_; exact KJ_done (by first | exact Or.inl rfl | exact Or.inr rfl) rfl (by (repeat' (first | exact Rvs.nil | (apply Rvs.tmp; exact rfl))); first | done | fail) () (by rfl) (Ent.of (by (repeat' (first | exact Pick.nil | apply Pick.cons | exact Sel.here | apply Sel.there)); first | done | fail) (by (repeat' (first | exact DropTo.refl | apply DropTo.there)); first | done | fail)))
theorem open_len {W : World} (stamp : Int) (raw : List UInt8) (h0 : stamp ≠ 0) (h1 : raw.length ≠ 256) : Ct Tryd.prog W 87 [.int .u64 stamp, strV raw] [] (fun _ : Unit => .tuple #[strV [], .bool false]) (fun _ => []) := by
  have hne : (raw.length : Int) ≠ 256 := by omega
  refine Ct.enter Tryd.func87 rfl Tryd.ntmps87 (by simp) (fun R => ?_)
  repeat' (first 
    | refine KJ_stp (by first | constructor | fail) ?_
    | (refine is_list ?_; first | (refine KJ_guard_dec_t rfl rfl rfl (fun _ => ?_) (fun _ => ?_) <;> first | (exfalso; omega) | skip) | (refine KJ_guard_dec_f rfl rfl rfl (fun _ => ?_) (fun _ => ?_) <;> first | (exfalso; omega) | skip) | (refine KJ_guard_yes rfl rfl ?_) | (refine KJ_guard_no rfl rfl rfl rfl ?_))
    | (refine is_oper ?_; first | (refine KJ_ek rfl ?_) | (refine KJ_ek0 ?_))
    | (refine is_ek ?_; first | (refine ek_move ?_; first | (refine EK_ev (Ev_move rfl) ?_)) | (refine ek_assign ?_; first | (refine EK_ev (Ev_assign rfl) ?_)) | (refine ek_pick ?_; first | (refine EK_ev (Ev_pick_t rfl rfl) ?_) | (refine EK_ev (Ev_pick_f rfl rfl) ?_)) | (refine ek_conv ?_; first | (refine EK_ev (Ev_convI64 rfl (by omega)) ?_) | (refine EK_ev (Ev_convI rfl) ?_) | (refine EK_ev (Ev_convS rfl) ?_)) | (refine ek_extract ?_; first | (refine EK_ev (Ev_extract rfl rfl) ?_)) | (refine ek_len ?_; first | (refine EK_ev (Ev_len_str rfl) ?_) | (refine EK_ev (Ev_len_slice rfl) ?_) | (refine EK_ev (Ev_len_arr rfl) ?_) | (refine EK_ev (Ev_len_map rfl (by (repeat' (first | exact Sel.here | apply Sel.there)); first | done | fail)) ?_)) | (refine ek_add ?_; first | (refine EK_ev (Ev_addI rfl rfl (by omega)) ?_) | (refine EK_ev (Ev_addS rfl rfl (by simp <;> omega)) ?_) | (refine EK_ev (Ev_add rfl rfl) ?_)) | (refine ek_eql ?_; first | (refine EK_ev (Ev_eqlI_f rfl rfl h0) ?_) | (refine EK_ev (Ev_eqlI rfl rfl) ?_) | (refine EK_ev (Ev_eqlS rfl rfl) ?_) | (refine EK_ev (Ev_eqlNil rfl rfl) ?_) | (refine EK_ev (Ev_eqlB rfl rfl) ?_) | (refine EK_ev (Ev_eqlO rfl rfl rfl (fun _ => rfl)) ?_)) | (refine ek_neq ?_; first | (refine EK_ev (Ev_neqI_t rfl rfl hne) ?_) | (refine EK_ev (Ev_neqI rfl rfl) ?_) | (refine EK_ev (Ev_neqS rfl rfl) ?_) | (refine EK_ev (Ev_neqNil rfl rfl) ?_) | (refine EK_ev (Ev_neqB rfl rfl) ?_) | (refine EK_ev (Ev_neqO rfl rfl rfl (fun _ => rfl)) ?_)) | (refine ek_gtr ?_; first | (refine EK_ev (Ev_gtrI rfl rfl) ?_) | (refine EK_ev (Ev_gtrS rfl rfl) ?_)))
    | (refine is_ex ?_; first | (refine KJ_blk_exit' rfl ?_))
    | (refine is_code ?_; first | (refine KJ_cond_dec rfl (fun _ => ?_) (fun _ => ?_) <;> first | (exfalso; omega) | skip) | (refine KJ_cond_t rfl ?_) | (refine KJ_cond_f rfl ?_)))
  all_goals (refine is_ex ?_; exact KJ_done (by first | exact Or.inl rfl | exact Or.inr rfl) rfl (by (repeat' (first | exact Rvs.nil | (apply Rvs.tmp; exact rfl))); first | done | fail) () (by rfl) (Ent.of (by (repeat' (first | exact Pick.nil | apply Pick.cons | exact Sel.here | apply Sel.there)); first | done | fail) (by (repeat' (first | exact DropTo.refl | apply DropTo.there)); first | done | fail)))
theorem openN_int (raw : List UInt8) : getB (raw.drop 8) 2 = (openN raw : Int) ∧ openN raw < 65536 := by
  have := getB_two (raw.drop 8)
  unfold openN
  omega
theorem openP_length (raw : List UInt8) (h1 : raw.length = 256) (h2 : openN raw ≤ 234) : (openP raw).length = openN raw := by
  unfold openP
  rw [List.length_drop, List.length_take]
  omega

set_option maxRecDepth 100000 in
theorem open_more {W : World} (stamp : Int) (raw : List UInt8) (h0 : stamp ≠ 0) (h1 : raw.length = 256) (h2 : 234 < openN raw) : Ct Tryd.prog W 87 [.int .u64 stamp, strV raw] [] (fun _ : Unit => .tuple #[strV [], .bool false]) (fun _ => []) := by
  have hq : (raw.length : Int) = 256 := by omega
  obtain ⟨e1, e2⟩ := openN_int raw
  have c1 : Ct Tryd.prog W 117 [strV (raw.drop (8 : Int).toNat), .int .i64 2] [] (fun _ : Unit => .int .u64 (openN raw : Nat)) (fun _ => []) := by rw [← e1]; exact get_ct (raw.drop 8) 2 (by rw [List.length_drop]; omega) (by omega)
  have hgt : decide ((234 : Int) < (openN raw : Nat)) = true := decide_eq_true (by omega)
  refine Ct.enter Tryd.func87 rfl Tryd.ntmps87 (by simp) (fun R => ?_)
  repeat' (first 
    | refine KJ_stp (by first | constructor | fail) ?_
    | (refine is_list ?_; first | (refine KJ_guard_dec_t rfl rfl rfl (fun _ => ?_) (fun _ => ?_) <;> first | (exfalso; omega) | skip) | (refine KJ_guard_dec_f rfl rfl rfl (fun _ => ?_) (fun _ => ?_) <;> first | (exfalso; omega) | skip) | (refine KJ_guard_yes rfl rfl ?_) | (refine KJ_guard_no rfl rfl rfl rfl ?_))
    | (refine is_oper ?_; first | (refine is_call ?_; first | (refine KJ_call (by (repeat' (first | exact Evs.nil | refine Evs.cons rfl ?_)); first | done | fail) c1 (by (repeat' (first | exact Pick.nil | apply Pick.cons | exact Sel.here | apply Sel.there)); first | done | fail) rfl (fun _ => ?_))) | (refine KJ_ek rfl ?_) | (refine KJ_ek0 ?_))
    | (refine is_ek ?_; first | (refine ek_move ?_; first | (refine EK_ev (Ev_move rfl) ?_)) | (refine ek_assign ?_; first | (refine EK_ev (Ev_assign rfl) ?_)) | (refine ek_pick ?_; first | (refine EK_ev (Ev_pick_t rfl rfl) ?_) | (refine EK_ev (Ev_pick_f rfl rfl) ?_)) | (refine ek_conv ?_; first | (refine EK_ev (Ev_convI64 rfl (by omega)) ?_) | (refine EK_ev (Ev_convI64 rfl (by omega)) ?_) | (refine EK_ev (Ev_convI rfl) ?_) | (refine EK_ev (Ev_convS rfl) ?_)) | (refine ek_extract ?_; first | (refine EK_ev (Ev_extract rfl rfl) ?_)) | (refine ek_slice ?_; first | (refine EK_ev (Ev_sliceStrFrom rfl rfl (by omega)) ?_)) | (refine ek_len ?_; first | (refine EK_ev (Ev_len_str rfl) ?_) | (refine EK_ev (Ev_len_slice rfl) ?_) | (refine EK_ev (Ev_len_arr rfl) ?_) | (refine EK_ev (Ev_len_map rfl (by (repeat' (first | exact Sel.here | apply Sel.there)); first | done | fail)) ?_)) | (refine ek_add ?_; first | (refine EK_ev (Ev_addI rfl rfl (by omega)) ?_) | (refine EK_ev (Ev_addS rfl rfl (by simp <;> omega)) ?_) | (refine EK_ev (Ev_add rfl rfl) ?_)) | (refine ek_eql ?_; first | (refine EK_ev (Ev_eqlI_f rfl rfl h0) ?_) | (refine EK_ev (Ev_eqlI rfl rfl) ?_) | (refine EK_ev (Ev_eqlS rfl rfl) ?_) | (refine EK_ev (Ev_eqlNil rfl rfl) ?_) | (refine EK_ev (Ev_eqlB rfl rfl) ?_) | (refine EK_ev (Ev_eqlO rfl rfl rfl (fun _ => rfl)) ?_)) | (refine ek_neq ?_; first | (refine EK_ev (Ev_neqI_f rfl rfl hq) ?_) | (refine EK_ev (Ev_neqI rfl rfl) ?_) | (refine EK_ev (Ev_neqS rfl rfl) ?_) | (refine EK_ev (Ev_neqNil rfl rfl) ?_) | (refine EK_ev (Ev_neqB rfl rfl) ?_) | (refine EK_ev (Ev_neqO rfl rfl rfl (fun _ => rfl)) ?_)) | (refine ek_gtr ?_; first | (refine EK_ev (Ev_gtrI_q rfl rfl hgt) ?_) | (refine EK_ev (Ev_gtrI rfl rfl) ?_) | (refine EK_ev (Ev_gtrS rfl rfl) ?_)))
    | (refine is_ex ?_; first | (refine KJ_blk_exit' rfl ?_))
    | (refine is_code ?_; first | (refine KJ_cond_dec rfl (fun _ => ?_) (fun _ => ?_) <;> first | (exfalso; omega) | skip) | (refine KJ_cond_t rfl ?_) | (refine KJ_cond_f rfl ?_)))
  all_goals (refine is_ex ?_; exact KJ_done (by first | exact Or.inl rfl | exact Or.inr rfl) rfl (by (repeat' (first | exact Rvs.nil | (apply Rvs.tmp; exact rfl))); first | done | fail) () (by rfl) (Ent.of (by (repeat' (first | exact Pick.nil | apply Pick.cons | exact Sel.here | apply Sel.there)); first | done | fail) (by (repeat' (first | exact DropTo.refl | apply DropTo.there)); first | done | fail)))
set_option maxRecDepth 100000 in
theorem open_near {W : World} (hN : NibAt W) (stamp : Int) (raw : List UInt8) (h0 : stamp ≠ 0) (h1 : raw.length = 256) (h2 : openN raw ≤ 234) (q : Bool) (hs : decide (sealB stamp (openP raw) ≠ raw) = q) :
    Ct Tryd.prog W 87 [.int .u64 stamp, strV raw] [] (fun _ : Unit => .tuple #[strV (if q then [] else openP raw), .bool (!q)]) (fun _ => []) := by
  have hq : (raw.length : Int) = 256 := by omega
  obtain ⟨e1, e2⟩ := openN_int raw
  have c1 : Ct Tryd.prog W 117 [strV (raw.drop (8 : Int).toNat), .int .i64 2] [] (fun _ : Unit => .int .u64 (openN raw : Nat)) (fun _ => []) := by rw [← e1]; exact get_ct (raw.drop 8) 2 (by rw [List.length_drop]; omega) (by omega)
  have hgt : decide ((234 : Int) < (openN raw : Nat)) = false := decide_eq_false (by omega)
  have hpl := openP_length raw h1 h2
  have c2 : Ct Tryd.prog W 83 [.int .u64 stamp, strV (openP raw)] [] (fun _ : Unit => .tuple #[strV (sealB stamp (openP raw)), .nilIface]) (fun _ => []) := seal_ok hN stamp _ h0 (by omega)
  have ep : (raw.take ((10 : Int) + (openN raw : Nat)).toNat).drop (10 : Int).toNat = openP raw := by
    unfold openP
    rw [show ((10 : Int) + (openN raw : Nat)).toNat = 10 + openN raw from by omega]
    rfl
  have hsl : ∀ {n : Nat} {E : Env} {H : List SP} {x y z : Operand}, Env.ev E x = some (strV raw) → Env.ev E y = some (.int .i64 10) → Env.ev E z = some (.int .i64 ((10 : Int) + (openN raw : Nat))) → Ev Tryd.prog W n E H (.slice 9 x (some y) (some z) none) (strV (openP raw)) := fun hx hy hz => by
    rw [← ep]; exact Ev_sliceStr hx hy hz (by omega)
  have hsn : ∀ {n : Nat} {E : Env} {H : List SP} {x y : Operand} {t u : TypeId}, Env.ev E x = some (strV (sealB stamp (openP raw))) → Env.ev E y = some (strV raw) → Ev Tryd.prog W n E H (.binOp .neq t x y u) (.bool q) := fun hx hy => by
    rw [← hs]; exact Ev_neqS hx hy
  cases q with
  | true =>
    refine Ct.enter Tryd.func87 rfl Tryd.ntmps87 (by simp) (fun R => ?_)
    repeat' (first 
    | refine KJ_stp (by first | constructor | fail) ?_
    | (refine is_list ?_; first | (refine KJ_guard_dec_t rfl rfl rfl (fun _ => ?_) (fun _ => ?_) <;> first | (exfalso; omega) | skip) | (refine KJ_guard_dec_f rfl rfl rfl (fun _ => ?_) (fun _ => ?_) <;> first | (exfalso; omega) | skip) | (refine KJ_guard_yes rfl rfl ?_) | (refine KJ_guard_no rfl rfl rfl rfl ?_))
    | (refine is_oper ?_; first | (refine is_call ?_; first | (refine KJ_call (by (repeat' (first | exact Evs.nil | refine Evs.cons rfl ?_)); first | done | fail) c2 (by (repeat' (first | exact Pick.nil | apply Pick.cons | exact Sel.here | apply Sel.there)); first | done | fail) rfl (fun _ => ?_)) | (refine KJ_call (by (repeat' (first | exact Evs.nil | refine Evs.cons rfl ?_)); first | done | fail) c1 (by (repeat' (first | exact Pick.nil | apply Pick.cons | exact Sel.here | apply Sel.there)); first | done | fail) rfl (fun _ => ?_))) | (refine KJ_ek rfl ?_) | (refine KJ_ek0 ?_))
    | (refine is_ek ?_; first | (refine ek_move ?_; first | (refine EK_ev (Ev_move rfl) ?_)) | (refine ek_assign ?_; first | (refine EK_ev (Ev_assign rfl) ?_)) | (refine ek_pick ?_; first | (refine EK_ev (Ev_pick_t rfl rfl) ?_) | (refine EK_ev (Ev_pick_f rfl rfl) ?_)) | (refine ek_conv ?_; first | (refine EK_ev (Ev_convI64 rfl (by omega)) ?_) | (refine EK_ev (Ev_convI64 rfl (by omega)) ?_) | (refine EK_ev (Ev_convI rfl) ?_) | (refine EK_ev (Ev_convS rfl) ?_)) | (refine ek_extract ?_; first | (refine EK_ev (Ev_extract rfl rfl) ?_)) | (refine ek_slice ?_; first | (refine EK_ev (hsl rfl rfl rfl) ?_) | (refine EK_ev (Ev_sliceStrFrom rfl rfl (by omega)) ?_)) | (refine ek_len ?_; first | (refine EK_ev (Ev_len_str rfl) ?_) | (refine EK_ev (Ev_len_slice rfl) ?_) | (refine EK_ev (Ev_len_arr rfl) ?_) | (refine EK_ev (Ev_len_map rfl (by (repeat' (first | exact Sel.here | apply Sel.there)); first | done | fail)) ?_)) | (refine ek_add ?_; first | (refine EK_ev (Ev_addI rfl rfl (by omega)) ?_) | (refine EK_ev (Ev_addS rfl rfl (by simp <;> omega)) ?_) | (refine EK_ev (Ev_add rfl rfl) ?_)) | (refine ek_eql ?_; first | (refine EK_ev (Ev_eqlI_f rfl rfl h0) ?_) | (refine EK_ev (Ev_eqlI rfl rfl) ?_) | (refine EK_ev (Ev_eqlS rfl rfl) ?_) | (refine EK_ev (Ev_eqlNil rfl rfl) ?_) | (refine EK_ev (Ev_eqlB rfl rfl) ?_) | (refine EK_ev (Ev_eqlO rfl rfl rfl (fun _ => rfl)) ?_)) | (refine ek_neq ?_; first | (refine EK_ev (hsn rfl rfl) ?_) | (refine EK_ev (Ev_neqI_f rfl rfl hq) ?_) | (refine EK_ev (Ev_neqI rfl rfl) ?_) | (refine EK_ev (Ev_neqS rfl rfl) ?_) | (refine EK_ev (Ev_neqNil rfl rfl) ?_) | (refine EK_ev (Ev_neqB rfl rfl) ?_) | (refine EK_ev (Ev_neqO rfl rfl rfl (fun _ => rfl)) ?_)) | (refine ek_gtr ?_; first | (refine EK_ev (Ev_gtrI_q rfl rfl hgt) ?_) | (refine EK_ev (Ev_gtrI rfl rfl) ?_) | (refine EK_ev (Ev_gtrS rfl rfl) ?_)))
    | (refine is_ex ?_; first | (refine KJ_blk_exit' rfl ?_))
    | (refine is_code ?_; first | (refine KJ_cond_dec rfl (fun _ => ?_) (fun _ => ?_) <;> first | (exfalso; omega) | skip) | (refine KJ_cond_t rfl ?_) | (refine KJ_cond_f rfl ?_)))
    all_goals (refine is_ex ?_; exact KJ_done (by first | exact Or.inl rfl | exact Or.inr rfl) rfl (by (repeat' (first | exact Rvs.nil | (apply Rvs.tmp; exact rfl))); first | done | fail) () (by rfl) (Ent.of (by (repeat' (first | exact Pick.nil | apply Pick.cons | exact Sel.here | apply Sel.there)); first | done | fail) (by (repeat' (first | exact DropTo.refl | apply DropTo.there)); first | done | fail)))
  | false =>
    refine Ct.enter Tryd.func87 rfl Tryd.ntmps87 (by simp) (fun R => ?_)
    repeat' (first 
    | refine KJ_stp (by first | constructor | fail) ?_
    | (refine is_list ?_; first | (refine KJ_guard_dec_t rfl rfl rfl (fun _ => ?_) (fun _ => ?_) <;> first | (exfalso; omega) | skip) | (refine KJ_guard_dec_f rfl rfl rfl (fun _ => ?_) (fun _ => ?_) <;> first | (exfalso; omega) | skip) | (refine KJ_guard_yes rfl rfl ?_) | (refine KJ_guard_no rfl rfl rfl rfl ?_))
    | (refine is_oper ?_; first | (refine is_call ?_; first | (refine KJ_call (by (repeat' (first | exact Evs.nil | refine Evs.cons rfl ?_)); first | done | fail) c2 (by (repeat' (first | exact Pick.nil | apply Pick.cons | exact Sel.here | apply Sel.there)); first | done | fail) rfl (fun _ => ?_)) | (refine KJ_call (by (repeat' (first | exact Evs.nil | refine Evs.cons rfl ?_)); first | done | fail) c1 (by (repeat' (first | exact Pick.nil | apply Pick.cons | exact Sel.here | apply Sel.there)); first | done | fail) rfl (fun _ => ?_))) | (refine KJ_ek rfl ?_) | (refine KJ_ek0 ?_))
    | (refine is_ek ?_; first | (refine ek_move ?_; first | (refine EK_ev (Ev_move rfl) ?_)) | (refine ek_assign ?_; first | (refine EK_ev (Ev_assign rfl) ?_)) | (refine ek_pick ?_; first | (refine EK_ev (Ev_pick_t rfl rfl) ?_) | (refine EK_ev (Ev_pick_f rfl rfl) ?_)) | (refine ek_conv ?_; first | (refine EK_ev (Ev_convI64 rfl (by omega)) ?_) | (refine EK_ev (Ev_convI64 rfl (by omega)) ?_) | (refine EK_ev (Ev_convI rfl) ?_) | (refine EK_ev (Ev_convS rfl) ?_)) | (refine ek_extract ?_; first | (refine EK_ev (Ev_extract rfl rfl) ?_)) | (refine ek_slice ?_; first | (refine EK_ev (hsl rfl rfl rfl) ?_) | (refine EK_ev (Ev_sliceStrFrom rfl rfl (by omega)) ?_)) | (refine ek_len ?_; first | (refine EK_ev (Ev_len_str rfl) ?_) | (refine EK_ev (Ev_len_slice rfl) ?_) | (refine EK_ev (Ev_len_arr rfl) ?_) | (refine EK_ev (Ev_len_map rfl (by (repeat' (first | exact Sel.here | apply Sel.there)); first | done | fail)) ?_)) | (refine ek_add ?_; first | (refine EK_ev (Ev_addI rfl rfl (by omega)) ?_) | (refine EK_ev (Ev_addS rfl rfl (by simp <;> omega)) ?_) | (refine EK_ev (Ev_add rfl rfl) ?_)) | (refine ek_eql ?_; first | (refine EK_ev (Ev_eqlI_f rfl rfl h0) ?_) | (refine EK_ev (Ev_eqlI rfl rfl) ?_) | (refine EK_ev (Ev_eqlS rfl rfl) ?_) | (refine EK_ev (Ev_eqlNil rfl rfl) ?_) | (refine EK_ev (Ev_eqlB rfl rfl) ?_) | (refine EK_ev (Ev_eqlO rfl rfl rfl (fun _ => rfl)) ?_)) | (refine ek_neq ?_; first | (refine EK_ev (hsn rfl rfl) ?_) | (refine EK_ev (Ev_neqI_f rfl rfl hq) ?_) | (refine EK_ev (Ev_neqI rfl rfl) ?_) | (refine EK_ev (Ev_neqS rfl rfl) ?_) | (refine EK_ev (Ev_neqNil rfl rfl) ?_) | (refine EK_ev (Ev_neqB rfl rfl) ?_) | (refine EK_ev (Ev_neqO rfl rfl rfl (fun _ => rfl)) ?_)) | (refine ek_gtr ?_; first | (refine EK_ev (Ev_gtrI_q rfl rfl hgt) ?_) | (refine EK_ev (Ev_gtrI rfl rfl) ?_) | (refine EK_ev (Ev_gtrS rfl rfl) ?_)))
    | (refine is_ex ?_; first | (refine KJ_blk_exit' rfl ?_))
    | (refine is_code ?_; first | (refine KJ_cond_dec rfl (fun _ => ?_) (fun _ => ?_) <;> first | (exfalso; omega) | skip) | (refine KJ_cond_t rfl ?_) | (refine KJ_cond_f rfl ?_)))
    all_goals (refine is_ex ?_; exact KJ_done (by first | exact Or.inl rfl | exact Or.inr rfl) rfl (by (repeat' (first | exact Rvs.nil | (apply Rvs.tmp; exact rfl))); first | done | fail) () (by rfl) (Ent.of (by (repeat' (first | exact Pick.nil | apply Pick.cons | exact Sel.here | apply Sel.there)); first | done | fail) (by (repeat' (first | exact DropTo.refl | apply DropTo.there)); first | done | fail)))
theorem open_ct {W : World} (hN : NibAt W) (stamp : Int) (raw : List UInt8) : Ct Tryd.prog W 87 [.int .u64 stamp, strV raw] [] (fun _ : Unit => .tuple #[strV ((openS stamp raw).getD []), .bool (openS stamp raw).isSome]) (fun _ => []) := by
  by_cases h0 : stamp = 0
  · subst h0
    exact (open_zero raw).val fun _ => by simp [openS]
  by_cases h1 : raw.length = 256
  · by_cases h2 : 234 < openN raw
    · exact (open_more stamp raw h0 h1 h2).val fun _ => by simp [openS, h0, h1, h2]
    · by_cases hs : sealB stamp (openP raw) = raw
      · refine (open_near hN stamp raw h0 h1 (by omega) false (decide_eq_false (by simpa using hs))).val fun _ => ?_
        have : openS stamp raw = some (openP raw) := by unfold openS; rw [if_neg h0, if_neg (by simpa using h1), if_neg h2, if_pos hs]
        rw [this]; rfl
      · refine (open_near hN stamp raw h0 h1 (by omega) true (decide_eq_true hs)).val fun _ => ?_
        have : openS stamp raw = none := by unfold openS; rw [if_neg h0, if_neg (by simpa using h1), if_neg h2, if_neg hs]
        rw [this]; rfl
  · exact (open_len stamp raw h0 h1).val fun _ => by simp [openS, h0, h1]
end Go.Proofs.YteklldbfdmaafaaDoor
/-
  The package slots: room and count, as plain data, and their contracts.
-/
namespace Go.Proofs.YteklldbfdmaafaaDoor
open Go Go.RowKit
section
variable {W : World} {E : Nat → Addr} {p : Nat} {D : Dsk}
/-- may a slot be there? -/
def Dsk.roomB (D : Dsk) (at_ : Int) : Bool := decide (0 ≤ at_ ∧ at_ ≤ (D.n : Int) - 2)
/-- what a sector of a slot tells -/
def countO (raw : List UInt8) (k : Int) : Option (Int × List UInt8) :=
  if raw.length ≠ 256 then none else if getB raw 8 ≠ getB (raw.drop 248) 8 then none else if getB raw 8 < 1 then none else if 1099511627776 < getB raw 8 then none else
    if getB raw 8 % 2 ≠ k then none else (openS (getB raw 8) raw).map fun v => (getB raw 8, v)
def countV (raw : List UInt8) (k : Int) : Int := ((countO raw k).map (·.1)).getD 0
end
end Go.Proofs.YteklldbfdmaafaaDoor
/-
  The package slots: Write over a disk, as plain data, and its contract.
-/
namespace Go.Proofs.YteklldbfdmaafaaDoor
open Go Go.RowKit
/-- may Write be? -/
def slotMay (D : Dsk) (at_ v : Int) : Bool := D.roomB at_ && decide (1 ≤ v) && decide (v ≤ 1099511627776)
def slotW1 (D : Dsk) (at_ v : Int) (s : List UInt8) : Dsk := D.writeD (at_ + v % 2) (sealB v s)
def slotWE (D : Dsk) (at_ v : Int) (s : List UInt8) : Nat :=
  if slotMay D at_ v = false then 6 else if 234 < s.length then 3 else if D.writeE (at_ + v % 2) (sealB v s) ≠ 0 then D.writeE (at_ + v % 2) (sealB v s) else (slotW1 D at_ v s).flushE
def slotWD (D : Dsk) (at_ v : Int) (s : List UInt8) : Dsk :=
  if slotMay D at_ v = false then D else if 234 < s.length then D else if D.writeE (at_ + v % 2) (sealB v s) ≠ 0 then slotW1 D at_ v s else (slotW1 D at_ v s).flushD
theorem writeD_und (D : Dsk) (i : Int) (s : List UInt8) : (D.writeD i s).und.length ≤ D.und.length + 1 := by
  unfold Dsk.writeD
  split
  · omega
  split
  · split
    · dsimp only
      split
      · rw [Dsk.gone_und]; simp
      · show (Dsk.gone _).und.length ≤ _; rw [Dsk.gone_und]; simp
    · omega
  · omega
theorem errV_ne {E : Nat → Addr} {k : Nat} (h : k ≠ 0) : ∃ a, errV E k = .iface 204 (.pointer (some a)) := ⟨E k, by unfold errV; rw [if_neg h]⟩

end Go.Proofs.YteklldbfdmaafaaDoor
/-
  Bytes there and back: what put lays, get tells; a sealed sector opens.
-/
namespace Go.Proofs.YteklldbfdmaafaaDoor
open Go Go.RowKit
theorem u64_of_lt (n : Nat) (h : n < 2 ^ 64) : IntKind.u64.wrap (n : Int) = (n : Int) := by
  have e : IntKind.u64.wrap (n : Int) = (n : Int) % 18446744073709551616 := rfl
  rw [e]; omega
theorem or64 (x y : Nat) (hx : x < 2 ^ 64) (hy : y < 2 ^ 64) : bits .or .u64 (x : Int) (y : Int) = ((x ||| y : Nat) : Int) := by
  have e : bits .or .u64 (x : Int) (y : Int) = IntKind.u64.wrap ((BitVec.ofInt 64 (x : Int) ||| BitVec.ofInt 64 (y : Int)).toNat : Int) := rfl
  have b1 : (BitVec.ofInt 64 (x : Int)).toNat = x := by rw [BitVec.toNat_ofInt]; omega
  have b2 : (BitVec.ofInt 64 (y : Int)).toNat = y := by rw [BitVec.toNat_ofInt]; omega
  rw [e, BitVec.toNat_or, b1, b2]
  exact u64_of_lt _ (Nat.or_lt_two_pow hx hy)
theorem getPart_val (x i : Nat) (c : UInt8) (hi : i < 8) (hx : x < 2 ^ (8 * i)) : getPart (x : Int) i c = ((x + c.toNat * 2 ^ (8 * i) : Nat) : Int) := by
  have hc := UInt8.toNat_lt c
  have hm : min (8 * (i : Int)).toNat IntKind.u64.bits = 8 * i := by
    show min (8 * (i : Int)).toNat 64 = 8 * i
    omega
  have hp : c.toNat * 2 ^ (8 * i) < 2 ^ (8 * i + 8) := by
    rw [Nat.pow_add, Nat.mul_comm]
    exact Nat.mul_lt_mul_of_pos_left (by omega) (Nat.two_pow_pos _)
  have hp2 : (2 : Nat) ^ (8 * i + 8) ≤ 2 ^ 64 := Nat.pow_le_pow_right (by omega) (by omega)
  have hx2 : (2 : Nat) ^ (8 * i) ≤ 2 ^ 64 := Nat.pow_le_pow_right (by omega) (by omega)
  unfold getPart
  rw [hm, u64_of_lt c.toNat (by omega)]
  have e2 : ((c.toNat : Int) * 2 ^ (8 * i)) = ((c.toNat * 2 ^ (8 * i) : Nat) : Int) := by simp
  rw [e2, u64_of_lt _ (by omega), or64 _ _ (by omega) (by omega)]
  congr 1
  rw [Nat.or_comm, Nat.mul_comm, ← Nat.two_pow_add_eq_or_of_lt hx, Nat.add_comm]
theorem byteAt_val (v i : Nat) (hi : i < 8) : (byteAt (v : Int) i).toNat = v / 2 ^ (8 * i) % 256 := by
  have hm : min (8 * (i : Int)).toNat IntKind.u64.bits = 8 * i := by
    show min (8 * (i : Int)).toNat 64 = 8 * i
    omega
  unfold byteAt byteI
  rw [hm]
  have e : (v : Int).fdiv (2 ^ (8 * i)) = ((v / 2 ^ (8 * i) : Nat) : Int) := by
    rw [Int.fdiv_eq_ediv_of_nonneg _ (by exact Int.pow_nonneg (by decide))]
    simp
  rw [e]
  have e2 : ∀ z : Nat, IntKind.u8.wrap (z : Int) = ((z % 256 : Nat) : Int) := fun z => by
    have : IntKind.u8.wrap (z : Int) = (z : Int) % 256 := rfl
    rw [this]; omega
  rw [e2, Int.toNat_natCast, UInt8.toNat_ofNat']
  omega
/-- n bytes of v, read back -/
theorem getB_of (l : List UInt8) (v : Nat) (n : Nat) (hn : n ≤ 8) (h : ∀ i, i < n → l.getD i 0 = byteAt (v : Int) i) : getB l n = ((v % 2 ^ (8 * n) : Nat) : Int) := by
  induction n with
  | zero => simp [getB, Nat.mod_one]
  | succ n ih =>
    show getPart (getB l n) n (l.getD n 0) = _
    rw [ih (by omega) (fun i hi => h i (by omega)), h n (by omega), getPart_val _ _ _ (by omega) (Nat.mod_lt _ (Nat.two_pow_pos _)), byteAt_val _ _ (by omega)]
    congr 1
    rw [show 8 * (n + 1) = 8 * n + 8 by omega, Nat.pow_add, Nat.mod_mul, Nat.mul_comm (2 ^ (8 * n)) _]
theorem putB_get (x : Int) (n i : Nat) (hi : i < n) : (putB x n).getD i 0 = byteAt x i := by
  simp [putB, List.getD, hi]
theorem lay_get_in (l : List UInt8) (o : Nat) (b : List UInt8) (i : Nat) (h : o + b.length ≤ l.length) (h1 : o ≤ i) (h2 : i < o + b.length) : (lay l o b).getD i 0 = b.getD (i - o) 0 := by
  unfold lay
  simp only [List.getD]
  rw [List.getElem?_append_right (by simp; omega), List.length_take, Nat.min_eq_left (by omega), List.getElem?_append_left (by omega)]
theorem lay_get_out (l : List UInt8) (o : Nat) (b : List UInt8) (i : Nat) (h : o + b.length ≤ l.length) (h1 : i < o ∨ o + b.length ≤ i) : (lay l o b).getD i 0 = l.getD i 0 := by
  unfold lay
  simp only [List.getD]
  rcases h1 with h1 | h1
  · rw [List.getElem?_append_left (by simp; omega), List.getElem?_take_of_lt h1]
  · rw [List.getElem?_append_right (by simp; omega), List.length_take, Nat.min_eq_left (by omega), List.getElem?_append_right (by omega), List.getElem?_drop]
    congr 2
    omega

theorem getD_drop (l : List UInt8) (o i : Nat) : (l.drop o).getD i 0 = l.getD (o + i) 0 := by
  simp [List.getD, List.getElem?_drop]
section
variable (v : Nat) (s : List UInt8) (hl : s.length ≤ 234)
include hl
theorem seal_tail (i : Nat) (h1 : 248 ≤ i) (h2 : i < 256) : (sealB v s).getD i 0 = byteAt (v : Int) (i - 248) := by
  unfold sealB
  rw [lay_get_in _ _ _ _ (by rw [putB_length, sealB4_length _ _ hl]; omega) h1 (by rw [putB_length]; omega), putB_get _ _ _ (by omega)]
theorem seal_low (i : Nat) (h : i < 244) : (sealB v s).getD i 0 = (sealB3 v s).getD i 0 := by
  unfold sealB
  rw [lay_get_out _ _ _ _ (by rw [putB_length, sealB4_length _ _ hl]; omega) (.inl (by omega))]
  unfold sealB4
  rw [lay_get_out _ _ _ _ (by rw [putB_length, sealB3_length _ _ hl]; omega) (.inl (by omega))]
theorem seal_head (i : Nat) (h : i < 8) : (sealB v s).getD i 0 = byteAt (v : Int) i := by
  rw [seal_low v s hl i (by omega)]
  unfold sealB3
  rw [lay_get_out _ _ _ _ (by rw [sealB2_length]; omega) (.inl (by omega))]
  unfold sealB2
  rw [lay_get_out _ _ _ _ (by rw [putB_length, sealB1_length]; omega) (.inl (by omega))]
  unfold sealB1
  rw [lay_get_in _ _ _ _ (by rw [putB_length, List.length_replicate]; omega) (by omega) (by rw [putB_length]; omega), Nat.sub_zero, putB_get _ _ _ h]
theorem seal_size (i : Nat) (h : i < 2) : (sealB v s).getD (8 + i) 0 = byteAt ((s.length : Nat) : Int) i := by
  rw [seal_low v s hl _ (by omega)]
  unfold sealB3
  rw [lay_get_out _ _ _ _ (by rw [sealB2_length]; omega) (.inl (by omega))]
  unfold sealB2
  rw [u64_of_lt s.length (by omega), lay_get_in _ _ _ _ (by rw [putB_length, sealB1_length]; omega) (by omega) (by rw [putB_length]; omega), putB_get _ _ _ (by omega)]
  congr 1
  omega
theorem seal_body (i : Nat) (h : i < s.length) : (sealB v s).getD (10 + i) 0 = s.getD i 0 := by
  rw [seal_low v s hl _ (by omega)]
  unfold sealB3
  rw [lay_get_in _ _ _ _ (by rw [sealB2_length]; omega) (by omega) (by omega)]
  congr 1
  omega
theorem seal_getH (hv : v < 2 ^ 64) : getB (sealB v s) 8 = (v : Int) := by
  rw [getB_of _ v 8 (by omega) (fun i hi => seal_head v s hl i hi), Nat.mod_eq_of_lt (by omega)]
theorem seal_getT (hv : v < 2 ^ 64) : getB ((sealB v s).drop 248) 8 = (v : Int) := by
  rw [getB_of _ v 8 (by omega) (fun i hi => by rw [getD_drop, seal_tail v s hl _ (by omega) (by omega), Nat.add_sub_cancel_left]), Nat.mod_eq_of_lt (by omega)]
set_option maxRecDepth 100000 in
theorem seal_openN : openN (sealB v s) = s.length := by
  have h := getB_of ((sealB (v : Int) s).drop 8) s.length 2 (by omega) (fun i hi => by rw [getD_drop]; exact seal_size v s hl i hi)
  have e : s.length % 2 ^ (8 * 2) = s.length := Nat.mod_eq_of_lt (by show s.length < 65536; omega)
  rw [e] at h
  unfold openN
  rw [h, Int.toNat_natCast]
theorem seal_openP : openP (sealB v s) = s := by
  have hL := sealB_length (v : Int) s hl
  unfold openP
  rw [seal_openN v s hl]
  apply List.ext_getElem
  · rw [List.length_drop, List.length_take]; omega
  · intro i h1 h2
    have h3 := seal_body v s hl i h2
    simp only [List.getElem_drop, List.getElem_take]
    rw [List.getD, List.getElem?_eq_getElem (by omega), List.getD, List.getElem?_eq_getElem h2] at h3
    simpa using h3
/-- A SEALED SECTOR OPENS -/
theorem seal_open (hv0 : v ≠ 0) : openS (v : Int) (sealB v s) = some s := by
  unfold openS
  rw [if_neg (by omega), if_neg (by have := sealB_length (v : Int) s hl; simpa using this), if_neg (by rw [seal_openN v s hl]; omega), seal_openP v s hl, if_pos rfl]
/-- .. and counts in its place -/
theorem seal_count (hv0 : 1 ≤ v) (hv1 : v ≤ 1099511627776) : countO (sealB v s) ((v : Int) % 2) = some ((v : Int), s) := by
  unfold countO
  rw [seal_getH v s hl (by omega), seal_getT v s hl (by omega), seal_open v s hl (by omega), if_neg (by have := sealB_length (v : Int) s hl; simpa using this), if_neg (by simp), if_neg (by omega), if_neg (by omega), if_neg (by simp)]
  rfl
end
end Go.Proofs.YteklldbfdmaafaaDoor
/-
  What all the laws of this seat share at their ends: the 37 errors out of the row's list, a witness, and the last step behind the walk.
-/
namespace Go.Proofs.YteklldbfdmaafaaDoor
open Go Go.RowKit Go.ChangeShapes Go.WideShapes Go.Deep
theorem own : ownKnob Tryd.prog.godebug = none := by kernel_rfl
theorem laidOut : laidOutB Tryd.prog = true := by kernel_rfl


/-- the places of the listed variables' data lie apart -/
theorem laidVars_at {P : Program} {w : World} : ∀ {laid : List (String × DataW Unit)} {ps : List MemPlace}, DataW.LaidVars P w laid ps → ps.Nodup →
    ∃ pl : Nat → List MemPlace, (∀ i n d, laid[i]? = some (n, d) → ∃ g t cs fuel, P.globalNamed n = some g ∧ (P.globals[g]?).map (·.type) = some t ∧ w.var? P n = some cs ∧
      DataW.trod (fun _ => ()) P w 0 (fun _ => true) false fuel t cs.toList = some (d, pl i) ∧ (∀ x ∈ MemPlace.row ⟨g, 0, none⟩ cs.size, x ∈ ps) ∧ ∀ x ∈ pl i, x ∈ ps) ∧
      ∀ i j, i < j → j < laid.length → ∀ x ∈ pl i, x ∉ pl j
  | [], ps, _, _ => ⟨fun _ => [], fun i n d h => by simp at h, fun i j _ h => by simp at h⟩
  | (n, d) :: r, ps, h, hn => by
    obtain ⟨g, t, cs, fuel, p, q, h1, h2, h3, h4, h5, rfl⟩ := h
    have hq : q.Nodup := (List.nodup_append.1 hn).2.1
    obtain ⟨pl, hp1, hp2⟩ := laidVars_at h5 hq
    refine ⟨fun i => match i with | 0 => p | i + 1 => pl i, fun i n' d' hi => ?_, fun i j hij hj x hx => ?_⟩
    · cases i with
      | zero =>
        simp only [List.getElem?_cons_zero, Option.some.injEq, Prod.mk.injEq] at hi
        obtain ⟨rfl, rfl⟩ := hi
        exact ⟨g, t, cs, fuel, h1, h2, h3, h4, fun x hx => by simp [hx], fun x hx => by simp at hx ⊢; simp [hx]⟩
      | succ i =>
        obtain ⟨g', t', cs', f', a1, a2, a3, a4, a5, a6⟩ := hp1 i n' d' (by simpa using hi)
        exact ⟨g', t', cs', f', a1, a2, a3, a4, fun x hx => List.mem_append_right _ (a5 x hx), fun x hx => List.mem_append_right _ (a6 x hx)⟩
    · cases j with
      | zero => omega
      | succ j =>
        have hj' : j < r.length := by simpa using hj
        cases i with
        | zero =>
          intro hxj
          have hxq : x ∈ q := by
            obtain ⟨y, hy⟩ : ∃ y, r[j]? = some y := ⟨_, List.getElem?_eq_getElem hj'⟩
            obtain ⟨n', d'⟩ := y
            obtain ⟨_, _, _, _, _, _, _, _, _, a6⟩ := hp1 j n' d' hy
            exact a6 x hxj
          exact (List.nodup_append.1 hn).2.2 x (List.mem_append_right _ hx) x hxq rfl
        | succ i => exact hp2 i j (by omega) hj' x hx

/-- a listed error: a pointer to a text -/
def errIn (x : DataW Unit) : Bool := match x with | .iface "*errors.errorString" (.ptr (.agg [.lit (.string _)])) => true | _ => false
/-- the row's list opens with the 37 errors, in their order -/
noncomputable def opens (laid : List (String × DataW Unit)) : Bool := (List.range 37).all fun i => match laid[i]? with
  | some (n, d) => (Tryd.prog.globalNamed n == some (errG (i + 1))) && ((Tryd.prog.globals[errG (i + 1)]?).map (·.type) == some 31) && errIn d
  | none => false
theorem errIn_is {x : DataW Unit} (h : errIn x = true) : ∃ s, x = .iface "*errors.errorString" (.ptr (.agg [.lit (.string s)])) := by
  unfold errIn at h
  split at h
  · exact ⟨_, rfl⟩
  · cases h
theorem rowErr (u : TypeId) (h : Tryd.prog.typeName? 3 u = some "*errors.errorString") : u = 204 :=
  typeName_ptr_named (nm := "errors.errorString") (by rw [show "*" ++ "errors.errorString" = "*errors.errorString" from by decide]; kernel_rfl) (by kernel_rfl) (by decide) u (by rw [show "*" ++ "errors.errorString" = "*errors.errorString" from by decide]; exact h)
theorem cellsErr : Tryd.prog.cellsOf 218 = 1 := by kernel_rfl
theorem cellsStr : Tryd.prog.cellsOf 9 = 1 := by kernel_rfl

set_option maxRecDepth 100000 in
/-- WHAT THE ROW's LIST GIVES: the 37 errors lie in their variables, each its own -/
theorem errs_of_laid {laid : List (String × DataW Unit)} {W : World} (hp : (laid.all fun x => x.2.handleName?.isNone) = true) (ho : opens laid = true) (h : laidMetH Tryd.prog laid W) : ∃ E, ErrsAt W E := by
  rw [MakeChecks.laidMetH_plain _ _ _ hp] at h
  obtain ⟨ps, hL, hnd, hrows⟩ := h
  obtain ⟨pl, h1, h2⟩ := laidVars_at hL hnd
  have hlen : 37 ≤ laid.length := by
    have := List.all_eq_true.1 ho 36 (by simp)
    cases hx : laid[36]? with
    | none => rw [hx] at this; cases this
    | some y => have := (List.getElem?_eq_some_iff.1 hx).1; omega
  have key : ∀ k : Nat, ∃ a : Addr, 1 ≤ k → k ≤ 37 → W.cell? ⟨errG k, 0, none⟩ = some (.iface 204 (.pointer (some a))) ∧ (∃ c t, W.heap[a.block]? = some (.cells c t (0, 0))) ∧ a.spot = none ∧ pl (k - 1) = MemPlace.row a 1 := by
    intro k
    by_cases hk : 1 ≤ k ∧ k ≤ 37
    · have hi := List.all_eq_true.1 ho (k - 1) (by simp; omega)
      cases hx : laid[k - 1]? with
      | none => rw [hx] at hi; cases hi
      | some y =>
        obtain ⟨n, d⟩ := y
        rw [hx] at hi
        simp only [Bool.and_eq_true, beq_iff_eq] at hi
        obtain ⟨⟨e1, e2⟩, e3⟩ := hi
        obtain ⟨text, rfl⟩ := errIn_is e3
        rw [show k - 1 + 1 = k from by omega] at e1 e2
        obtain ⟨g, t, cs, fuel, a1, a2, a3, a4, a5, a6⟩ := h1 _ _ _ hx
        obtain rfl := Option.some.inj (e1.symm.trans a1)
        obtain rfl := Option.some.inj (e2.symm.trans a2)
        obtain ⟨l⟩ := cs
        have ok : ∀ u v, l = [.iface u v] → Value.okWide Tryd.prog W .any 0 u v := fun u v e => by
          subst e
          exact (hrows (errG k) 0 (a5 _ (by simp [MemPlace.row]))).2 u v (by simpa using World.var?_cell a1 a3 0)
        obtain ⟨a, s, rfl, hc0, hs0, hz0, hpl⟩ := errorString_of_trod Tryd.underlying31 rowErr Tryd.underlying204 Tryd.underlying218 rfl rfl Tryd.underlying9 cellsErr cellsStr a4 ok
        have hokv := ok _ _ rfl
        refine ⟨a, fun _ _ => ⟨by simpa using World.var?_cell a1 a3 0, (hrows a.block a.off (a6 _ (by rw [hpl]; simp [MemPlace.row]))).1, ?_, hpl⟩⟩
        unfold Value.okWide at hokv
        simp only [Tryd.underlying204] at hokv
        unfold Cell.okWide at hokv
        simp only [Cell.ok, Tryd.underlying204] at hokv
        exact hokv.2.1
    · exact ⟨⟨0, 0, none⟩, fun h h' => absurd ⟨h, h'⟩ hk⟩
  obtain ⟨E, hE⟩ : ∃ E : Nat → Addr, ∀ k, 1 ≤ k → k ≤ 37 → W.cell? ⟨errG k, 0, none⟩ = some (.iface 204 (.pointer (some (E k)))) ∧ (∃ c t, W.heap[(E k).block]? = some (.cells c t (0, 0))) ∧ (E k).spot = none ∧ pl (k - 1) = MemPlace.row (E k) 1 :=
    ⟨fun k => Classical.choose (key k), fun k => Classical.choose_spec (key k)⟩
  refine ⟨E, fun k h1 h2 => ?_, fun k h1 h2 => (hE k h1 h2).2.1, fun j k hj1 hj2 hk1 hk2 e => ?_⟩
  · have := (hE k h1 h2).1
    unfold ErrAt
    rw [errV_pos _ _ h1]
    exact this
  · have hj := (hE j hj1 hj2).2.2.2
    have hk := (hE k hk1 hk2).2.2.2
    rw [e] at hj
    have hmem : (MemPlace.cell (E k).block (E k).off) ∈ MemPlace.row (E k) 1 := by simp [MemPlace.row]
    rcases Nat.lt_trichotomy (j - 1) (k - 1) with hlt | heq | hlt
    · exact absurd (by rw [hk]; exact hmem) (h2 (j - 1) (k - 1) hlt (by omega) _ (by rw [hj]; exact hmem))
    · omega
    · exact absurd (by rw [hj]; exact hmem) (h2 (k - 1) (j - 1) hlt (by omega) _ (by rw [hk]; exact hmem))

theorem lastRow : ((((begin Tryd.prog (fun _ _ => 0) default).world.heap[gB - 1]?).bind Obj.row?).isSome && decide (gB - 1 < Tryd.prog.globals.size)) = true := by kernel_rfl
theorem gB_le {W : World} (h : W.ShapedOpen Tryd.prog) : gB ≤ W.heap.size := by
  have hl := lastRow
  simp only [Bool.and_eq_true, decide_eq_true_eq] at hl
  obtain ⟨h1, h2⟩ := hl
  obtain ⟨⟨z, t⟩, hz⟩ := Option.isSome_iff_exists.1 h1
  obtain ⟨cs, hc, _⟩ := h.1 _ z t h2 hz
  have := (Array.getElem?_eq_some_iff.1 hc).1
  unfold gB at this ⊢
  omega

section
variable {H : Type} {enc : TypeId × Value → H} {P : Program}
theorem post_of_below {f : Func} {s : ChangeSpec} {apart fresh handsOn again : Bool} {W W' : World} {args : Array Value} {v : Value} {ds gs : List (DataW H)} {before pa pv : List MemPlace}
    (hW : DataW.Whole enc P f.params.toList s.vars apart W args.toList ds gs before)
    (hres : ∀ (b : Nat) (sp : Nat → Bool) (hd : Bool), DataW.TrodAll enc P W' b sp hd f.resultTypes.toList (v.resultList f.resultTypes.size) (s.fn H (ds ++ gs)).results [])
    (hargs : ∀ sp : Nat → Bool, (∀ p ∈ before, sp p.block = true) → DataW.TrodAll enc P W' 0 sp true f.params.toList args.toList (s.fn H (ds ++ gs)).args pa)
    (hvars : ∀ sp : Nat → Bool, (∀ p ∈ before, sp p.block = true) → DataW.TrodVars enc P W' sp s.vars (s.fn H (ds ++ gs)).vars pv)
    (hps : before = pa ++ pv) (hb : Below W.heap.size W W')
    (hok : ∀ (j : Nat) (t : TypeId) (r : Value), f.resultTypes[j]? = some t → (v.resultList f.resultTypes.size)[j]? = some r → Value.okWide P W' .any 0 t r) :
    s.post enc P f apart fresh handsOn again W args v W' := by
  have hlt : ∀ p ∈ before, p.block < W.heap.size := fun p hp => hW.lt p hp
  have hold : ∀ p ∈ before, (fun b => decide (b < W.heap.size)) p.block = true := fun p hp => by simpa using hlt p hp
  refine ⟨ds, gs, before, [], pa, pv, hW, hres _ _ _, hargs _ hold, hvars _ hold, World.keptBut_mono (fun p hp => ⟨hp, ?_⟩) (hb.frame (· ∈ before)), fun _ => ?_⟩
  · rw [hps, List.mem_append] at hp
    exact Or.inr hp
  · obtain ⟨_, _, _, _, _, hz, hn⟩ := hW
    refine ⟨hok, _, _, ([] ++ pa) ++ pv, ⟨[] ++ pa, pv, trodAll_append (hargs _ (fun _ _ => rfl)) (hres _ _ _), hvars _ (fun _ _ => rfl), rfl, ?_, ?_⟩, ?_⟩
    · intro b off hp
      have hin : MemPlace.cell b off ∈ before := by rw [hps]; simpa using hp
      rw [hb.frozen (hlt _ hin)]
      exact hz b off hin
    · intro ha
      have := hn ha
      rw [hps] at this
      simpa using this
    · intro p hp _
      rw [hps]
      simpa using hp
/-- all arguments read behind the call as before -/
theorem trodAll_stays (hl : laidOutB P = true) {W W' : World} {sp : Nat → Bool} (hb : Below W.heap.size W W') : ∀ {ts : List TypeId} {vs : List Value} {ds : List (DataW H)} {ps : List MemPlace},
    (ts.all fun t => P.readableRec t && decide (t < P.types.size)) = true → DataW.TrodAll enc P W 0 (fun _ => true) true ts vs ds ps → (∀ x ∈ ps, x.block < W.heap.size) → (∀ x ∈ ps, sp x.block = true) → DataW.TrodAll enc P W' 0 sp true ts vs ds ps
  | [], [], [], _, _, h, _, _ => h
  | t :: ts, v :: vs, d :: ds, ps, hr, h, hlt, hs => by
    obtain ⟨p, q, h1, h2, rfl⟩ := h
    simp only [List.all_cons, Bool.and_eq_true, decide_eq_true_eq] at hr
    exact ⟨p, q, WideElems.Trod_stays hl hr.1.1 hr.1.2 h1 (fun x hx => hb.same (hlt x (List.mem_append_left _ hx))) (fun x hx => hs x (List.mem_append_left _ hx)),
      trodAll_stays hl hb (by simpa using hr.2) h2 (fun x hx => hlt x (List.mem_append_right _ hx)) (fun x hx => hs x (List.mem_append_right _ hx)), rfl⟩
  | [], _ :: _, _, _, _, h, _, _ => h.elim
  | [], [], _ :: _, _, _, h, _, _ => h.elim
  | _ :: _, [], _, _, _, h, _, _ => h.elim
  | _ :: _, _ :: _, [], _, _, h, _, _ => h.elim
/-- THE LAST STEP: the call answered true, and all that lay there before is as it was -/
theorem post_true {f : Func} {s : ChangeSpec} {apart fresh handsOn again : Bool} {W W' : World} {args : Array Value} {ds gs : List (DataW H)} {before : List MemPlace} {tb : TypeId}
    (hl : laidOutB P = true) (htb : P.underlying tb = some .bool) (hrt : f.resultTypes = #[tb]) (hr : (f.params.toList.all fun t => P.readableRec t && decide (t < P.types.size)) = true) (hv : s.vars = [])
    (hW : DataW.Whole enc P f.params.toList s.vars apart W args.toList ds gs before) (hfn : s.fn H (ds ++ gs) = { results := [.lit (.bool true)], args := ds }) (hb : Below W.heap.size W W') :
    s.post enc P f apart fresh handsOn again W args (.bool true) W' := by
  have hlt : ∀ p ∈ before, p.block < W.heap.size := fun p hp => hW.lt p hp
  have hW' := hW
  obtain ⟨p, q, hA, hV, rfl, _, _⟩ := hW
  rw [hv] at hV
  obtain ⟨rfl, rfl⟩ := trodVars_none hV
  refine post_of_below (pa := p) (pv := []) hW' (fun b sp hd => ?_) (fun sp hs => ?_) (fun sp _ => ?_) rfl hb (ok_one hrt rfl (okWide_bool_mk htb _))
  · rw [hfn, hrt]
    exact trodAll_cons_mk (shut_bool htb _) trodAll_mk0
  · rw [hfn]
    exact trodAll_stays hl hb hr hA (fun x hx => hlt x (by simp [hx])) (fun x hx => hs x (by simp [hx]))
  · rw [hfn, hv]
    exact rfl

/-- there is an input that fits: the listed variables laid by the kit's own function -/
theorem witness_laid {C : Checked} {os : Os} {f : FuncId} {fn : Func} {s : OpenSpec} {conds : List PathCond} {apart : Bool} {laid : List (String × DataW Unit)} (modest : Bool) (w0 : World) (args : Array Value) (hos : w0.os = os)
    (hsh : (w0.forCall (fun _ _ => 0) ⟨#[], args, []⟩).Shaped C.prog)
    (hok : Input.okWideB C.prog (w0.forCall (fun _ _ => 0) ⟨#[], args, []⟩) f ⟨#[], args, []⟩ = true)
    (hrow : s.preRow enc C.prog fn conds apart laid (w0.forCall (fun _ _ => 0) ⟨#[], args, []⟩).memory args) :
    ∃ (w : World) (tape : Tape) (i : Input), w.os = os ∧ (w.forCall tape i).Shaped C.prog ∧ i.vars = [] ∧ Input.okWide C.prog (w.forCall tape i) .any w.heap.size f i ∧
      s.preRow enc C.prog fn conds apart laid (w.forCall tape i).memory i.args ∧ ({ modest := modest } : Assume).holds C.prog (lone (Frame.enter C.prog f i.args .normal) [] (w.forCall tape i)) :=
  ⟨w0, fun _ _ => 0, ⟨#[], args, []⟩, hos, hsh, (Input.okWide_of_okWideB (base := 0) hok).1, (Input.okWide_of_okWideB hok).2, hrow, by
    simp only [Assume.holds]
    exact ⟨by simp, by simp, fun _ => Modest.zero, by simp, by simp⟩⟩

/-- what the bound gives -/
theorem one_le (d : DataW H) : 1 ≤ Rows.uptoBulk d := by
  cases d with
  | lit l => cases l <;> simp [Rows.uptoBulk]
  | nil => simp [Rows.uptoBulk]
  | ptr d => simp [Rows.uptoBulk]
  | slice elems spare => simp [Rows.uptoBulk]
  | agg parts => simp [Rows.uptoBulk]
  | iface t d => simp [Rows.uptoBulk]
  | map entries => simp [Rows.uptoBulk]
  | held h => simp [Rows.uptoBulk]
theorem part_le {d : DataW H} {l : List (DataW H)} (h : d ∈ l) : Rows.uptoBulk d ≤ Rows.uptoBulkAll l := by
  induction l with
  | nil => cases h
  | cons x r ih =>
    simp only [Rows.uptoBulkAll]
    cases List.mem_cons.1 h with
    | inl e => subst e; omega
    | inr e => have := ih e; omega
theorem length_le (l : List (DataW H)) : l.length ≤ Rows.uptoBulkAll l := by
  induction l with
  | nil => simp [Rows.uptoBulkAll]
  | cons x r ih => have := one_le x; simp only [Rows.uptoBulkAll, List.length_cons]; omega
theorem slice_le (elems spare : List (DataW H)) : elems.length + 1 ≤ Rows.uptoBulk (.slice elems spare) := by
  have h1 := length_le elems
  simp only [Rows.uptoBulk]
  omega
theorem slice_elems (elems spare : List (DataW H)) : Rows.uptoBulkAll elems + 1 ≤ Rows.uptoBulk (.slice elems spare) := by
  simp only [Rows.uptoBulk]
  omega
theorem agg_parts (ps : List (DataW H)) : Rows.uptoBulkAll ps ≤ Rows.uptoBulk (.agg ps) := by
  simp only [Rows.uptoBulk]
  omega
theorem upto_bound {l : List (DataW H)} (hk : Rows.uptoSmall H l = true) : Rows.uptoBulkAll l ≤ 1048576 := of_decide_eq_true hk
end
end Go.Proofs.YteklldbfdmaafaaDoor
/-
  Errors compared; the table of the check sum out of the row's list.
-/
namespace Go.Proofs.YteklldbfdmaafaaDoor
open Go Go.RowKit
/-- WHAT THE ROW's LIST GIVES: the table of the check sum -/
theorem nibs_of_laid (at_ : Nat) {laid : List (String × DataW Unit)} {W : World} (hp : (laid.all fun x => x.2.handleName?.isNone) = true) (hi : laid[at_]? = some ("remit/checks.nibbles", Lib.tabData .u32 nibT)) (h : laidMetH Tryd.prog laid W) : NibAt W := by
  rw [MakeChecks.laidMetH_plain _ _ _ hp] at h
  obtain ⟨ps, hL, hnd, _⟩ := h
  obtain ⟨pl, h1, _⟩ := laidVars_at hL hnd
  obtain ⟨g, t, cs, fuel, a1, a2, a3, a4, _, _⟩ := h1 _ _ _ hi
  obtain rfl := Option.some.inj ((show Tryd.prog.globalNamed "remit/checks.nibbles" = some 37 by kernel_rfl).symm.trans a1)
  obtain rfl := Option.some.inj ((show (Tryd.prog.globals[37]?).map (·.type) = some 203 by kernel_rfl).symm.trans a2)
  have hcs := Lib.cells_of_tab Tryd.underlying203 Tryd.underlying182 (by kernel_rfl) (by kernel_rfl) a4
  intro i hi'
  have := World.var?_cell a1 a3 i
  rw [this]
  have e : cs[i]? = cs.toList[i]? := by simp
  rw [e, hcs]
  have hn : i < nibT.length := hi'
  simp [List.getD, hn]
end Go.Proofs.YteklldbfdmaafaaDoor
/-
  The package area: places, Room, Sectors, Write, Read, as plain data, and their contracts; the law's texts.
-/
namespace Go.Proofs.YteklldbfdmaafaaDoor
open Go Go.RowKit
def xshA (x : Int) : Int := bits .xor .u64 x (IntKind.u64.wrap (x * 2 ^ (min (13 : Int).toNat IntKind.u64.bits)))
def xshB (x : Int) : Int := bits .xor .u64 x (x.fdiv (2 ^ (min (7 : Int).toNat IntKind.u64.bits)))
def xshC (x : Int) : Int := bits .xor .u64 x (IntKind.u64.wrap (x * 2 ^ (min (17 : Int).toNat IntKind.u64.bits)))
def xsh (x : Int) : Int := xshC (xshB (xshA x))
def lowB (x : Int) : UInt8 := UInt8.ofNat (x % 256).toNat
theorem lowB_int (x : Int) : IntKind.u8.wrap x = ((lowB x).toNat : Int) := by
  have e : IntKind.u8.wrap x = x % 256 := rfl
  unfold lowB
  rw [e, UInt8.toNat_ofNat']
  omega
def xshs (x : Int) : Nat → Int
  | 0 => x
  | n + 1 => xshs (xsh x) n
def textB (x : Int) : Nat → List UInt8
  | 0 => []
  | n + 1 => lowB (xsh x) :: textB (xsh x) n
theorem textB_length (n : Nat) : ∀ x, (textB x n).length = n := by
  induction n with
  | zero => intro; rfl
  | succ n ih => intro x; simp [textB, ih]
theorem xshs_next (n : Nat) : ∀ x, xshs x (n + 1) = xsh (xshs x n) := by
  induction n with
  | zero => intro; rfl
  | succ n ih => intro x; exact ih (xsh x)
theorem textB_next (n : Nat) : ∀ x, textB x (n + 1) = textB x n ++ [lowB (xsh (xshs x n))] := by
  induction n with
  | zero => intro; rfl
  | succ n ih => intro x; exact congrArg (lowB (xsh x) :: ·) (ih (xsh x))
def seedX (seed : Int) : Int := IntKind.u64.wrap (IntKind.u64.wrap (seed * 11400714819323198485) + 1)
def textL (seed : Int) (n : Nat) : List UInt8 := textB (seedX seed) n
theorem textL_length (seed : Int) (n : Nat) : (textL seed n).length = n := textB_length n _
theorem lay_zs (l : List UInt8) (k m : Nat) (c : UInt8) (hl : l.length = k) : lay (bvs (l ++ zs (m + 1))) k [bv c] = bvs (l ++ [c] ++ zs m) := by
  subst hl
  have e := bvs_lay (l ++ zs (m + 1)) [c] l.length
  have e2 : lay (l ++ zs (m + 1)) l.length [c] = l ++ [c] ++ zs m := by
    unfold lay
    rw [List.take_left' rfl, List.drop_append, List.drop_of_length_le (by simp)]
    simp [zs, List.replicate_succ]
  rw [e2] at e
  exact e

section
variable {W : World} {E : Nat → Addr} {p : Nat} {D : Dsk}
set_option maxHeartbeats 400000 in
set_option maxRecDepth 100000 in
theorem text_ct (seed : Int) (n : Nat) (hn : n ≤ 1048576) : Ct Tryd.prog W 54 [.int .u64 seed, .int .i64 (n : Nat)] [] (fun _ : Unit => strV (textL seed n)) (fun _ => []) := by
  obtain ⟨x0, hx0⟩ : ∃ x, x = seedX seed := ⟨_, rfl⟩
  have eT : textL seed n = textB x0 n := by rw [hx0]; rfl
  rw [eT]
  clear eT
  refine Ct.enter Tryd.func54 rfl Tryd.ntmps54 (by simp) (fun R => ?_)
  repeat' (first 
    | refine KJ_stp (by first | constructor | fail) ?_
    | (refine is_oper ?_; first | (refine is_store ?_; first | (refine KJ_store rfl rfl (by (repeat' (first | exact Sel.here | apply Sel.there)); first | done | fail) (by first | exact CellsOf.agg | exact CellsOf.one rfl) (by rfl) (by (repeat' (first | exact Ones.nil | exact Ones_bvs _ | refine Ones.cons rfl ?_)); first | done | fail) (by (repeat' (first | exact Laid.nil | apply Laid.cons | apply Laid.skip)); first | done | fail) (by (repeat' (first | exact Rep.here | apply Rep.there)); first | done | fail) ?_)) | (refine is_mkSlice ?_; first | (refine KJ_makeBytes rfl rfl rfl (by omega) rfl (fun g => ?_))) | (refine KJ_ek rfl ?_) | (refine KJ_ek0 ?_))
    | (refine is_ek ?_; first | (refine ek_move ?_; first | (refine EK_ev (Ev_move rfl) ?_)) | (refine ek_assign ?_; first | (refine EK_ev ((by first | exact Ev_assign (v := .int .u64 (seedX seed)) rfl | exact Ev_assign rfl)) ?_) | (refine EK_ev (Ev_assign rfl) ?_)) | (refine ek_conv ?_; first | (refine EK_ev (Ev_convI64 rfl (by omega)) ?_) | (refine EK_ev (Ev_convI rfl) ?_) | (refine EK_ev (Ev_convS rfl) ?_)) | (refine ek_indexAddr ?_; first | (refine EK_ev (Ev_indexSlice rfl rfl (by omega)) ?_) | (refine EK_ev (Ev_indexArr rfl rfl (by omega)) ?_)) | (refine ek_len ?_; first | (refine EK_ev (Ev_len_str rfl) ?_) | (refine EK_ev (Ev_len_slice rfl) ?_) | (refine EK_ev (Ev_len_arr rfl) ?_) | (refine EK_ev (Ev_len_map rfl (by (repeat' (first | exact Sel.here | apply Sel.there)); first | done | fail)) ?_)) | (refine ek_add ?_; first | (refine EK_ev (Ev_addI rfl rfl (by omega)) ?_) | (refine EK_ev (Ev_addS rfl rfl (by simp <;> omega)) ?_) | (refine EK_ev (Ev_add rfl rfl) ?_)) | (refine ek_mul ?_; first | (refine EK_ev (Ev_mulI rfl rfl (by omega)) ?_) | (refine EK_ev (Ev_mul rfl rfl) ?_)) | (refine ek_shl ?_; first | (refine EK_ev (Ev_shl rfl rfl (by omega)) ?_)) | (refine ek_shr ?_; first | (refine EK_ev (Ev_shr rfl rfl (by omega)) ?_)) | (refine ek_lss ?_; first | (refine EK_ev (Ev_lssI rfl rfl) ?_) | (refine EK_ev (Ev_lssS rfl rfl) ?_)))
    | (refine is_ex ?_; first | (refine KJ_blk_exit' rfl ?_))
    | (refine is_code ?_; first | (refine KJ_cond_dec rfl (fun _ => ?_) (fun _ => ?_) <;> first | (exfalso; omega) | skip) | (refine KJ_cond_t rfl ?_) | (refine KJ_cond_f rfl ?_)))
  rw [← hx0]
  refine KJ_loop (fun i : {k : Nat // k ≤ n} => [(5, .slice (some ⟨g, 0, none⟩) n n), (6, .int .u64 (xshs x0 i.1)), (14, .int .i64 (n : Nat)), (15, .int .i64 (i.1 : Nat))]) (fun i => [cellsP g (bvs (textB x0 i.1 ++ zs (n - i.1))) 5] ++ R) (fun i => n - i.1) ⟨0, by omega⟩ (by (repeat' (first | exact Subs.nil | refine Subs.cons rfl ?_)); first | done | fail) (by show ∀ h, starL (cellsP g (bvs (zs n)) 5 :: R) h → _; exact (Ent.of (by (repeat' (first | exact Pick.nil | apply Pick.cons | exact Sel.here | apply Sel.there)); first | done | fail) (by (repeat' (first | exact DropTo.refl | apply DropTo.there)); first | done | fail))) (fun ⟨k, hk⟩ => ?_)
  dsimp only
  by_cases hlt : k < n
  · have hlen := textB_length k x0
    have hzl : (zs (n - k)).length = n - k := by simp [zs]
    have hcv : IntKind.u8.wrap (xsh (xshs x0 k)) = ((lowB (xsh (xshs x0 k))).toNat : Int) := lowB_int _
    have hfit : 0 + (k : Int).toNat * 1 + [Value.int IntKind.u8 ((lowB (xsh (xshs x0 k))).toNat : Int)].length ≤ (bvs (textB x0 k ++ zs (n - k))).length := by rw [bvs_length', List.length_append, hlen, hzl]; simp; omega
    repeat' (first 
    | refine KJ_stp (by first | constructor | fail) ?_
    | (refine is_oper ?_; first | (refine is_store ?_; first | (refine KJ_store (v := .int .u8 ((lowB (xsh (xshs x0 k))).toNat : Int)) rfl rfl (by (repeat' (first | exact Sel.here | apply Sel.there)); first | done | fail) (by first | exact CellsOf.agg | exact CellsOf.one rfl) (by rfl) (by (repeat' (first | exact Ones.nil | exact Ones_bvs _ | refine Ones.cons rfl ?_)); first | done | fail) (Laid.of hfit) (by (repeat' (first | exact Rep.here | apply Rep.there)); first | done | fail) ?_) | (refine KJ_store rfl rfl (by (repeat' (first | exact Sel.here | apply Sel.there)); first | done | fail) (by first | exact CellsOf.agg | exact CellsOf.one rfl) (by rfl) (by (repeat' (first | exact Ones.nil | exact Ones_bvs _ | refine Ones.cons rfl ?_)); first | done | fail) (by (repeat' (first | exact Laid.nil | apply Laid.cons | apply Laid.skip)); first | done | fail) (by (repeat' (first | exact Rep.here | apply Rep.there)); first | done | fail) ?_)) | (refine KJ_ek rfl ?_) | (refine KJ_ek0 ?_))
    | (refine is_ek ?_; first | (refine ek_move ?_; first | (refine EK_ev (Ev_move rfl) ?_)) | (refine ek_assign ?_; first | (refine EK_ev ((by first | exact Ev_assign (v := .int .u64 (xshA (xshs x0 k))) rfl | exact Ev_assign rfl)) ?_) | (refine EK_ev (Ev_assign rfl) ?_)) | (refine ek_conv ?_; first | (refine EK_ev (Ev_convI_v rfl hcv) ?_) | (refine EK_ev (Ev_convI64 rfl (by omega)) ?_) | (refine EK_ev (Ev_convI rfl) ?_) | (refine EK_ev (Ev_convS rfl) ?_)) | (refine ek_indexAddr ?_; first | (refine EK_ev (Ev_indexSlice rfl rfl (by omega)) ?_) | (refine EK_ev (Ev_indexArr rfl rfl (by omega)) ?_)) | (refine ek_len ?_; first | (refine EK_ev (Ev_len_str rfl) ?_) | (refine EK_ev (Ev_len_slice rfl) ?_) | (refine EK_ev (Ev_len_arr rfl) ?_) | (refine EK_ev (Ev_len_map rfl (by (repeat' (first | exact Sel.here | apply Sel.there)); first | done | fail)) ?_)) | (refine ek_add ?_; first | (refine EK_ev (Ev_addI rfl rfl (by omega)) ?_) | (refine EK_ev (Ev_addS rfl rfl (by simp <;> omega)) ?_) | (refine EK_ev (Ev_add rfl rfl) ?_)) | (refine ek_mul ?_; first | (refine EK_ev (Ev_mulI rfl rfl (by omega)) ?_) | (refine EK_ev (Ev_mul rfl rfl) ?_)) | (refine ek_xor ?_; first | (refine EK_ev (Ev_xor rfl rfl) ?_)) | (refine ek_shl ?_; first | (refine EK_ev (Ev_shl rfl rfl (by omega)) ?_)) | (refine ek_shr ?_; first | (refine EK_ev (Ev_shr rfl rfl (by omega)) ?_)) | (refine ek_lss ?_; first | (refine EK_ev (Ev_lssI rfl rfl) ?_) | (refine EK_ev (Ev_lssS rfl rfl) ?_)))
    | (refine is_ex ?_; first | (refine KJ_blk_exit' rfl ?_))
    | (refine is_code ?_; first | (refine KJ_cond_dec rfl (fun _ => ?_) (fun _ => ?_) <;> first | (exfalso; omega) | skip) | (refine KJ_cond_t rfl ?_) | (refine KJ_cond_f rfl ?_)))
    refine KJ_again ⟨k + 1, by omega⟩ (by show n - (k + 1) < n - k; omega) (by rw [xshs_next]; exact (by (repeat' (first | exact Subs.nil | refine Subs.cons rfl ?_)); first | done | fail)) ?_
    have e3 : 0 + (k : Int).toNat * 1 = k := by simp
    have e := lay_zs (textB x0 k) k (n - k - 1) (lowB (xsh (xshs x0 k))) hlen
    rw [show n - k - 1 + 1 = n - k by omega, ← textB_next] at e
    rw [e3]
    have e2 : lay (bvs (textB x0 k ++ zs (n - k))) k [Value.int IntKind.u8 ((lowB (xsh (xshs x0 k))).toNat : Int)] = bvs (textB x0 (k + 1) ++ zs (n - (k + 1))) := by
      rw [show n - (k + 1) = n - k - 1 by omega]; exact e
    rw [e2]
    exact (Ent.of (by (repeat' (first | exact Pick.nil | apply Pick.cons | exact Sel.here | apply Sel.there)); first | done | fail) (by (repeat' (first | exact DropTo.refl | apply DropTo.there)); first | done | fail))
  · have hkn : k = n := by omega
    subst hkn
    have e0 : textB x0 k ++ zs (k - k) = textB x0 k := by simp [zs]
    rw [e0]
    repeat' (first 
    | refine KJ_stp (by first | constructor | fail) ?_
    | (refine is_oper ?_; first | (refine is_store ?_; first | (refine KJ_store rfl rfl (by (repeat' (first | exact Sel.here | apply Sel.there)); first | done | fail) (by first | exact CellsOf.agg | exact CellsOf.one rfl) (by rfl) (by (repeat' (first | exact Ones.nil | exact Ones_bvs _ | refine Ones.cons rfl ?_)); first | done | fail) (by (repeat' (first | exact Laid.nil | apply Laid.cons | apply Laid.skip)); first | done | fail) (by (repeat' (first | exact Rep.here | apply Rep.there)); first | done | fail) ?_)) | (refine KJ_ek rfl ?_) | (refine KJ_ek0 ?_))
    | (refine is_ek ?_; first | (refine ek_move ?_; first | (refine EK_ev (Ev_move rfl) ?_)) | (refine ek_assign ?_; first | (refine EK_ev (Ev_assign rfl) ?_)) | (refine ek_conv ?_; first | (refine EK_ev (Ev_bytesAll rfl (by (repeat' (first | exact Sel.here | apply Sel.there)); first | done | fail) (textB_length _ _)) ?_) | (refine EK_ev (Ev_convI64 rfl (by omega)) ?_) | (refine EK_ev (Ev_convI rfl) ?_) | (refine EK_ev (Ev_convS rfl) ?_)) | (refine ek_indexAddr ?_; first | (refine EK_ev (Ev_indexSlice rfl rfl (by omega)) ?_) | (refine EK_ev (Ev_indexArr rfl rfl (by omega)) ?_)) | (refine ek_len ?_; first | (refine EK_ev (Ev_len_str rfl) ?_) | (refine EK_ev (Ev_len_slice rfl) ?_) | (refine EK_ev (Ev_len_arr rfl) ?_) | (refine EK_ev (Ev_len_map rfl (by (repeat' (first | exact Sel.here | apply Sel.there)); first | done | fail)) ?_)) | (refine ek_add ?_; first | (refine EK_ev (Ev_addI rfl rfl (by omega)) ?_) | (refine EK_ev (Ev_addS rfl rfl (by simp <;> omega)) ?_) | (refine EK_ev (Ev_add rfl rfl) ?_)) | (refine ek_mul ?_; first | (refine EK_ev (Ev_mulI rfl rfl (by omega)) ?_) | (refine EK_ev (Ev_mul rfl rfl) ?_)) | (refine ek_shl ?_; first | (refine EK_ev (Ev_shl rfl rfl (by omega)) ?_)) | (refine ek_shr ?_; first | (refine EK_ev (Ev_shr rfl rfl (by omega)) ?_)) | (refine ek_lss ?_; first | (refine EK_ev (Ev_lssI rfl rfl) ?_) | (refine EK_ev (Ev_lssS rfl rfl) ?_)))
    | (refine is_ex ?_; first | (refine KJ_blk_exit' rfl ?_))
    | (refine is_code ?_; first | (refine KJ_cond_dec rfl (fun _ => ?_) (fun _ => ?_) <;> first | (exfalso; omega) | skip) | (refine KJ_cond_t rfl ?_) | (refine KJ_cond_f rfl ?_)))
    all_goals (refine is_ex ?_; exact KJ_done (by first | exact Or.inl rfl | exact Or.inr rfl) rfl (by (repeat' (first | exact Rvs.nil | (apply Rvs.tmp; exact rfl))); first | done | fail) () (by rfl) (Ent.of (by (repeat' (first | exact Pick.nil | apply Pick.cons | exact Sel.here | apply Sel.there)); first | done | fail) (by (repeat' (first | exact DropTo.refl | apply DropTo.there)); first | done | fail)))
end
def roomI (n : Int) : Int := 234 * min (max n 0) 65536
def sectorsI (b : Int) : Int := if b ≤ 0 then 0 else (b - 1) / 234 + 1
section
variable {W : World} {E : Nat → Addr} {p : Nat} {D : Dsk}
theorem room9_ct (n : Int) : Ct Tryd.prog W 51 [.int .i64 n] [] (fun _ : Unit => .int .i64 (roomI n)) (fun _ => []) := by
  have hb : 0 ≤ min (max n 0) 65536 ∧ min (max n 0) 65536 ≤ 65536 := by omega
  refine Ct.enter Tryd.func51 rfl Tryd.ntmps51 (by simp) (fun R => ?_)
  repeat' (first 
    | refine KJ_stp (by first | constructor | fail) ?_
    | (refine is_oper ?_; first | (refine KJ_ek rfl ?_) | (refine KJ_ek0 ?_))
    | (refine is_ek ?_; first | (refine ek_move ?_; first | (refine EK_ev (Ev_move rfl) ?_)) | (refine ek_assign ?_; first | (refine EK_ev (Ev_assign rfl) ?_)) | (refine ek_min ?_; first | (refine EK_ev (Ev_min rfl rfl) ?_)) | (refine ek_max ?_; first | (refine EK_ev (Ev_max rfl rfl) ?_)) | (refine ek_mul ?_; first | (refine EK_ev (Ev_mulI_v (r := roomI n) rfl rfl rfl (by unfold roomI; omega)) ?_) | (refine EK_ev (Ev_mulI rfl rfl (by omega)) ?_) | (refine EK_ev (Ev_mul rfl rfl) ?_)))
    | (refine is_ex ?_; first | (refine KJ_blk_exit' rfl ?_))
    | (refine is_code ?_; first | (refine KJ_cond_dec rfl (fun _ => ?_) (fun _ => ?_) <;> first | (exfalso; omega) | skip) | (refine KJ_cond_t rfl ?_) | (refine KJ_cond_f rfl ?_)))
  all_goals (refine is_ex ?_; exact KJ_done (by first | exact Or.inl rfl | exact Or.inr rfl) rfl (by (repeat' (first | exact Rvs.nil | (apply Rvs.tmp; exact rfl))); first | done | fail) () (by rfl) (Ent.of (by (repeat' (first | exact Pick.nil | apply Pick.cons | exact Sel.here | apply Sel.there)); first | done | fail) (by (repeat' (first | exact DropTo.refl | apply DropTo.there)); first | done | fail)))
theorem room9r_ct (n : Int) : Ct Tryd.prog W 52 [.int .i64 n] [] (fun _ : Unit => .int .i64 (roomI n)) (fun _ => []) := by
  have hb : 0 ≤ min (max n 0) 65536 ∧ min (max n 0) 65536 ≤ 65536 := by omega
  refine Ct.enter Tryd.func52 rfl Tryd.ntmps52 (by simp) (fun R => ?_)
  repeat' (first 
    | refine KJ_stp (by first | constructor | fail) ?_
    | (refine is_oper ?_; first | (refine KJ_ek rfl ?_) | (refine KJ_ek0 ?_))
    | (refine is_ek ?_; first | (refine ek_move ?_; first | (refine EK_ev (Ev_move rfl) ?_)) | (refine ek_assign ?_; first | (refine EK_ev (Ev_assign rfl) ?_)) | (refine ek_min ?_; first | (refine EK_ev (Ev_min rfl rfl) ?_)) | (refine ek_max ?_; first | (refine EK_ev (Ev_max rfl rfl) ?_)) | (refine ek_mul ?_; first | (refine EK_ev (Ev_mulI_v (r := roomI n) rfl rfl rfl (by unfold roomI; omega)) ?_) | (refine EK_ev (Ev_mulI rfl rfl (by omega)) ?_) | (refine EK_ev (Ev_mul rfl rfl) ?_)))
    | (refine is_ex ?_; first | (refine KJ_blk_exit' rfl ?_))
    | (refine is_code ?_; first | (refine KJ_cond_dec rfl (fun _ => ?_) (fun _ => ?_) <;> first | (exfalso; omega) | skip) | (refine KJ_cond_t rfl ?_) | (refine KJ_cond_f rfl ?_)))
  all_goals (refine is_ex ?_; exact KJ_done (by first | exact Or.inl rfl | exact Or.inr rfl) rfl (by (repeat' (first | exact Rvs.nil | (apply Rvs.tmp; exact rfl))); first | done | fail) () (by rfl) (Ent.of (by (repeat' (first | exact Pick.nil | apply Pick.cons | exact Sel.here | apply Sel.there)); first | done | fail) (by (repeat' (first | exact DropTo.refl | apply DropTo.there)); first | done | fail)))
theorem sectors9_ct (b : Int) (hb : b ≤ 9223372036854775807) : Ct Tryd.prog W 50 [.int .i64 b] [] (fun _ : Unit => .int .i64 (sectorsI b)) (fun _ => []) := by
  by_cases h : b ≤ 0
  · have q : decide (b ≤ 0) = true := decide_eq_true h
    rw [show sectorsI b = 0 from if_pos h]
    refine Ct.enter Tryd.func50 rfl Tryd.ntmps50 (by simp) (fun R => ?_)
    repeat' (first 
    | refine KJ_stp (by first | constructor | fail) ?_
    | (refine is_oper ?_; first | (refine KJ_ek rfl ?_) | (refine KJ_ek0 ?_))
    | (refine is_ek ?_; first | (refine ek_move ?_; first | (refine EK_ev (Ev_move rfl) ?_)) | (refine ek_assign ?_; first | (refine EK_ev (Ev_assign rfl) ?_)) | (refine ek_add ?_; first | (refine EK_ev (Ev_addI rfl rfl (by omega)) ?_) | (refine EK_ev (Ev_addS rfl rfl (by simp <;> omega)) ?_) | (refine EK_ev (Ev_add rfl rfl) ?_)) | (refine ek_sub ?_; first | (refine EK_ev (Ev_subI rfl rfl (by omega)) ?_) | (refine EK_ev (Ev_sub rfl rfl) ?_)) | (refine ek_quo ?_; first | (refine EK_ev (Ev_quoI rfl rfl (by omega)) ?_) | (refine EK_ev (Ev_quo rfl rfl (by omega)) ?_)) | (refine ek_leq ?_; first | (refine EK_ev (Ev_leqI_q rfl rfl q) ?_) | (refine EK_ev (Ev_leqI rfl rfl) ?_) | (refine EK_ev (Ev_leqS rfl rfl) ?_)))
    | (refine is_ex ?_; first | (refine KJ_blk_exit' rfl ?_))
    | (refine is_code ?_; first | (refine KJ_cond_dec rfl (fun _ => ?_) (fun _ => ?_) <;> first | (exfalso; omega) | skip) | (refine KJ_cond_t rfl ?_) | (refine KJ_cond_f rfl ?_)))
    all_goals (refine is_ex ?_; exact KJ_done (by first | exact Or.inl rfl | exact Or.inr rfl) rfl (by (repeat' (first | exact Rvs.nil | (apply Rvs.tmp; exact rfl))); first | done | fail) () (by rfl) (Ent.of (by (repeat' (first | exact Pick.nil | apply Pick.cons | exact Sel.here | apply Sel.there)); first | done | fail) (by (repeat' (first | exact DropTo.refl | apply DropTo.there)); first | done | fail)))
  · have q : decide (b ≤ 0) = false := decide_eq_false h
    rw [show sectorsI b = (b - 1) / 234 + 1 from if_neg h]
    refine Ct.enter Tryd.func50 rfl Tryd.ntmps50 (by simp) (fun R => ?_)
    repeat' (first 
    | refine KJ_stp (by first | constructor | fail) ?_
    | (refine is_oper ?_; first | (refine KJ_ek rfl ?_) | (refine KJ_ek0 ?_))
    | (refine is_ek ?_; first | (refine ek_move ?_; first | (refine EK_ev (Ev_move rfl) ?_)) | (refine ek_assign ?_; first | (refine EK_ev (Ev_assign rfl) ?_)) | (refine ek_add ?_; first | (refine EK_ev (Ev_addI rfl rfl (by omega)) ?_) | (refine EK_ev (Ev_addS rfl rfl (by simp <;> omega)) ?_) | (refine EK_ev (Ev_add rfl rfl) ?_)) | (refine ek_sub ?_; first | (refine EK_ev (Ev_subI rfl rfl (by omega)) ?_) | (refine EK_ev (Ev_sub rfl rfl) ?_)) | (refine ek_quo ?_; first | (refine EK_ev (Ev_quoI rfl rfl (by omega)) ?_) | (refine EK_ev (Ev_quo rfl rfl (by omega)) ?_)) | (refine ek_leq ?_; first | (refine EK_ev (Ev_leqI_q rfl rfl q) ?_) | (refine EK_ev (Ev_leqI rfl rfl) ?_) | (refine EK_ev (Ev_leqS rfl rfl) ?_)))
    | (refine is_ex ?_; first | (refine KJ_blk_exit' rfl ?_))
    | (refine is_code ?_; first | (refine KJ_cond_dec rfl (fun _ => ?_) (fun _ => ?_) <;> first | (exfalso; omega) | skip) | (refine KJ_cond_t rfl ?_) | (refine KJ_cond_f rfl ?_)))
    all_goals (refine is_ex ?_; exact KJ_done (by first | exact Or.inl rfl | exact Or.inr rfl) rfl (by (repeat' (first | exact Rvs.nil | (apply Rvs.tmp; exact rfl))); first | done | fail) () (by rfl) (Ent.of (by (repeat' (first | exact Pick.nil | apply Pick.cons | exact Sel.here | apply Sel.there)); first | done | fail) (by (repeat' (first | exact DropTo.refl | apply DropTo.there)); first | done | fail)))
end
/-- may n sectors from at on be? -/
def Dsk.mayB (D : Dsk) (at_ n : Int) : Bool := decide (0 ≤ at_ ∧ 0 ≤ n ∧ at_ ≤ D.n ∧ n ≤ D.n - at_)
section
variable {W : World} {E : Nat → Addr} {p : Nat} {D : Dsk}
theorem may_ct (at_ n : Int) (hn : D.n ≤ 65536) : Ct Tryd.prog W 86 [.pointer (some ⟨p, 0, none⟩), .int .i64 at_, .int .i64 n] [DiskP p D] (fun _ : Unit => .bool (D.mayB at_ n)) (fun _ => [DiskP p D]) := by
  have c1 : Ct Tryd.prog W 40 [.pointer (some ⟨p, 0, none⟩)] [DiskP p D] (fun _ : Unit => .int .i64 D.n) (fun _ => [DiskP p D]) := size_ct
  by_cases h1 : 0 ≤ at_
  · by_cases h2 : 0 ≤ n
    · by_cases h3 : at_ ≤ D.n
      · have hr : decide (n ≤ (D.n : Int) - at_) = D.mayB at_ n := by unfold Dsk.mayB; simp [h1, h2, h3]
        have q1 : decide (0 ≤ at_) = true := decide_eq_true h1
        have q2 : decide (0 ≤ n) = true := decide_eq_true h2
        have q3 : decide (at_ ≤ (D.n : Int)) = true := decide_eq_true h3
        refine Ct.enter Tryd.func86 rfl Tryd.ntmps86 (by simp) (fun R => ?_)
        repeat' (first 
    | refine KJ_stp (by first | constructor | fail) ?_
    | (refine is_list ?_; first | (refine KJ_guard_dec_t rfl rfl rfl (fun _ => ?_) (fun _ => ?_) <;> first | (exfalso; omega) | skip) | (refine KJ_guard_dec_f rfl rfl rfl (fun _ => ?_) (fun _ => ?_) <;> first | (exfalso; omega) | skip) | (refine KJ_guard_yes rfl rfl ?_) | (refine KJ_guard_no rfl rfl rfl rfl ?_))
    | (refine is_oper ?_; first | (refine is_call ?_; first | (refine KJ_call (by (repeat' (first | exact Evs.nil | refine Evs.cons rfl ?_)); first | done | fail) c1 (by (repeat' (first | exact Pick.nil | apply Pick.cons | exact Sel.here | apply Sel.there)); first | done | fail) rfl (fun _ => ?_))) | (refine KJ_ek rfl ?_) | (refine KJ_ek0 ?_))
    | (refine is_ek ?_; first | (refine ek_move ?_; first | (refine EK_ev (Ev_move rfl) ?_)) | (refine ek_assign ?_; first | (refine EK_ev (Ev_assign rfl) ?_)) | (refine ek_pick ?_; first | (refine EK_ev (Ev_pick_t rfl rfl) ?_) | (refine EK_ev (Ev_pick_f rfl rfl) ?_)) | (refine ek_sub ?_; first | (refine EK_ev (Ev_subI rfl rfl (by omega)) ?_) | (refine EK_ev (Ev_sub rfl rfl) ?_)) | (refine ek_leq ?_; first | (refine EK_ev (Ev_leqI_q rfl rfl q3) ?_) | (refine EK_ev (Ev_leqI_q rfl rfl hr) ?_) | (refine EK_ev (Ev_leqI rfl rfl) ?_) | (refine EK_ev (Ev_leqS rfl rfl) ?_)) | (refine ek_geq ?_; first | (refine EK_ev (Ev_geqI_q rfl rfl q1) ?_) | (refine EK_ev (Ev_geqI_q rfl rfl q2) ?_) | (refine EK_ev (Ev_geqI rfl rfl) ?_) | (refine EK_ev (Ev_geqS rfl rfl) ?_)))
    | (refine is_ex ?_; first | (refine KJ_blk_exit' rfl ?_))
    | (refine is_code ?_; first | (refine KJ_cond_dec rfl (fun _ => ?_) (fun _ => ?_) <;> first | (exfalso; omega) | skip) | (refine KJ_cond_t rfl ?_) | (refine KJ_cond_f rfl ?_)))
        all_goals (refine is_ex ?_; exact KJ_done (by first | exact Or.inl rfl | exact Or.inr rfl) rfl (by (repeat' (first | exact Rvs.nil | (apply Rvs.tmp; exact rfl))); first | done | fail) () (by rfl) (Ent.of (by (repeat' (first | exact Pick.nil | apply Pick.cons | exact Sel.here | apply Sel.there)); first | done | fail) (by (repeat' (first | exact DropTo.refl | apply DropTo.there)); first | done | fail)))
      · have hr : D.mayB at_ n = false := by unfold Dsk.mayB; simp [h3]
        have q1 : decide (0 ≤ at_) = true := decide_eq_true h1
        have q2 : decide (0 ≤ n) = true := decide_eq_true h2
        have q3 : decide (at_ ≤ (D.n : Int)) = false := decide_eq_false h3
        rw [hr]
        refine Ct.enter Tryd.func86 rfl Tryd.ntmps86 (by simp) (fun R => ?_)
        repeat' (first 
    | refine KJ_stp (by first | constructor | fail) ?_
    | (refine is_list ?_; first | (refine KJ_guard_dec_t rfl rfl rfl (fun _ => ?_) (fun _ => ?_) <;> first | (exfalso; omega) | skip) | (refine KJ_guard_dec_f rfl rfl rfl (fun _ => ?_) (fun _ => ?_) <;> first | (exfalso; omega) | skip) | (refine KJ_guard_yes rfl rfl ?_) | (refine KJ_guard_no rfl rfl rfl rfl ?_))
    | (refine is_oper ?_; first | (refine is_call ?_; first | (refine KJ_call (by (repeat' (first | exact Evs.nil | refine Evs.cons rfl ?_)); first | done | fail) c1 (by (repeat' (first | exact Pick.nil | apply Pick.cons | exact Sel.here | apply Sel.there)); first | done | fail) rfl (fun _ => ?_))) | (refine KJ_ek rfl ?_) | (refine KJ_ek0 ?_))
    | (refine is_ek ?_; first | (refine ek_move ?_; first | (refine EK_ev (Ev_move rfl) ?_)) | (refine ek_assign ?_; first | (refine EK_ev (Ev_assign rfl) ?_)) | (refine ek_pick ?_; first | (refine EK_ev (Ev_pick_t rfl rfl) ?_) | (refine EK_ev (Ev_pick_f rfl rfl) ?_)) | (refine ek_sub ?_; first | (refine EK_ev (Ev_subI rfl rfl (by omega)) ?_) | (refine EK_ev (Ev_sub rfl rfl) ?_)) | (refine ek_leq ?_; first | (refine EK_ev (Ev_leqI_q rfl rfl q3) ?_) | (refine EK_ev (Ev_leqI rfl rfl) ?_) | (refine EK_ev (Ev_leqS rfl rfl) ?_)) | (refine ek_geq ?_; first | (refine EK_ev (Ev_geqI_q rfl rfl q1) ?_) | (refine EK_ev (Ev_geqI_q rfl rfl q2) ?_) | (refine EK_ev (Ev_geqI rfl rfl) ?_) | (refine EK_ev (Ev_geqS rfl rfl) ?_)))
    | (refine is_ex ?_; first | (refine KJ_blk_exit' rfl ?_))
    | (refine is_code ?_; first | (refine KJ_cond_dec rfl (fun _ => ?_) (fun _ => ?_) <;> first | (exfalso; omega) | skip) | (refine KJ_cond_t rfl ?_) | (refine KJ_cond_f rfl ?_)))
        all_goals (refine is_ex ?_; exact KJ_done (by first | exact Or.inl rfl | exact Or.inr rfl) rfl (by (repeat' (first | exact Rvs.nil | (apply Rvs.tmp; exact rfl))); first | done | fail) () (by rfl) (Ent.of (by (repeat' (first | exact Pick.nil | apply Pick.cons | exact Sel.here | apply Sel.there)); first | done | fail) (by (repeat' (first | exact DropTo.refl | apply DropTo.there)); first | done | fail)))
    · have hr : D.mayB at_ n = false := by unfold Dsk.mayB; simp [h2]
      have q1 : decide (0 ≤ at_) = true := decide_eq_true h1
      have q2 : decide (0 ≤ n) = false := decide_eq_false h2
      rw [hr]
      refine Ct.enter Tryd.func86 rfl Tryd.ntmps86 (by simp) (fun R => ?_)
      repeat' (first 
    | refine KJ_stp (by first | constructor | fail) ?_
    | (refine is_list ?_; first | (refine KJ_guard_dec_t rfl rfl rfl (fun _ => ?_) (fun _ => ?_) <;> first | (exfalso; omega) | skip) | (refine KJ_guard_dec_f rfl rfl rfl (fun _ => ?_) (fun _ => ?_) <;> first | (exfalso; omega) | skip) | (refine KJ_guard_yes rfl rfl ?_) | (refine KJ_guard_no rfl rfl rfl rfl ?_))
    | (refine is_oper ?_; first | (refine KJ_ek rfl ?_) | (refine KJ_ek0 ?_))
    | (refine is_ek ?_; first | (refine ek_move ?_; first | (refine EK_ev (Ev_move rfl) ?_)) | (refine ek_assign ?_; first | (refine EK_ev (Ev_assign rfl) ?_)) | (refine ek_pick ?_; first | (refine EK_ev (Ev_pick_t rfl rfl) ?_) | (refine EK_ev (Ev_pick_f rfl rfl) ?_)) | (refine ek_sub ?_; first | (refine EK_ev (Ev_subI rfl rfl (by omega)) ?_) | (refine EK_ev (Ev_sub rfl rfl) ?_)) | (refine ek_leq ?_; first | (refine EK_ev (Ev_leqI rfl rfl) ?_) | (refine EK_ev (Ev_leqS rfl rfl) ?_)) | (refine ek_geq ?_; first | (refine EK_ev (Ev_geqI_q rfl rfl q1) ?_) | (refine EK_ev (Ev_geqI_q rfl rfl q2) ?_) | (refine EK_ev (Ev_geqI rfl rfl) ?_) | (refine EK_ev (Ev_geqS rfl rfl) ?_)))
    | (refine is_ex ?_; first | (refine KJ_blk_exit' rfl ?_))
    | (refine is_code ?_; first | (refine KJ_cond_dec rfl (fun _ => ?_) (fun _ => ?_) <;> first | (exfalso; omega) | skip) | (refine KJ_cond_t rfl ?_) | (refine KJ_cond_f rfl ?_)))
      all_goals (refine is_ex ?_; exact KJ_done (by first | exact Or.inl rfl | exact Or.inr rfl) rfl (by (repeat' (first | exact Rvs.nil | (apply Rvs.tmp; exact rfl))); first | done | fail) () (by rfl) (Ent.of (by (repeat' (first | exact Pick.nil | apply Pick.cons | exact Sel.here | apply Sel.there)); first | done | fail) (by (repeat' (first | exact DropTo.refl | apply DropTo.there)); first | done | fail)))
  · have hr : D.mayB at_ n = false := by unfold Dsk.mayB; simp [h1]
    have q1 : decide (0 ≤ at_) = false := decide_eq_false h1
    rw [hr]
    refine Ct.enter Tryd.func86 rfl Tryd.ntmps86 (by simp) (fun R => ?_)
    repeat' (first 
    | refine KJ_stp (by first | constructor | fail) ?_
    | (refine is_list ?_; first | (refine KJ_guard_dec_t rfl rfl rfl (fun _ => ?_) (fun _ => ?_) <;> first | (exfalso; omega) | skip) | (refine KJ_guard_dec_f rfl rfl rfl (fun _ => ?_) (fun _ => ?_) <;> first | (exfalso; omega) | skip) | (refine KJ_guard_yes rfl rfl ?_) | (refine KJ_guard_no rfl rfl rfl rfl ?_))
    | (refine is_oper ?_; first | (refine KJ_ek rfl ?_) | (refine KJ_ek0 ?_))
    | (refine is_ek ?_; first | (refine ek_move ?_; first | (refine EK_ev (Ev_move rfl) ?_)) | (refine ek_assign ?_; first | (refine EK_ev (Ev_assign rfl) ?_)) | (refine ek_pick ?_; first | (refine EK_ev (Ev_pick_t rfl rfl) ?_) | (refine EK_ev (Ev_pick_f rfl rfl) ?_)) | (refine ek_sub ?_; first | (refine EK_ev (Ev_subI rfl rfl (by omega)) ?_) | (refine EK_ev (Ev_sub rfl rfl) ?_)) | (refine ek_leq ?_; first | (refine EK_ev (Ev_leqI rfl rfl) ?_) | (refine EK_ev (Ev_leqS rfl rfl) ?_)) | (refine ek_geq ?_; first | (refine EK_ev (Ev_geqI_q rfl rfl q1) ?_) | (refine EK_ev (Ev_geqI rfl rfl) ?_) | (refine EK_ev (Ev_geqS rfl rfl) ?_)))
    | (refine is_ex ?_; first | (refine KJ_blk_exit' rfl ?_))
    | (refine is_code ?_; first | (refine KJ_cond_dec rfl (fun _ => ?_) (fun _ => ?_) <;> first | (exfalso; omega) | skip) | (refine KJ_cond_t rfl ?_) | (refine KJ_cond_f rfl ?_)))
    all_goals (refine is_ex ?_; exact KJ_done (by first | exact Or.inl rfl | exact Or.inr rfl) rfl (by (repeat' (first | exact Rvs.nil | (apply Rvs.tmp; exact rfl))); first | done | fail) () (by rfl) (Ent.of (by (repeat' (first | exact Pick.nil | apply Pick.cons | exact Sel.here | apply Sel.there)); first | done | fail) (by (repeat' (first | exact DropTo.refl | apply DropTo.there)); first | done | fail)))
end
end Go.Proofs.YteklldbfdmaafaaDoor
/-
  The package area: Write and Read over a disk, as plain data, and their contracts.
-/
namespace Go.Proofs.YteklldbfdmaafaaDoor
open Go Go.RowKit
section
variable {P : Program} {W : World} {n : Nat} {E : Env} {H R : List SP} {k : KK} {t u : TypeId} {x y z : Operand}
theorem Ev_min_v {kd : IntKind} {i j r : Int} {ts : Array TypeId} (hx : Env.ev E x = some (.int kd i)) (hy : Env.ev E y = some (.int kd j)) (h : min i j = r) : Ev P W n E H (.call { callee := .builtin .min, args := #[x, y], argTypes := ts }) (.int kd r) := by subst h; exact Ev_min hx hy
theorem Ev_sliceStrTo_v {l r : List UInt8} {j : Int} {kj : IntKind} (hx : Env.ev E x = some (strV l)) (hz : Env.ev E z = some (.int kj j)) [hu : UIs P t .string] (hb : 0 ≤ j ∧ j ≤ l.length) (h : l.take j.toNat = r) : Ev P W n E H (.slice t x none (some z) none) (strV r) := by subst h; exact Ev_sliceStrTo hx hz hb
theorem Ev_sliceStrFrom_v {l r : List UInt8} {i : Int} {ki : IntKind} (hx : Env.ev E x = some (strV l)) (hy : Env.ev E y = some (.int ki i)) [hu : UIs P t .string] (hb : 0 ≤ i ∧ i ≤ l.length) (h : l.drop i.toNat = r) : Ev P W n E H (.slice t x (some y) none none) (strV r) := by subst h; exact Ev_sliceStrFrom hx hy hb
theorem row0_star {e sz : Nat} : ∀ g, starL H g → starL (rowP (.slice none 0 0) e sz 0 [] :: H) g :=
  fun g q => ⟨fun _ => none, g, (fun _ _ q => by cases q), (fun _ _ q => by cases q), .rfl, ⟨by simp, .inl ⟨rfl, rfl⟩⟩, q⟩
theorem KJ.row0 {e sz : Nat} (h : KJ W n k E (rowP (.slice none 0 0) e sz 0 [] :: H)) : KJ W n k E H := ⟨fun a w q s => h.go a w q (s.mono row0_star)⟩
end
/-- the pieces of a value, one behind the other: the error, the disk -/
def awGo (at_ stamp : Int) : Nat → Dsk → Int → List UInt8 → Nat × Dsk
  | 0, D, _, _ => (D.flushE, D.flushD)
  | f + 1, D, i, v => if v = [] then (D.flushE, D.flushD) else if D.writeE (at_ + i) (sealB stamp (v.take 234)) ≠ 0 then (D.writeE (at_ + i) (sealB stamp (v.take 234)), D.writeD (at_ + i) (sealB stamp (v.take 234)))
      else awGo at_ stamp f (D.writeD (at_ + i) (sealB stamp (v.take 234))) (i + 1) (v.drop 234)
def areaW (D : Dsk) (at_ n stamp : Int) (v : List UInt8) : Nat × Dsk :=
  if D.mayB at_ n = false then (6, D) else if stamp = 0 then (6, D) else if roomI n < (v.length : Int) then (3, D) else if D.off then (12, D) else awGo at_ stamp v.length D 0 v
theorem awGo_nil (at_ stamp : Int) (f : Nat) (D : Dsk) (i : Int) : awGo at_ stamp f D i [] = (D.flushE, D.flushD) := by cases f <;> simp [awGo]

section
variable {W : World} {E : Nat → Addr} {p : Nat} {D : Dsk}
set_option maxHeartbeats 1000000 in
set_option maxRecDepth 100000 in
theorem awrite_ct (hE : ErrsOn L8 W E) (hN : NibAt W) (hn : D.n ≤ 65536) (hul : D.und.length + 65536 < 1073741823) (at_ n stamp : Int) (v : List UInt8) :
    Ct Tryd.prog W 55 [.pointer (some ⟨p, 0, none⟩), .int .i64 at_, .int .i64 n, .int .u64 stamp, strV v] [DiskP p D] (fun _ : Unit => errV E (areaW D at_ n stamp v).1) (fun _ => [DiskP p (areaW D at_ n stamp v).2]) := by
  have e3 : W.cell? ⟨0, 0, none⟩ = some (errV E 3) := hE.at_ 3 (by decide)
  have e6 : W.cell? ⟨3, 0, none⟩ = some (errV E 6) := hE.at_ 6 (by decide)
  have e12 : W.cell? ⟨2, 0, none⟩ = some (errV E 12) := hE.at_ 12 (by decide)
  have c1 := may_ct (W := W) (p := p) at_ n hn
  by_cases h1 : D.mayB at_ n = false
  · rw [show areaW D at_ n stamp v = (6, D) from if_pos h1]
    rw [h1] at c1
    refine Ct.enter Tryd.func55 rfl Tryd.ntmps55 (by simp) (fun R => ?_)
    repeat' (first 
    | refine KJ_stp (by first | constructor | fail) ?_
    | (refine is_list ?_; first | (refine KJ_guard_dec_t rfl rfl rfl (fun _ => ?_) (fun _ => ?_) <;> first | (exfalso; omega) | skip) | (refine KJ_guard_dec_f rfl rfl rfl (fun _ => ?_) (fun _ => ?_) <;> first | (exfalso; omega) | skip) | (refine KJ_guard_yes rfl rfl ?_) | (refine KJ_guard_no rfl rfl rfl rfl ?_))
    | (refine is_oper ?_; first | (refine is_call ?_; first | (refine KJ_call (by (repeat' (first | exact Evs.nil | refine Evs.cons rfl ?_)); first | done | fail) c1 (by (repeat' (first | exact Pick.nil | apply Pick.cons | exact Sel.here | apply Sel.there)); first | done | fail) rfl (fun _ => ?_))) | (refine KJ_ek rfl ?_) | (refine KJ_ek0 ?_))
    | (refine is_ek ?_; first | (refine ek_move ?_; first | (refine EK_ev (Ev_move rfl) ?_)) | (refine ek_assign ?_; first | (refine EK_ev (Ev_assign rfl) ?_)) | (refine ek_pick ?_; first | (refine EK_ev (Ev_pick_t rfl rfl) ?_) | (refine EK_ev (Ev_pick_f rfl rfl) ?_)) | (refine ek_load ?_; first | (refine EK_ev (Ev_loadOld rfl e6) ?_) | (refine EK_ev (Ev_load rfl (by (repeat' (first | exact Sel.here | apply Sel.there)); first | done | fail) (by rfl)) ?_) | (refine EK_ev (Ev_loadOld rfl (by assumption)) ?_) | (refine EK_ev (Ev_loadAgg rfl (by (repeat' (first | exact Sel.here | apply Sel.there)); first | done | fail) (by (repeat' (first | exact Cut.nil | apply Cut.cons | apply Cut.skip)); first | done | fail)) ?_)) | (refine ek_un ?_; first | (refine EK_ev (Ev_notD rfl) ?_) | (refine EK_ev (Ev_not rfl) ?_) | (refine EK_ev (Ev_neg rfl) ?_)) | (refine ek_extract ?_; first | (refine EK_ev (Ev_extract rfl rfl) ?_)) | (refine ek_len ?_; first | (refine EK_ev (Ev_len_str rfl) ?_) | (refine EK_ev (Ev_len_slice rfl) ?_) | (refine EK_ev (Ev_len_arr rfl) ?_) | (refine EK_ev (Ev_len_map rfl (by (repeat' (first | exact Sel.here | apply Sel.there)); first | done | fail)) ?_)) | (refine ek_min ?_; first | (refine EK_ev (Ev_min rfl rfl) ?_)) | (refine ek_add ?_; first | (refine EK_ev (Ev_addI rfl rfl (by omega)) ?_) | (refine EK_ev (Ev_addS rfl rfl (by simp <;> omega)) ?_) | (refine EK_ev (Ev_add rfl rfl) ?_)) | (refine ek_eql ?_; first | (refine EK_ev (Ev_eqlI rfl rfl) ?_) | (refine EK_ev (Ev_eqlS rfl rfl) ?_) | (refine EK_ev (Ev_eqlNil rfl rfl) ?_) | (refine EK_ev (Ev_eqlB rfl rfl) ?_) | (refine EK_ev (Ev_eqlO rfl rfl rfl (fun _ => rfl)) ?_)) | (refine ek_neq ?_; first | (refine EK_ev (Ev_neqI rfl rfl) ?_) | (refine EK_ev (Ev_neqS rfl rfl) ?_) | (refine EK_ev (Ev_neqNil rfl rfl) ?_) | (refine EK_ev (Ev_neqB rfl rfl) ?_) | (refine EK_ev (Ev_neqO rfl rfl rfl (fun _ => rfl)) ?_)) | (refine ek_gtr ?_; first | (refine EK_ev (Ev_gtrI rfl rfl) ?_) | (refine EK_ev (Ev_gtrS rfl rfl) ?_)))
    | (refine is_ex ?_; first | (refine KJ_blk_exit' rfl ?_))
    | (refine is_code ?_; first | (refine KJ_cond_dec rfl (fun _ => ?_) (fun _ => ?_) <;> first | (exfalso; omega) | skip) | (refine KJ_cond_t rfl ?_) | (refine KJ_cond_f rfl ?_)))
    all_goals (refine is_ex ?_; exact KJ_done (by first | exact Or.inl rfl | exact Or.inr rfl) rfl (by (repeat' (first | exact Rvs.nil | (apply Rvs.tmp; exact rfl))); first | done | fail) () (by rfl) (Ent.of (by (repeat' (first | exact Pick.nil | apply Pick.cons | exact Sel.here | apply Sel.there)); first | done | fail) (by (repeat' (first | exact DropTo.refl | apply DropTo.there)); first | done | fail)))
  have h1' : D.mayB at_ n = true := by simpa using h1
  rw [h1'] at c1
  by_cases h2 : stamp = 0
  · rw [show areaW D at_ n stamp v = (6, D) from (if_neg h1).trans (if_pos h2)]
    refine Ct.enter Tryd.func55 rfl Tryd.ntmps55 (by simp) (fun R => ?_)
    repeat' (first 
    | refine KJ_stp (by first | constructor | fail) ?_
    | (refine is_list ?_; first | (refine KJ_guard_dec_t rfl rfl rfl (fun _ => ?_) (fun _ => ?_) <;> first | (exfalso; omega) | skip) | (refine KJ_guard_dec_f rfl rfl rfl (fun _ => ?_) (fun _ => ?_) <;> first | (exfalso; omega) | skip) | (refine KJ_guard_yes rfl rfl ?_) | (refine KJ_guard_no rfl rfl rfl rfl ?_))
    | (refine is_oper ?_; first | (refine is_call ?_; first | (refine KJ_call (by (repeat' (first | exact Evs.nil | refine Evs.cons rfl ?_)); first | done | fail) c1 (by (repeat' (first | exact Pick.nil | apply Pick.cons | exact Sel.here | apply Sel.there)); first | done | fail) rfl (fun _ => ?_))) | (refine KJ_ek rfl ?_) | (refine KJ_ek0 ?_))
    | (refine is_ek ?_; first | (refine ek_move ?_; first | (refine EK_ev (Ev_move rfl) ?_)) | (refine ek_assign ?_; first | (refine EK_ev (Ev_assign rfl) ?_)) | (refine ek_pick ?_; first | (refine EK_ev (Ev_pick_t rfl rfl) ?_) | (refine EK_ev (Ev_pick_f rfl rfl) ?_)) | (refine ek_load ?_; first | (refine EK_ev (Ev_loadOld rfl e6) ?_) | (refine EK_ev (Ev_load rfl (by (repeat' (first | exact Sel.here | apply Sel.there)); first | done | fail) (by rfl)) ?_) | (refine EK_ev (Ev_loadOld rfl (by assumption)) ?_) | (refine EK_ev (Ev_loadAgg rfl (by (repeat' (first | exact Sel.here | apply Sel.there)); first | done | fail) (by (repeat' (first | exact Cut.nil | apply Cut.cons | apply Cut.skip)); first | done | fail)) ?_)) | (refine ek_un ?_; first | (refine EK_ev (Ev_notD rfl) ?_) | (refine EK_ev (Ev_not rfl) ?_) | (refine EK_ev (Ev_neg rfl) ?_)) | (refine ek_extract ?_; first | (refine EK_ev (Ev_extract rfl rfl) ?_)) | (refine ek_len ?_; first | (refine EK_ev (Ev_len_str rfl) ?_) | (refine EK_ev (Ev_len_slice rfl) ?_) | (refine EK_ev (Ev_len_arr rfl) ?_) | (refine EK_ev (Ev_len_map rfl (by (repeat' (first | exact Sel.here | apply Sel.there)); first | done | fail)) ?_)) | (refine ek_min ?_; first | (refine EK_ev (Ev_min rfl rfl) ?_)) | (refine ek_add ?_; first | (refine EK_ev (Ev_addI rfl rfl (by omega)) ?_) | (refine EK_ev (Ev_addS rfl rfl (by simp <;> omega)) ?_) | (refine EK_ev (Ev_add rfl rfl) ?_)) | (refine ek_eql ?_; first | (refine EK_ev (Ev_eqlI_t rfl rfl h2) ?_) | (refine EK_ev (Ev_eqlI rfl rfl) ?_) | (refine EK_ev (Ev_eqlS rfl rfl) ?_) | (refine EK_ev (Ev_eqlNil rfl rfl) ?_) | (refine EK_ev (Ev_eqlB rfl rfl) ?_) | (refine EK_ev (Ev_eqlO rfl rfl rfl (fun _ => rfl)) ?_)) | (refine ek_neq ?_; first | (refine EK_ev (Ev_neqI rfl rfl) ?_) | (refine EK_ev (Ev_neqS rfl rfl) ?_) | (refine EK_ev (Ev_neqNil rfl rfl) ?_) | (refine EK_ev (Ev_neqB rfl rfl) ?_) | (refine EK_ev (Ev_neqO rfl rfl rfl (fun _ => rfl)) ?_)) | (refine ek_gtr ?_; first | (refine EK_ev (Ev_gtrI rfl rfl) ?_) | (refine EK_ev (Ev_gtrS rfl rfl) ?_)))
    | (refine is_ex ?_; first | (refine KJ_blk_exit' rfl ?_))
    | (refine is_code ?_; first | (refine KJ_cond_dec rfl (fun _ => ?_) (fun _ => ?_) <;> first | (exfalso; omega) | skip) | (refine KJ_cond_t rfl ?_) | (refine KJ_cond_f rfl ?_)))
    all_goals (refine is_ex ?_; exact KJ_done (by first | exact Or.inl rfl | exact Or.inr rfl) rfl (by (repeat' (first | exact Rvs.nil | (apply Rvs.tmp; exact rfl))); first | done | fail) () (by rfl) (Ent.of (by (repeat' (first | exact Pick.nil | apply Pick.cons | exact Sel.here | apply Sel.there)); first | done | fail) (by (repeat' (first | exact DropTo.refl | apply DropTo.there)); first | done | fail)))
  have c2 := room9_ct (W := W) n
  by_cases h3 : roomI n < (v.length : Int)
  · rw [show areaW D at_ n stamp v = (3, D) from (if_neg h1).trans ((if_neg h2).trans (if_pos h3))]
    have q3 : decide (roomI n < (v.length : Int)) = true := decide_eq_true h3
    refine Ct.enter Tryd.func55 rfl Tryd.ntmps55 (by simp) (fun R => ?_)
    repeat' (first 
    | refine KJ_stp (by first | constructor | fail) ?_
    | (refine is_list ?_; first | (refine KJ_guard_dec_t rfl rfl rfl (fun _ => ?_) (fun _ => ?_) <;> first | (exfalso; omega) | skip) | (refine KJ_guard_dec_f rfl rfl rfl (fun _ => ?_) (fun _ => ?_) <;> first | (exfalso; omega) | skip) | (refine KJ_guard_yes rfl rfl ?_) | (refine KJ_guard_no rfl rfl rfl rfl ?_))
    | (refine is_oper ?_; first | (refine is_call ?_; first | (refine KJ_call (by (repeat' (first | exact Evs.nil | refine Evs.cons rfl ?_)); first | done | fail) c1 (by (repeat' (first | exact Pick.nil | apply Pick.cons | exact Sel.here | apply Sel.there)); first | done | fail) rfl (fun _ => ?_)) | (refine KJ_call (by (repeat' (first | exact Evs.nil | refine Evs.cons rfl ?_)); first | done | fail) c2 (by (repeat' (first | exact Pick.nil | apply Pick.cons | exact Sel.here | apply Sel.there)); first | done | fail) rfl (fun _ => ?_))) | (refine KJ_ek rfl ?_) | (refine KJ_ek0 ?_))
    | (refine is_ek ?_; first | (refine ek_move ?_; first | (refine EK_ev (Ev_move rfl) ?_)) | (refine ek_assign ?_; first | (refine EK_ev (Ev_assign rfl) ?_)) | (refine ek_pick ?_; first | (refine EK_ev (Ev_pick_t rfl rfl) ?_) | (refine EK_ev (Ev_pick_f rfl rfl) ?_)) | (refine ek_load ?_; first | (refine EK_ev (Ev_loadOld rfl e3) ?_) | (refine EK_ev (Ev_load rfl (by (repeat' (first | exact Sel.here | apply Sel.there)); first | done | fail) (by rfl)) ?_) | (refine EK_ev (Ev_loadOld rfl (by assumption)) ?_) | (refine EK_ev (Ev_loadAgg rfl (by (repeat' (first | exact Sel.here | apply Sel.there)); first | done | fail) (by (repeat' (first | exact Cut.nil | apply Cut.cons | apply Cut.skip)); first | done | fail)) ?_)) | (refine ek_un ?_; first | (refine EK_ev (Ev_notD rfl) ?_) | (refine EK_ev (Ev_not rfl) ?_) | (refine EK_ev (Ev_neg rfl) ?_)) | (refine ek_extract ?_; first | (refine EK_ev (Ev_extract rfl rfl) ?_)) | (refine ek_len ?_; first | (refine EK_ev (Ev_len_str rfl) ?_) | (refine EK_ev (Ev_len_slice rfl) ?_) | (refine EK_ev (Ev_len_arr rfl) ?_) | (refine EK_ev (Ev_len_map rfl (by (repeat' (first | exact Sel.here | apply Sel.there)); first | done | fail)) ?_)) | (refine ek_min ?_; first | (refine EK_ev (Ev_min rfl rfl) ?_)) | (refine ek_add ?_; first | (refine EK_ev (Ev_addI rfl rfl (by omega)) ?_) | (refine EK_ev (Ev_addS rfl rfl (by simp <;> omega)) ?_) | (refine EK_ev (Ev_add rfl rfl) ?_)) | (refine ek_eql ?_; first | (refine EK_ev (Ev_eqlI_f rfl rfl h2) ?_) | (refine EK_ev (Ev_eqlI rfl rfl) ?_) | (refine EK_ev (Ev_eqlS rfl rfl) ?_) | (refine EK_ev (Ev_eqlNil rfl rfl) ?_) | (refine EK_ev (Ev_eqlB rfl rfl) ?_) | (refine EK_ev (Ev_eqlO rfl rfl rfl (fun _ => rfl)) ?_)) | (refine ek_neq ?_; first | (refine EK_ev (Ev_neqI rfl rfl) ?_) | (refine EK_ev (Ev_neqS rfl rfl) ?_) | (refine EK_ev (Ev_neqNil rfl rfl) ?_) | (refine EK_ev (Ev_neqB rfl rfl) ?_) | (refine EK_ev (Ev_neqO rfl rfl rfl (fun _ => rfl)) ?_)) | (refine ek_gtr ?_; first | (refine EK_ev (Ev_gtrI_q rfl rfl q3) ?_) | (refine EK_ev (Ev_gtrI rfl rfl) ?_) | (refine EK_ev (Ev_gtrS rfl rfl) ?_)))
    | (refine is_ex ?_; first | (refine KJ_blk_exit' rfl ?_))
    | (refine is_code ?_; first | (refine KJ_cond_dec rfl (fun _ => ?_) (fun _ => ?_) <;> first | (exfalso; omega) | skip) | (refine KJ_cond_t rfl ?_) | (refine KJ_cond_f rfl ?_)))
    all_goals (refine is_ex ?_; exact KJ_done (by first | exact Or.inl rfl | exact Or.inr rfl) rfl (by (repeat' (first | exact Rvs.nil | (apply Rvs.tmp; exact rfl))); first | done | fail) () (by rfl) (Ent.of (by (repeat' (first | exact Pick.nil | apply Pick.cons | exact Sel.here | apply Sel.there)); first | done | fail) (by (repeat' (first | exact DropTo.refl | apply DropTo.there)); first | done | fail)))
  have q3 : decide (roomI n < (v.length : Int)) = false := decide_eq_false h3
  have c3 : Ct Tryd.prog W 30 [.pointer (some ⟨p, 0, none⟩)] [DiskP p D] (fun _ : Unit => .bool D.off) (fun _ => [DiskP p D]) := off_ct
  by_cases h4 : D.off = true
  · rw [show areaW D at_ n stamp v = (12, D) from (if_neg h1).trans ((if_neg h2).trans ((if_neg h3).trans (if_pos h4)))]
    rw [h4] at c3
    refine Ct.enter Tryd.func55 rfl Tryd.ntmps55 (by simp) (fun R => ?_)
    repeat' (first 
    | refine KJ_stp (by first | constructor | fail) ?_
    | (refine is_list ?_; first | (refine KJ_guard_dec_t rfl rfl rfl (fun _ => ?_) (fun _ => ?_) <;> first | (exfalso; omega) | skip) | (refine KJ_guard_dec_f rfl rfl rfl (fun _ => ?_) (fun _ => ?_) <;> first | (exfalso; omega) | skip) | (refine KJ_guard_yes rfl rfl ?_) | (refine KJ_guard_no rfl rfl rfl rfl ?_))
    | (refine is_oper ?_; first | (refine is_call ?_; first | (refine KJ_call (by (repeat' (first | exact Evs.nil | refine Evs.cons rfl ?_)); first | done | fail) c1 (by (repeat' (first | exact Pick.nil | apply Pick.cons | exact Sel.here | apply Sel.there)); first | done | fail) rfl (fun _ => ?_)) | (refine KJ_call (by (repeat' (first | exact Evs.nil | refine Evs.cons rfl ?_)); first | done | fail) c2 (by (repeat' (first | exact Pick.nil | apply Pick.cons | exact Sel.here | apply Sel.there)); first | done | fail) rfl (fun _ => ?_)) | (refine KJ_call (by (repeat' (first | exact Evs.nil | refine Evs.cons rfl ?_)); first | done | fail) c3 (by (repeat' (first | exact Pick.nil | apply Pick.cons | exact Sel.here | apply Sel.there)); first | done | fail) rfl (fun _ => ?_))) | (refine KJ_ek rfl ?_) | (refine KJ_ek0 ?_))
    | (refine is_ek ?_; first | (refine ek_move ?_; first | (refine EK_ev (Ev_move rfl) ?_)) | (refine ek_assign ?_; first | (refine EK_ev (Ev_assign rfl) ?_)) | (refine ek_pick ?_; first | (refine EK_ev (Ev_pick_t rfl rfl) ?_) | (refine EK_ev (Ev_pick_f rfl rfl) ?_)) | (refine ek_load ?_; first | (refine EK_ev (Ev_loadOld rfl e12) ?_) | (refine EK_ev (Ev_load rfl (by (repeat' (first | exact Sel.here | apply Sel.there)); first | done | fail) (by rfl)) ?_) | (refine EK_ev (Ev_loadOld rfl (by assumption)) ?_) | (refine EK_ev (Ev_loadAgg rfl (by (repeat' (first | exact Sel.here | apply Sel.there)); first | done | fail) (by (repeat' (first | exact Cut.nil | apply Cut.cons | apply Cut.skip)); first | done | fail)) ?_)) | (refine ek_un ?_; first | (refine EK_ev (Ev_notD rfl) ?_) | (refine EK_ev (Ev_not rfl) ?_) | (refine EK_ev (Ev_neg rfl) ?_)) | (refine ek_extract ?_; first | (refine EK_ev (Ev_extract rfl rfl) ?_)) | (refine ek_len ?_; first | (refine EK_ev (Ev_len_str rfl) ?_) | (refine EK_ev (Ev_len_slice rfl) ?_) | (refine EK_ev (Ev_len_arr rfl) ?_) | (refine EK_ev (Ev_len_map rfl (by (repeat' (first | exact Sel.here | apply Sel.there)); first | done | fail)) ?_)) | (refine ek_min ?_; first | (refine EK_ev (Ev_min rfl rfl) ?_)) | (refine ek_add ?_; first | (refine EK_ev (Ev_addI rfl rfl (by omega)) ?_) | (refine EK_ev (Ev_addS rfl rfl (by simp <;> omega)) ?_) | (refine EK_ev (Ev_add rfl rfl) ?_)) | (refine ek_eql ?_; first | (refine EK_ev (Ev_eqlI_f rfl rfl h2) ?_) | (refine EK_ev (Ev_eqlI rfl rfl) ?_) | (refine EK_ev (Ev_eqlS rfl rfl) ?_) | (refine EK_ev (Ev_eqlNil rfl rfl) ?_) | (refine EK_ev (Ev_eqlB rfl rfl) ?_) | (refine EK_ev (Ev_eqlO rfl rfl rfl (fun _ => rfl)) ?_)) | (refine ek_neq ?_; first | (refine EK_ev (Ev_neqI rfl rfl) ?_) | (refine EK_ev (Ev_neqS rfl rfl) ?_) | (refine EK_ev (Ev_neqNil rfl rfl) ?_) | (refine EK_ev (Ev_neqB rfl rfl) ?_) | (refine EK_ev (Ev_neqO rfl rfl rfl (fun _ => rfl)) ?_)) | (refine ek_gtr ?_; first | (refine EK_ev (Ev_gtrI_q rfl rfl q3) ?_) | (refine EK_ev (Ev_gtrI rfl rfl) ?_) | (refine EK_ev (Ev_gtrS rfl rfl) ?_)))
    | (refine is_ex ?_; first | (refine KJ_blk_exit' rfl ?_))
    | (refine is_code ?_; first | (refine KJ_cond_dec rfl (fun _ => ?_) (fun _ => ?_) <;> first | (exfalso; omega) | skip) | (refine KJ_cond_t rfl ?_) | (refine KJ_cond_f rfl ?_)))
    all_goals (refine is_ex ?_; exact KJ_done (by first | exact Or.inl rfl | exact Or.inr rfl) rfl (by (repeat' (first | exact Rvs.nil | (apply Rvs.tmp; exact rfl))); first | done | fail) () (by rfl) (Ent.of (by (repeat' (first | exact Pick.nil | apply Pick.cons | exact Sel.here | apply Sel.there)); first | done | fail) (by (repeat' (first | exact DropTo.refl | apply DropTo.there)); first | done | fail)))
  have h4' : D.off = false := by simpa using h4
  rw [h4'] at c3
  have hW : areaW D at_ n stamp v = awGo at_ stamp v.length D 0 v := (if_neg h1).trans ((if_neg h2).trans ((if_neg h3).trans (if_neg h4)))
  rw [hW]
  obtain ⟨res, hres⟩ : ∃ res, res = awGo at_ stamp v.length D 0 v := ⟨_, rfl⟩
  rw [← hres]
  have hat : 0 ≤ at_ ∧ at_ ≤ 65536 := by
    unfold Dsk.mayB at h1'
    have := of_decide_eq_true h1'
    omega
  have hvl : v.length ≤ 234 * 65536 := by unfold roomI at h3; omega
  refine Ct.enter Tryd.func55 rfl Tryd.ntmps55 (by simp) (fun R => ?_)
  repeat' (first 
    | refine KJ_stp (by first | constructor | fail) ?_
    | (refine is_list ?_; first | (refine KJ_guard_dec_t rfl rfl rfl (fun _ => ?_) (fun _ => ?_) <;> first | (exfalso; omega) | skip) | (refine KJ_guard_dec_f rfl rfl rfl (fun _ => ?_) (fun _ => ?_) <;> first | (exfalso; omega) | skip) | (refine KJ_guard_yes rfl rfl ?_) | (refine KJ_guard_no rfl rfl rfl rfl ?_))
    | (refine is_oper ?_; first | (refine is_call ?_; first | (refine KJ_call (by (repeat' (first | exact Evs.nil | refine Evs.cons rfl ?_)); first | done | fail) c1 (by (repeat' (first | exact Pick.nil | apply Pick.cons | exact Sel.here | apply Sel.there)); first | done | fail) rfl (fun _ => ?_)) | (refine KJ_call (by (repeat' (first | exact Evs.nil | refine Evs.cons rfl ?_)); first | done | fail) c2 (by (repeat' (first | exact Pick.nil | apply Pick.cons | exact Sel.here | apply Sel.there)); first | done | fail) rfl (fun _ => ?_)) | (refine KJ_call (by (repeat' (first | exact Evs.nil | refine Evs.cons rfl ?_)); first | done | fail) c3 (by (repeat' (first | exact Pick.nil | apply Pick.cons | exact Sel.here | apply Sel.there)); first | done | fail) rfl (fun _ => ?_))) | (refine KJ_ek rfl ?_) | (refine KJ_ek0 ?_))
    | (refine is_ek ?_; first | (refine ek_move ?_; first | (refine EK_ev (Ev_move rfl) ?_)) | (refine ek_assign ?_; first | (refine EK_ev (Ev_assign rfl) ?_)) | (refine ek_pick ?_; first | (refine EK_ev (Ev_pick_t rfl rfl) ?_) | (refine EK_ev (Ev_pick_f rfl rfl) ?_)) | (refine ek_load ?_; first | (refine EK_ev (Ev_load rfl (by (repeat' (first | exact Sel.here | apply Sel.there)); first | done | fail) (by rfl)) ?_) | (refine EK_ev (Ev_loadOld rfl (by assumption)) ?_) | (refine EK_ev (Ev_loadAgg rfl (by (repeat' (first | exact Sel.here | apply Sel.there)); first | done | fail) (by (repeat' (first | exact Cut.nil | apply Cut.cons | apply Cut.skip)); first | done | fail)) ?_)) | (refine ek_un ?_; first | (refine EK_ev (Ev_notD rfl) ?_) | (refine EK_ev (Ev_not rfl) ?_) | (refine EK_ev (Ev_neg rfl) ?_)) | (refine ek_extract ?_; first | (refine EK_ev (Ev_extract rfl rfl) ?_)) | (refine ek_len ?_; first | (refine EK_ev (Ev_len_str rfl) ?_) | (refine EK_ev (Ev_len_slice rfl) ?_) | (refine EK_ev (Ev_len_arr rfl) ?_) | (refine EK_ev (Ev_len_map rfl (by (repeat' (first | exact Sel.here | apply Sel.there)); first | done | fail)) ?_)) | (refine ek_min ?_; first | (refine EK_ev (Ev_min rfl rfl) ?_)) | (refine ek_add ?_; first | (refine EK_ev (Ev_addI rfl rfl (by omega)) ?_) | (refine EK_ev (Ev_addS rfl rfl (by simp <;> omega)) ?_) | (refine EK_ev (Ev_add rfl rfl) ?_)) | (refine ek_eql ?_; first | (refine EK_ev (Ev_eqlI_f rfl rfl h2) ?_) | (refine EK_ev (Ev_eqlI rfl rfl) ?_) | (refine EK_ev (Ev_eqlS rfl rfl) ?_) | (refine EK_ev (Ev_eqlNil rfl rfl) ?_) | (refine EK_ev (Ev_eqlB rfl rfl) ?_) | (refine EK_ev (Ev_eqlO rfl rfl rfl (fun _ => rfl)) ?_)) | (refine ek_neq ?_; first | (refine EK_ev (Ev_neqI rfl rfl) ?_) | (refine EK_ev (Ev_neqS rfl rfl) ?_) | (refine EK_ev (Ev_neqNil rfl rfl) ?_) | (refine EK_ev (Ev_neqB rfl rfl) ?_) | (refine EK_ev (Ev_neqO rfl rfl rfl (fun _ => rfl)) ?_)) | (refine ek_gtr ?_; first | (refine EK_ev (Ev_gtrI_q rfl rfl q3) ?_) | (refine EK_ev (Ev_gtrI rfl rfl) ?_) | (refine EK_ev (Ev_gtrS rfl rfl) ?_)))
    | (refine is_ex ?_; first | (refine KJ_blk_exit' rfl ?_))
    | (refine is_code ?_; first | (refine KJ_cond_dec rfl (fun _ => ?_) (fun _ => ?_) <;> first | (exfalso; omega) | skip) | (refine KJ_cond_t rfl ?_) | (refine KJ_cond_f rfl ?_)))
  refine KJ_loop (fun i : {s : Nat × Nat × Dsk × List UInt8 // awGo at_ stamp s.2.1 s.2.2.1 s.1 s.2.2.2 = res ∧ s.2.2.1.und.length ≤ D.und.length + s.1 ∧ (s.2.2.2 ≠ [] → s.2.2.2.length + 234 * s.1 = v.length) ∧ s.2.2.2.length ≤ 234 * s.2.1 ∧ s.1 ≤ 65536} =>
      [(0, .pointer (some ⟨p, 0, none⟩)), (1, .int .i64 at_), (3, .int .u64 stamp), (4, strV i.1.2.2.2), (11, .int .i64 (i.1.1 : Nat))]) (fun i => [DiskP p i.1.2.2.1] ++ R) (fun i => i.1.2.1) ⟨(0, v.length, D, v), hres.symm, by simp, fun _ => by simp, by dsimp only; omega, by dsimp only; omega⟩ (by (repeat' (first | exact Subs.nil | refine Subs.cons rfl ?_)); first | done | fail) (fun _ q => q) (fun ⟨(k, f, Dk, rest), hr, hu, hlen, hf, hk⟩ => ?_)
  dsimp only at hr hu hlen hf hk ⊢
  by_cases hr0 : rest = []
  · subst hr0
    rw [awGo_nil] at hr
    have hD2 : res.2 = Dk.flushD := by rw [← hr]
    have hE2 : errV E res.1 = errV E Dk.flushE := by rw [← hr]
    rw [hD2, hE2]
    have c4 : Ct Tryd.prog W 24 [.pointer (some ⟨p, 0, none⟩)] [DiskP p Dk] (fun _ : Unit => errV E Dk.flushE) (fun _ => [DiskP p Dk.flushD]) := flush_ct hE (by omega)
    repeat' (first 
    | refine KJ_stp (by first | constructor | fail) ?_
    | (refine is_list ?_; first | (refine KJ_guard_dec_t rfl rfl rfl (fun _ => ?_) (fun _ => ?_) <;> first | (exfalso; omega) | skip) | (refine KJ_guard_dec_f rfl rfl rfl (fun _ => ?_) (fun _ => ?_) <;> first | (exfalso; omega) | skip) | (refine KJ_guard_yes rfl rfl ?_) | (refine KJ_guard_no rfl rfl rfl rfl ?_))
    | (refine is_oper ?_; first | (refine is_call ?_; first | (refine KJ_call (by (repeat' (first | exact Evs.nil | refine Evs.cons rfl ?_)); first | done | fail) c4 (by (repeat' (first | exact Pick.nil | apply Pick.cons | exact Sel.here | apply Sel.there)); first | done | fail) rfl (fun _ => ?_))) | (refine KJ_ek rfl ?_) | (refine KJ_ek0 ?_))
    | (refine is_ek ?_; first | (refine ek_move ?_; first | (refine EK_ev (Ev_move rfl) ?_)) | (refine ek_assign ?_; first | (refine EK_ev (Ev_assign rfl) ?_)) | (refine ek_pick ?_; first | (refine EK_ev (Ev_pick_t rfl rfl) ?_) | (refine EK_ev (Ev_pick_f rfl rfl) ?_)) | (refine ek_load ?_; first | (refine EK_ev (Ev_load rfl (by (repeat' (first | exact Sel.here | apply Sel.there)); first | done | fail) (by rfl)) ?_) | (refine EK_ev (Ev_loadOld rfl (by assumption)) ?_) | (refine EK_ev (Ev_loadAgg rfl (by (repeat' (first | exact Sel.here | apply Sel.there)); first | done | fail) (by (repeat' (first | exact Cut.nil | apply Cut.cons | apply Cut.skip)); first | done | fail)) ?_)) | (refine ek_un ?_; first | (refine EK_ev (Ev_notD rfl) ?_) | (refine EK_ev (Ev_not rfl) ?_) | (refine EK_ev (Ev_neg rfl) ?_)) | (refine ek_extract ?_; first | (refine EK_ev (Ev_extract rfl rfl) ?_)) | (refine ek_len ?_; first | (refine EK_ev (Ev_len_str rfl) ?_) | (refine EK_ev (Ev_len_slice rfl) ?_) | (refine EK_ev (Ev_len_arr rfl) ?_) | (refine EK_ev (Ev_len_map rfl (by (repeat' (first | exact Sel.here | apply Sel.there)); first | done | fail)) ?_)) | (refine ek_min ?_; first | (refine EK_ev (Ev_min rfl rfl) ?_)) | (refine ek_add ?_; first | (refine EK_ev (Ev_addI rfl rfl (by omega)) ?_) | (refine EK_ev (Ev_addS rfl rfl (by simp <;> omega)) ?_) | (refine EK_ev (Ev_add rfl rfl) ?_)) | (refine ek_eql ?_; first | (refine EK_ev (Ev_eqlI rfl rfl) ?_) | (refine EK_ev (Ev_eqlS rfl rfl) ?_) | (refine EK_ev (Ev_eqlNil rfl rfl) ?_) | (refine EK_ev (Ev_eqlB rfl rfl) ?_) | (refine EK_ev (Ev_eqlO rfl rfl rfl (fun _ => rfl)) ?_)) | (refine ek_neq ?_; first | (refine EK_ev (Ev_neqS_f rfl rfl rfl) ?_) | (refine EK_ev (Ev_neqI rfl rfl) ?_) | (refine EK_ev (Ev_neqS rfl rfl) ?_) | (refine EK_ev (Ev_neqNil rfl rfl) ?_) | (refine EK_ev (Ev_neqB rfl rfl) ?_) | (refine EK_ev (Ev_neqO rfl rfl rfl (fun _ => rfl)) ?_)) | (refine ek_gtr ?_; first | (refine EK_ev (Ev_gtrI rfl rfl) ?_) | (refine EK_ev (Ev_gtrS rfl rfl) ?_)))
    | (refine is_ex ?_; first | (refine KJ_blk_exit' rfl ?_))
    | (refine is_code ?_; first | (refine KJ_cond_dec rfl (fun _ => ?_) (fun _ => ?_) <;> first | (exfalso; omega) | skip) | (refine KJ_cond_t rfl ?_) | (refine KJ_cond_f rfl ?_)))
    all_goals (refine is_ex ?_; exact KJ_done (by first | exact Or.inl rfl | exact Or.inr rfl) rfl (by (repeat' (first | exact Rvs.nil | (apply Rvs.tmp; exact rfl))); first | done | fail) () (by rfl) (Ent.of (by (repeat' (first | exact Pick.nil | apply Pick.cons | exact Sel.here | apply Sel.there)); first | done | fail) (by (repeat' (first | exact DropTo.refl | apply DropTo.there)); first | done | fail)))
  · obtain ⟨f', rfl⟩ : ∃ f', f = f' + 1 := ⟨f - 1, by have := List.length_pos_iff.2 hr0; omega⟩
    have hlen := hlen hr0
    have hpos := List.length_pos_iff.2 hr0
    have hunf : awGo at_ stamp (f' + 1) Dk k rest = if Dk.writeE (at_ + k) (sealB stamp (rest.take 234)) ≠ 0 then (Dk.writeE (at_ + k) (sealB stamp (rest.take 234)), Dk.writeD (at_ + k) (sealB stamp (rest.take 234)))
      else awGo at_ stamp f' (Dk.writeD (at_ + k) (sealB stamp (rest.take 234))) (k + 1) (rest.drop 234) := by
      show (if rest = [] then _ else _) = _
      rw [if_neg hr0]
    rw [hunf] at hr
    clear hunf
    obtain ⟨pc, hpc⟩ : ∃ pc, pc = rest.take 234 := ⟨_, rfl⟩
    obtain ⟨r2, hr2⟩ : ∃ r2, r2 = rest.drop 234 := ⟨_, rfl⟩
    have hpl : pc.length = min rest.length 234 := by rw [hpc, List.length_take]; omega
    have hm1 : min (rest.length : Int) 234 = (pc.length : Nat) := by omega
    have hs1 : rest.take ((pc.length : Nat) : Int).toNat = pc := by rw [Int.toNat_natCast, hpl, hpc]; exact List.take_eq_take_iff.2 (by omega)
    have hs2 : rest.drop ((pc.length : Nat) : Int).toNat = r2 := by
      rw [Int.toNat_natCast, hpl, hr2]
      by_cases hh : rest.length ≤ 234
      · rw [List.drop_of_length_le (by omega), List.drop_of_length_le (by omega)]
      · rw [show min rest.length 234 = 234 by omega]
    have hr2l : r2.length = rest.length - 234 := by rw [hr2, List.length_drop]
    rw [← hpc, ← hr2] at hr
    have c5 := seal_ok hN stamp pc h2 (by omega)
    have c6 : Ct Tryd.prog W 32 [.pointer (some ⟨p, 0, none⟩), .int .i64 (at_ + (k : Nat)), strV (sealB stamp pc)] [DiskP p Dk] (fun _ : Unit => errV E (Dk.writeE (at_ + k) (sealB stamp pc))) (fun _ => [DiskP p (Dk.writeD (at_ + k) (sealB stamp pc))]) := write_ct hE _ _ (by omega)
    have hu1 := writeD_und Dk (at_ + k) (sealB stamp pc)
    obtain ⟨D1, hD1⟩ : ∃ D1, D1 = Dk.writeD (at_ + k) (sealB stamp pc) := ⟨_, rfl⟩
    obtain ⟨e, he⟩ : ∃ e, e = Dk.writeE (at_ + k) (sealB stamp pc) := ⟨_, rfl⟩
    rw [← hD1] at c6 hr hu1
    rw [← he] at c6 hr
    clear hpc hr2 hD1 he
    by_cases hz : e = 0
    · subst hz
      rw [if_neg (by simp)] at hr
      have c6' : Ct Tryd.prog W 32 [.pointer (some ⟨p, 0, none⟩), .int .i64 (at_ + (k : Nat)), strV (sealB stamp pc)] [DiskP p Dk] (fun _ : Unit => .nilIface) (fun _ => [DiskP p D1]) := c6
      repeat' (first 
    | refine KJ_stp (by first | constructor | fail) ?_
    | (refine is_list ?_; first | (refine KJ_guard_dec_t rfl rfl rfl (fun _ => ?_) (fun _ => ?_) <;> first | (exfalso; omega) | skip) | (refine KJ_guard_dec_f rfl rfl rfl (fun _ => ?_) (fun _ => ?_) <;> first | (exfalso; omega) | skip) | (refine KJ_guard_yes rfl rfl ?_) | (refine KJ_guard_no rfl rfl rfl rfl ?_))
    | (refine is_oper ?_; first | (refine is_call ?_; first | (refine KJ_call (by (repeat' (first | exact Evs.nil | refine Evs.cons rfl ?_)); first | done | fail) c6' (by (repeat' (first | exact Pick.nil | apply Pick.cons | exact Sel.here | apply Sel.there)); first | done | fail) rfl (fun _ => ?_)) | (refine KJ_call (by (repeat' (first | exact Evs.nil | refine Evs.cons rfl ?_)); first | done | fail) c5 (by (repeat' (first | exact Pick.nil | apply Pick.cons | exact Sel.here | apply Sel.there)); first | done | fail) rfl (fun _ => ?_))) | (refine KJ_ek rfl ?_) | (refine KJ_ek0 ?_))
    | (refine is_ek ?_; first | (refine ek_move ?_; first | (refine EK_ev (Ev_move rfl) ?_)) | (refine ek_assign ?_; first | (refine EK_ev (Ev_assign rfl) ?_)) | (refine ek_pick ?_; first | (refine EK_ev (Ev_pick_t rfl rfl) ?_) | (refine EK_ev (Ev_pick_f rfl rfl) ?_)) | (refine ek_load ?_; first | (refine EK_ev (Ev_load rfl (by (repeat' (first | exact Sel.here | apply Sel.there)); first | done | fail) (by rfl)) ?_) | (refine EK_ev (Ev_loadOld rfl (by assumption)) ?_) | (refine EK_ev (Ev_loadAgg rfl (by (repeat' (first | exact Sel.here | apply Sel.there)); first | done | fail) (by (repeat' (first | exact Cut.nil | apply Cut.cons | apply Cut.skip)); first | done | fail)) ?_)) | (refine ek_un ?_; first | (refine EK_ev (Ev_notD rfl) ?_) | (refine EK_ev (Ev_not rfl) ?_) | (refine EK_ev (Ev_neg rfl) ?_)) | (refine ek_extract ?_; first | (refine EK_ev (Ev_extract rfl rfl) ?_)) | (refine ek_slice ?_; first | (refine EK_ev (Ev_sliceStrFrom_v rfl rfl (by omega) hs2) ?_) | (refine EK_ev (Ev_sliceStrTo_v rfl rfl (by omega) hs1) ?_)) | (refine ek_len ?_; first | (refine EK_ev (Ev_len_str rfl) ?_) | (refine EK_ev (Ev_len_slice rfl) ?_) | (refine EK_ev (Ev_len_arr rfl) ?_) | (refine EK_ev (Ev_len_map rfl (by (repeat' (first | exact Sel.here | apply Sel.there)); first | done | fail)) ?_)) | (refine ek_min ?_; first | (refine EK_ev (Ev_min_v rfl rfl hm1) ?_) | (refine EK_ev (Ev_min rfl rfl) ?_)) | (refine ek_add ?_; first | (refine EK_ev (Ev_addI rfl rfl (by omega)) ?_) | (refine EK_ev (Ev_addS rfl rfl (by simp <;> omega)) ?_) | (refine EK_ev (Ev_add rfl rfl) ?_)) | (refine ek_eql ?_; first | (refine EK_ev (Ev_eqlI rfl rfl) ?_) | (refine EK_ev (Ev_eqlS rfl rfl) ?_) | (refine EK_ev (Ev_eqlNil rfl rfl) ?_) | (refine EK_ev (Ev_eqlB rfl rfl) ?_) | (refine EK_ev (Ev_eqlO rfl rfl rfl (fun _ => rfl)) ?_)) | (refine ek_neq ?_; first | (refine EK_ev (Ev_neqS_t rfl rfl hr0) ?_) | (refine EK_ev (Ev_neqI rfl rfl) ?_) | (refine EK_ev (Ev_neqS rfl rfl) ?_) | (refine EK_ev (Ev_neqNil rfl rfl) ?_) | (refine EK_ev (Ev_neqB rfl rfl) ?_) | (refine EK_ev (Ev_neqO rfl rfl rfl (fun _ => rfl)) ?_)) | (refine ek_gtr ?_; first | (refine EK_ev (Ev_gtrI rfl rfl) ?_) | (refine EK_ev (Ev_gtrS rfl rfl) ?_)))
    | (refine is_ex ?_; first | (refine KJ_blk_exit' rfl ?_))
    | (refine is_code ?_; first | (refine KJ_cond_dec rfl (fun _ => ?_) (fun _ => ?_) <;> first | (exfalso; omega) | skip) | (refine KJ_cond_t rfl ?_) | (refine KJ_cond_f rfl ?_)))
      exact KJ_again ⟨(k + 1, f', D1, r2), hr, by dsimp only; omega, fun hn2 => by dsimp only; have := List.length_pos_iff.2 hn2; dsimp only at this; omega, by dsimp only; omega, by dsimp only; omega⟩ (by show f' < f' + 1; omega) (by (repeat' (first | exact Subs.nil | refine Subs.cons rfl ?_)); first | done | fail) (Ent.of (by (repeat' (first | exact Pick.nil | apply Pick.cons | exact Sel.here | apply Sel.there)); first | done | fail) (by (repeat' (first | exact DropTo.refl | apply DropTo.there)); first | done | fail))
    · rw [if_pos hz] at hr
      have hD2 : res.2 = D1 := by rw [← hr]
      have hE2 : errV E res.1 = errV E e := by rw [← hr]
      rw [hD2, hE2]
      obtain ⟨ea, hea⟩ := errV_ne (E := E) hz
      rw [hea] at c6 ⊢
      repeat' (first 
    | refine KJ_stp (by first | constructor | fail) ?_
    | (refine is_list ?_; first | (refine KJ_guard_dec_t rfl rfl rfl (fun _ => ?_) (fun _ => ?_) <;> first | (exfalso; omega) | skip) | (refine KJ_guard_dec_f rfl rfl rfl (fun _ => ?_) (fun _ => ?_) <;> first | (exfalso; omega) | skip) | (refine KJ_guard_yes rfl rfl ?_) | (refine KJ_guard_no rfl rfl rfl rfl ?_))
    | (refine is_oper ?_; first | (refine is_call ?_; first | (refine KJ_call (by (repeat' (first | exact Evs.nil | refine Evs.cons rfl ?_)); first | done | fail) c6 (by (repeat' (first | exact Pick.nil | apply Pick.cons | exact Sel.here | apply Sel.there)); first | done | fail) rfl (fun _ => ?_)) | (refine KJ_call (by (repeat' (first | exact Evs.nil | refine Evs.cons rfl ?_)); first | done | fail) c5 (by (repeat' (first | exact Pick.nil | apply Pick.cons | exact Sel.here | apply Sel.there)); first | done | fail) rfl (fun _ => ?_))) | (refine KJ_ek rfl ?_) | (refine KJ_ek0 ?_))
    | (refine is_ek ?_; first | (refine ek_move ?_; first | (refine EK_ev (Ev_move rfl) ?_)) | (refine ek_assign ?_; first | (refine EK_ev (Ev_assign rfl) ?_)) | (refine ek_pick ?_; first | (refine EK_ev (Ev_pick_t rfl rfl) ?_) | (refine EK_ev (Ev_pick_f rfl rfl) ?_)) | (refine ek_load ?_; first | (refine EK_ev (Ev_load rfl (by (repeat' (first | exact Sel.here | apply Sel.there)); first | done | fail) (by rfl)) ?_) | (refine EK_ev (Ev_loadOld rfl (by assumption)) ?_) | (refine EK_ev (Ev_loadAgg rfl (by (repeat' (first | exact Sel.here | apply Sel.there)); first | done | fail) (by (repeat' (first | exact Cut.nil | apply Cut.cons | apply Cut.skip)); first | done | fail)) ?_)) | (refine ek_un ?_; first | (refine EK_ev (Ev_notD rfl) ?_) | (refine EK_ev (Ev_not rfl) ?_) | (refine EK_ev (Ev_neg rfl) ?_)) | (refine ek_extract ?_; first | (refine EK_ev (Ev_extract rfl rfl) ?_)) | (refine ek_slice ?_; first | (refine EK_ev (Ev_sliceStrFrom_v rfl rfl (by omega) hs2) ?_) | (refine EK_ev (Ev_sliceStrTo_v rfl rfl (by omega) hs1) ?_)) | (refine ek_len ?_; first | (refine EK_ev (Ev_len_str rfl) ?_) | (refine EK_ev (Ev_len_slice rfl) ?_) | (refine EK_ev (Ev_len_arr rfl) ?_) | (refine EK_ev (Ev_len_map rfl (by (repeat' (first | exact Sel.here | apply Sel.there)); first | done | fail)) ?_)) | (refine ek_min ?_; first | (refine EK_ev (Ev_min_v rfl rfl hm1) ?_) | (refine EK_ev (Ev_min rfl rfl) ?_)) | (refine ek_add ?_; first | (refine EK_ev (Ev_addI rfl rfl (by omega)) ?_) | (refine EK_ev (Ev_addS rfl rfl (by simp <;> omega)) ?_) | (refine EK_ev (Ev_add rfl rfl) ?_)) | (refine ek_eql ?_; first | (refine EK_ev (Ev_eqlI rfl rfl) ?_) | (refine EK_ev (Ev_eqlS rfl rfl) ?_) | (refine EK_ev (Ev_eqlNil rfl rfl) ?_) | (refine EK_ev (Ev_eqlB rfl rfl) ?_) | (refine EK_ev (Ev_eqlO rfl rfl rfl (fun _ => rfl)) ?_)) | (refine ek_neq ?_; first | (refine EK_ev (Ev_neqS_t rfl rfl hr0) ?_) | (refine EK_ev (Ev_neqI rfl rfl) ?_) | (refine EK_ev (Ev_neqS rfl rfl) ?_) | (refine EK_ev (Ev_neqNil rfl rfl) ?_) | (refine EK_ev (Ev_neqB rfl rfl) ?_) | (refine EK_ev (Ev_neqO rfl rfl rfl (fun _ => rfl)) ?_)) | (refine ek_gtr ?_; first | (refine EK_ev (Ev_gtrI rfl rfl) ?_) | (refine EK_ev (Ev_gtrS rfl rfl) ?_)))
    | (refine is_ex ?_; first | (refine KJ_blk_exit' rfl ?_))
    | (refine is_code ?_; first | (refine KJ_cond_dec rfl (fun _ => ?_) (fun _ => ?_) <;> first | (exfalso; omega) | skip) | (refine KJ_cond_t rfl ?_) | (refine KJ_cond_f rfl ?_)))
      all_goals (refine is_ex ?_; exact KJ_done (by first | exact Or.inl rfl | exact Or.inr rfl) rfl (by (repeat' (first | exact Rvs.nil | (apply Rvs.tmp; exact rfl))); first | done | fail) () (by rfl) (Ent.of (by (repeat' (first | exact Pick.nil | apply Pick.cons | exact Sel.here | apply Sel.there)); first | done | fail) (by (repeat' (first | exact DropTo.refl | apply DropTo.there)); first | done | fail)))

/-- the sectors of a value, one behind the other -/
def arGo (D : Dsk) (at_ stamp bytes : Int) : Nat → Nat → List UInt8 → List UInt8 × Nat
  | 0, _, acc => (acc, 0)
  | f + 1, i, acc => if D.readE (at_ + i) ≠ 0 then ([], D.readE (at_ + i)) else
      match openS stamp (D.readS (at_ + i)) with
      | none => ([], 15)
      | some pc => if (pc.length : Int) ≠ min (bytes - i * 234) 234 then ([], 15) else arGo D at_ stamp bytes f (i + 1) (acc ++ pc)
def areaR (D : Dsk) (at_ n stamp bytes : Int) : List UInt8 × Nat :=
  if D.mayB at_ n = false then ([], 6) else if stamp = 0 then ([], 6) else if bytes < 0 then ([], 6) else if roomI n < bytes then ([], 3) else if D.off then ([], 12) else arGo D at_ stamp bytes (sectorsI bytes).toNat 0 []
set_option maxHeartbeats 1000000 in
set_option maxRecDepth 100000 in
theorem aread_ct (hE : ErrsOn L8 W E) (e15 : W.cell? ⟨5, 0, none⟩ = some (errV E 15)) (hN : NibAt W) (hn : D.n ≤ 65536) (at_ n stamp bytes : Int) :
    Ct Tryd.prog W 56 [.pointer (some ⟨p, 0, none⟩), .int .i64 at_, .int .i64 n, .int .u64 stamp, .int .i64 bytes] [DiskP p D] (fun _ : Unit => .tuple #[strV (areaR D at_ n stamp bytes).1, errV E (areaR D at_ n stamp bytes).2]) (fun _ => [DiskP p D]) := by
  have e3 : W.cell? ⟨0, 0, none⟩ = some (errV E 3) := hE.at_ 3 (by decide)
  have e6 : W.cell? ⟨3, 0, none⟩ = some (errV E 6) := hE.at_ 6 (by decide)
  have e12 : W.cell? ⟨2, 0, none⟩ = some (errV E 12) := hE.at_ 12 (by decide)
  have c1 := may_ct (W := W) (p := p) at_ n hn
  by_cases h1 : D.mayB at_ n = false
  · rw [show areaR D at_ n stamp bytes = ([], 6) from if_pos h1]
    rw [h1] at c1
    refine Ct.enter Tryd.func56 rfl Tryd.ntmps56 (by simp) (fun R => ?_)
    repeat' (first 
    | refine KJ_stp (by first | constructor | fail) ?_
    | (refine is_list ?_; first | (refine KJ_guard_dec_t rfl rfl rfl (fun _ => ?_) (fun _ => ?_) <;> first | (exfalso; omega) | skip) | (refine KJ_guard_dec_f rfl rfl rfl (fun _ => ?_) (fun _ => ?_) <;> first | (exfalso; omega) | skip) | (refine KJ_guard_yes rfl rfl ?_) | (refine KJ_guard_no rfl rfl rfl rfl ?_))
    | (refine is_oper ?_; first | (refine is_alloc ?_; first | (refine KJ_alloc rfl (fun _ => ?_))) | (refine is_call ?_; first | (refine KJ_call (by (repeat' (first | exact Evs.nil | refine Evs.cons rfl ?_)); first | done | fail) c1 (by (repeat' (first | exact Pick.nil | apply Pick.cons | exact Sel.here | apply Sel.there)); first | done | fail) rfl (fun _ => ?_))) | (refine KJ_ek rfl ?_) | (refine KJ_ek0 ?_))
    | (refine is_ek ?_; first | (refine ek_move ?_; first | (refine EK_ev (Ev_move rfl) ?_)) | (refine ek_assign ?_; first | (refine EK_ev (Ev_assign rfl) ?_)) | (refine ek_pick ?_; first | (refine EK_ev (Ev_pick_t rfl rfl) ?_) | (refine EK_ev (Ev_pick_f rfl rfl) ?_)) | (refine ek_load ?_; first | (refine EK_ev (Ev_loadOld rfl e6) ?_) | (refine EK_ev (Ev_load rfl (by (repeat' (first | exact Sel.here | apply Sel.there)); first | done | fail) (by rfl)) ?_) | (refine EK_ev (Ev_loadOld rfl (by assumption)) ?_) | (refine EK_ev (Ev_loadAgg rfl (by (repeat' (first | exact Sel.here | apply Sel.there)); first | done | fail) (by (repeat' (first | exact Cut.nil | apply Cut.cons | apply Cut.skip)); first | done | fail)) ?_)) | (refine ek_un ?_; first | (refine EK_ev (Ev_notD rfl) ?_) | (refine EK_ev (Ev_not rfl) ?_) | (refine EK_ev (Ev_neg rfl) ?_)) | (refine ek_extract ?_; first | (refine EK_ev (Ev_extract rfl rfl) ?_)) | (refine ek_len ?_; first | (refine EK_ev (Ev_len_str rfl) ?_) | (refine EK_ev (Ev_len_slice rfl) ?_) | (refine EK_ev (Ev_len_arr rfl) ?_) | (refine EK_ev (Ev_len_map rfl (by (repeat' (first | exact Sel.here | apply Sel.there)); first | done | fail)) ?_)) | (refine ek_min ?_; first | (refine EK_ev (Ev_min rfl rfl) ?_)) | (refine ek_add ?_; first | (refine EK_ev (Ev_addI rfl rfl (by omega)) ?_) | (refine EK_ev (Ev_addS rfl rfl (by simp <;> omega)) ?_) | (refine EK_ev (Ev_add rfl rfl) ?_)) | (refine ek_sub ?_; first | (refine EK_ev (Ev_subI rfl rfl (by omega)) ?_) | (refine EK_ev (Ev_sub rfl rfl) ?_)) | (refine ek_mul ?_; first | (refine EK_ev (Ev_mulI rfl rfl (by omega)) ?_) | (refine EK_ev (Ev_mul rfl rfl) ?_)) | (refine ek_eql ?_; first | (refine EK_ev (Ev_eqlI rfl rfl) ?_) | (refine EK_ev (Ev_eqlS rfl rfl) ?_) | (refine EK_ev (Ev_eqlNil rfl rfl) ?_) | (refine EK_ev (Ev_eqlB rfl rfl) ?_) | (refine EK_ev (Ev_eqlO rfl rfl rfl (fun _ => rfl)) ?_)) | (refine ek_neq ?_; first | (refine EK_ev (Ev_neqI rfl rfl) ?_) | (refine EK_ev (Ev_neqS rfl rfl) ?_) | (refine EK_ev (Ev_neqNil rfl rfl) ?_) | (refine EK_ev (Ev_neqB rfl rfl) ?_) | (refine EK_ev (Ev_neqO rfl rfl rfl (fun _ => rfl)) ?_)) | (refine ek_lss ?_; first | (refine EK_ev (Ev_lssI rfl rfl) ?_) | (refine EK_ev (Ev_lssS rfl rfl) ?_)) | (refine ek_gtr ?_; first | (refine EK_ev (Ev_gtrI rfl rfl) ?_) | (refine EK_ev (Ev_gtrS rfl rfl) ?_)))
    | (refine is_ex ?_; first | (refine KJ_blk_exit' rfl ?_))
    | (refine is_code ?_; first | (refine KJ_cond_dec rfl (fun _ => ?_) (fun _ => ?_) <;> first | (exfalso; omega) | skip) | (refine KJ_cond_t rfl ?_) | (refine KJ_cond_f rfl ?_) | (refine KJ_draws (id := 2) (.op 0 (.op 1 (.op 2 .nil))) (by kernel_rfl) (by kernel_rfl) ?_) | (refine KJ_draws (id := 4) (.op 0 (.op 1 (.op 2 .nil))) (by kernel_rfl) (by kernel_rfl) ?_) | (refine KJ_draws (id := 6) (.op 0 (.op 1 (.op 2 .nil))) (by kernel_rfl) (by kernel_rfl) ?_) | (refine KJ_draws (id := 16) (.op 0 (.op 1 (.op 2 .nil))) (by kernel_rfl) (by kernel_rfl) ?_))
    | (refine is_fw ?_; first | (refine FW_open rfl ?_) | (refine FW_nil ?_) | (refine FW_ef rfl ?_) | (refine FW_efg rfl rfl rfl ?_) | (refine FW_alt ?_ ?_))
    | (refine is_fo ?_; first | (refine FO_dec_t rfl rfl (fun _ => ?_) (fun _ => ?_) <;> first | (exfalso; omega) | skip) | (refine FO_dec_f rfl rfl (fun _ => ?_) (fun _ => ?_) <;> first | (exfalso; omega) | skip) | (refine FO_no rfl rfl rfl rfl ?_) | (refine FO_ekg rfl rfl rfl ?_) | (refine FO_ek rfl ?_))
    | (refine is_ro ?_; first | (refine RO_no rfl rfl rfl rfl ?_) | (refine RO_ekg rfl rfl ?_) | (refine RO_ek ?_))
    | (refine is_raw ?_; first | (refine KJ_flow ?_ ?_))
    | (refine AtR_mk rfl ?_)
    | exact Rech.nil
    | (refine Rech_open rfl ?_))
    all_goals (refine is_ex ?_; exact KJ_done (by first | exact Or.inl rfl | exact Or.inr rfl) rfl (by (repeat' (first | exact Rvs.nil | (apply Rvs.tmp; exact rfl))); first | done | fail) () (by rfl) (Ent.of (by (repeat' (first | exact Pick.nil | apply Pick.cons | exact Sel.here | apply Sel.there)); first | done | fail) (by (repeat' (first | exact DropTo.refl | apply DropTo.there)); first | done | fail)))
  have h1' : D.mayB at_ n = true := by simpa using h1
  rw [h1'] at c1
  by_cases h2 : stamp = 0
  · rw [show areaR D at_ n stamp bytes = ([], 6) from (if_neg h1).trans (if_pos h2)]
    refine Ct.enter Tryd.func56 rfl Tryd.ntmps56 (by simp) (fun R => ?_)
    repeat' (first 
    | refine KJ_stp (by first | constructor | fail) ?_
    | (refine is_list ?_; first | (refine KJ_guard_dec_t rfl rfl rfl (fun _ => ?_) (fun _ => ?_) <;> first | (exfalso; omega) | skip) | (refine KJ_guard_dec_f rfl rfl rfl (fun _ => ?_) (fun _ => ?_) <;> first | (exfalso; omega) | skip) | (refine KJ_guard_yes rfl rfl ?_) | (refine KJ_guard_no rfl rfl rfl rfl ?_))
    | (refine is_oper ?_; first | (refine is_alloc ?_; first | (refine KJ_alloc rfl (fun _ => ?_))) | (refine is_call ?_; first | (refine KJ_call (by (repeat' (first | exact Evs.nil | refine Evs.cons rfl ?_)); first | done | fail) c1 (by (repeat' (first | exact Pick.nil | apply Pick.cons | exact Sel.here | apply Sel.there)); first | done | fail) rfl (fun _ => ?_))) | (refine KJ_ek rfl ?_) | (refine KJ_ek0 ?_))
    | (refine is_ek ?_; first | (refine ek_move ?_; first | (refine EK_ev (Ev_move rfl) ?_)) | (refine ek_assign ?_; first | (refine EK_ev (Ev_assign rfl) ?_)) | (refine ek_pick ?_; first | (refine EK_ev (Ev_pick_t rfl rfl) ?_) | (refine EK_ev (Ev_pick_f rfl rfl) ?_)) | (refine ek_load ?_; first | (refine EK_ev (Ev_loadOld rfl e6) ?_) | (refine EK_ev (Ev_load rfl (by (repeat' (first | exact Sel.here | apply Sel.there)); first | done | fail) (by rfl)) ?_) | (refine EK_ev (Ev_loadOld rfl (by assumption)) ?_) | (refine EK_ev (Ev_loadAgg rfl (by (repeat' (first | exact Sel.here | apply Sel.there)); first | done | fail) (by (repeat' (first | exact Cut.nil | apply Cut.cons | apply Cut.skip)); first | done | fail)) ?_)) | (refine ek_un ?_; first | (refine EK_ev (Ev_notD rfl) ?_) | (refine EK_ev (Ev_not rfl) ?_) | (refine EK_ev (Ev_neg rfl) ?_)) | (refine ek_extract ?_; first | (refine EK_ev (Ev_extract rfl rfl) ?_)) | (refine ek_len ?_; first | (refine EK_ev (Ev_len_str rfl) ?_) | (refine EK_ev (Ev_len_slice rfl) ?_) | (refine EK_ev (Ev_len_arr rfl) ?_) | (refine EK_ev (Ev_len_map rfl (by (repeat' (first | exact Sel.here | apply Sel.there)); first | done | fail)) ?_)) | (refine ek_min ?_; first | (refine EK_ev (Ev_min rfl rfl) ?_)) | (refine ek_add ?_; first | (refine EK_ev (Ev_addI rfl rfl (by omega)) ?_) | (refine EK_ev (Ev_addS rfl rfl (by simp <;> omega)) ?_) | (refine EK_ev (Ev_add rfl rfl) ?_)) | (refine ek_sub ?_; first | (refine EK_ev (Ev_subI rfl rfl (by omega)) ?_) | (refine EK_ev (Ev_sub rfl rfl) ?_)) | (refine ek_mul ?_; first | (refine EK_ev (Ev_mulI rfl rfl (by omega)) ?_) | (refine EK_ev (Ev_mul rfl rfl) ?_)) | (refine ek_eql ?_; first | (refine EK_ev (Ev_eqlI_t rfl rfl h2) ?_) | (refine EK_ev (Ev_eqlI rfl rfl) ?_) | (refine EK_ev (Ev_eqlS rfl rfl) ?_) | (refine EK_ev (Ev_eqlNil rfl rfl) ?_) | (refine EK_ev (Ev_eqlB rfl rfl) ?_) | (refine EK_ev (Ev_eqlO rfl rfl rfl (fun _ => rfl)) ?_)) | (refine ek_neq ?_; first | (refine EK_ev (Ev_neqI rfl rfl) ?_) | (refine EK_ev (Ev_neqS rfl rfl) ?_) | (refine EK_ev (Ev_neqNil rfl rfl) ?_) | (refine EK_ev (Ev_neqB rfl rfl) ?_) | (refine EK_ev (Ev_neqO rfl rfl rfl (fun _ => rfl)) ?_)) | (refine ek_lss ?_; first | (refine EK_ev (Ev_lssI rfl rfl) ?_) | (refine EK_ev (Ev_lssS rfl rfl) ?_)) | (refine ek_gtr ?_; first | (refine EK_ev (Ev_gtrI rfl rfl) ?_) | (refine EK_ev (Ev_gtrS rfl rfl) ?_)))
    | (refine is_ex ?_; first | (refine KJ_blk_exit' rfl ?_))
    | (refine is_code ?_; first | (refine KJ_cond_dec rfl (fun _ => ?_) (fun _ => ?_) <;> first | (exfalso; omega) | skip) | (refine KJ_cond_t rfl ?_) | (refine KJ_cond_f rfl ?_) | (refine KJ_draws (id := 2) (.op 0 (.op 1 (.op 2 .nil))) (by kernel_rfl) (by kernel_rfl) ?_) | (refine KJ_draws (id := 4) (.op 0 (.op 1 (.op 2 .nil))) (by kernel_rfl) (by kernel_rfl) ?_) | (refine KJ_draws (id := 6) (.op 0 (.op 1 (.op 2 .nil))) (by kernel_rfl) (by kernel_rfl) ?_) | (refine KJ_draws (id := 16) (.op 0 (.op 1 (.op 2 .nil))) (by kernel_rfl) (by kernel_rfl) ?_))
    | (refine is_fw ?_; first | (refine FW_open rfl ?_) | (refine FW_nil ?_) | (refine FW_ef rfl ?_) | (refine FW_efg rfl rfl rfl ?_) | (refine FW_alt ?_ ?_))
    | (refine is_fo ?_; first | (refine FO_dec_t rfl rfl (fun _ => ?_) (fun _ => ?_) <;> first | (exfalso; omega) | skip) | (refine FO_dec_f rfl rfl (fun _ => ?_) (fun _ => ?_) <;> first | (exfalso; omega) | skip) | (refine FO_no rfl rfl rfl rfl ?_) | (refine FO_ekg rfl rfl rfl ?_) | (refine FO_ek rfl ?_))
    | (refine is_ro ?_; first | (refine RO_no rfl rfl rfl rfl ?_) | (refine RO_ekg rfl rfl ?_) | (refine RO_ek ?_))
    | (refine is_raw ?_; first | (refine KJ_flow ?_ ?_))
    | (refine AtR_mk rfl ?_)
    | exact Rech.nil
    | (refine Rech_open rfl ?_))
    all_goals (refine is_ex ?_; exact KJ_done (by first | exact Or.inl rfl | exact Or.inr rfl) rfl (by (repeat' (first | exact Rvs.nil | (apply Rvs.tmp; exact rfl))); first | done | fail) () (by rfl) (Ent.of (by (repeat' (first | exact Pick.nil | apply Pick.cons | exact Sel.here | apply Sel.there)); first | done | fail) (by (repeat' (first | exact DropTo.refl | apply DropTo.there)); first | done | fail)))
  by_cases hb : bytes < 0
  · rw [show areaR D at_ n stamp bytes = ([], 6) from (if_neg h1).trans ((if_neg h2).trans (if_pos hb))]
    have qb : decide (bytes < 0) = true := decide_eq_true hb
    refine Ct.enter Tryd.func56 rfl Tryd.ntmps56 (by simp) (fun R => ?_)
    repeat' (first 
    | refine KJ_stp (by first | constructor | fail) ?_
    | (refine is_list ?_; first | (refine KJ_guard_dec_t rfl rfl rfl (fun _ => ?_) (fun _ => ?_) <;> first | (exfalso; omega) | skip) | (refine KJ_guard_dec_f rfl rfl rfl (fun _ => ?_) (fun _ => ?_) <;> first | (exfalso; omega) | skip) | (refine KJ_guard_yes rfl rfl ?_) | (refine KJ_guard_no rfl rfl rfl rfl ?_))
    | (refine is_oper ?_; first | (refine is_alloc ?_; first | (refine KJ_alloc rfl (fun _ => ?_))) | (refine is_call ?_; first | (refine KJ_call (by (repeat' (first | exact Evs.nil | refine Evs.cons rfl ?_)); first | done | fail) c1 (by (repeat' (first | exact Pick.nil | apply Pick.cons | exact Sel.here | apply Sel.there)); first | done | fail) rfl (fun _ => ?_))) | (refine KJ_ek rfl ?_) | (refine KJ_ek0 ?_))
    | (refine is_ek ?_; first | (refine ek_move ?_; first | (refine EK_ev (Ev_move rfl) ?_)) | (refine ek_assign ?_; first | (refine EK_ev (Ev_assign rfl) ?_)) | (refine ek_pick ?_; first | (refine EK_ev (Ev_pick_t rfl rfl) ?_) | (refine EK_ev (Ev_pick_f rfl rfl) ?_)) | (refine ek_load ?_; first | (refine EK_ev (Ev_loadOld rfl e6) ?_) | (refine EK_ev (Ev_load rfl (by (repeat' (first | exact Sel.here | apply Sel.there)); first | done | fail) (by rfl)) ?_) | (refine EK_ev (Ev_loadOld rfl (by assumption)) ?_) | (refine EK_ev (Ev_loadAgg rfl (by (repeat' (first | exact Sel.here | apply Sel.there)); first | done | fail) (by (repeat' (first | exact Cut.nil | apply Cut.cons | apply Cut.skip)); first | done | fail)) ?_)) | (refine ek_un ?_; first | (refine EK_ev (Ev_notD rfl) ?_) | (refine EK_ev (Ev_not rfl) ?_) | (refine EK_ev (Ev_neg rfl) ?_)) | (refine ek_extract ?_; first | (refine EK_ev (Ev_extract rfl rfl) ?_)) | (refine ek_len ?_; first | (refine EK_ev (Ev_len_str rfl) ?_) | (refine EK_ev (Ev_len_slice rfl) ?_) | (refine EK_ev (Ev_len_arr rfl) ?_) | (refine EK_ev (Ev_len_map rfl (by (repeat' (first | exact Sel.here | apply Sel.there)); first | done | fail)) ?_)) | (refine ek_min ?_; first | (refine EK_ev (Ev_min rfl rfl) ?_)) | (refine ek_add ?_; first | (refine EK_ev (Ev_addI rfl rfl (by omega)) ?_) | (refine EK_ev (Ev_addS rfl rfl (by simp <;> omega)) ?_) | (refine EK_ev (Ev_add rfl rfl) ?_)) | (refine ek_sub ?_; first | (refine EK_ev (Ev_subI rfl rfl (by omega)) ?_) | (refine EK_ev (Ev_sub rfl rfl) ?_)) | (refine ek_mul ?_; first | (refine EK_ev (Ev_mulI rfl rfl (by omega)) ?_) | (refine EK_ev (Ev_mul rfl rfl) ?_)) | (refine ek_eql ?_; first | (refine EK_ev (Ev_eqlI_f rfl rfl h2) ?_) | (refine EK_ev (Ev_eqlI rfl rfl) ?_) | (refine EK_ev (Ev_eqlS rfl rfl) ?_) | (refine EK_ev (Ev_eqlNil rfl rfl) ?_) | (refine EK_ev (Ev_eqlB rfl rfl) ?_) | (refine EK_ev (Ev_eqlO rfl rfl rfl (fun _ => rfl)) ?_)) | (refine ek_neq ?_; first | (refine EK_ev (Ev_neqI rfl rfl) ?_) | (refine EK_ev (Ev_neqS rfl rfl) ?_) | (refine EK_ev (Ev_neqNil rfl rfl) ?_) | (refine EK_ev (Ev_neqB rfl rfl) ?_) | (refine EK_ev (Ev_neqO rfl rfl rfl (fun _ => rfl)) ?_)) | (refine ek_lss ?_; first | (refine EK_ev (Ev_lssI_q rfl rfl qb) ?_) | (refine EK_ev (Ev_lssI rfl rfl) ?_) | (refine EK_ev (Ev_lssS rfl rfl) ?_)) | (refine ek_gtr ?_; first | (refine EK_ev (Ev_gtrI rfl rfl) ?_) | (refine EK_ev (Ev_gtrS rfl rfl) ?_)))
    | (refine is_ex ?_; first | (refine KJ_blk_exit' rfl ?_))
    | (refine is_code ?_; first | (refine KJ_cond_dec rfl (fun _ => ?_) (fun _ => ?_) <;> first | (exfalso; omega) | skip) | (refine KJ_cond_t rfl ?_) | (refine KJ_cond_f rfl ?_) | (refine KJ_draws (id := 2) (.op 0 (.op 1 (.op 2 .nil))) (by kernel_rfl) (by kernel_rfl) ?_) | (refine KJ_draws (id := 4) (.op 0 (.op 1 (.op 2 .nil))) (by kernel_rfl) (by kernel_rfl) ?_) | (refine KJ_draws (id := 6) (.op 0 (.op 1 (.op 2 .nil))) (by kernel_rfl) (by kernel_rfl) ?_) | (refine KJ_draws (id := 16) (.op 0 (.op 1 (.op 2 .nil))) (by kernel_rfl) (by kernel_rfl) ?_))
    | (refine is_fw ?_; first | (refine FW_open rfl ?_) | (refine FW_nil ?_) | (refine FW_ef rfl ?_) | (refine FW_efg rfl rfl rfl ?_) | (refine FW_alt ?_ ?_))
    | (refine is_fo ?_; first | (refine FO_dec_t rfl rfl (fun _ => ?_) (fun _ => ?_) <;> first | (exfalso; omega) | skip) | (refine FO_dec_f rfl rfl (fun _ => ?_) (fun _ => ?_) <;> first | (exfalso; omega) | skip) | (refine FO_no rfl rfl rfl rfl ?_) | (refine FO_ekg rfl rfl rfl ?_) | (refine FO_ek rfl ?_))
    | (refine is_ro ?_; first | (refine RO_no rfl rfl rfl rfl ?_) | (refine RO_ekg rfl rfl ?_) | (refine RO_ek ?_))
    | (refine is_raw ?_; first | (refine KJ_flow ?_ ?_))
    | (refine AtR_mk rfl ?_)
    | exact Rech.nil
    | (refine Rech_open rfl ?_))
    all_goals (refine is_ex ?_; exact KJ_done (by first | exact Or.inl rfl | exact Or.inr rfl) rfl (by (repeat' (first | exact Rvs.nil | (apply Rvs.tmp; exact rfl))); first | done | fail) () (by rfl) (Ent.of (by (repeat' (first | exact Pick.nil | apply Pick.cons | exact Sel.here | apply Sel.there)); first | done | fail) (by (repeat' (first | exact DropTo.refl | apply DropTo.there)); first | done | fail)))
  have qb : decide (bytes < 0) = false := decide_eq_false hb
  have c2 := room9_ct (W := W) n
  by_cases h3 : roomI n < bytes
  · rw [show areaR D at_ n stamp bytes = ([], 3) from (if_neg h1).trans ((if_neg h2).trans ((if_neg hb).trans (if_pos h3)))]
    have q3 : decide (roomI n < bytes) = true := decide_eq_true h3
    refine Ct.enter Tryd.func56 rfl Tryd.ntmps56 (by simp) (fun R => ?_)
    repeat' (first 
    | refine KJ_stp (by first | constructor | fail) ?_
    | (refine is_list ?_; first | (refine KJ_guard_dec_t rfl rfl rfl (fun _ => ?_) (fun _ => ?_) <;> first | (exfalso; omega) | skip) | (refine KJ_guard_dec_f rfl rfl rfl (fun _ => ?_) (fun _ => ?_) <;> first | (exfalso; omega) | skip) | (refine KJ_guard_yes rfl rfl ?_) | (refine KJ_guard_no rfl rfl rfl rfl ?_))
    | (refine is_oper ?_; first | (refine is_alloc ?_; first | (refine KJ_alloc rfl (fun _ => ?_))) | (refine is_call ?_; first | (refine KJ_call (by (repeat' (first | exact Evs.nil | refine Evs.cons rfl ?_)); first | done | fail) c1 (by (repeat' (first | exact Pick.nil | apply Pick.cons | exact Sel.here | apply Sel.there)); first | done | fail) rfl (fun _ => ?_)) | (refine KJ_call (by (repeat' (first | exact Evs.nil | refine Evs.cons rfl ?_)); first | done | fail) c2 (by (repeat' (first | exact Pick.nil | apply Pick.cons | exact Sel.here | apply Sel.there)); first | done | fail) rfl (fun _ => ?_))) | (refine KJ_ek rfl ?_) | (refine KJ_ek0 ?_))
    | (refine is_ek ?_; first | (refine ek_move ?_; first | (refine EK_ev (Ev_move rfl) ?_)) | (refine ek_assign ?_; first | (refine EK_ev (Ev_assign rfl) ?_)) | (refine ek_pick ?_; first | (refine EK_ev (Ev_pick_t rfl rfl) ?_) | (refine EK_ev (Ev_pick_f rfl rfl) ?_)) | (refine ek_load ?_; first | (refine EK_ev (Ev_loadOld rfl e3) ?_) | (refine EK_ev (Ev_load rfl (by (repeat' (first | exact Sel.here | apply Sel.there)); first | done | fail) (by rfl)) ?_) | (refine EK_ev (Ev_loadOld rfl (by assumption)) ?_) | (refine EK_ev (Ev_loadAgg rfl (by (repeat' (first | exact Sel.here | apply Sel.there)); first | done | fail) (by (repeat' (first | exact Cut.nil | apply Cut.cons | apply Cut.skip)); first | done | fail)) ?_)) | (refine ek_un ?_; first | (refine EK_ev (Ev_notD rfl) ?_) | (refine EK_ev (Ev_not rfl) ?_) | (refine EK_ev (Ev_neg rfl) ?_)) | (refine ek_extract ?_; first | (refine EK_ev (Ev_extract rfl rfl) ?_)) | (refine ek_len ?_; first | (refine EK_ev (Ev_len_str rfl) ?_) | (refine EK_ev (Ev_len_slice rfl) ?_) | (refine EK_ev (Ev_len_arr rfl) ?_) | (refine EK_ev (Ev_len_map rfl (by (repeat' (first | exact Sel.here | apply Sel.there)); first | done | fail)) ?_)) | (refine ek_min ?_; first | (refine EK_ev (Ev_min rfl rfl) ?_)) | (refine ek_add ?_; first | (refine EK_ev (Ev_addI rfl rfl (by omega)) ?_) | (refine EK_ev (Ev_addS rfl rfl (by simp <;> omega)) ?_) | (refine EK_ev (Ev_add rfl rfl) ?_)) | (refine ek_sub ?_; first | (refine EK_ev (Ev_subI rfl rfl (by omega)) ?_) | (refine EK_ev (Ev_sub rfl rfl) ?_)) | (refine ek_mul ?_; first | (refine EK_ev (Ev_mulI rfl rfl (by omega)) ?_) | (refine EK_ev (Ev_mul rfl rfl) ?_)) | (refine ek_eql ?_; first | (refine EK_ev (Ev_eqlI_f rfl rfl h2) ?_) | (refine EK_ev (Ev_eqlI rfl rfl) ?_) | (refine EK_ev (Ev_eqlS rfl rfl) ?_) | (refine EK_ev (Ev_eqlNil rfl rfl) ?_) | (refine EK_ev (Ev_eqlB rfl rfl) ?_) | (refine EK_ev (Ev_eqlO rfl rfl rfl (fun _ => rfl)) ?_)) | (refine ek_neq ?_; first | (refine EK_ev (Ev_neqI rfl rfl) ?_) | (refine EK_ev (Ev_neqS rfl rfl) ?_) | (refine EK_ev (Ev_neqNil rfl rfl) ?_) | (refine EK_ev (Ev_neqB rfl rfl) ?_) | (refine EK_ev (Ev_neqO rfl rfl rfl (fun _ => rfl)) ?_)) | (refine ek_lss ?_; first | (refine EK_ev (Ev_lssI_q rfl rfl qb) ?_) | (refine EK_ev (Ev_lssI rfl rfl) ?_) | (refine EK_ev (Ev_lssS rfl rfl) ?_)) | (refine ek_gtr ?_; first | (refine EK_ev (Ev_gtrI_q rfl rfl q3) ?_) | (refine EK_ev (Ev_gtrI rfl rfl) ?_) | (refine EK_ev (Ev_gtrS rfl rfl) ?_)))
    | (refine is_ex ?_; first | (refine KJ_blk_exit' rfl ?_))
    | (refine is_code ?_; first | (refine KJ_cond_dec rfl (fun _ => ?_) (fun _ => ?_) <;> first | (exfalso; omega) | skip) | (refine KJ_cond_t rfl ?_) | (refine KJ_cond_f rfl ?_) | (refine KJ_draws (id := 2) (.op 0 (.op 1 (.op 2 .nil))) (by kernel_rfl) (by kernel_rfl) ?_) | (refine KJ_draws (id := 4) (.op 0 (.op 1 (.op 2 .nil))) (by kernel_rfl) (by kernel_rfl) ?_) | (refine KJ_draws (id := 6) (.op 0 (.op 1 (.op 2 .nil))) (by kernel_rfl) (by kernel_rfl) ?_) | (refine KJ_draws (id := 16) (.op 0 (.op 1 (.op 2 .nil))) (by kernel_rfl) (by kernel_rfl) ?_))
    | (refine is_fw ?_; first | (refine FW_open rfl ?_) | (refine FW_nil ?_) | (refine FW_ef rfl ?_) | (refine FW_efg rfl rfl rfl ?_) | (refine FW_alt ?_ ?_))
    | (refine is_fo ?_; first | (refine FO_dec_t rfl rfl (fun _ => ?_) (fun _ => ?_) <;> first | (exfalso; omega) | skip) | (refine FO_dec_f rfl rfl (fun _ => ?_) (fun _ => ?_) <;> first | (exfalso; omega) | skip) | (refine FO_no rfl rfl rfl rfl ?_) | (refine FO_ekg rfl rfl rfl ?_) | (refine FO_ek rfl ?_))
    | (refine is_ro ?_; first | (refine RO_no rfl rfl rfl rfl ?_) | (refine RO_ekg rfl rfl ?_) | (refine RO_ek ?_))
    | (refine is_raw ?_; first | (refine KJ_flow ?_ ?_))
    | (refine AtR_mk rfl ?_)
    | exact Rech.nil
    | (refine Rech_open rfl ?_))
    all_goals (refine is_ex ?_; exact KJ_done (by first | exact Or.inl rfl | exact Or.inr rfl) rfl (by (repeat' (first | exact Rvs.nil | (apply Rvs.tmp; exact rfl))); first | done | fail) () (by rfl) (Ent.of (by (repeat' (first | exact Pick.nil | apply Pick.cons | exact Sel.here | apply Sel.there)); first | done | fail) (by (repeat' (first | exact DropTo.refl | apply DropTo.there)); first | done | fail)))
  have q3 : decide (roomI n < bytes) = false := decide_eq_false h3
  have c3 : Ct Tryd.prog W 30 [.pointer (some ⟨p, 0, none⟩)] [DiskP p D] (fun _ : Unit => .bool D.off) (fun _ => [DiskP p D]) := off_ct
  by_cases h4 : D.off = true
  · rw [show areaR D at_ n stamp bytes = ([], 12) from (if_neg h1).trans ((if_neg h2).trans ((if_neg hb).trans ((if_neg h3).trans (if_pos h4))))]
    rw [h4] at c3
    refine Ct.enter Tryd.func56 rfl Tryd.ntmps56 (by simp) (fun R => ?_)
    repeat' (first 
    | refine KJ_stp (by first | constructor | fail) ?_
    | (refine is_list ?_; first | (refine KJ_guard_dec_t rfl rfl rfl (fun _ => ?_) (fun _ => ?_) <;> first | (exfalso; omega) | skip) | (refine KJ_guard_dec_f rfl rfl rfl (fun _ => ?_) (fun _ => ?_) <;> first | (exfalso; omega) | skip) | (refine KJ_guard_yes rfl rfl ?_) | (refine KJ_guard_no rfl rfl rfl rfl ?_))
    | (refine is_oper ?_; first | (refine is_alloc ?_; first | (refine KJ_alloc rfl (fun _ => ?_))) | (refine is_call ?_; first | (refine KJ_call (by (repeat' (first | exact Evs.nil | refine Evs.cons rfl ?_)); first | done | fail) c1 (by (repeat' (first | exact Pick.nil | apply Pick.cons | exact Sel.here | apply Sel.there)); first | done | fail) rfl (fun _ => ?_)) | (refine KJ_call (by (repeat' (first | exact Evs.nil | refine Evs.cons rfl ?_)); first | done | fail) c2 (by (repeat' (first | exact Pick.nil | apply Pick.cons | exact Sel.here | apply Sel.there)); first | done | fail) rfl (fun _ => ?_)) | (refine KJ_call (by (repeat' (first | exact Evs.nil | refine Evs.cons rfl ?_)); first | done | fail) c3 (by (repeat' (first | exact Pick.nil | apply Pick.cons | exact Sel.here | apply Sel.there)); first | done | fail) rfl (fun _ => ?_))) | (refine KJ_ek rfl ?_) | (refine KJ_ek0 ?_))
    | (refine is_ek ?_; first | (refine ek_move ?_; first | (refine EK_ev (Ev_move rfl) ?_)) | (refine ek_assign ?_; first | (refine EK_ev (Ev_assign rfl) ?_)) | (refine ek_pick ?_; first | (refine EK_ev (Ev_pick_t rfl rfl) ?_) | (refine EK_ev (Ev_pick_f rfl rfl) ?_)) | (refine ek_load ?_; first | (refine EK_ev (Ev_loadOld rfl e12) ?_) | (refine EK_ev (Ev_load rfl (by (repeat' (first | exact Sel.here | apply Sel.there)); first | done | fail) (by rfl)) ?_) | (refine EK_ev (Ev_loadOld rfl (by assumption)) ?_) | (refine EK_ev (Ev_loadAgg rfl (by (repeat' (first | exact Sel.here | apply Sel.there)); first | done | fail) (by (repeat' (first | exact Cut.nil | apply Cut.cons | apply Cut.skip)); first | done | fail)) ?_)) | (refine ek_un ?_; first | (refine EK_ev (Ev_notD rfl) ?_) | (refine EK_ev (Ev_not rfl) ?_) | (refine EK_ev (Ev_neg rfl) ?_)) | (refine ek_extract ?_; first | (refine EK_ev (Ev_extract rfl rfl) ?_)) | (refine ek_len ?_; first | (refine EK_ev (Ev_len_str rfl) ?_) | (refine EK_ev (Ev_len_slice rfl) ?_) | (refine EK_ev (Ev_len_arr rfl) ?_) | (refine EK_ev (Ev_len_map rfl (by (repeat' (first | exact Sel.here | apply Sel.there)); first | done | fail)) ?_)) | (refine ek_min ?_; first | (refine EK_ev (Ev_min rfl rfl) ?_)) | (refine ek_add ?_; first | (refine EK_ev (Ev_addI rfl rfl (by omega)) ?_) | (refine EK_ev (Ev_addS rfl rfl (by simp <;> omega)) ?_) | (refine EK_ev (Ev_add rfl rfl) ?_)) | (refine ek_sub ?_; first | (refine EK_ev (Ev_subI rfl rfl (by omega)) ?_) | (refine EK_ev (Ev_sub rfl rfl) ?_)) | (refine ek_mul ?_; first | (refine EK_ev (Ev_mulI rfl rfl (by omega)) ?_) | (refine EK_ev (Ev_mul rfl rfl) ?_)) | (refine ek_eql ?_; first | (refine EK_ev (Ev_eqlI_f rfl rfl h2) ?_) | (refine EK_ev (Ev_eqlI rfl rfl) ?_) | (refine EK_ev (Ev_eqlS rfl rfl) ?_) | (refine EK_ev (Ev_eqlNil rfl rfl) ?_) | (refine EK_ev (Ev_eqlB rfl rfl) ?_) | (refine EK_ev (Ev_eqlO rfl rfl rfl (fun _ => rfl)) ?_)) | (refine ek_neq ?_; first | (refine EK_ev (Ev_neqI rfl rfl) ?_) | (refine EK_ev (Ev_neqS rfl rfl) ?_) | (refine EK_ev (Ev_neqNil rfl rfl) ?_) | (refine EK_ev (Ev_neqB rfl rfl) ?_) | (refine EK_ev (Ev_neqO rfl rfl rfl (fun _ => rfl)) ?_)) | (refine ek_lss ?_; first | (refine EK_ev (Ev_lssI_q rfl rfl qb) ?_) | (refine EK_ev (Ev_lssI rfl rfl) ?_) | (refine EK_ev (Ev_lssS rfl rfl) ?_)) | (refine ek_gtr ?_; first | (refine EK_ev (Ev_gtrI_q rfl rfl q3) ?_) | (refine EK_ev (Ev_gtrI rfl rfl) ?_) | (refine EK_ev (Ev_gtrS rfl rfl) ?_)))
    | (refine is_ex ?_; first | (refine KJ_blk_exit' rfl ?_))
    | (refine is_code ?_; first | (refine KJ_cond_dec rfl (fun _ => ?_) (fun _ => ?_) <;> first | (exfalso; omega) | skip) | (refine KJ_cond_t rfl ?_) | (refine KJ_cond_f rfl ?_) | (refine KJ_draws (id := 2) (.op 0 (.op 1 (.op 2 .nil))) (by kernel_rfl) (by kernel_rfl) ?_) | (refine KJ_draws (id := 4) (.op 0 (.op 1 (.op 2 .nil))) (by kernel_rfl) (by kernel_rfl) ?_) | (refine KJ_draws (id := 6) (.op 0 (.op 1 (.op 2 .nil))) (by kernel_rfl) (by kernel_rfl) ?_) | (refine KJ_draws (id := 16) (.op 0 (.op 1 (.op 2 .nil))) (by kernel_rfl) (by kernel_rfl) ?_))
    | (refine is_fw ?_; first | (refine FW_open rfl ?_) | (refine FW_nil ?_) | (refine FW_ef rfl ?_) | (refine FW_efg rfl rfl rfl ?_) | (refine FW_alt ?_ ?_))
    | (refine is_fo ?_; first | (refine FO_dec_t rfl rfl (fun _ => ?_) (fun _ => ?_) <;> first | (exfalso; omega) | skip) | (refine FO_dec_f rfl rfl (fun _ => ?_) (fun _ => ?_) <;> first | (exfalso; omega) | skip) | (refine FO_no rfl rfl rfl rfl ?_) | (refine FO_ekg rfl rfl rfl ?_) | (refine FO_ek rfl ?_))
    | (refine is_ro ?_; first | (refine RO_no rfl rfl rfl rfl ?_) | (refine RO_ekg rfl rfl ?_) | (refine RO_ek ?_))
    | (refine is_raw ?_; first | (refine KJ_flow ?_ ?_))
    | (refine AtR_mk rfl ?_)
    | exact Rech.nil
    | (refine Rech_open rfl ?_))
    all_goals (refine is_ex ?_; exact KJ_done (by first | exact Or.inl rfl | exact Or.inr rfl) rfl (by (repeat' (first | exact Rvs.nil | (apply Rvs.tmp; exact rfl))); first | done | fail) () (by rfl) (Ent.of (by (repeat' (first | exact Pick.nil | apply Pick.cons | exact Sel.here | apply Sel.there)); first | done | fail) (by (repeat' (first | exact DropTo.refl | apply DropTo.there)); first | done | fail)))
  have h4' : D.off = false := by simpa using h4
  rw [h4'] at c3
  obtain ⟨S, hS⟩ : ∃ S, S = (sectorsI bytes).toNat := ⟨_, rfl⟩
  have hR : areaR D at_ n stamp bytes = arGo D at_ stamp bytes S 0 [] := by rw [hS]; exact (if_neg h1).trans ((if_neg h2).trans ((if_neg hb).trans ((if_neg h3).trans (if_neg h4))))
  rw [hR]
  have hbr : bytes ≤ 234 * 65536 := by unfold roomI at h3; omega
  have hSI : sectorsI bytes = (S : Int) ∧ S ≤ 65536 := by
    unfold sectorsI at hS ⊢
    split at hS <;> rename_i hh
    · rw [if_pos hh]; omega
    · rw [if_neg hh]; omega
  have c5 : Ct Tryd.prog W 50 [.int .i64 bytes] [] (fun _ : Unit => .int .i64 (S : Nat)) (fun _ => []) := (sectors9_ct bytes (by omega)).val fun _ => by rw [hSI.1]
  obtain ⟨res, hres⟩ : ∃ res, res = arGo D at_ stamp bytes S 0 [] := ⟨_, rfl⟩
  rw [← hres]
  have hat : 0 ≤ at_ ∧ at_ ≤ 65536 := by
    unfold Dsk.mayB at h1'
    have := of_decide_eq_true h1'
    omega
  clear hR hS
  refine Ct.enter Tryd.func56 rfl Tryd.ntmps56 (by simp) (fun R => ?_)
  repeat' (first 
    | refine KJ_stp (by first | constructor | fail) ?_
    | (refine is_list ?_; first | (refine KJ_guard_dec_t rfl rfl rfl (fun _ => ?_) (fun _ => ?_) <;> first | (exfalso; omega) | skip) | (refine KJ_guard_dec_f rfl rfl rfl (fun _ => ?_) (fun _ => ?_) <;> first | (exfalso; omega) | skip) | (refine KJ_guard_yes rfl rfl ?_) | (refine KJ_guard_no rfl rfl rfl rfl ?_))
    | (refine is_oper ?_; first | (refine is_alloc ?_; first | (refine KJ_alloc rfl (fun gb => KJ.row0 (e := 5) (sz := 1) ?_)) | (refine KJ_alloc rfl (fun _ => ?_))) | (refine is_call ?_; first | (refine KJ_call (by (repeat' (first | exact Evs.nil | refine Evs.cons rfl ?_)); first | done | fail) c1 (by (repeat' (first | exact Pick.nil | apply Pick.cons | exact Sel.here | apply Sel.there)); first | done | fail) rfl (fun _ => ?_)) | (refine KJ_call (by (repeat' (first | exact Evs.nil | refine Evs.cons rfl ?_)); first | done | fail) c2 (by (repeat' (first | exact Pick.nil | apply Pick.cons | exact Sel.here | apply Sel.there)); first | done | fail) rfl (fun _ => ?_)) | (refine KJ_call (by (repeat' (first | exact Evs.nil | refine Evs.cons rfl ?_)); first | done | fail) c3 (by (repeat' (first | exact Pick.nil | apply Pick.cons | exact Sel.here | apply Sel.there)); first | done | fail) rfl (fun _ => ?_)) | (refine KJ_call (by (repeat' (first | exact Evs.nil | refine Evs.cons rfl ?_)); first | done | fail) c5 (by (repeat' (first | exact Pick.nil | apply Pick.cons | exact Sel.here | apply Sel.there)); first | done | fail) rfl (fun _ => ?_))) | (refine KJ_ek rfl ?_) | (refine KJ_ek0 ?_))
    | (refine is_ek ?_; first | (refine ek_move ?_; first | (refine EK_ev (Ev_move rfl) ?_)) | (refine ek_assign ?_; first | (refine EK_ev (Ev_assign rfl) ?_)) | (refine ek_pick ?_; first | (refine EK_ev (Ev_pick_t rfl rfl) ?_) | (refine EK_ev (Ev_pick_f rfl rfl) ?_)) | (refine ek_load ?_; first | (refine EK_ev (Ev_load rfl (by (repeat' (first | exact Sel.here | apply Sel.there)); first | done | fail) (by rfl)) ?_) | (refine EK_ev (Ev_loadOld rfl (by assumption)) ?_) | (refine EK_ev (Ev_loadAgg rfl (by (repeat' (first | exact Sel.here | apply Sel.there)); first | done | fail) (by (repeat' (first | exact Cut.nil | apply Cut.cons | apply Cut.skip)); first | done | fail)) ?_)) | (refine ek_un ?_; first | (refine EK_ev (Ev_notD rfl) ?_) | (refine EK_ev (Ev_not rfl) ?_) | (refine EK_ev (Ev_neg rfl) ?_)) | (refine ek_extract ?_; first | (refine EK_ev (Ev_extract rfl rfl) ?_)) | (refine ek_len ?_; first | (refine EK_ev (Ev_len_str rfl) ?_) | (refine EK_ev (Ev_len_slice rfl) ?_) | (refine EK_ev (Ev_len_arr rfl) ?_) | (refine EK_ev (Ev_len_map rfl (by (repeat' (first | exact Sel.here | apply Sel.there)); first | done | fail)) ?_)) | (refine ek_min ?_; first | (refine EK_ev (Ev_min rfl rfl) ?_)) | (refine ek_add ?_; first | (refine EK_ev (Ev_addI rfl rfl (by omega)) ?_) | (refine EK_ev (Ev_addS rfl rfl (by simp <;> omega)) ?_) | (refine EK_ev (Ev_add rfl rfl) ?_)) | (refine ek_sub ?_; first | (refine EK_ev (Ev_subI rfl rfl (by omega)) ?_) | (refine EK_ev (Ev_sub rfl rfl) ?_)) | (refine ek_mul ?_; first | (refine EK_ev (Ev_mulI rfl rfl (by omega)) ?_) | (refine EK_ev (Ev_mul rfl rfl) ?_)) | (refine ek_eql ?_; first | (refine EK_ev (Ev_eqlI_f rfl rfl h2) ?_) | (refine EK_ev (Ev_eqlI rfl rfl) ?_) | (refine EK_ev (Ev_eqlS rfl rfl) ?_) | (refine EK_ev (Ev_eqlNil rfl rfl) ?_) | (refine EK_ev (Ev_eqlB rfl rfl) ?_) | (refine EK_ev (Ev_eqlO rfl rfl rfl (fun _ => rfl)) ?_)) | (refine ek_neq ?_; first | (refine EK_ev (Ev_neqI rfl rfl) ?_) | (refine EK_ev (Ev_neqS rfl rfl) ?_) | (refine EK_ev (Ev_neqNil rfl rfl) ?_) | (refine EK_ev (Ev_neqB rfl rfl) ?_) | (refine EK_ev (Ev_neqO rfl rfl rfl (fun _ => rfl)) ?_)) | (refine ek_lss ?_; first | (refine EK_ev (Ev_lssI_q rfl rfl qb) ?_) | (refine EK_ev (Ev_lssI rfl rfl) ?_) | (refine EK_ev (Ev_lssS rfl rfl) ?_)) | (refine ek_gtr ?_; first | (refine EK_ev (Ev_gtrI_q rfl rfl q3) ?_) | (refine EK_ev (Ev_gtrI rfl rfl) ?_) | (refine EK_ev (Ev_gtrS rfl rfl) ?_)))
    | (refine is_ex ?_; first | (refine KJ_blk_exit' rfl ?_))
    | (refine is_code ?_; first | (refine KJ_cond_dec rfl (fun _ => ?_) (fun _ => ?_) <;> first | (exfalso; omega) | skip) | (refine KJ_cond_t rfl ?_) | (refine KJ_cond_f rfl ?_) | (refine KJ_draws (id := 2) (.op 0 (.op 1 (.op 2 .nil))) (by kernel_rfl) (by kernel_rfl) ?_) | (refine KJ_draws (id := 4) (.op 0 (.op 1 (.op 2 .nil))) (by kernel_rfl) (by kernel_rfl) ?_) | (refine KJ_draws (id := 6) (.op 0 (.op 1 (.op 2 .nil))) (by kernel_rfl) (by kernel_rfl) ?_) | (refine KJ_draws (id := 16) (.op 0 (.op 1 (.op 2 .nil))) (by kernel_rfl) (by kernel_rfl) ?_))
    | (refine is_fw ?_; first | (refine FW_open rfl ?_) | (refine FW_nil ?_) | (refine FW_ef rfl ?_) | (refine FW_efg rfl rfl rfl ?_) | (refine FW_alt ?_ ?_))
    | (refine is_fo ?_; first | (refine FO_dec_t rfl rfl (fun _ => ?_) (fun _ => ?_) <;> first | (exfalso; omega) | skip) | (refine FO_dec_f rfl rfl (fun _ => ?_) (fun _ => ?_) <;> first | (exfalso; omega) | skip) | (refine FO_no rfl rfl rfl rfl ?_) | (refine FO_ekg rfl rfl rfl ?_) | (refine FO_ek rfl ?_))
    | (refine is_ro ?_; first | (refine RO_no rfl rfl rfl rfl ?_) | (refine RO_ekg rfl rfl ?_) | (refine RO_ek ?_))
    | (refine is_raw ?_; first | (refine KJ_flow ?_ ?_))
    | (refine AtR_mk rfl ?_)
    | exact Rech.nil
    | (refine Rech_open rfl ?_))
  rename_i gb _
  refine KJ_loop (fun i : {s : Nat × List UInt8 × Value × Value // arGo D at_ stamp bytes (S - s.1) s.1 s.2.1 = res ∧ s.1 ≤ S ∧ s.2.1.length ≤ 234 * s.1 ∧ ((s.2.1 = [] ∧ s.2.2.1 = .pointer none ∧ s.2.2.2 = .slice none 0 0) ∨ (s.2.1 ≠ [] ∧ s.2.2.1 = .pointer (some ⟨gb, 0, none⟩) ∧ ∃ g c, s.2.2.2 = .slice (some ⟨g, 0, none⟩) s.2.1.length c))} =>
      [(0, .pointer (some ⟨p, 0, none⟩)), (1, .int .i64 at_), (3, .int .u64 stamp), (4, .int .i64 bytes), (12, .pointer (some ⟨gb, 0, none⟩)), (41, .int .i64 (S : Nat)), (42, .int .i64 (i.1.1 : Nat))])
    (fun i => [DiskP p D, bldP gb i.1.2.2.1 i.1.2.2.2, rowP i.1.2.2.2 5 1 i.1.2.1.length (bvs i.1.2.1)] ++ R) (fun i => S - i.1.1) ⟨(0, [], .pointer none, .slice none 0 0), hres.symm, by dsimp only; omega, by simp, .inl ⟨rfl, rfl, rfl⟩⟩ (by (repeat' (first | exact Subs.nil | refine Subs.cons rfl ?_)); first | done | fail) (Ent.of (by (repeat' (first | exact Pick.nil | apply Pick.cons | exact Sel.here | apply Sel.there)); first | done | fail) (by (repeat' (first | exact DropTo.refl | apply DropTo.there)); first | done | fail)) (fun ⟨(i, acc, q, v), hr, hi, hal, hqv⟩ => ?_)
  dsimp only at hr hi hal hqv ⊢
  by_cases hlt : i < S
  · have ql : decide ((i : Int) < (S : Int)) = true := decide_eq_true (by omega)
    obtain ⟨f, hf⟩ : ∃ f, S - i = f + 1 := ⟨S - i - 1, by omega⟩
    have hf2 : S - (i + 1) = f := by omega
    rw [hf] at hr
    have hunf : arGo D at_ stamp bytes (f + 1) i acc = if D.readE (at_ + i) ≠ 0 then ([], D.readE (at_ + i)) else
      match openS stamp (D.readS (at_ + i)) with
      | none => ([], 15)
      | some pc => if (pc.length : Int) ≠ min (bytes - i * 234) 234 then ([], 15) else arGo D at_ stamp bytes f (i + 1) (acc ++ pc) := rfl
    rw [hunf] at hr
    clear hunf
    have c6 := read_ct (W := W) (p := p) (D := D) hE (at_ + (i : Nat))
    have c7 := open_ct (W := W) hN stamp (D.readS (at_ + (i : Nat)))
    obtain ⟨raw, hraw⟩ : ∃ raw, raw = D.readS (at_ + (i : Nat)) := ⟨_, rfl⟩
    obtain ⟨e, he⟩ : ∃ e, e = D.readE (at_ + (i : Nat)) := ⟨_, rfl⟩
    rw [← hraw] at c6 c7 hr
    rw [← he] at c6 hr
    clear hraw he
    by_cases hz : e = 0
    rotate_left
    · rw [if_pos hz] at hr
      have hE2 : errV E res.2 = errV E e := by rw [← hr]
      have hS2 : strV res.1 = strV [] := by rw [← hr]
      rw [hE2, hS2]
      obtain ⟨ea, hea⟩ := errV_ne (E := E) hz
      rw [hea] at c6 ⊢
      repeat' (first 
    | refine KJ_stp (by first | constructor | fail) ?_
    | (refine is_list ?_; first | (refine KJ_guard_dec_t rfl rfl rfl (fun _ => ?_) (fun _ => ?_) <;> first | (exfalso; omega) | skip) | (refine KJ_guard_dec_f rfl rfl rfl (fun _ => ?_) (fun _ => ?_) <;> first | (exfalso; omega) | skip) | (refine KJ_guard_yes rfl rfl ?_) | (refine KJ_guard_no rfl rfl rfl rfl ?_))
    | (refine is_oper ?_; first | (refine is_alloc ?_; first | (refine KJ_alloc rfl (fun _ => ?_))) | (refine is_call ?_; first | (refine KJ_call (by (repeat' (first | exact Evs.nil | refine Evs.cons rfl ?_)); first | done | fail) c6 (by (repeat' (first | exact Pick.nil | apply Pick.cons | exact Sel.here | apply Sel.there)); first | done | fail) rfl (fun _ => ?_))) | (refine KJ_ek rfl ?_) | (refine KJ_ek0 ?_))
    | (refine is_ek ?_; first | (refine ek_move ?_; first | (refine EK_ev (Ev_move rfl) ?_)) | (refine ek_assign ?_; first | (refine EK_ev (Ev_assign rfl) ?_)) | (refine ek_pick ?_; first | (refine EK_ev (Ev_pick_t rfl rfl) ?_) | (refine EK_ev (Ev_pick_f rfl rfl) ?_)) | (refine ek_load ?_; first | (refine EK_ev (Ev_load rfl (by (repeat' (first | exact Sel.here | apply Sel.there)); first | done | fail) (by rfl)) ?_) | (refine EK_ev (Ev_loadOld rfl (by assumption)) ?_) | (refine EK_ev (Ev_loadAgg rfl (by (repeat' (first | exact Sel.here | apply Sel.there)); first | done | fail) (by (repeat' (first | exact Cut.nil | apply Cut.cons | apply Cut.skip)); first | done | fail)) ?_)) | (refine ek_un ?_; first | (refine EK_ev (Ev_notD rfl) ?_) | (refine EK_ev (Ev_not rfl) ?_) | (refine EK_ev (Ev_neg rfl) ?_)) | (refine ek_extract ?_; first | (refine EK_ev (Ev_extract rfl rfl) ?_)) | (refine ek_len ?_; first | (refine EK_ev (Ev_len_str rfl) ?_) | (refine EK_ev (Ev_len_slice rfl) ?_) | (refine EK_ev (Ev_len_arr rfl) ?_) | (refine EK_ev (Ev_len_map rfl (by (repeat' (first | exact Sel.here | apply Sel.there)); first | done | fail)) ?_)) | (refine ek_min ?_; first | (refine EK_ev (Ev_min rfl rfl) ?_)) | (refine ek_add ?_; first | (refine EK_ev (Ev_addI rfl rfl (by omega)) ?_) | (refine EK_ev (Ev_addS rfl rfl (by simp <;> omega)) ?_) | (refine EK_ev (Ev_add rfl rfl) ?_)) | (refine ek_sub ?_; first | (refine EK_ev (Ev_subI rfl rfl (by omega)) ?_) | (refine EK_ev (Ev_sub rfl rfl) ?_)) | (refine ek_mul ?_; first | (refine EK_ev (Ev_mulI rfl rfl (by omega)) ?_) | (refine EK_ev (Ev_mul rfl rfl) ?_)) | (refine ek_eql ?_; first | (refine EK_ev (Ev_eqlI rfl rfl) ?_) | (refine EK_ev (Ev_eqlS rfl rfl) ?_) | (refine EK_ev (Ev_eqlNil rfl rfl) ?_) | (refine EK_ev (Ev_eqlB rfl rfl) ?_) | (refine EK_ev (Ev_eqlO rfl rfl rfl (fun _ => rfl)) ?_)) | (refine ek_neq ?_; first | (refine EK_ev (Ev_neqI rfl rfl) ?_) | (refine EK_ev (Ev_neqS rfl rfl) ?_) | (refine EK_ev (Ev_neqNil rfl rfl) ?_) | (refine EK_ev (Ev_neqB rfl rfl) ?_) | (refine EK_ev (Ev_neqO rfl rfl rfl (fun _ => rfl)) ?_)) | (refine ek_lss ?_; first | (refine EK_ev (Ev_lssI_q rfl rfl ql) ?_) | (refine EK_ev (Ev_lssI rfl rfl) ?_) | (refine EK_ev (Ev_lssS rfl rfl) ?_)) | (refine ek_gtr ?_; first | (refine EK_ev (Ev_gtrI rfl rfl) ?_) | (refine EK_ev (Ev_gtrS rfl rfl) ?_)))
    | (refine is_ex ?_; first | (refine KJ_blk_exit' rfl ?_))
    | (refine is_code ?_; first | (refine KJ_cond_dec rfl (fun _ => ?_) (fun _ => ?_) <;> first | (exfalso; omega) | skip) | (refine KJ_cond_t rfl ?_) | (refine KJ_cond_f rfl ?_) | (refine KJ_draws (id := 2) (.op 0 (.op 1 (.op 2 .nil))) (by kernel_rfl) (by kernel_rfl) ?_) | (refine KJ_draws (id := 4) (.op 0 (.op 1 (.op 2 .nil))) (by kernel_rfl) (by kernel_rfl) ?_) | (refine KJ_draws (id := 6) (.op 0 (.op 1 (.op 2 .nil))) (by kernel_rfl) (by kernel_rfl) ?_) | (refine KJ_draws (id := 16) (.op 0 (.op 1 (.op 2 .nil))) (by kernel_rfl) (by kernel_rfl) ?_))
    | (refine is_fw ?_; first | (refine FW_open rfl ?_) | (refine FW_nil ?_) | (refine FW_ef rfl ?_) | (refine FW_efg rfl rfl rfl ?_) | (refine FW_alt ?_ ?_))
    | (refine is_fo ?_; first | (refine FO_dec_t rfl rfl (fun _ => ?_) (fun _ => ?_) <;> first | (exfalso; omega) | skip) | (refine FO_dec_f rfl rfl (fun _ => ?_) (fun _ => ?_) <;> first | (exfalso; omega) | skip) | (refine FO_no rfl rfl rfl rfl ?_) | (refine FO_ekg rfl rfl rfl ?_) | (refine FO_ek rfl ?_))
    | (refine is_ro ?_; first | (refine RO_no rfl rfl rfl rfl ?_) | (refine RO_ekg rfl rfl ?_) | (refine RO_ek ?_))
    | (refine is_raw ?_; first | (refine KJ_flow ?_ ?_))
    | (refine AtR_mk rfl ?_)
    | exact Rech.nil
    | (refine Rech_open rfl ?_))
      all_goals (refine is_ex ?_; exact KJ_done (by first | exact Or.inl rfl | exact Or.inr rfl) rfl (by (repeat' (first | exact Rvs.nil | (apply Rvs.tmp; exact rfl))); first | done | fail) () (by rfl) (Ent.of (by (repeat' (first | exact Pick.nil | apply Pick.cons | exact Sel.here | apply Sel.there)); first | done | fail) (by (repeat' (first | exact DropTo.refl | apply DropTo.there)); first | done | fail)))
    subst hz
    rw [if_neg (by simp)] at hr
    have c6' : Ct Tryd.prog W 26 [.pointer (some ⟨p, 0, none⟩), .int .i64 (at_ + (i : Nat))] [DiskP p D] (fun _ : Unit => .tuple #[strV raw, .nilIface]) (fun _ => [DiskP p D]) := c6
    obtain ⟨o, ho⟩ : ∃ o, o = openS stamp raw := ⟨_, rfl⟩
    rw [← ho] at c7 hr
    clear ho
    cases o with
    | none =>
      have hE2 : errV E res.2 = errV E 15 := by rw [← hr]
      have hS2 : strV res.1 = strV [] := by rw [← hr]
      rw [hE2, hS2]
      have c7' : Ct Tryd.prog W 87 [.int .u64 stamp, strV raw] [] (fun _ : Unit => .tuple #[strV [], .bool false]) (fun _ => []) := c7
      repeat' (first 
    | refine KJ_stp (by first | constructor | fail) ?_
    | (refine is_list ?_; first | (refine KJ_guard_dec_t rfl rfl rfl (fun _ => ?_) (fun _ => ?_) <;> first | (exfalso; omega) | skip) | (refine KJ_guard_dec_f rfl rfl rfl (fun _ => ?_) (fun _ => ?_) <;> first | (exfalso; omega) | skip) | (refine KJ_guard_yes rfl rfl ?_) | (refine KJ_guard_no rfl rfl rfl rfl ?_))
    | (refine is_oper ?_; first | (refine is_alloc ?_; first | (refine KJ_alloc rfl (fun _ => ?_))) | (refine is_call ?_; first | (refine KJ_call (by (repeat' (first | exact Evs.nil | refine Evs.cons rfl ?_)); first | done | fail) c6' (by (repeat' (first | exact Pick.nil | apply Pick.cons | exact Sel.here | apply Sel.there)); first | done | fail) rfl (fun _ => ?_)) | (refine KJ_call (by (repeat' (first | exact Evs.nil | refine Evs.cons rfl ?_)); first | done | fail) c7' (by (repeat' (first | exact Pick.nil | apply Pick.cons | exact Sel.here | apply Sel.there)); first | done | fail) rfl (fun _ => ?_))) | (refine KJ_ek rfl ?_) | (refine KJ_ek0 ?_))
    | (refine is_ek ?_; first | (refine ek_move ?_; first | (refine EK_ev (Ev_move rfl) ?_)) | (refine ek_assign ?_; first | (refine EK_ev (Ev_assign rfl) ?_)) | (refine ek_pick ?_; first | (refine EK_ev (Ev_pick_t rfl rfl) ?_) | (refine EK_ev (Ev_pick_f rfl rfl) ?_)) | (refine ek_load ?_; first | (refine EK_ev (Ev_loadOld rfl e15) ?_) | (refine EK_ev (Ev_load rfl (by (repeat' (first | exact Sel.here | apply Sel.there)); first | done | fail) (by rfl)) ?_) | (refine EK_ev (Ev_loadOld rfl (by assumption)) ?_) | (refine EK_ev (Ev_loadAgg rfl (by (repeat' (first | exact Sel.here | apply Sel.there)); first | done | fail) (by (repeat' (first | exact Cut.nil | apply Cut.cons | apply Cut.skip)); first | done | fail)) ?_)) | (refine ek_un ?_; first | (refine EK_ev (Ev_notD rfl) ?_) | (refine EK_ev (Ev_not rfl) ?_) | (refine EK_ev (Ev_neg rfl) ?_)) | (refine ek_extract ?_; first | (refine EK_ev (Ev_extract rfl rfl) ?_)) | (refine ek_len ?_; first | (refine EK_ev (Ev_len_str rfl) ?_) | (refine EK_ev (Ev_len_slice rfl) ?_) | (refine EK_ev (Ev_len_arr rfl) ?_) | (refine EK_ev (Ev_len_map rfl (by (repeat' (first | exact Sel.here | apply Sel.there)); first | done | fail)) ?_)) | (refine ek_min ?_; first | (refine EK_ev (Ev_min rfl rfl) ?_)) | (refine ek_add ?_; first | (refine EK_ev (Ev_addI rfl rfl (by omega)) ?_) | (refine EK_ev (Ev_addS rfl rfl (by simp <;> omega)) ?_) | (refine EK_ev (Ev_add rfl rfl) ?_)) | (refine ek_sub ?_; first | (refine EK_ev (Ev_subI rfl rfl (by omega)) ?_) | (refine EK_ev (Ev_sub rfl rfl) ?_)) | (refine ek_mul ?_; first | (refine EK_ev (Ev_mulI rfl rfl (by omega)) ?_) | (refine EK_ev (Ev_mul rfl rfl) ?_)) | (refine ek_eql ?_; first | (refine EK_ev (Ev_eqlI rfl rfl) ?_) | (refine EK_ev (Ev_eqlS rfl rfl) ?_) | (refine EK_ev (Ev_eqlNil rfl rfl) ?_) | (refine EK_ev (Ev_eqlB rfl rfl) ?_) | (refine EK_ev (Ev_eqlO rfl rfl rfl (fun _ => rfl)) ?_)) | (refine ek_neq ?_; first | (refine EK_ev (Ev_neqI rfl rfl) ?_) | (refine EK_ev (Ev_neqS rfl rfl) ?_) | (refine EK_ev (Ev_neqNil rfl rfl) ?_) | (refine EK_ev (Ev_neqB rfl rfl) ?_) | (refine EK_ev (Ev_neqO rfl rfl rfl (fun _ => rfl)) ?_)) | (refine ek_lss ?_; first | (refine EK_ev (Ev_lssI_q rfl rfl ql) ?_) | (refine EK_ev (Ev_lssI rfl rfl) ?_) | (refine EK_ev (Ev_lssS rfl rfl) ?_)) | (refine ek_gtr ?_; first | (refine EK_ev (Ev_gtrI rfl rfl) ?_) | (refine EK_ev (Ev_gtrS rfl rfl) ?_)))
    | (refine is_ex ?_; first | (refine KJ_blk_exit' rfl ?_))
    | (refine is_code ?_; first | (refine KJ_cond_dec rfl (fun _ => ?_) (fun _ => ?_) <;> first | (exfalso; omega) | skip) | (refine KJ_cond_t rfl ?_) | (refine KJ_cond_f rfl ?_) | (refine KJ_draws (id := 2) (.op 0 (.op 1 (.op 2 .nil))) (by kernel_rfl) (by kernel_rfl) ?_) | (refine KJ_draws (id := 4) (.op 0 (.op 1 (.op 2 .nil))) (by kernel_rfl) (by kernel_rfl) ?_) | (refine KJ_draws (id := 6) (.op 0 (.op 1 (.op 2 .nil))) (by kernel_rfl) (by kernel_rfl) ?_) | (refine KJ_draws (id := 16) (.op 0 (.op 1 (.op 2 .nil))) (by kernel_rfl) (by kernel_rfl) ?_))
    | (refine is_fw ?_; first | (refine FW_open rfl ?_) | (refine FW_nil ?_) | (refine FW_ef rfl ?_) | (refine FW_efg rfl rfl rfl ?_) | (refine FW_alt ?_ ?_))
    | (refine is_fo ?_; first | (refine FO_dec_t rfl rfl (fun _ => ?_) (fun _ => ?_) <;> first | (exfalso; omega) | skip) | (refine FO_dec_f rfl rfl (fun _ => ?_) (fun _ => ?_) <;> first | (exfalso; omega) | skip) | (refine FO_no rfl rfl rfl rfl ?_) | (refine FO_ekg rfl rfl rfl ?_) | (refine FO_ek rfl ?_))
    | (refine is_ro ?_; first | (refine RO_no rfl rfl rfl rfl ?_) | (refine RO_ekg rfl rfl ?_) | (refine RO_ek ?_))
    | (refine is_raw ?_; first | (refine KJ_flow ?_ ?_))
    | (refine AtR_mk rfl ?_)
    | exact Rech.nil
    | (refine Rech_open rfl ?_))
      all_goals (refine is_ex ?_; exact KJ_done (by first | exact Or.inl rfl | exact Or.inr rfl) rfl (by (repeat' (first | exact Rvs.nil | (apply Rvs.tmp; exact rfl))); first | done | fail) () (by rfl) (Ent.of (by (repeat' (first | exact Pick.nil | apply Pick.cons | exact Sel.here | apply Sel.there)); first | done | fail) (by (repeat' (first | exact DropTo.refl | apply DropTo.there)); first | done | fail)))
    | some pc =>
      dsimp only at hr
      have c7' : Ct Tryd.prog W 87 [.int .u64 stamp, strV raw] [] (fun _ : Unit => .tuple #[strV pc, .bool true]) (fun _ => []) := c7
      obtain ⟨m, hm⟩ : ∃ m, m = min (bytes - (i : Int) * 234) 234 := ⟨_, rfl⟩
      rw [← hm] at hr
      by_cases hl : (pc.length : Int) = m
      rotate_left
      · rw [if_pos hl] at hr
        have hE2 : errV E res.2 = errV E 15 := by rw [← hr]
        have hS2 : strV res.1 = strV [] := by rw [← hr]
        rw [hE2, hS2]
        repeat' (first 
    | refine KJ_stp (by first | constructor | fail) ?_
    | (refine is_list ?_; first | (refine KJ_guard_dec_t rfl rfl rfl (fun _ => ?_) (fun _ => ?_) <;> first | (exfalso; omega) | skip) | (refine KJ_guard_dec_f rfl rfl rfl (fun _ => ?_) (fun _ => ?_) <;> first | (exfalso; omega) | skip) | (refine KJ_guard_yes rfl rfl ?_) | (refine KJ_guard_no rfl rfl rfl rfl ?_))
    | (refine is_oper ?_; first | (refine is_alloc ?_; first | (refine KJ_alloc rfl (fun _ => ?_))) | (refine is_call ?_; first | (refine KJ_call (by (repeat' (first | exact Evs.nil | refine Evs.cons rfl ?_)); first | done | fail) c6' (by (repeat' (first | exact Pick.nil | apply Pick.cons | exact Sel.here | apply Sel.there)); first | done | fail) rfl (fun _ => ?_)) | (refine KJ_call (by (repeat' (first | exact Evs.nil | refine Evs.cons rfl ?_)); first | done | fail) c7' (by (repeat' (first | exact Pick.nil | apply Pick.cons | exact Sel.here | apply Sel.there)); first | done | fail) rfl (fun _ => ?_))) | (refine KJ_ek rfl ?_) | (refine KJ_ek0 ?_))
    | (refine is_ek ?_; first | (refine ek_move ?_; first | (refine EK_ev (Ev_move rfl) ?_)) | (refine ek_assign ?_; first | (refine EK_ev (Ev_assign rfl) ?_)) | (refine ek_pick ?_; first | (refine EK_ev (Ev_pick_t rfl rfl) ?_) | (refine EK_ev (Ev_pick_f rfl rfl) ?_)) | (refine ek_load ?_; first | (refine EK_ev (Ev_loadOld rfl e15) ?_) | (refine EK_ev (Ev_load rfl (by (repeat' (first | exact Sel.here | apply Sel.there)); first | done | fail) (by rfl)) ?_) | (refine EK_ev (Ev_loadOld rfl (by assumption)) ?_) | (refine EK_ev (Ev_loadAgg rfl (by (repeat' (first | exact Sel.here | apply Sel.there)); first | done | fail) (by (repeat' (first | exact Cut.nil | apply Cut.cons | apply Cut.skip)); first | done | fail)) ?_)) | (refine ek_un ?_; first | (refine EK_ev (Ev_notD rfl) ?_) | (refine EK_ev (Ev_not rfl) ?_) | (refine EK_ev (Ev_neg rfl) ?_)) | (refine ek_extract ?_; first | (refine EK_ev (Ev_extract rfl rfl) ?_)) | (refine ek_len ?_; first | (refine EK_ev (Ev_len_str rfl) ?_) | (refine EK_ev (Ev_len_slice rfl) ?_) | (refine EK_ev (Ev_len_arr rfl) ?_) | (refine EK_ev (Ev_len_map rfl (by (repeat' (first | exact Sel.here | apply Sel.there)); first | done | fail)) ?_)) | (refine ek_min ?_; first | (refine EK_ev (Ev_min_v rfl rfl hm.symm) ?_) | (refine EK_ev (Ev_min rfl rfl) ?_)) | (refine ek_add ?_; first | (refine EK_ev (Ev_addI rfl rfl (by omega)) ?_) | (refine EK_ev (Ev_addS rfl rfl (by simp <;> omega)) ?_) | (refine EK_ev (Ev_add rfl rfl) ?_)) | (refine ek_sub ?_; first | (refine EK_ev (Ev_subI rfl rfl (by omega)) ?_) | (refine EK_ev (Ev_sub rfl rfl) ?_)) | (refine ek_mul ?_; first | (refine EK_ev (Ev_mulI rfl rfl (by omega)) ?_) | (refine EK_ev (Ev_mul rfl rfl) ?_)) | (refine ek_eql ?_; first | (refine EK_ev (Ev_eqlI rfl rfl) ?_) | (refine EK_ev (Ev_eqlS rfl rfl) ?_) | (refine EK_ev (Ev_eqlNil rfl rfl) ?_) | (refine EK_ev (Ev_eqlB rfl rfl) ?_) | (refine EK_ev (Ev_eqlO rfl rfl rfl (fun _ => rfl)) ?_)) | (refine ek_neq ?_; first | (refine EK_ev (Ev_neqI_t rfl rfl hl) ?_) | (refine EK_ev (Ev_neqI rfl rfl) ?_) | (refine EK_ev (Ev_neqS rfl rfl) ?_) | (refine EK_ev (Ev_neqNil rfl rfl) ?_) | (refine EK_ev (Ev_neqB rfl rfl) ?_) | (refine EK_ev (Ev_neqO rfl rfl rfl (fun _ => rfl)) ?_)) | (refine ek_lss ?_; first | (refine EK_ev (Ev_lssI_q rfl rfl ql) ?_) | (refine EK_ev (Ev_lssI rfl rfl) ?_) | (refine EK_ev (Ev_lssS rfl rfl) ?_)) | (refine ek_gtr ?_; first | (refine EK_ev (Ev_gtrI rfl rfl) ?_) | (refine EK_ev (Ev_gtrS rfl rfl) ?_)))
    | (refine is_ex ?_; first | (refine KJ_blk_exit' rfl ?_))
    | (refine is_code ?_; first | (refine KJ_cond_dec rfl (fun _ => ?_) (fun _ => ?_) <;> first | (exfalso; omega) | skip) | (refine KJ_cond_t rfl ?_) | (refine KJ_cond_f rfl ?_) | (refine KJ_draws (id := 2) (.op 0 (.op 1 (.op 2 .nil))) (by kernel_rfl) (by kernel_rfl) ?_) | (refine KJ_draws (id := 4) (.op 0 (.op 1 (.op 2 .nil))) (by kernel_rfl) (by kernel_rfl) ?_) | (refine KJ_draws (id := 6) (.op 0 (.op 1 (.op 2 .nil))) (by kernel_rfl) (by kernel_rfl) ?_) | (refine KJ_draws (id := 16) (.op 0 (.op 1 (.op 2 .nil))) (by kernel_rfl) (by kernel_rfl) ?_))
    | (refine is_fw ?_; first | (refine FW_open rfl ?_) | (refine FW_nil ?_) | (refine FW_ef rfl ?_) | (refine FW_efg rfl rfl rfl ?_) | (refine FW_alt ?_ ?_))
    | (refine is_fo ?_; first | (refine FO_dec_t rfl rfl (fun _ => ?_) (fun _ => ?_) <;> first | (exfalso; omega) | skip) | (refine FO_dec_f rfl rfl (fun _ => ?_) (fun _ => ?_) <;> first | (exfalso; omega) | skip) | (refine FO_no rfl rfl rfl rfl ?_) | (refine FO_ekg rfl rfl rfl ?_) | (refine FO_ek rfl ?_))
    | (refine is_ro ?_; first | (refine RO_no rfl rfl rfl rfl ?_) | (refine RO_ekg rfl rfl ?_) | (refine RO_ek ?_))
    | (refine is_raw ?_; first | (refine KJ_flow ?_ ?_))
    | (refine AtR_mk rfl ?_)
    | exact Rech.nil
    | (refine Rech_open rfl ?_))
        all_goals (refine is_ex ?_; exact KJ_done (by first | exact Or.inl rfl | exact Or.inr rfl) rfl (by (repeat' (first | exact Rvs.nil | (apply Rvs.tmp; exact rfl))); first | done | fail) () (by rfl) (Ent.of (by (repeat' (first | exact Pick.nil | apply Pick.cons | exact Sel.here | apply Sel.there)); first | done | fail) (by (repeat' (first | exact DropTo.refl | apply DropTo.there)); first | done | fail)))
      rw [if_neg (by simpa using hl)] at hr
      have hS1 : 234 * (i : Int) < bytes := by
        have h := hSI.1
        unfold sectorsI at h
        split at h <;> omega
      have hpc : pc ≠ [] := by
        rintro rfl
        simp at hl
        omega
      have hap : acc ++ pc ≠ [] := by simp [hpc]
      have c8 : Ct Tryd.prog W 88 [.pointer (some ⟨gb, 0, none⟩), strV pc] [bldP gb q v, rowP v 5 1 acc.length (bvs acc)] (fun _ : Nat × Nat => .tuple #[.int .i64 pc.length, .nilIface])
          (fun x => [bldP gb (.pointer (some ⟨gb, 0, none⟩)) (.slice (some ⟨x.1, 0, none⟩) (acc.length + pc.length) x.2), rowP (.slice (some ⟨x.1, 0, none⟩) (acc.length + pc.length) x.2) 5 1 (acc.length + pc.length) (bvs acc ++ bvs pc)]) :=
        writeString_ct q (by rcases hqv with ⟨_, h, _⟩ | ⟨_, h, _⟩ <;> simp [h]) v acc pc hpc (by omega)
      repeat' (first 
    | refine KJ_stp (by first | constructor | fail) ?_
    | (refine is_list ?_; first | (refine KJ_guard_dec_t rfl rfl rfl (fun _ => ?_) (fun _ => ?_) <;> first | (exfalso; omega) | skip) | (refine KJ_guard_dec_f rfl rfl rfl (fun _ => ?_) (fun _ => ?_) <;> first | (exfalso; omega) | skip) | (refine KJ_guard_yes rfl rfl ?_) | (refine KJ_guard_no rfl rfl rfl rfl ?_))
    | (refine is_oper ?_; first | (refine is_alloc ?_; first | (refine KJ_alloc rfl (fun _ => ?_))) | (refine is_call ?_; first | (refine KJ_call (by (repeat' (first | exact Evs.nil | refine Evs.cons rfl ?_)); first | done | fail) c6' (by (repeat' (first | exact Pick.nil | apply Pick.cons | exact Sel.here | apply Sel.there)); first | done | fail) rfl (fun _ => ?_)) | (refine KJ_call (by (repeat' (first | exact Evs.nil | refine Evs.cons rfl ?_)); first | done | fail) c7' (by (repeat' (first | exact Pick.nil | apply Pick.cons | exact Sel.here | apply Sel.there)); first | done | fail) rfl (fun _ => ?_)) | (refine KJ_call (by (repeat' (first | exact Evs.nil | refine Evs.cons rfl ?_)); first | done | fail) c8 (by (repeat' (first | exact Pick.nil | apply Pick.cons | exact Sel.here | apply Sel.there)); first | done | fail) rfl (fun x => ?_))) | (refine KJ_ek rfl ?_) | (refine KJ_ek0 ?_))
    | (refine is_ek ?_; first | (refine ek_move ?_; first | (refine EK_ev (Ev_move rfl) ?_)) | (refine ek_assign ?_; first | (refine EK_ev (Ev_assign rfl) ?_)) | (refine ek_pick ?_; first | (refine EK_ev (Ev_pick_t rfl rfl) ?_) | (refine EK_ev (Ev_pick_f rfl rfl) ?_)) | (refine ek_load ?_; first | (refine EK_ev (Ev_load rfl (by (repeat' (first | exact Sel.here | apply Sel.there)); first | done | fail) (by rfl)) ?_) | (refine EK_ev (Ev_loadOld rfl (by assumption)) ?_) | (refine EK_ev (Ev_loadAgg rfl (by (repeat' (first | exact Sel.here | apply Sel.there)); first | done | fail) (by (repeat' (first | exact Cut.nil | apply Cut.cons | apply Cut.skip)); first | done | fail)) ?_)) | (refine ek_un ?_; first | (refine EK_ev (Ev_notD rfl) ?_) | (refine EK_ev (Ev_not rfl) ?_) | (refine EK_ev (Ev_neg rfl) ?_)) | (refine ek_extract ?_; first | (refine EK_ev (Ev_extract rfl rfl) ?_)) | (refine ek_len ?_; first | (refine EK_ev (Ev_len_str rfl) ?_) | (refine EK_ev (Ev_len_slice rfl) ?_) | (refine EK_ev (Ev_len_arr rfl) ?_) | (refine EK_ev (Ev_len_map rfl (by (repeat' (first | exact Sel.here | apply Sel.there)); first | done | fail)) ?_)) | (refine ek_min ?_; first | (refine EK_ev (Ev_min_v rfl rfl hm.symm) ?_) | (refine EK_ev (Ev_min rfl rfl) ?_)) | (refine ek_add ?_; first | (refine EK_ev (Ev_addI rfl rfl (by omega)) ?_) | (refine EK_ev (Ev_addS rfl rfl (by simp <;> omega)) ?_) | (refine EK_ev (Ev_add rfl rfl) ?_)) | (refine ek_sub ?_; first | (refine EK_ev (Ev_subI rfl rfl (by omega)) ?_) | (refine EK_ev (Ev_sub rfl rfl) ?_)) | (refine ek_mul ?_; first | (refine EK_ev (Ev_mulI rfl rfl (by omega)) ?_) | (refine EK_ev (Ev_mul rfl rfl) ?_)) | (refine ek_eql ?_; first | (refine EK_ev (Ev_eqlI rfl rfl) ?_) | (refine EK_ev (Ev_eqlS rfl rfl) ?_) | (refine EK_ev (Ev_eqlNil rfl rfl) ?_) | (refine EK_ev (Ev_eqlB rfl rfl) ?_) | (refine EK_ev (Ev_eqlO rfl rfl rfl (fun _ => rfl)) ?_)) | (refine ek_neq ?_; first | (refine EK_ev (Ev_neqI_f rfl rfl hl) ?_) | (refine EK_ev (Ev_neqI rfl rfl) ?_) | (refine EK_ev (Ev_neqS rfl rfl) ?_) | (refine EK_ev (Ev_neqNil rfl rfl) ?_) | (refine EK_ev (Ev_neqB rfl rfl) ?_) | (refine EK_ev (Ev_neqO rfl rfl rfl (fun _ => rfl)) ?_)) | (refine ek_lss ?_; first | (refine EK_ev (Ev_lssI_q rfl rfl ql) ?_) | (refine EK_ev (Ev_lssI rfl rfl) ?_) | (refine EK_ev (Ev_lssS rfl rfl) ?_)) | (refine ek_gtr ?_; first | (refine EK_ev (Ev_gtrI rfl rfl) ?_) | (refine EK_ev (Ev_gtrS rfl rfl) ?_)))
    | (refine is_ex ?_; first | (refine KJ_blk_exit' rfl ?_))
    | (refine is_code ?_; first | (refine KJ_cond_dec rfl (fun _ => ?_) (fun _ => ?_) <;> first | (exfalso; omega) | skip) | (refine KJ_cond_t rfl ?_) | (refine KJ_cond_f rfl ?_) | (refine KJ_draws (id := 2) (.op 0 (.op 1 (.op 2 .nil))) (by kernel_rfl) (by kernel_rfl) ?_) | (refine KJ_draws (id := 4) (.op 0 (.op 1 (.op 2 .nil))) (by kernel_rfl) (by kernel_rfl) ?_) | (refine KJ_draws (id := 6) (.op 0 (.op 1 (.op 2 .nil))) (by kernel_rfl) (by kernel_rfl) ?_) | (refine KJ_draws (id := 16) (.op 0 (.op 1 (.op 2 .nil))) (by kernel_rfl) (by kernel_rfl) ?_))
    | (refine is_fw ?_; first | (refine FW_open rfl ?_) | (refine FW_nil ?_) | (refine FW_ef rfl ?_) | (refine FW_efg rfl rfl rfl ?_) | (refine FW_alt ?_ ?_))
    | (refine is_fo ?_; first | (refine FO_dec_t rfl rfl (fun _ => ?_) (fun _ => ?_) <;> first | (exfalso; omega) | skip) | (refine FO_dec_f rfl rfl (fun _ => ?_) (fun _ => ?_) <;> first | (exfalso; omega) | skip) | (refine FO_no rfl rfl rfl rfl ?_) | (refine FO_ekg rfl rfl rfl ?_) | (refine FO_ek rfl ?_))
    | (refine is_ro ?_; first | (refine RO_no rfl rfl rfl rfl ?_) | (refine RO_ekg rfl rfl ?_) | (refine RO_ek ?_))
    | (refine is_raw ?_; first | (refine KJ_flow ?_ ?_))
    | (refine AtR_mk rfl ?_)
    | exact Rech.nil
    | (refine Rech_open rfl ?_))
      rename_i x
      refine KJ_again ⟨(i + 1, acc ++ pc, .pointer (some ⟨gb, 0, none⟩), .slice (some ⟨x.1, 0, none⟩) (acc.length + pc.length) x.2), by dsimp only; rw [hf2]; exact hr, by dsimp only; omega, by dsimp only; rw [List.length_append]; omega, .inr ⟨hap, rfl, x.1, x.2, by rw [List.length_append]⟩⟩ (by show S - (i + 1) < S - i; omega) (by (repeat' (first | exact Subs.nil | refine Subs.cons rfl ?_)); first | done | fail) ?_
      have ebv : bvs acc ++ bvs pc = bvs (acc ++ pc) := by simp [bvs]
      have eln : acc.length + pc.length = (acc ++ pc).length := by simp
      dsimp only
      rw [ebv, eln]
      exact (Ent.of (by (repeat' (first | exact Pick.nil | apply Pick.cons | exact Sel.here | apply Sel.there)); first | done | fail) (by (repeat' (first | exact DropTo.refl | apply DropTo.there)); first | done | fail))
  · have hiS : i = S := by omega
    subst hiS
    have ql : decide ((i : Int) < (i : Int)) = false := decide_eq_false (by omega)
    rw [Nat.sub_self] at hr
    have hE2 : errV E res.2 = .nilIface := by rw [← hr]; rfl
    have hS2 : strV res.1 = strV acc := by rw [← hr]; rfl
    rw [hE2, hS2]
    rcases hqv with ⟨rfl, rfl, rfl⟩ | ⟨hne, rfl, g, c, rfl⟩
    · have c6 := string_nil (W := W) (b := gb) (.pointer none)
      repeat' (first 
    | refine KJ_stp (by first | constructor | fail) ?_
    | (refine is_list ?_; first | (refine KJ_guard_dec_t rfl rfl rfl (fun _ => ?_) (fun _ => ?_) <;> first | (exfalso; omega) | skip) | (refine KJ_guard_dec_f rfl rfl rfl (fun _ => ?_) (fun _ => ?_) <;> first | (exfalso; omega) | skip) | (refine KJ_guard_yes rfl rfl ?_) | (refine KJ_guard_no rfl rfl rfl rfl ?_))
    | (refine is_oper ?_; first | (refine is_alloc ?_; first | (refine KJ_alloc rfl (fun _ => ?_))) | (refine is_call ?_; first | (refine KJ_call (by (repeat' (first | exact Evs.nil | refine Evs.cons rfl ?_)); first | done | fail) c6 (by (repeat' (first | exact Pick.nil | apply Pick.cons | exact Sel.here | apply Sel.there)); first | done | fail) rfl (fun _ => ?_))) | (refine KJ_ek rfl ?_) | (refine KJ_ek0 ?_))
    | (refine is_ek ?_; first | (refine ek_move ?_; first | (refine EK_ev (Ev_move rfl) ?_)) | (refine ek_assign ?_; first | (refine EK_ev (Ev_assign rfl) ?_)) | (refine ek_pick ?_; first | (refine EK_ev (Ev_pick_t rfl rfl) ?_) | (refine EK_ev (Ev_pick_f rfl rfl) ?_)) | (refine ek_load ?_; first | (refine EK_ev (Ev_load rfl (by (repeat' (first | exact Sel.here | apply Sel.there)); first | done | fail) (by rfl)) ?_) | (refine EK_ev (Ev_loadOld rfl (by assumption)) ?_) | (refine EK_ev (Ev_loadAgg rfl (by (repeat' (first | exact Sel.here | apply Sel.there)); first | done | fail) (by (repeat' (first | exact Cut.nil | apply Cut.cons | apply Cut.skip)); first | done | fail)) ?_)) | (refine ek_un ?_; first | (refine EK_ev (Ev_notD rfl) ?_) | (refine EK_ev (Ev_not rfl) ?_) | (refine EK_ev (Ev_neg rfl) ?_)) | (refine ek_extract ?_; first | (refine EK_ev (Ev_extract rfl rfl) ?_)) | (refine ek_len ?_; first | (refine EK_ev (Ev_len_str rfl) ?_) | (refine EK_ev (Ev_len_slice rfl) ?_) | (refine EK_ev (Ev_len_arr rfl) ?_) | (refine EK_ev (Ev_len_map rfl (by (repeat' (first | exact Sel.here | apply Sel.there)); first | done | fail)) ?_)) | (refine ek_min ?_; first | (refine EK_ev (Ev_min rfl rfl) ?_)) | (refine ek_add ?_; first | (refine EK_ev (Ev_addI rfl rfl (by omega)) ?_) | (refine EK_ev (Ev_addS rfl rfl (by simp <;> omega)) ?_) | (refine EK_ev (Ev_add rfl rfl) ?_)) | (refine ek_sub ?_; first | (refine EK_ev (Ev_subI rfl rfl (by omega)) ?_) | (refine EK_ev (Ev_sub rfl rfl) ?_)) | (refine ek_mul ?_; first | (refine EK_ev (Ev_mulI rfl rfl (by omega)) ?_) | (refine EK_ev (Ev_mul rfl rfl) ?_)) | (refine ek_eql ?_; first | (refine EK_ev (Ev_eqlI rfl rfl) ?_) | (refine EK_ev (Ev_eqlS rfl rfl) ?_) | (refine EK_ev (Ev_eqlNil rfl rfl) ?_) | (refine EK_ev (Ev_eqlB rfl rfl) ?_) | (refine EK_ev (Ev_eqlO rfl rfl rfl (fun _ => rfl)) ?_)) | (refine ek_neq ?_; first | (refine EK_ev (Ev_neqI rfl rfl) ?_) | (refine EK_ev (Ev_neqS rfl rfl) ?_) | (refine EK_ev (Ev_neqNil rfl rfl) ?_) | (refine EK_ev (Ev_neqB rfl rfl) ?_) | (refine EK_ev (Ev_neqO rfl rfl rfl (fun _ => rfl)) ?_)) | (refine ek_lss ?_; first | (refine EK_ev (Ev_lssI_q rfl rfl ql) ?_) | (refine EK_ev (Ev_lssI rfl rfl) ?_) | (refine EK_ev (Ev_lssS rfl rfl) ?_)) | (refine ek_gtr ?_; first | (refine EK_ev (Ev_gtrI rfl rfl) ?_) | (refine EK_ev (Ev_gtrS rfl rfl) ?_)))
    | (refine is_ex ?_; first | (refine KJ_blk_exit' rfl ?_))
    | (refine is_code ?_; first | (refine KJ_cond_dec rfl (fun _ => ?_) (fun _ => ?_) <;> first | (exfalso; omega) | skip) | (refine KJ_cond_t rfl ?_) | (refine KJ_cond_f rfl ?_) | (refine KJ_draws (id := 2) (.op 0 (.op 1 (.op 2 .nil))) (by kernel_rfl) (by kernel_rfl) ?_) | (refine KJ_draws (id := 4) (.op 0 (.op 1 (.op 2 .nil))) (by kernel_rfl) (by kernel_rfl) ?_) | (refine KJ_draws (id := 6) (.op 0 (.op 1 (.op 2 .nil))) (by kernel_rfl) (by kernel_rfl) ?_) | (refine KJ_draws (id := 16) (.op 0 (.op 1 (.op 2 .nil))) (by kernel_rfl) (by kernel_rfl) ?_))
    | (refine is_fw ?_; first | (refine FW_open rfl ?_) | (refine FW_nil ?_) | (refine FW_ef rfl ?_) | (refine FW_efg rfl rfl rfl ?_) | (refine FW_alt ?_ ?_))
    | (refine is_fo ?_; first | (refine FO_dec_t rfl rfl (fun _ => ?_) (fun _ => ?_) <;> first | (exfalso; omega) | skip) | (refine FO_dec_f rfl rfl (fun _ => ?_) (fun _ => ?_) <;> first | (exfalso; omega) | skip) | (refine FO_no rfl rfl rfl rfl ?_) | (refine FO_ekg rfl rfl rfl ?_) | (refine FO_ek rfl ?_))
    | (refine is_ro ?_; first | (refine RO_no rfl rfl rfl rfl ?_) | (refine RO_ekg rfl rfl ?_) | (refine RO_ek ?_))
    | (refine is_raw ?_; first | (refine KJ_flow ?_ ?_))
    | (refine AtR_mk rfl ?_)
    | exact Rech.nil
    | (refine Rech_open rfl ?_))
      all_goals (refine is_ex ?_; exact KJ_done (by first | exact Or.inl rfl | exact Or.inr rfl) rfl (by (repeat' (first | exact Rvs.nil | (apply Rvs.tmp; exact rfl))); first | done | fail) () (by rfl) (Ent.of (by (repeat' (first | exact Pick.nil | apply Pick.cons | exact Sel.here | apply Sel.there)); first | done | fail) (by (repeat' (first | exact DropTo.refl | apply DropTo.there)); first | done | fail)))
    · have c6 := string_ct (W := W) (b := gb) (.pointer (some ⟨gb, 0, none⟩)) g c acc hne (by omega)
      repeat' (first 
    | refine KJ_stp (by first | constructor | fail) ?_
    | (refine is_list ?_; first | (refine KJ_guard_dec_t rfl rfl rfl (fun _ => ?_) (fun _ => ?_) <;> first | (exfalso; omega) | skip) | (refine KJ_guard_dec_f rfl rfl rfl (fun _ => ?_) (fun _ => ?_) <;> first | (exfalso; omega) | skip) | (refine KJ_guard_yes rfl rfl ?_) | (refine KJ_guard_no rfl rfl rfl rfl ?_))
    | (refine is_oper ?_; first | (refine is_alloc ?_; first | (refine KJ_alloc rfl (fun _ => ?_))) | (refine is_call ?_; first | (refine KJ_call (by (repeat' (first | exact Evs.nil | refine Evs.cons rfl ?_)); first | done | fail) c6 (by (repeat' (first | exact Pick.nil | apply Pick.cons | exact Sel.here | apply Sel.there)); first | done | fail) rfl (fun _ => ?_))) | (refine KJ_ek rfl ?_) | (refine KJ_ek0 ?_))
    | (refine is_ek ?_; first | (refine ek_move ?_; first | (refine EK_ev (Ev_move rfl) ?_)) | (refine ek_assign ?_; first | (refine EK_ev (Ev_assign rfl) ?_)) | (refine ek_pick ?_; first | (refine EK_ev (Ev_pick_t rfl rfl) ?_) | (refine EK_ev (Ev_pick_f rfl rfl) ?_)) | (refine ek_load ?_; first | (refine EK_ev (Ev_load rfl (by (repeat' (first | exact Sel.here | apply Sel.there)); first | done | fail) (by rfl)) ?_) | (refine EK_ev (Ev_loadOld rfl (by assumption)) ?_) | (refine EK_ev (Ev_loadAgg rfl (by (repeat' (first | exact Sel.here | apply Sel.there)); first | done | fail) (by (repeat' (first | exact Cut.nil | apply Cut.cons | apply Cut.skip)); first | done | fail)) ?_)) | (refine ek_un ?_; first | (refine EK_ev (Ev_notD rfl) ?_) | (refine EK_ev (Ev_not rfl) ?_) | (refine EK_ev (Ev_neg rfl) ?_)) | (refine ek_extract ?_; first | (refine EK_ev (Ev_extract rfl rfl) ?_)) | (refine ek_len ?_; first | (refine EK_ev (Ev_len_str rfl) ?_) | (refine EK_ev (Ev_len_slice rfl) ?_) | (refine EK_ev (Ev_len_arr rfl) ?_) | (refine EK_ev (Ev_len_map rfl (by (repeat' (first | exact Sel.here | apply Sel.there)); first | done | fail)) ?_)) | (refine ek_min ?_; first | (refine EK_ev (Ev_min rfl rfl) ?_)) | (refine ek_add ?_; first | (refine EK_ev (Ev_addI rfl rfl (by omega)) ?_) | (refine EK_ev (Ev_addS rfl rfl (by simp <;> omega)) ?_) | (refine EK_ev (Ev_add rfl rfl) ?_)) | (refine ek_sub ?_; first | (refine EK_ev (Ev_subI rfl rfl (by omega)) ?_) | (refine EK_ev (Ev_sub rfl rfl) ?_)) | (refine ek_mul ?_; first | (refine EK_ev (Ev_mulI rfl rfl (by omega)) ?_) | (refine EK_ev (Ev_mul rfl rfl) ?_)) | (refine ek_eql ?_; first | (refine EK_ev (Ev_eqlI rfl rfl) ?_) | (refine EK_ev (Ev_eqlS rfl rfl) ?_) | (refine EK_ev (Ev_eqlNil rfl rfl) ?_) | (refine EK_ev (Ev_eqlB rfl rfl) ?_) | (refine EK_ev (Ev_eqlO rfl rfl rfl (fun _ => rfl)) ?_)) | (refine ek_neq ?_; first | (refine EK_ev (Ev_neqI rfl rfl) ?_) | (refine EK_ev (Ev_neqS rfl rfl) ?_) | (refine EK_ev (Ev_neqNil rfl rfl) ?_) | (refine EK_ev (Ev_neqB rfl rfl) ?_) | (refine EK_ev (Ev_neqO rfl rfl rfl (fun _ => rfl)) ?_)) | (refine ek_lss ?_; first | (refine EK_ev (Ev_lssI_q rfl rfl ql) ?_) | (refine EK_ev (Ev_lssI rfl rfl) ?_) | (refine EK_ev (Ev_lssS rfl rfl) ?_)) | (refine ek_gtr ?_; first | (refine EK_ev (Ev_gtrI rfl rfl) ?_) | (refine EK_ev (Ev_gtrS rfl rfl) ?_)))
    | (refine is_ex ?_; first | (refine KJ_blk_exit' rfl ?_))
    | (refine is_code ?_; first | (refine KJ_cond_dec rfl (fun _ => ?_) (fun _ => ?_) <;> first | (exfalso; omega) | skip) | (refine KJ_cond_t rfl ?_) | (refine KJ_cond_f rfl ?_) | (refine KJ_draws (id := 2) (.op 0 (.op 1 (.op 2 .nil))) (by kernel_rfl) (by kernel_rfl) ?_) | (refine KJ_draws (id := 4) (.op 0 (.op 1 (.op 2 .nil))) (by kernel_rfl) (by kernel_rfl) ?_) | (refine KJ_draws (id := 6) (.op 0 (.op 1 (.op 2 .nil))) (by kernel_rfl) (by kernel_rfl) ?_) | (refine KJ_draws (id := 16) (.op 0 (.op 1 (.op 2 .nil))) (by kernel_rfl) (by kernel_rfl) ?_))
    | (refine is_fw ?_; first | (refine FW_open rfl ?_) | (refine FW_nil ?_) | (refine FW_ef rfl ?_) | (refine FW_efg rfl rfl rfl ?_) | (refine FW_alt ?_ ?_))
    | (refine is_fo ?_; first | (refine FO_dec_t rfl rfl (fun _ => ?_) (fun _ => ?_) <;> first | (exfalso; omega) | skip) | (refine FO_dec_f rfl rfl (fun _ => ?_) (fun _ => ?_) <;> first | (exfalso; omega) | skip) | (refine FO_no rfl rfl rfl rfl ?_) | (refine FO_ekg rfl rfl rfl ?_) | (refine FO_ek rfl ?_))
    | (refine is_ro ?_; first | (refine RO_no rfl rfl rfl rfl ?_) | (refine RO_ekg rfl rfl ?_) | (refine RO_ek ?_))
    | (refine is_raw ?_; first | (refine KJ_flow ?_ ?_))
    | (refine AtR_mk rfl ?_)
    | exact Rech.nil
    | (refine Rech_open rfl ?_))
      all_goals (refine is_ex ?_; exact KJ_done (by first | exact Or.inl rfl | exact Or.inr rfl) rfl (by (repeat' (first | exact Rvs.nil | (apply Rvs.tmp; exact rfl))); first | done | fail) () (by rfl) (Ent.of (by (repeat' (first | exact Pick.nil | apply Pick.cons | exact Sel.here | apply Sel.there)); first | done | fail) (by (repeat' (first | exact DropTo.refl | apply DropTo.there)); first | done | fail)))
end
end Go.Proofs.YteklldbfdmaafaaDoor
/-
  A disk that nobody armed, as plain data.
-/
namespace Go.Proofs.YteklldbfdmaafaaDoor
open Go Go.RowKit
/-- a disk that nobody armed: its power is on -/
def Calm (D : Dsk) : Prop := D.off = false ∧ D.armed = -1
theorem gone_calm {D : Dsk} (h : Calm D) : D.gone = D := by
  obtain ⟨h1, h2⟩ := h
  unfold Dsk.gone
  rw [if_neg (by omega), if_neg (by omega)]
theorem dead_calm {D : Dsk} (h : Calm D) : D.dead = false := by simp [Dsk.dead, h.2]
theorem blank_calm (n : Nat) : Calm (Dsk.blank n) := ⟨rfl, rfl⟩
theorem flushD_calm {D : Dsk} (h : Calm D) : Calm D.flushD ∧ D.flushD.n = D.n ∧ D.flushE = 0 ∧ D.flushD.und = [] ∧ D.flushD.img = layAll D.img D.und := by
  have e : D.flushD = { D with img := layAll D.img D.und, und := [], flushes := w64 (D.flushes + 1) } := by
    unfold Dsk.flushD
    rw [if_neg (by rw [h.1]; simp), if_neg (by rw [dead_calm h]; simp), gone_calm h]
  rw [e]
  refine ⟨h, rfl, ?_, rfl, rfl⟩
  simp [Dsk.flushE, h.1, dead_calm h]
theorem take_cut (l : List UInt8) (i : Nat) : l.take (256 * i) ++ cut l (i * 256) 256 = l.take (256 * (i + 1)) := by
  rw [show 256 * (i + 1) = 256 * i + 256 by omega, List.take_add, cut, Nat.mul_comm i 256]
theorem crash_clean (D : Dsk) (hu : D.und = []) (kept : List Bool) (torn bytes : Int) : (D.crash kept torn bytes).img = D.img := by
  simp [Dsk.crash, hu, layDone]

end Go.Proofs.YteklldbfdmaafaaDoor
/-
  The document's disk (remitref06) over the same plain data as the program's: its methods as contracts.
-/
namespace Go.Proofs.YteklldbfdmaafaaDoor
open Go Go.RowKit
section
variable {W : World} {n : Nat} {k : KK} {E : Env} {H R : List SP}
theorem KJ.row_shape {v : Value} {e size m : Nat} {xs : List Value} (hsel : Sel (rowP v e size m xs) H R) (hm : 0 < m) (h : ∀ g c, v = .slice (some ⟨g, 0, none⟩) m c → KJ W n k E H) : KJ W n k E H :=
  ⟨fun a w p s => by
    rcases (s.row hsel).2 with ⟨_, q⟩ | ⟨g, c, _, q, _⟩
    · omega
    · exact (h g c q).go a w p s⟩
theorem KJ.row_slice {v : Value} {e size m : Nat} {xs : List Value} (hsel : Sel (rowP v e size m xs) H R) (h : ∀ ad c, v = .slice ad m c → KJ W n k E H) : KJ W n k E H :=
  ⟨fun a w p s => by
    rcases (s.row hsel).2 with ⟨q, q2⟩ | ⟨g, c, _, q, _⟩
    · subst q2; exact (h none 0 q).go a w p s
    · exact (h _ c q).go a w p s⟩
end
def secsV (img : List UInt8) (n : Nat) : List Value := (List.range n).map fun i => strV (cut img (i * 256) 256)
def waysV (u : List (Nat × List UInt8)) : List Value := u.flatMap fun x => [.int .i64 (x.1 : Nat), strV x.2]
theorem secsV_length (img : List UInt8) (n : Nat) : (secsV img n).length = n := by simp [secsV]
theorem secsV_get (img : List UInt8) (n i : Nat) (h : i < n) : (secsV img n)[i]? = some (strV (cut img (i * 256) 256)) := by simp [secsV, h]
theorem waysV_get (u : List (Nat × List UInt8)) (k j : Nat) (b : List UInt8) (h : u[k]? = some (j, b)) (z : Nat) (v : Value) (hv : [Value.int .i64 (j : Nat), strV b][z]? = some v) : (waysV u)[k * 2 + z]? = some v := by
  have hz : z < 2 := by have := (List.getElem?_eq_some_iff.1 hv).1; simpa using this
  rw [← hv]
  exact flat_get _ 2 u (fun _ _ => rfl) k (j, b) h z hz
theorem waysV_snoc (u : List (Nat × List UInt8)) (j : Nat) (b : List UInt8) : waysV (u ++ [(j, b)]) = waysV u ++ [.int .i64 (j : Nat), strV b] := by simp [waysV]
/-- a sector is laid -/
theorem secsV_lay {img b : List UInt8} {n i : Nat} (hl : img.length = 256 * n) (hi : i < n) (hb : b.length ≤ 256) :
    lay (secsV img n) i [strV (b ++ (cut img (i * 256) 256).drop b.length)] = secsV (lay img (i * 256) b) n := by
  apply List.ext_getElem
  · rw [lay_length _ _ _ (by rw [secsV_length]; simp; omega), secsV_length, secsV_length]
  · intro j h1 h2
    rw [secsV_length] at h2
    have hr : (secsV (lay img (i * 256) b) n)[j]? = some (strV (cut (lay img (i * 256) b) (j * 256) 256)) := secsV_get _ _ _ h2
    have hll : (lay (secsV img n) i [strV (b ++ (cut img (i * 256) 256).drop b.length)])[j]? = some (strV (cut (lay img (i * 256) b) (j * 256) 256)) := by
      by_cases hji : j = i
      · subst hji
        have e : cut (lay img (j * 256) b) (j * 256) 256 = b ++ (cut img (j * 256) 256).drop b.length := by
          unfold cut lay
          rw [List.drop_left' (by simp; omega), List.take_append, List.take_of_length_le (by omega), List.drop_take, List.drop_drop]
        rw [e]
        unfold lay
        rw [List.getElem?_append_right (by simp [secsV_length]; omega), List.length_take, secsV_length, Nat.min_eq_left (by omega), Nat.sub_self]
        rfl
      · have e : cut (lay img (i * 256) b) (j * 256) 256 = cut img (j * 256) 256 := by
          rcases Nat.lt_or_ge j i with hlt | hge
          · exact cut_lay_before _ _ _ _ _ (by omega) (by omega)
          · exact cut_lay_behind _ _ _ _ _ (by omega) (by omega)
        rw [e, ← secsV_get img n j h2]
        unfold lay
        rcases Nat.lt_or_ge j i with hlt | hge
        · rw [List.getElem?_append_left (by simp [secsV_length]; omega), List.getElem?_take_of_lt hlt]
        · rw [List.getElem?_append_right (by simp [secsV_length]; omega), List.length_take, secsV_length, Nat.min_eq_left (by omega), List.getElem?_append_right (by simp; omega), List.getElem?_drop]
          congr 1
          simp
          omega
    rw [List.getElem?_eq_getElem h1] at hll
    rw [List.getElem?_eq_getElem (by rw [secsV_length]; exact h2)] at hr
    rw [← hr] at hll
    exact Option.some.inj hll
/-- the document's disk at p -/
def refC (sv wv : Value) (D : Dsk) : List Value := [sv, wv, .bool D.off, .bool (decide (0 ≤ D.armed)), .int .i64 (max D.armed 0), .int .i64 D.writes, .int .i64 D.flushes, .int .i64 D.life]
def RefF (p : Nat) (D : Dsk) (x : Value × Value) : List SP := [cellsP p (refC x.1 x.2 D) 97, rowP x.1 9 1 D.n (secsV D.img D.n), rowP x.2 192 2 D.und.length (waysV D.und)]
def RefP (p : Nat) (D : Dsk) : SP := packP 21 p (RefF p D)

section
variable {W : World} {p : Nat} {D : Dsk}
theorem rsize_ct : Ct Tryd.prog W 111 [.pointer (some ⟨p, 0, none⟩)] [RefP p D] (fun _ : Unit => .int .i64 D.n) (fun _ => [RefP p D]) := by
  refine Ct_unpack (Hs := []) (fun ⟨sv, wv⟩ => ?_)
  refine Ct.enter Tryd.func111 rfl Tryd.ntmps111 (by simp) (fun R => ?_)
  show KJ _ _ _ _ ([cellsP p [sv, wv, .bool D.off, .bool (decide (0 ≤ D.armed)), .int .i64 (max D.armed 0), .int .i64 D.writes, .int .i64 D.flushes, .int .i64 D.life] 97, rowP sv 9 1 D.n (secsV D.img D.n), rowP wv 192 2 D.und.length (waysV D.und)] ++ R)
  refine KJ.row_slice (v := sv) (by (repeat' (first | exact Sel.here | apply Sel.there)); first | done | fail) (fun ad c e => ?_)
  subst e
  repeat' (first 
    | refine KJ_stp (by first | constructor | fail) ?_
    | (refine is_oper ?_; first | (refine KJ_ek rfl ?_) | (refine KJ_ek0 ?_))
    | (refine is_ek ?_; first | (refine ek_move ?_; first | (refine EK_ev (Ev_move rfl) ?_)) | (refine ek_assign ?_; first | (refine EK_ev (Ev_assign rfl) ?_)) | (refine ek_nilCheck ?_; first | (refine EK_ev (Ev_nilCheck rfl) ?_)) | (refine ek_fieldAddr ?_; first | (refine EK_ev (Ev_field rfl) ?_)) | (refine ek_load ?_; first | (refine EK_ev (Ev_load rfl (by (repeat' (first | exact Sel.here | apply Sel.there)); first | done | fail) (by rfl)) ?_) | (refine EK_ev (Ev_loadOld rfl (by assumption)) ?_) | (refine EK_ev (Ev_loadAgg rfl (by (repeat' (first | exact Sel.here | apply Sel.there)); first | done | fail) (by (repeat' (first | exact Cut.nil | apply Cut.cons | apply Cut.skip)); first | done | fail)) ?_)) | (refine ek_len ?_; first | (refine EK_ev (Ev_len_str rfl) ?_) | (refine EK_ev (Ev_len_slice rfl) ?_) | (refine EK_ev (Ev_len_arr rfl) ?_) | (refine EK_ev (Ev_len_map rfl (by (repeat' (first | exact Sel.here | apply Sel.there)); first | done | fail)) ?_)))
    | (refine is_ex ?_; first | (refine KJ_blk_exit' rfl ?_))
    | (refine is_code ?_; first | (refine KJ_cond_dec rfl (fun _ => ?_) (fun _ => ?_) <;> first | (exfalso; omega) | skip) | (refine KJ_cond_t rfl ?_) | (refine KJ_cond_f rfl ?_)))
  refine KJ_done (by first | exact Or.inl rfl | exact Or.inr rfl) rfl (by (repeat' (first | exact Rvs.nil | (apply Rvs.tmp; exact rfl))); first | done | fail) () (by rfl) (fun g q => pack_star (F := RefF p D) (_, wv) g ((Ent.of (by (repeat' (first | exact Pick.nil | apply Pick.cons | exact Sel.here | apply Sel.there)); first | done | fail) (by (repeat' (first | exact DropTo.refl | apply DropTo.there)); first | done | fail)) g q))
end
end Go.Proofs.YteklldbfdmaafaaDoor
