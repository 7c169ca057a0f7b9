/-
  ErV, ErN.
-/
import Derived.Test.YtdbfemdpdpaffaaGreatDoorPAA
import Derived.Test.YtdbfemdpdpaffaaGreatDoorPBC
import Derived.LaidEql
/-
  The values of package api's errors, by their numbers.
-/
namespace Go.Proofs.YtdbfemdpdpaffaaGreatDoor
open Go Go.RowKit
def errV (E : Nat → Addr) (k : Nat) : Value := if k = 0 then .nilIface else .iface 190 (.pointer (some (E k)))
theorem errV_zero (E : Nat → Addr) : errV E 0 = .nilIface := rfl
theorem errV_pos (E : Nat → Addr) (k : Nat) (hk : 1 ≤ k) : errV E k = .iface 190 (.pointer (some (E k))) := by
  unfold errV; rw [if_neg (by omega)]
end Go.Proofs.YtdbfemdpdpaffaaGreatDoor
/-
  The errors' numbers: remitnum.Num over all 37 errors. (errG, ErrsOn, the compare of errors: as in the texts Disk1, DiskC, Num, Errq.)
-/
namespace Go.Proofs.YtdbfemdpdpaffaaGreatDoor
open Go Go.RowKit
/-- the global variable in which error number k lies -/
def errG : Nat → Nat
  | 1 => 5 | 2 => 6 | 3 => 2 | 4 => 7 | 5 => 8 | 6 => 9 | 7 => 10
  | 8 => 11 | 9 => 12 | 10 => 4 | 11 => 13 | 12 => 14 | 13 => 15 | 14 => 16
  | 15 => 17 | 16 => 18 | 17 => 19 | 18 => 20 | 19 => 21 | 20 => 22 | 21 => 23
  | 22 => 24 | 23 => 25 | 24 => 3 | 25 => 26 | 26 => 0 | 27 => 27 | 28 => 28
  | 29 => 29 | 30 => 30 | 31 => 31 | 32 => 32 | 33 => 1 | 34 => 33 | 35 => 34
  | 36 => 35 | 37 => 36 | _ => 1000000
/-- error number k lies in its variable -/
def ErrAt (w : World) (E : Nat → Addr) (k : Nat) : Prop := w.cell? ⟨errG k, 0, none⟩ = some (errV E k)
/-- some of the errors lie in their variables, each its own -/
structure ErrsOn (S : List Nat) (w : World) (E : Nat → Addr) : Prop where
  at_ : ∀ k, k ∈ S → ErrAt w E k
  obj : ∀ k, k ∈ S → ∃ ca ta, w.heap[(E k).block]? = some (.cells ca ta (0, 0))
  inj : ∀ j k, j ∈ S → k ∈ S → E j = E k → j = k
  pos : ∀ k, k ∈ S → 1 ≤ k
theorem ErrAt.keepB {w w' : World} {E : Nat → Addr} {k : Nat} (h : ErrAt w E k) (hk : ∀ g, g < w.heap.size → w'.heap[g]? = w.heap[g]?) : ErrAt w' E k := by
  unfold ErrAt at h ⊢
  have hb := World.block_lt_of_cell? w _ h
  rw [World.cell?_of_block (w := w) (hk _ hb)]
  exact h
theorem ErrsOn.later {S : List Nat} {W w : World} {E : Nat → Addr} (h : ErrsOn S W E) (b : Below W.heap.size W w) : ErrsOn S w E :=
  ⟨fun k hk => (h.at_ k hk).keepB b.block, fun k hk => by
    obtain ⟨ca, ta, q⟩ := h.obj k hk
    exact ⟨ca, ta, (b.block _ (Array.getElem?_eq_some_iff.1 q).1).trans q⟩, h.inj, h.pos⟩

def errList (E : Nat → Addr) : List Value := [errV E 1, errV E 2, errV E 3, errV E 4, errV E 5, errV E 6, errV E 7, errV E 8, errV E 9, errV E 10, errV E 11, errV E 12, errV E 13, errV E 14, errV E 15, errV E 16, errV E 17, errV E 18, errV E 19, errV E 20, errV E 21, errV E 22, errV E 23, errV E 24, errV E 25, errV E 26, errV E 27, errV E 28, errV E 29, errV E 30, errV E 31, errV E 32, errV E 33, errV E 34, errV E 35, errV E 36, errV E 37]
theorem built_list (E : Nat → Addr) : Tryz.prog.built 62 [(0, errV E 1), (1, errV E 2), (2, errV E 3), (3, errV E 4), (4, errV E 5), (5, errV E 6), (6, errV E 7), (7, errV E 8), (8, errV E 9), (9, errV E 10), (10, errV E 11), (11, errV E 12), (12, errV E 13), (13, errV E 14), (14, errV E 15), (15, errV E 16), (16, errV E 17), (17, errV E 18), (18, errV E 19), (19, errV E 20), (20, errV E 21), (21, errV E 22), (22, errV E 23), (23, errV E 24), (24, errV E 25), (25, errV E 26), (26, errV E 27), (27, errV E 28), (28, errV E 29), (29, errV E 30), (30, errV E 31), (31, errV E 32), (32, errV E 33), (33, errV E 34), (34, errV E 35), (35, errV E 36), (36, errV E 37)] = some (errList E).toArray := by kernel_rfl

theorem errList_get (E : Nat → Addr) (j : Nat) (hj : j < 37) : (errList E)[j]? = some (.iface 190 (.pointer (some (E (j + 1))))) := by
  have e : errList E = (List.range 37).map (fun i => errV E (i + 1)) := rfl
  rw [e, List.getElem?_map, List.getElem?_range hj, Option.map_some, errV_pos _ _ (by omega)]
theorem info_some {P : Program} {α : Type} {t : TypeId} {f : TypeInfo → α} {x : α} (h : (P.info? t).map f = some x) : ∃ i, P.info? t = some i ∧ f i = x := by
  cases hq : P.info? t with
  | none => simp [hq] at h
  | some i => exact ⟨i, rfl, by simpa [hq] using h⟩
theorem infoErr : (Tryz.prog.info? 190).map (·.comparable) = some true := by kernel_rfl
theorem infoErrS : (Tryz.prog.info? 208).map (·.size) = some 1 := by kernel_rfl
theorem eql_same (w : World) (b : Addr) : (binOp .eql 27 (.iface 190 (.pointer (some b))) (.iface 190 (.pointer (some b)))).run Tryz.prog w = .ok (.bool true) w := by
  obtain ⟨i, hi, hc⟩ := info_some infoErr
  obtain ⟨j, hj, _⟩ := info_some infoErrS
  exact run_eql_iface_ptr_same w _ Tryz.underlying27 Tryz.underlying190 hi hc hj
theorem eql_other (w : World) (b c : Addr) (hne : b ≠ c) {ca cb : Array Value} {ta tb : TypeId} (hb : w.heap[b.block]? = some (.cells ca ta (0, 0))) (hcc : w.heap[c.block]? = some (.cells cb tb (0, 0))) :
    (binOp .eql 27 (.iface 190 (.pointer (some b))) (.iface 190 (.pointer (some c)))).run Tryz.prog w = .ok (.bool false) w := by
  obtain ⟨i, hi, hc⟩ := info_some infoErr
  obtain ⟨j, hj, hz⟩ := info_some infoErrS
  exact run_eql_iface_ptr_other w Tryz.underlying27 Tryz.underlying190 hi hc hj (by rw [hz]; decide) hne hb hcc

section
variable {W : World} {n : Nat} {E : Env} {H : List SP} {x y : Operand} {u : TypeId} {F : Nat → Addr}
theorem err_eql {S : List Nat} (hE : ErrsOn S W F) {w : World} (bl : Below W.heap.size W w) (a b : Nat) (ha : a = 0 ∨ a ∈ S) (hb : b ∈ S) : (binOp .eql 27 (errV F a) (errV F b)).run Tryz.prog w = .ok (.bool (decide (a = b))) w := by
  have hw := hE.later bl
  have hb1 := hE.pos b hb
  rw [errV_pos F b hb1]
  by_cases h0 : a = 0
  · subst h0
    rw [decide_eq_false (by omega)]
    exact run_eql_iface_nil_left w _ _ Tryz.underlying27
  · rw [errV_pos F a (by omega)]
    by_cases hab : a = b
    · subst hab
      rw [decide_eq_true rfl]
      exact eql_same w _
    · rw [decide_eq_false hab]
      have ha : a ∈ S := ha.resolve_left h0
      obtain ⟨ca, ta, h1⟩ := hw.obj a ha
      obtain ⟨cb, tb, h2⟩ := hw.obj b hb
      exact eql_other w _ _ (fun e => hab (hw.inj _ _ ha hb e)) h1 h2
theorem err_guard (op : BinOp) (t : TypeId) (a b : Nat) (hb : 1 ≤ b) (w : World) : (eqGuard op t x y (errV F a) (errV F b)).run Tryz.prog w = .ok () w := by
  rw [errV_pos F b hb]
  by_cases h0 : a = 0
  · subst h0
    cases op <;> rfl
  · rw [errV_pos F a (by omega)]
    cases op <;> rfl
theorem Ev_eqlE {a b : Nat} {q : Bool} {S : List Nat} (hE : ErrsOn S W F) (hx : Env.ev E x = some (errV F a)) (hy : Env.ev E y = some (errV F b)) (ha : a = 0 ∨ a ∈ S) (hb : b ∈ S) (hq : decide (a = b) = q) : Ev Tryz.prog W n E H (.binOp .eql 27 x y u) (.bool q) :=
  Ev.mk fun o ho ac w p s => by
    subst hq
    have h1 := err_guard (x := x) (y := y) (F := F) .eql 27 a b (hE.pos b hb) w
    have h2 := err_eql hE s.below a b ha hb
    simp only [execOp, ho, p.ev hx, p.ev hy, Sem.run_bind, h1, h2, Result.andThen_ok, Sem.run_pure]
end
/-- all 37 -/
abbrev L37 : List Nat := List.range' 1 37
theorem L37_mem {k : Nat} (h1 : 1 ≤ k) (h2 : k ≤ 37) : k ∈ L37 := List.mem_range'_1.2 ⟨h1, by omega⟩
section
variable {W : World} {F : Nat → Addr}
set_option maxHeartbeats 4000000 in
set_option maxRecDepth 100000 in
theorem numlist_ct (hE : ErrsOn L37 W F) : Ct Tryz.prog W 32 [] [] (fun _ : Unit => .agg (errList F).toArray) (fun _ => []) := by
  have e1 : W.cell? ⟨5, 0, none⟩ = some (errV F 1) := hE.at_ 1 (by decide)
  have e2 : W.cell? ⟨6, 0, none⟩ = some (errV F 2) := hE.at_ 2 (by decide)
  have e3 : W.cell? ⟨2, 0, none⟩ = some (errV F 3) := hE.at_ 3 (by decide)
  have e4 : W.cell? ⟨7, 0, none⟩ = some (errV F 4) := hE.at_ 4 (by decide)
  have e5 : W.cell? ⟨8, 0, none⟩ = some (errV F 5) := hE.at_ 5 (by decide)
  have e6 : W.cell? ⟨9, 0, none⟩ = some (errV F 6) := hE.at_ 6 (by decide)
  have e7 : W.cell? ⟨10, 0, none⟩ = some (errV F 7) := hE.at_ 7 (by decide)
  have e8 : W.cell? ⟨11, 0, none⟩ = some (errV F 8) := hE.at_ 8 (by decide)
  have e9 : W.cell? ⟨12, 0, none⟩ = some (errV F 9) := hE.at_ 9 (by decide)
  have e10 : W.cell? ⟨4, 0, none⟩ = some (errV F 10) := hE.at_ 10 (by decide)
  have e11 : W.cell? ⟨13, 0, none⟩ = some (errV F 11) := hE.at_ 11 (by decide)
  have e12 : W.cell? ⟨14, 0, none⟩ = some (errV F 12) := hE.at_ 12 (by decide)
  have e13 : W.cell? ⟨15, 0, none⟩ = some (errV F 13) := hE.at_ 13 (by decide)
  have e14 : W.cell? ⟨16, 0, none⟩ = some (errV F 14) := hE.at_ 14 (by decide)
  have e15 : W.cell? ⟨17, 0, none⟩ = some (errV F 15) := hE.at_ 15 (by decide)
  have e16 : W.cell? ⟨18, 0, none⟩ = some (errV F 16) := hE.at_ 16 (by decide)
  have e17 : W.cell? ⟨19, 0, none⟩ = some (errV F 17) := hE.at_ 17 (by decide)
  have e18 : W.cell? ⟨20, 0, none⟩ = some (errV F 18) := hE.at_ 18 (by decide)
  have e19 : W.cell? ⟨21, 0, none⟩ = some (errV F 19) := hE.at_ 19 (by decide)
  have e20 : W.cell? ⟨22, 0, none⟩ = some (errV F 20) := hE.at_ 20 (by decide)
  have e21 : W.cell? ⟨23, 0, none⟩ = some (errV F 21) := hE.at_ 21 (by decide)
  have e22 : W.cell? ⟨24, 0, none⟩ = some (errV F 22) := hE.at_ 22 (by decide)
  have e23 : W.cell? ⟨25, 0, none⟩ = some (errV F 23) := hE.at_ 23 (by decide)
  have e24 : W.cell? ⟨3, 0, none⟩ = some (errV F 24) := hE.at_ 24 (by decide)
  have e25 : W.cell? ⟨26, 0, none⟩ = some (errV F 25) := hE.at_ 25 (by decide)
  have e26 : W.cell? ⟨0, 0, none⟩ = some (errV F 26) := hE.at_ 26 (by decide)
  have e27 : W.cell? ⟨27, 0, none⟩ = some (errV F 27) := hE.at_ 27 (by decide)
  have e28 : W.cell? ⟨28, 0, none⟩ = some (errV F 28) := hE.at_ 28 (by decide)
  have e29 : W.cell? ⟨29, 0, none⟩ = some (errV F 29) := hE.at_ 29 (by decide)
  have e30 : W.cell? ⟨30, 0, none⟩ = some (errV F 30) := hE.at_ 30 (by decide)
  have e31 : W.cell? ⟨31, 0, none⟩ = some (errV F 31) := hE.at_ 31 (by decide)
  have e32 : W.cell? ⟨32, 0, none⟩ = some (errV F 32) := hE.at_ 32 (by decide)
  have e33 : W.cell? ⟨1, 0, none⟩ = some (errV F 33) := hE.at_ 33 (by decide)
  have e34 : W.cell? ⟨33, 0, none⟩ = some (errV F 34) := hE.at_ 34 (by decide)
  have e35 : W.cell? ⟨34, 0, none⟩ = some (errV F 35) := hE.at_ 35 (by decide)
  have e36 : W.cell? ⟨35, 0, none⟩ = some (errV F 36) := hE.at_ 36 (by decide)
  have e37 : W.cell? ⟨36, 0, none⟩ = some (errV F 37) := hE.at_ 37 (by decide)
  refine Ct.enter Tryz.func32 rfl Tryz.ntmps32 (by simp) (fun R => ?_)
  repeat' (first 
    | (refine ek_load ?_; first | refine EK_ev (Ev_loadOld rfl e1) ?_ | refine EK_ev (Ev_loadOld rfl e2) ?_ | refine EK_ev (Ev_loadOld rfl e3) ?_ | refine EK_ev (Ev_loadOld rfl e4) ?_ | refine EK_ev (Ev_loadOld rfl e5) ?_ | refine EK_ev (Ev_loadOld rfl e6) ?_ | refine EK_ev (Ev_loadOld rfl e7) ?_ | refine EK_ev (Ev_loadOld rfl e8) ?_ | refine EK_ev (Ev_loadOld rfl e9) ?_ | refine EK_ev (Ev_loadOld rfl e10) ?_ | refine EK_ev (Ev_loadOld rfl e11) ?_ | refine EK_ev (Ev_loadOld rfl e12) ?_ | refine EK_ev (Ev_loadOld rfl e13) ?_ | refine EK_ev (Ev_loadOld rfl e14) ?_ | refine EK_ev (Ev_loadOld rfl e15) ?_ | refine EK_ev (Ev_loadOld rfl e16) ?_ | refine EK_ev (Ev_loadOld rfl e17) ?_ | refine EK_ev (Ev_loadOld rfl e18) ?_ | refine EK_ev (Ev_loadOld rfl e19) ?_ | refine EK_ev (Ev_loadOld rfl e20) ?_ | refine EK_ev (Ev_loadOld rfl e21) ?_ | refine EK_ev (Ev_loadOld rfl e22) ?_ | refine EK_ev (Ev_loadOld rfl e23) ?_ | refine EK_ev (Ev_loadOld rfl e24) ?_ | refine EK_ev (Ev_loadOld rfl e25) ?_ | refine EK_ev (Ev_loadOld rfl e26) ?_ | refine EK_ev (Ev_loadOld rfl e27) ?_ | refine EK_ev (Ev_loadOld rfl e28) ?_ | refine EK_ev (Ev_loadOld rfl e29) ?_ | refine EK_ev (Ev_loadOld rfl e30) ?_ | refine EK_ev (Ev_loadOld rfl e31) ?_ | refine EK_ev (Ev_loadOld rfl e32) ?_ | refine EK_ev (Ev_loadOld rfl e33) ?_ | refine EK_ev (Ev_loadOld rfl e34) ?_ | refine EK_ev (Ev_loadOld rfl e35) ?_ | refine EK_ev (Ev_loadOld rfl e36) ?_ | refine EK_ev (Ev_loadOld rfl e37) ?_)
    | (refine ek_build ?_; refine EK_ev (Ev_buildA (pv := [(0, errV F 1), (1, errV F 2), (2, errV F 3), (3, errV F 4), (4, errV F 5), (5, errV F 6), (6, errV F 7), (7, errV F 8), (8, errV F 9), (9, errV F 10), (10, errV F 11), (11, errV F 12), (12, errV F 13), (13, errV F 14), (14, errV F 15), (15, errV F 16), (16, errV F 17), (17, errV F 18), (18, errV F 19), (19, errV F 20), (20, errV F 21), (21, errV F 22), (22, errV F 23), (23, errV F 24), (24, errV F 25), (25, errV F 26), (26, errV F 27), (27, errV F 28), (28, errV F 29), (29, errV F 30), (30, errV F 31), (31, errV F 32), (32, errV F 33), (33, errV F 34), (34, errV F 35), (35, errV F 36), (36, errV F 37)]) xV (built_list F)) ?_)
    | refine xst ?_
    | (refine xsa ?_; intro _)
    | (refine xsb ?_ ?_ <;> intro _ <;> first | (exfalso; omega) | skip)
    | refine xsc ?_
    | fail)
  all_goals (refine is_ex ?_; exact KJ_done (by first | exact Or.inl rfl | exact Or.inr rfl) rfl (Rvs.agg (T := 62) rfl inferInstance inferInstance xS xC Rvs.nil) () (by rfl) (xN))
set_option maxHeartbeats 1000000 in
theorem num_ct (hE : ErrsOn L37 W F) (k : Nat) (hk : k ≤ 37) : Ct Tryz.prog W 12 [errV F k] [] (fun _ : Unit => .int .i64 (k : Nat)) (fun _ => []) := by
  by_cases h0 : k = 0
  · subst h0
    rw [errV_zero]
    refine Ct.enter Tryz.func12 rfl Tryz.ntmps12 (by simp) (fun R => ?_)
    repeat' (first 
    | refine xst ?_
    | (refine xsa ?_; intro _)
    | (refine xsb ?_ ?_ <;> intro _ <;> first | (exfalso; omega) | skip)
    | refine xsc ?_
    | fail)
    all_goals (exact xdn ())
  have hp := errV_pos F k (by omega)
  have cl := numlist_ct (W := W) hE
  have hne : eqOne (.interface #[("Error", 74)]) (errV F k) .nilIface = some false := by rw [hp]; rfl
  refine Ct.enter Tryz.func12 rfl Tryz.ntmps12 (by simp) (fun R => ?_)
  repeat' (first 
    | (refine is_call ?_; refine KJ_call xE cl xP rfl (fun _ => ?_))
    | (refine ek_eql ?_; refine EK_ev (Ev_eqlNil rfl hne) ?_)
    | refine xst ?_
    | (refine xsa ?_; intro _)
    | (refine xsb ?_ ?_ <;> intro _ <;> first | (exfalso; omega) | skip)
    | refine xsc ?_
    | fail)
  refine KJ_loop (fun i : {i : Nat // i < k} => [(0, errV F k), (7, .agg (errList F).toArray), (8, .int .i64 (i.1 : Nat))]) (fun _ => [] ++ R) (fun i => k - i.1) ⟨0, by omega⟩ xB (xN) (fun ⟨i, hi⟩ => ?_)
  dsimp only
  have ql : decide ((i : Int) < 37) = true := decide_eq_true (by omega)
  have hx : (errList F)[Int.toNat (i : Nat)]? = some (errV F (i + 1)) := by rw [Int.toNat_natCast, errList_get F i (by omega), errV_pos _ _ (by omega)]
  by_cases e : k = i + 1
  · have q : decide (k = i + 1) = true := decide_eq_true e
    repeat' (first 
    | (refine ek_index ?_; refine EK_ev (Ev_indexAgg rfl rfl (by omega) hx) ?_)
    | (refine ek_add ?_; refine EK_ev (Ev_addI_v (r := ((k : Nat) : Int)) rfl rfl (by omega) (by omega)) ?_)
    | (refine ek_eql ?_; refine EK_ev (Ev_eqlE hE rfl rfl (.inr (L37_mem (by omega) hk)) (L37_mem (by omega) (by omega)) q) ?_)
    | (refine ek_lss ?_; refine EK_ev (Ev_lssI_q rfl rfl ql) ?_)
    | refine xst ?_
    | (refine xsa ?_; intro _)
    | (refine xsb ?_ ?_ <;> intro _ <;> first | (exfalso; omega) | skip)
    | refine xsc ?_
    | fail)
    all_goals (exact xdn ())
  · have q : decide (k = i + 1) = false := decide_eq_false e
    repeat' (first 
    | (refine ek_index ?_; refine EK_ev (Ev_indexAgg rfl rfl (by omega) hx) ?_)
    | (refine ek_add ?_; refine EK_ev (Ev_addI_v (r := ((i + 1 : Nat) : Int)) rfl rfl (by omega) (by omega)) ?_)
    | (refine ek_eql ?_; refine EK_ev (Ev_eqlE hE rfl rfl (.inr (L37_mem (by omega) hk)) (L37_mem (by omega) (by omega)) q) ?_)
    | (refine ek_lss ?_; refine EK_ev (Ev_lssI_q rfl rfl ql) ?_)
    | refine xst ?_
    | (refine xsa ?_; intro _)
    | (refine xsb ?_ ?_ <;> intro _ <;> first | (exfalso; omega) | skip)
    | refine xsc ?_
    | fail)
    all_goals refine KJ_again ⟨i + 1, by omega⟩ (by show k - (i + 1) < k - i; omega) xB (xN)
end
end Go.Proofs.YtdbfemdpdpaffaaGreatDoor
