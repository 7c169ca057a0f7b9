/-
  BaW1.
-/
import Derived.Test.YtehheokalgmbgaaDoorHAZ
import Derived.Test.YtehheokalgmbgaaDoorHAM
import Derived.Test.YtehheokalgmbgaaDoorHBD
import Derived.Test.YtehheokalgmbgaaDoorHBG
import Derived.Deep.QuietTactic
/-
  The package batch: Normal.
-/
namespace Go.Proofs.YtehheokalgmbgaaDoor
open Go Go.RowKit Go.Shelf Go.Lib Go.Sort
def opC (o : BOp) : List Value := [.bool o.del, strV o.key, strV o.val]
def opV (o : BOp) : Value := .agg (opC o).toArray
theorem enc_op : EncOk opC 3 := ⟨fun _ => rfl, fun x => by unfold opC; exact xO, by omega⟩
instance : Inhabited BOp := ⟨⟨false, [], []⟩⟩
theorem ky_key : KyOk Tryd.prog 9 strV := ky_str Tryd.underlying9
abbrev BMap := List (List UInt8 × BOp)
def MapOk (ops : List BOp) (m : BMap) : Prop := (m.map (·.1)).Nodup ∧ ∀ k, lk m k = lastOf ops k
theorem MapOk.nil : MapOk [] [] := ⟨List.nodup_nil, fun _ => rfl⟩
theorem MapOk.put {ops : List BOp} {m : BMap} (h : MapOk ops m) (o : BOp) : MapOk (ops ++ [o]) (mput m o.key o.nrm) :=
  ⟨mput_nodup h.1 _ _, fun k => by
    rw [lk_put, lastOf_one, h.2]
    by_cases e : k = o.key
    · rw [if_pos e, if_pos e.symm]
    · rw [if_neg e, if_neg (fun q => e q.symm)]⟩
theorem MapOk.len {ops : List BOp} {m : BMap} (h : MapOk ops m) : m.length ≤ ops.length := by
  have key : ∀ (l : List BOp) (k : List UInt8) (x : BOp), lastOf l k = some x → ∃ o ∈ l, o.key = k := by
    intro l
    induction l with
    | nil => intro k x h; cases h
    | cons o r ih =>
      intro k x h
      rw [lastOf] at h
      cases e : lastOf r k with
      | some y => obtain ⟨o', h1, h2⟩ := ih k y e; exact ⟨o', by simp [h1], h2⟩
      | none =>
        rw [e, Option.none_or] at h
        split at h
        · rename_i hk; exact ⟨o, by simp, hk⟩
        · cases h
  have := nodup_leB (l := m.map (·.1)) (r := ops.map BOp.key) h.1 (fun k hk => by
    obtain ⟨p, hp, rfl⟩ := List.mem_map.1 hk
    have h1 := lk_of h.1 hp
    rw [h.2] at h1
    obtain ⟨o, h2, h3⟩ := key _ _ _ h1
    exact List.mem_map.2 ⟨o, h2, h3⟩)
  simpa using this
theorem rising_sorted {γ : Type} {f : γ → List UInt8} {l : List γ} (h : l.Pairwise fun x y => Op.bytesLess (f y) (f x) = false) (hn : (l.map f).Nodup) : Rising f l := by
  induction l with
  | nil => exact List.Pairwise.nil
  | cons x l ih =>
    obtain ⟨h1, h2⟩ := List.pairwise_cons.1 h
    simp only [List.map_cons, List.nodup_cons] at hn
    exact List.pairwise_cons.2 ⟨fun y hy => tl_not (h1 y hy) (fun e => hn.1 (e ▸ List.mem_map.2 ⟨y, hy, rfl⟩)), ih h2 hn.2⟩
def ltKey (a b : BOp) : Bool := Op.bytesLess a.key b.key
theorem MapOk.norm {ops : List BOp} {m : BMap} (h : MapOk ops m) {l : List BOp} (hp : l.Perm (m.map (·.2))) (hs : l.Pairwise fun x y => ltKey y x = false) : l = normD ops := by
  have hk : ∀ p ∈ m, p.2.key = p.1 := fun p hp => by
    have := lk_of h.1 hp
    rw [h.2] at this
    exact (lastOf_some this).1
  have hm : (m.map (·.2)).map BOp.key = m.map (·.1) := by
    rw [List.map_map]
    exact List.map_congr_left hk
  refine normD_of (rising_sorted hs ?_) fun x => ?_
  · have := (hp.map BOp.key).nodup_iff
    rw [this, hm]; exact h.1
  · rw [hp.mem_iff, ← h.2]
    constructor
    · intro hx
      obtain ⟨p, h1, rfl⟩ := List.mem_map.1 hx
      rw [hk p h1]
      exact lk_of h.1 h1
    · intro hx
      exact List.mem_map.2 ⟨_, lk_mem hx, rfl⟩
theorem swo_key : SWO ltKey where
  irrefl := fun x => tl_irr _
  trans := fun x y z h1 h2 => tl_tr h1 h2
  ntrans := fun x y z h1 h2 => by
    unfold ltKey at *
    by_cases e : x.key = y.key
    · rw [e]; exact h2
    · by_cases e2 : y.key = z.key
      · rw [← e2]; exact h1
      · exact tl_asym (tl_tr (tl_not h2 e2) (tl_not h1 e))
noncomputable def opsT : TypeInfo := (Tryd.prog.info? 22).get (by kernel_rfl)
noncomputable def opT : TypeInfo := (Tryd.prog.info? 29).get (by kernel_rfl)
set_option maxHeartbeats 2000000 in
theorem less_op (bs : Nat) : LessOk Tryd.prog 31 bs 3 opC ltKey := by
  intro w blk c d hH hs hsz i j hi hj
  have ci := (hH.cell (i := i) (c := 1) hi (by omega)).1
  have cj := (hH.cell (i := j) (c := 1) hj (by omega)).1
  have ei : (opC d[i]!)[1]! = strV d[i]!.key := rfl
  have ej : (opC d[j]!)[1]! = strV d[j]!.key := rfl
  rw [ei, Nat.zero_add] at ci
  rw [ej, Nat.zero_add] at cj
  go_enter Tryd.func31, Tryd.ntmps31
  go_wp2
  go_quiet (fail)
  go_wp2
  go_ret
  exact ⟨by simp [ltKey, hi, hj], nq, rfl⟩
theorem sort_op {W : World} (bs T : Nat) (l : List BOp) (hl : l.length < 4611686018427387904) (v : Value) :
    Ct Tryd.prog W 30 [.iface 22 v, .func (.func 31) #[] #[.pointer (some ⟨bs, 0, none⟩)]] [cellsP bs [v] T, lsP opC 29 3 v l]
      (fun _ : {l' : List BOp // l'.Perm l ∧ l'.Pairwise fun x y => ltKey y x = false} => .tuple #[]) (fun x => [cellsP bs [v] T, lsP opC 29 3 v x.1]) := by
  have h := sort_ct (W := W) Tryd.sl6 22 29 opsT opT (by kernel_rfl) (by kernel_rfl) (by kernel_rfl) (by kernel_rfl) 25 (fun _ => by kernel_rfl) opC 3 (fun _ => rfl) (by kernel_rfl) (fun _ => by kernel_rfl)
    (fun x v hv => by simp [opC] at hv; rcases hv with rfl | rfl | rfl <;> rfl) ltKey swo_key 31
    (enters_of Tryd.func31 (by kernel_rfl) rfl)
    (swaps_of (a := 68) (b := 69) (f := 76) (k := 9) (gS := false) (by kernel_rfl) (by kernel_rfl) (by kernel_rfl) (by kernel_rfl)
      (fun args W => run_callFunc_extern Tryd.func76 (by kernel_rfl) (by kernel_rfl) (by kernel_rfl) (e := Extern.ReflectliteSwapper.swap false) (by kernel_rfl) args W))
    bs T (less_op bs) l hl v
  refine ⟨fun R w s => (h.go R w s).mono fun e w' ⟨x, he, st⟩ => ⟨x, he, ?_⟩⟩
  have hp := x.2.1.length_eq
  unfold lsP
  rw [hp]
  exact st
instance : ZvIs Tryd.prog 29 (opV ⟨false, [], []⟩) := ⟨by kernel_rfl⟩
section
variable {W : World}
set_option maxHeartbeats 1000000 in
theorem bnormal_ct (A : SP) (a : Option Addr) (c : Nat) (ops : List BOp) (hL : Lv W opC 3 A a ops) (hl : ops.length * 40 ≤ 140737488355328) : Ct Tryd.prog W 12 [.slice a ops.length c] [A] (fun x : Option Addr × Nat => .slice x.1 (normD ops).length x.2) (fun x => [A, lsP opC 29 3 (.slice x.1 (normD ops).length x.2) (normD ops)]) := by
  refine Ct.enter Tryd.func12 rfl Tryd.ntmps12 (by simp) (fun R => ?_)
  repeat' (first 
    | (refine is_mkMap ?_; refine KJ_makeMap strV opV rfl (fun mb => ?_))
    | refine xst ?_
    | (refine xsa ?_; intro _)
    | (refine xsb ?_ ?_ <;> intro _ <;> first | (exfalso; omega) | skip)
    | refine xsc ?_
    | fail)
  refine KJ_loop (fun i : {i : Nat × BMap // i.1 ≤ ops.length ∧ MapOk (ops.take i.1) i.2} => [(3, .map (some mb)), (10, .slice a ops.length c), (11, .int .i64 (ops.length : Nat)), (12, .int .i64 (i.1.1 : Nat))])
    (fun i => [A, mapP strV opV mb i.1.2] ++ R) (fun i => ops.length - i.1.1) ⟨(0, []), Nat.zero_le _, MapOk.nil⟩ xB (xN) (fun ⟨(i, m), hi, hm⟩ => ?_)
  dsimp only at hi hm ⊢
  by_cases hlt : i < ops.length
  · have ql : decide ((i : Int) < (ops.length : Nat)) = true := decide_eq_true (by omega)
    obtain ⟨o, ho⟩ : ∃ s, ops[i]? = some s := ⟨_, List.getElem?_eq_getElem hlt⟩
    refine KJ.lvSome hL xS (by omega) (fun b of hab => ?_)
    subst hab
    have hoff : of + Int.toNat (i : Int) * 3 = of + i * 3 := by simp
    have hm2 : MapOk (ops.take (i + 1)) (mput m o.key o.nrm) := by
      rw [List.take_add_one, ho]; exact hm.put o
    obtain ⟨del, key, val⟩ := o
    cases del with
    | true =>
      repeat' (first 
    | (refine is_alloc ?_; refine KJ_alloc rfl (fun g5 => ?_))
    | (refine is_mapUpdate ?_; refine KJ_mapUpdate (v := (⟨true, key, []⟩ : BOp)) ky_key rfl rfl rfl xS ?_)
    | (refine ek_load ?_; refine EK_ev (Ev_loadLv enc_op hL rfl rfl xS hoff ho) ?_)
    | (refine ek_add ?_; refine EK_ev (Ev_addI_v (r := ((i + 1 : Nat) : Int)) rfl rfl (by omega) (by omega)) ?_)
    | (refine ek_lss ?_; refine EK_ev (Ev_lssI_q rfl rfl ql) ?_)
    | refine xst ?_
    | (refine xsa ?_; intro _)
    | (refine xsb ?_ ?_ <;> intro _ <;> first | (exfalso; omega) | skip)
    | refine xsc ?_
    | fail)
      all_goals refine KJ_again ⟨(i + 1, mput m key ⟨true, key, []⟩), hlt, hm2⟩ (by show ops.length - (i + 1) < ops.length - i; omega) xB (xN)
    | false =>
      repeat' (first 
    | (refine is_alloc ?_; refine KJ_alloc rfl (fun g5 => ?_))
    | (refine is_mapUpdate ?_; refine KJ_mapUpdate (v := (⟨false, key, val⟩ : BOp)) ky_key rfl rfl rfl xS ?_)
    | (refine ek_load ?_; refine EK_ev (Ev_loadLv enc_op hL rfl rfl xS hoff ho) ?_)
    | (refine ek_add ?_; refine EK_ev (Ev_addI_v (r := ((i + 1 : Nat) : Int)) rfl rfl (by omega) (by omega)) ?_)
    | (refine ek_lss ?_; refine EK_ev (Ev_lssI_q rfl rfl ql) ?_)
    | refine xst ?_
    | (refine xsa ?_; intro _)
    | (refine xsb ?_ ?_ <;> intro _ <;> first | (exfalso; omega) | skip)
    | refine xsc ?_
    | fail)
      all_goals refine KJ_again ⟨(i + 1, mput m key ⟨false, key, val⟩), hlt, hm2⟩ (by show ops.length - (i + 1) < ops.length - i; omega) xB (xN)
  have ql : decide ((i : Int) < (ops.length : Nat)) = false := decide_eq_false (by omega)
  rw [List.take_of_length_le (by omega)] at hm
  have htl := hm.len
  repeat' (first 
    | (refine is_alloc ?_; refine KJ_alloc rfl (fun gl => ?_))
    | (refine is_range ?_; refine KJ_rangeMap rfl xS rfl (fun it => ?_))
    | (refine ek_lss ?_; refine EK_ev (Ev_lssI_q rfl rfl ql) ?_)
    | refine xst ?_
    | (refine xsa ?_; intro _)
    | (refine xsb ?_ ?_ <;> intro _ <;> first | (exfalso; omega) | skip)
    | refine xsc ?_
    | fail)
  refine KJ.nilrow 29 3 ?_
  refine KJ_loop (fun _ : {s : List BOp × BMap × Option (List UInt8 × BOp) × Option Addr × Nat // (s.1 ++ s.2.1.map (·.2)).Perm (m.map (·.2)) ∧ (s.2.1.map (·.1)).Nodup} => [(6, .pointer (some ⟨gl, 0, none⟩)), (25, .pointer (some ⟨it, 0, none⟩))])
    (fun i => [iterP strV opV mb it m i.1.2.1 i.1.2.2.1, cellsP gl [.slice i.1.2.2.2.1 i.1.1.length i.1.2.2.2.2] 22, lsP opC 29 3 (.slice i.1.2.2.2.1 i.1.1.length i.1.2.2.2.2) i.1.1, A] ++ R)
    (fun i => i.1.2.1.length) ⟨([], m, none, none, 0), by simp, hm.1⟩ xB (xN) (fun ⟨(l, left, cur, a2, c2), hp, hn⟩ => ?_)
  dsimp only at hp hn ⊢
  have hlen := hp.length_eq
  simp only [List.length_append, List.length_map] at hlen
  have hso := sort_op (W := W) gl 22 l (by omega) (.slice a2 l.length c2)
  have hlp : ∀ p, p ∈ left → (l.length + 1) * 40 ≤ 140737488355328 ∧ l.length + 1 ≤ 9223372036854775807 := fun p h => by
    have := List.length_pos_of_mem h
    omega
  repeat' (first 
    | (refine is_call ?_; refine KJ_call xE hso xP rfl (fun x => ?_))
    | (refine is_append ?_; refine KJ_appOne (a := p.2) enc_op rfl rfl rfl xS xS (hlp p hpm).1 (hlp p hpm).2 rfl (fun g' c' => ?_))
    | (refine is_bslice ?_; refine KJ_bslice1 rfl xF (by rfl) (by omega) rfl (fun gb => ?_))
    | (refine is_next ?_; refine KJ_nextMap (ty := 0) ky_key rfl xS rfl rfl (fun hz => ?_) (fun p hpm => ?_))
    | (refine ek_mkFunc ?_; refine EK_ev (Ev_mkFunc (us := []) (vs := [.pointer (some ⟨gl, 0, none⟩)]) xE xE rfl) ?_)
    | (refine ek_entry ?_; refine EK_ev (Ev_entry rfl xS) ?_)
    | refine xst ?_
    | (refine xsa ?_; intro _)
    | (refine xsb ?_ ?_ <;> intro _ <;> first | (exfalso; omega) | skip)
    | refine xsc ?_
    | fail)
  · subst hz
    obtain ⟨l', hp', hs'⟩ := x
    dsimp only
    rw [List.map_nil, List.append_nil] at hp
    obtain rfl : l' = normD ops := hm.norm (hp'.trans hp) hs'
    rw [← hp'.length_eq]
    (exact xdn (a2, c2))
  · refine KJ_again ⟨(l ++ [p.2], left.filter (fun q => decide (q.1 ≠ p.1)), some p, some ⟨g', 0, none⟩, c'), ?_, ?_⟩ ?_ xB (xN)
    · have := (perm_pickB hn hpm).map (·.2)
      rw [List.append_assoc]
      exact (List.Perm.append_left l this).trans hp
    · exact (List.filter_sublist.map _).nodup hn
    · have := (perm_pickB hn hpm).length_eq
      show (left.filter (fun q => decide (q.1 ≠ p.1))).length < left.length
      simp only [List.length_cons] at this
      omega
end
end Go.Proofs.YtehheokalgmbgaaDoor
