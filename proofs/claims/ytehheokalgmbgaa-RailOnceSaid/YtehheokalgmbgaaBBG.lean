/-
  RaW5.
-/
import Derived.Test.YtehheokalgmbgaaBBF
/-
  The package rail: Effects.
-/
namespace Go.Proofs.Ytehheokalgmbgaa
open Go Go.RowKit
theorem nodup_le {α : Type} [DecidableEq α] : ∀ {l r : List α}, l.Nodup → (∀ x ∈ l, x ∈ r) → l.length ≤ r.length
  | [], _, _, _ => by simp
  | a :: l, r, hn, hs => by
    simp only [List.nodup_cons] at hn
    have ha := hs a (by simp)
    have ih := nodup_le (r := r.erase a) hn.2 (fun x hx => (List.mem_erase_of_ne (fun e => hn.1 (by rw [← e]; exact hx))).2 (hs x (by simp [hx])))
    have hl := List.length_erase_of_mem ha
    have hp := List.length_pos_of_mem ha
    simp only [List.length_cons]
    omega
theorem tab_len {hs : RH} {tab : RTab} (h : TabOk hs tab) : tab.length ≤ hs.length := by
  have := nodup_le (l := tab.map (·.1)) (r := hs.map (fun x => x.1.token)) h.1 (fun tok hx => by
    obtain ⟨p, hp, rfl⟩ := List.mem_map.1 hx
    have h1 := lk_of h.1 hp
    rw [h.2] at h1
    unfold effect at h1
    obtain ⟨a, ha, h2⟩ := List.exists_of_findSome?_eq_some h1
    split at h2
    · rename_i e; exact List.mem_map.2 ⟨a, ha, e⟩
    · cases h2)
  simpa using this
section
variable {W : World} {r : Nat} {N : Int} {hs : RH}
set_option maxHeartbeats 1000000 in
theorem railEffects_ct (hl : hs.length * 48 ≤ 140737488355328) : Ct Try.prog W 12 [.pointer (some ⟨r, 0, none⟩)] [RailH r N hs] (fun x : Option Addr × Nat => .slice x.1 (effs hs).length x.2) (fun x => [RailH r N hs, lsP REff.cells 40 4 (.slice x.1 (effs hs).length x.2) (effs hs)]) := by
  refine Ct_unpack (Hs := []) fun x => ?_
  obtain ⟨⟨⟨eb, cb⟩, tab, cnt⟩, hT, hC⟩ := x
  dsimp only at hT hC
  have htl := tab_len hT
  refine Ct_packs (F := fun _ : Option Addr × Nat => railF r N hs) (fun _ => ⟨((eb, cb), tab, cnt), hT, hC⟩) ?_
  rw [List.append_nil]
  show Ct _ _ _ _ (RailL r N eb cb tab cnt) _ (fun x : Option Addr × Nat => RailL r N eb cb tab cnt ++ [lsP REff.cells 40 4 (.slice x.1 (effs hs).length x.2) (effs hs)])
  refine Ct.enter Try.func12 rfl Try.ntmps12 (by simp) (fun R => ?_)
  repeat' (first 
    | (refine is_alloc ?_; refine KJ_alloc rfl (fun gl => ?_))
    | (refine is_range ?_; refine KJ_rangeMap rfl xS rfl (fun it => ?_))
    | refine xst ?_
    | (refine xsa ?_; intro _)
    | (refine xsb ?_ ?_ <;> intro _ <;> first | (exfalso; omega) | skip)
    | refine xsc ?_
    | fail)
  refine KJ.nilrow 40 4 ?_
  refine KJ_loop (fun _ : {s : List REff × RTab × Option (List UInt8 × REff) × Option Addr × Nat // (s.1 ++ s.2.1.map (·.2)).Perm (tab.map (·.2)) ∧ (s.2.1.map (·.1)).Nodup} => [(3, .pointer (some ⟨gl, 0, none⟩)), (10, .pointer (some ⟨it, 0, none⟩))])
    (fun i => [iterP strV effV eb it tab i.1.2.1 i.1.2.2.1, cellsP gl [.slice i.1.2.2.2.1 i.1.1.length i.1.2.2.2.2] 36, lsP REff.cells 40 4 (.slice i.1.2.2.2.1 i.1.1.length i.1.2.2.2.2) i.1.1, cellsP r [.int .i64 N, .map (some eb), .map (some cb)] 62, mapP askV intV cb cnt] ++ R)
    (fun i => i.1.2.1.length) ⟨([], tab, none, none, 0), by simp, hT.1⟩ xB (xN) (fun ⟨(l, left, cur, a, c), hp, hn⟩ => ?_)
  dsimp only at hp hn ⊢
  have hlen := hp.length_eq
  simp only [List.length_append, List.length_map] at hlen
  have hso := sort_eff (W := W) gl 36 l (by omega) (.slice a l.length c)
  have hlp : ∀ p, p ∈ left → (l.length + 1) * 48 ≤ 140737488355328 ∧ l.length + 1 ≤ 9223372036854775807 := fun p h => by
    have := List.length_pos_of_mem h
    omega
  repeat' (first 
    | (refine is_call ?_; refine KJ_call xE hso xP rfl (fun x => ?_))
    | (refine is_append ?_; refine KJ_appOne (a := p.2) enc_eff rfl rfl rfl xS xS (hlp p hpm).1 (hlp p hpm).2 rfl (fun g' c' => ?_))
    | (refine is_bslice ?_; refine KJ_bslice1 rfl xF (by rfl) (by omega) rfl (fun gb => ?_))
    | (refine is_next ?_; refine KJ_nextMap (ty := 0) ky_tok rfl xS rfl rfl (fun hz => ?_) (fun p hpm => ?_))
    | (refine ek_mkFunc ?_; refine EK_ev (Ev_mkFunc (us := []) (vs := [.pointer (some ⟨gl, 0, none⟩)]) xE xE rfl) ?_)
    | (refine ek_entry ?_; refine EK_ev (Ev_entry rfl xS) ?_)
    | refine xst ?_
    | (refine xsa ?_; intro _)
    | (refine xsb ?_ ?_ <;> intro _ <;> first | (exfalso; omega) | skip)
    | refine xsc ?_
    | fail)
  · subst hz
    obtain ⟨l', hp', hs'⟩ := x
    dsimp only
    rw [List.map_nil, List.append_nil] at hp
    obtain rfl : l' = effs hs := tab_effs hT (hp'.trans hp) hs'
    rw [← hp'.length_eq]
    refine KJ.iterDone xS ?_
    (exact xdn (a, c))
  · refine KJ_again ⟨(l ++ [p.2], left.filter (fun q => decide (q.1 ≠ p.1)), some p, some ⟨g', 0, none⟩, c'), ?_, ?_⟩ ?_ xB (xN)
    · have := (perm_pick hn hpm).map (·.2)
      rw [List.append_assoc]
      exact (List.Perm.append_left l this).trans hp
    · exact (List.filter_sublist.map _).nodup hn
    · have := (perm_pick hn hpm).length_eq
      show (left.filter (fun q => decide (q.1 ≠ p.1))).length < left.length
      simp only [List.length_cons] at this
      omega
end
end Go.Proofs.Ytehheokalgmbgaa
