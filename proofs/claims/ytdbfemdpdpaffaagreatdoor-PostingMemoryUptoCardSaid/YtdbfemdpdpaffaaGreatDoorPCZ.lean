/-
  PoF3.
-/
import Derived.Test.YtdbfemdpdpaffaaGreatDoorPCY
import Derived.Test.YtdbfemdpdpaffaaGreatDoorPBD
import Derived.Test.YtdbfemdpdpaffaaGreatDoorPAL
import Derived.Test.YtdbfemdpdpaffaaGreatDoorPAM
import Derived.StringKeys
import Derived.Sort.Walk0
/-
  slices.Sorted(maps.Keys(m)) over a map of one's own: the library's proved summaries in the walk's form.
-/
namespace Go.Proofs.YtdbfemdpdpaffaaGreatDoor
open Go Go.RowKit Go.MapKept Go.Shelf Go.Sort Go.WideShapes
open Go.WideElems (Fit rd rg)
theorem slsorts (m : Nat) : AnyZ.SortsIn Tryz.prog Tryz.slsr Fence.wide m :=
  ⟨fun blk off cap ss W hH hblk hsz => callsIn_wide.2 (AnyM.slices_Sort_string Tryz.slm blk off cap ss W hH hblk hsz), fun p cap W => callsIn_wide.2 (AnyM.slices_Sort_string_none Tryz.slm p cap W)⟩
set_option maxHeartbeats 1000000 in
theorem sorted_keys {H : Type} (g b nn : Nat) (D0 : DataW H) (R : Value → Option (DataW H × List MemPlace)) (w : World) (hg : g < w.heap.size) (hc : w.cell? ⟨g, 0, none⟩ = some (.map (some b))) (hown : w.ownsMap Tryz.prog 9 R b nn D0) (hmax : Maps.size D0 ≤ maxLen) (hbytes : Maps.size D0 * 16 ≤ 140737488355328) :
    Calls Tryz.prog 47 #[.func (.func 84) #[] #[.pointer (some ⟨g, 0, none⟩)]] w fun e w' => ∃ (v : Value) (ss : List (List UInt8)), e = .returned v ∧ ss.Perm (strKeys D0) ∧
      w'.ownsRow w.heap.size 9 1 v ss.length ((ss.mergeSort (fun x y => decide (x ≤ y))).map encStr) ∧ (v = .slice none 0 0 ↔ ss = []) ∧ Below w.heap.size w w' := by
  refine (callsIn_wide (n := 6)).1 ?_
  have hseq : SeqGives Fence.wide 3 Tryz.prog 84 #[.pointer (some ⟨g, 0, none⟩)] encStr (fun ss => ss.Perm (strKeys D0)) (Maps.size D0) w :=
    AnyZ.keys_gives (ρ := Tryz.slkr) { Tryz.slk with } Fence.wide _ trivial rfl (by omega) g b nn D0 w hg hc hown
  have cS := AnyZ.sorted_in Tryz.sls Fence.wide 6 trivial trivial trivial trivial rfl (by omega) (slsorts _) (enters_of Tryz.func83 (by kernel_rfl) rfl) 84 #[.pointer (some ⟨g, 0, none⟩)] trivial (enters_of Tryz.func84 (by kernel_rfl) rfl) _ _ hmax hbytes w hseq
  exact cS
def ptrV (p : Nat) : Value := .pointer (some ⟨p, 0, none⟩)
def strC (s : List UInt8) : List Value := [strV s]
theorem strC_ok : EncOk strC 1 := ⟨fun _ => rfl, fun x => by unfold strC; exact xO, by omega⟩
/-- texts by rising order -/
def ksort (l : List (List UInt8)) : List (List UInt8) := l.mergeSort fun x y => decide (x ≤ y)
theorem ksort_perm (l : List (List UInt8)) : (ksort l).Perm l := List.mergeSort_perm l _
theorem ksort_of {l r : List (List UInt8)} (h : l.Perm r) : ksort l = ksort r := mergeSort_of_perm h
theorem ksort_rise {l : List (List UInt8)} (hn : l.Nodup) : (ksort l).Pairwise fun a b => Op.bytesLess a b = true := by
  have h1 : (ksort l).Pairwise fun a b => decide (a ≤ b) = true := List.pairwise_mergeSort (fun a b c h1 h2 => by simp only [decide_eq_true_eq] at *; exact List.le_trans h1 h2) (fun a b => by simp only [Bool.or_eq_true, decide_eq_true_eq]; exact List.le_total a b) l
  have h2 : (ksort l).Nodup := (ksort_perm l).symm.nodup hn
  refine (h1.and h2).imp fun {a b} ⟨q1, q2⟩ => ?_
  rcases tl_tot a b q2 with q | q
  · exact q
  · rw [Go.Proofs.bytesLess_eq] at q
    exact absurd (of_decide_eq_true q) (of_decide_eq_true q1)
theorem flat_str (l : List (List UInt8)) : l.flatMap strC = l.map encStr := by
  induction l with
  | nil => rfl
  | cons a l ih => rw [List.flatMap_cons, ih]; rfl
section
variable {W : World} {g b : Nat} {T : TypeId}
set_option maxHeartbeats 1000000 in
theorem sortk_ct (m : List (List UInt8 × Nat)) (hm : ∀ p ∈ m, p.1.length ≤ maxLen) (hb : m.length * 16 ≤ 140737488355328) :
    Ct Tryz.prog W 47 [.func (.func 84) #[] #[.pointer (some ⟨g, 0, none⟩)]] [mapP strV ptrV b m, cellsP g [.map (some b)] T] (fun x : Option Addr × Nat => .slice x.1 m.length x.2)
      (fun x => [lsP strC 9 1 (.slice x.1 m.length x.2) (ksort (m.map (·.1))), mapP strV ptrV b m, cellsP g [.map (some b)] T]) :=
  ⟨fun M w s => by
    obtain ⟨es, clock, hbk, hs, hkv⟩ := s.map Sel.here
    have hgk := (s.blk (Sel.there Sel.here)).2
    have hml : es.size = m.length := by
      have := congrArg List.length hkv
      simpa [kvs, encs] using this
    have hmx : m.length ≤ maxLen := by unfold maxLen; omega
    have hkey : ∀ x ∈ es.toList, ∃ p ∈ m, x.key = strV p.1 := fun x hx => by
      have h1 : (x.key, x.val) ∈ kvs es.toList := List.mem_map.2 ⟨x, hx, rfl⟩
      rw [hkv] at h1
      obtain ⟨p, hp, e⟩ := List.mem_map.1 h1
      exact ⟨p, hp, (congrArg Prod.fst e).symm⟩
    have hko : ∀ x ∈ es.toList, ∀ p ∈ m, x.key = strV p.1 → rd (H := Unit) Tryz.prog 9 (fun _ => some (.nil, [])) x = some (.string p.1, .nil) := fun x _ p hp e => by
      have hk := Go.WideMaps.keyOf_string_mk (P := Tryz.prog) (k := 9) Tryz.underlying9 (s := ⟨p.1.toArray⟩) (by show p.1.toArray.size ≤ maxLen; rw [List.size_toArray]; exact hm p hp)
      unfold Go.WideElems.rd
      rw [e]
      show (keyOf _ _ (strV p.1)).bind _ = _
      rw [show (strV p.1) = .string ⟨p.1.toArray⟩ from rfl, hk]
      rfl
    have F : Fit (H := Unit) Tryz.prog 9 (fun _ => some (.nil, [])) es clock := ⟨by rw [hml]; exact hmx, hs, fun x hx => by
      obtain ⟨p, hp, e⟩ := hkey x hx
      exact ⟨_, hko x hx p hp e⟩⟩
    have hkeys : (es.toList.map fun x => strOf (rg (H := Unit) Tryz.prog 9 (fun _ => some (.nil, [])) x).1) = m.map (·.1) := by
      apply List.ext_getElem?
      intro i
      rw [List.getElem?_map, List.getElem?_map]
      have hi := congrArg (fun l => l[i]?) hkv
      simp only [kvs, encs, List.getElem?_map] at hi
      cases hx : es.toList[i]? with
      | none => rw [hx] at hi; cases hp : m[i]? with
        | none => rfl
        | some p => rw [hp] at hi; cases hi
      | some x =>
        rw [hx] at hi
        cases hp : m[i]? with
        | none => rw [hp] at hi; cases hi
        | some p =>
          rw [hp] at hi
          simp only [Option.map_some, Option.some.injEq, Prod.mk.injEq] at hi
          have hr := hko x (List.mem_of_getElem? hx) p (List.mem_of_getElem? hp) hi.1
          rw [Option.map_some, Option.map_some, Go.WideElems.rg_of hr]
          rfl
    have hD : Maps.size (DataW.map ((es.toList.map (rg (H := Unit) Tryz.prog 9 (fun _ => some (.nil, [])))).foldr DataW.insert [])) = m.length := by
      show (List.foldr DataW.insert [] _).length = _
      rw [(sorted_perm _).length_eq, List.length_map, Array.length_toList, hml]
    have hK : (strKeys (DataW.map ((es.toList.map (rg (H := Unit) Tryz.prog 9 (fun _ => some (.nil, [])))).foldr DataW.insert []))).Perm (m.map (·.1)) := by
      rw [← hkeys]
      obtain ⟨f, hf⟩ : ∃ f, f = rg (H := Unit) Tryz.prog 9 (fun _ => some (.nil, [])) := ⟨_, rfl⟩
      rw [← hf]
      have h1 := (sorted_perm (es.toList.map f)).map (fun p => strOf p.1)
      rw [List.map_map] at h1
      exact h1
    have C := sorted_keys (H := Unit) g b es.size _ (fun _ => some (.nil, [])) w hgk.lt (by rw [hgk.cell]; rfl) ⟨es, clock, hbk, F, Nat.le_refl _, rfl⟩ (by rw [hD]; exact hmx) (by rw [hD]; exact hb)
    refine C.mono fun e w' ⟨v, ss, he, hp, hrow, _, hbel⟩ => ?_
    have hpm := hp.trans hK
    have hsl : ss.length = m.length := by rw [hpm.length_eq, List.length_map]
    have hso : (ss.mergeSort (fun x y => decide (x ≤ y))).map encStr = (ksort (m.map (·.1))).flatMap strC := by
      rw [flat_str, ← ksort_of hpm]; rfl
    rw [hso, hsl] at hrow
    have hkl : (ksort (m.map (·.1))).length = m.length := by rw [(ksort_perm _).length_eq, List.length_map]
    have act : ∀ x : Option Addr × Nat, v = .slice x.1 m.length x.2 → ∀ h2 : Hl, (lsP strC 9 1 (.slice x.1 m.length x.2) (ksort (m.map (·.1)))).ok h2 → (∀ k o, h2 k = some o → w'.heap[k]? = some o) → (∀ k o, h2 k = some o → w.heap.size ≤ k) →
        ∃ x : Option Addr × Nat, e = .returned (.slice x.1 m.length x.2) ∧ St W ([lsP strC 9 1 (.slice x.1 m.length x.2) (ksort (m.map (·.1))), mapP strV ptrV b m, cellsP g [.map (some b)] T] ++ M) w' := fun x hv h2 hok q1 q2 => by
      refine ⟨x, by rw [he, hv], ?_⟩
      exact St.act (A := []) (B := [lsP strC 9 1 (.slice x.1 m.length x.2) (ksort (m.map (·.1)))]) (H := [mapP strV ptrV b m, cellsP g [.map (some b)] T] ++ M) s hbel.os hbel.tape hbel.output hbel.size
        (fun h1 _ _ => ⟨h2, starL_one hok, q1, fun k o h => .inr (q2 k o h), fun k hk _ => hbel.block k hk⟩)
    obtain ⟨hl, hr⟩ := hrow
    rcases hr with ⟨hv, h0⟩ | ⟨gg, cap, cur, hv, hge, hgh, r1, r2, r3, r4⟩
    · have hm0 : m.length = 0 := h0
      refine act (none, 0) (by rw [hv, hm0]) (fun _ => none) ⟨?_, .inl ⟨by rw [hm0], by rw [hkl, hm0]⟩⟩ (fun _ _ q => by cases q) (fun _ _ q => by cases q)
      rw [hkl]
      exact hl
    · refine act (some ⟨gg, 0, none⟩, cap) hv (Hl.one gg (.cells cur 9 (0, 0))) ⟨?_, .inr ⟨gg, cap, cur, by rw [hkl], Hl.one_self _ _, by rw [hkl]; exact r1, r2, r3, by rw [hkl]; exact r4⟩⟩ (fun k o q => ?_) (fun k o q => ?_)
      · rw [hkl]; exact hl
      · obtain ⟨rfl, rfl⟩ := Hl.one_some q; exact hgh
      · obtain ⟨rfl, rfl⟩ := Hl.one_some q; exact hge⟩
end
end Go.Proofs.YtdbfemdpdpaffaaGreatDoor
