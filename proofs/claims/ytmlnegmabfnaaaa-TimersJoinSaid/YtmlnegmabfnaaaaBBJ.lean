/-
  SoS.
-/
import Derived.Test.YtmlnegmabfnaaaaBBI
/-
  sort.Slice by contract, for a closure that may lay blocks: the row holds what pdqsort makes of it.
-/
namespace Go.Proofs.Ytmlnegmabfnaaaa
open Go Go.RowKit Go.Shelf Go.Lib Go.Sort
section
variable {P : Program} {W : World}
theorem Cx.fr {f : FuncId} {us : List Value} {L L' : List SP} {r : Value} (C : SP) (h : Cx P W f us L r L') : Cx P W f us (C :: L) r (C :: L') := by
  refine ⟨fun M w s => ?_⟩
  obtain ⟨w', e, s'⟩ := h.go (C :: M) w (s.perm (by show (C :: (L ++ M)).Perm (L ++ C :: M); exact List.perm_middle.symm))
  exact ⟨w', e, s'.perm (by show (L' ++ C :: M).Perm (C :: (L' ++ M)); exact List.perm_middle)⟩
end
section
variable {W : World} {α : Type} [Inhabited α]
/-- what sort.Slice makes of a list -/
def sortD (lt : α → α → Bool) (l : List α) : List α := if l.length ≤ 1 then l else (pq lt (l.length + 1) l.toArray 0 l.length (Lib.bitLen l.length) true true).toList
theorem sortD_len (lt : α → α → Bool) (l : List α) : (sortD lt l).length = l.length := by
  unfold sortD
  split
  · rfl
  · rw [Array.length_toList, pq_size _ _ _ _ _ _ _ (Nat.zero_le _) (by simp)]; simp
theorem slice_ct (t e : TypeId) (i ie : TypeInfo) (hi : Try.prog.info? t = some i) (hd : i.desc = .slice e) (hpk : Try.prog.packed t = false) (hie : Try.prog.info? e = some ie) (ke : Nat) (hke : ∀ w, (Extern.Rtype.kind e).run Try.prog w = .ok ke w)
    (enc : α → List Value) (k : Nat) (hk : ∀ x, (enc x).length = k) (hs1 : ie.size = k) (hagg : ∀ w, (isAgg e).run Try.prog w = .ok true w) (h1 : ∀ x, ∀ v ∈ enc x, v.oneCell' = true) (lt : α → α → Bool) (g : Nat) [FnIs Try.prog g]
    (hf : ∀ n, ∃ f, Try.prog.funcs.findIdx? (·.name == "internal/reflectlite" ++ ".Swapper$" ++ toString (swapperK n ie ke)) = some f ∧ (2 ≤ n → ∃ gS, ∀ args W, (callFunc f args).run Try.prog W = ((Extern.ReflectliteSwapper.swap gS args).run Try.prog W).andThen fun v w' => .ok (.value v) w'))
    (bs T : Nat) (l : List α) (hl : l.length < 4611686018427387904)
    (hless : ∀ (gg cp : Nat) (d : Array α), d.size = l.length → ∀ i j : Nat, i < l.length → j < l.length → Ct Try.prog W g [.int .i64 (i : Nat), .int .i64 (j : Nat), .pointer (some ⟨bs, 0, none⟩)] [cellsP bs [.slice (some ⟨gg, 0, none⟩) l.length cp] T, rowP (.slice (some ⟨gg, 0, none⟩) l.length cp) e k l.length (d.toList.flatMap enc)]
      (fun _ : Unit => .bool (lt d[i]! d[j]!)) (fun _ => [cellsP bs [.slice (some ⟨gg, 0, none⟩) l.length cp] T, rowP (.slice (some ⟨gg, 0, none⟩) l.length cp) e k l.length (d.toList.flatMap enc)])) (v : Value) :
    Ct Try.prog W 15 [.iface t v, .func (.func g) #[] #[.pointer (some ⟨bs, 0, none⟩)]] [cellsP bs [v] T, rowP v e k l.length (l.flatMap enc)] (fun _ : Unit => .tuple #[]) (fun _ => [cellsP bs [v] T, rowP v e k l.length ((sortD lt l).flatMap enc)]) := by
  refine ⟨fun R w s => ?_⟩
  obtain ⟨f, hf1, hf2⟩ := hf l.length
  have hrow := s.row (R := cellsP bs [v] T :: R) (.there .here)
  by_cases h2 : l.length ≤ 1
  · have hshape : ∃ p c, v = .slice p l.length c := by
      rcases hrow.2 with ⟨hv, h0⟩ | ⟨gg, cp, _, hv, _⟩
      · exact ⟨none, 0, by rw [hv, h0]⟩
      · exact ⟨_, cp, hv⟩
    obtain ⟨p, c, rfl⟩ := hshape
    refine (Any.sort_Slice_tiny Try.sl6 t e i ie hi hd hpk hie ke hke p l.length c h2 f hf1 (.func g) #[] #[.pointer (some ⟨bs, 0, none⟩)] w).mono ?_
    rintro en w' ⟨rfl, os, rfl⟩
    refine ⟨(), rfl, ?_⟩
    have e0 : sortD lt l = l := by unfold sortD; rw [if_pos h2]
    rw [e0]
    exact s.grown os
  · rcases hrow.2 with ⟨_, h0⟩ | ⟨gg, cp, cur, rfl, -⟩
    · omega
    obtain ⟨gS, hx2⟩ := hf2 (by omega)
    have hB : sliceBound Try.prog e ie ke (some ⟨gg, 0, none⟩) l.length cp = #[.slice (some ⟨gg, 0, none⟩) l.length cp, typeHandle Try.prog e] := by
      unfold sliceBound; rw [if_neg (swapperK_gt _ _ _ (by omega))]
    have hlim : Lib.bitLen l.length < 4611686018427387904 := Nat.lt_of_le_of_lt (Lib.bitLen_le l.length 62 (by omega) (by omega)) (by omega)
    have S : SoOk Try.prog W g f [.pointer (some ⟨bs, 0, none⟩)] [.slice (some ⟨gg, 0, none⟩) l.length cp, typeHandle Try.prog e] lt l.length
        (fun d => alP 0 [cellsP bs [.slice (some ⟨gg, 0, none⟩) l.length cp] T, rowP (.slice (some ⟨gg, 0, none⟩) l.length cp) e k l.length (d.toList.flatMap enc)]) :=
      { less := fun d hd i j hi hj => Ct.all 0 (hless gg cp d hd i j hi hj)
        swap := fun d hd i j hi hj => Cx.all 0 (Cx.fr _ (swap_cx hx2 hie hk hs1 hagg h1 d hd i j hi hj))
        small := hl }
    have cp1 := pdq_ct S hlim (l.length + 1) l.toArray 0 l.length (Lib.bitLen l.length) (by simp) (Nat.zero_le _) (Nat.le_refl _) (by omega) (Nat.le_refl _)
    refine (Any.sort_Slice_of_pdq Try.sl6 t e i ie hi hd hpk hie ke hke (some ⟨gg, 0, none⟩) l.length cp hl f hf1 (.func g) #[] #[.pointer (some ⟨bs, 0, none⟩)] w
      (fun w' => St W ([cellsP bs [.slice (some ⟨gg, 0, none⟩) l.length cp] T, rowP (.slice (some ⟨gg, 0, none⟩) l.length cp) e k l.length ((sortD lt l).flatMap enc)] ++ R) w') ?_).mono ?_
    · rw [hB]
      have hW : sliceWorld Try.prog Try.slr t (some ⟨gg, 0, none⟩) l.length cp w = grow w #[.cells #[.slice (some ⟨gg, 0, none⟩) l.length cp] t, .cells #[.pointer (some ⟨Try.prog.globals.size, t, none⟩), .pointer (some ⟨w.heap.size, 0, none⟩), .int .u64 151] (Try.slr.t 35)] := by
        unfold sliceWorld; rw [alloc_eq_grow, alloc_eq_grow, grow_grow]; rfl
      rw [hW]
      have s2 := (s.grown #[.cells #[.slice (some ⟨gg, 0, none⟩) l.length cp] t, .cells #[.pointer (some ⟨Try.prog.globals.size, t, none⟩), .pointer (some ⟨w.heap.size, 0, none⟩), .int .u64 151] (Try.slr.t 35)]).mono fun _ q => al_shut (L := [cellsP bs [.slice (some ⟨gg, 0, none⟩) l.length cp] T, rowP (.slice (some ⟨gg, 0, none⟩) l.length cp) e k l.length (l.flatMap enc)]) (H := R) (key := 0) q
      refine (show Calls Try.prog 23 _ _ _ from (cp1.go R _ s2)).mono ?_
      rintro en w' ⟨_, rfl, s3⟩
      refine ⟨rfl, ?_⟩
      have s4 := s3.mono fun _ q => al_open q
      have e0 : sortD lt l = (pq lt (l.length + 1) l.toArray 0 l.length (Lib.bitLen l.length) true true).toList := by unfold sortD; rw [if_neg h2]
      rw [e0]
      exact s4
    · rintro en w' ⟨rfl, s3⟩
      exact ⟨(), rfl, s3⟩
end
end Go.Proofs.Ytmlnegmabfnaaaa
