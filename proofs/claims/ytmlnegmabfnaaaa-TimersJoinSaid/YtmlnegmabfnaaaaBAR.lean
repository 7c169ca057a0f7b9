/-
  Srt.
-/
import Derived.Test.YtmlnegmabfnaaaaBAQ
import Derived.Shelf.SlSortFuncK.WholeK
import Derived.Shelf.GgSortFunc.Tiny
/-
  sort.Slice over a row of one's own, its elements of several cells: a contract in the walk's form. No program's name in sight.
-/
namespace Go.Proofs.Ytmlnegmabfnaaaa
open Go Go.RowKit Go.Shelf Go.Lib Go.Sort
section
variable {α : Type} {enc : α → List Value} {k : Nat}
theorem flatE_length (hk : ∀ x, (enc x).length = k) : ∀ l : List α, (l.flatMap enc).length = l.length * k
  | [] => by simp
  | x :: l => by rw [List.flatMap_cons, List.length_append, hk, flatE_length hk l, List.length_cons, Nat.add_mul]; omega
theorem flatE_get (hk : ∀ x, (enc x).length = k) : ∀ (l : List α) (i c : Nat), c < k → (l.flatMap enc)[i * k + c]? = (l[i]?).bind (fun x => (enc x)[c]?)
  | [], _, _, _ => by simp
  | x :: l, 0, c, h => by rw [List.flatMap_cons, List.getElem?_append_left (by rw [hk]; omega)]; simp
  | x :: l, i + 1, c, h => by
    rw [List.flatMap_cons, List.getElem?_append_right (by rw [hk, Nat.add_mul]; omega), hk, show (i + 1) * k + c - k = i * k + c by rw [Nat.add_mul]; omega]
    simpa using flatE_get hk l i c h
theorem flatK_list [Inhabited α] (hk : ∀ x, (enc x).length = k) (d : Array α) : (flatK enc k d).toList = d.toList.flatMap enc := by
  apply List.ext_getElem?
  intro t
  by_cases ht : t < d.size * k
  · have k0 : 0 < k := by rcases Nat.eq_zero_or_pos k with h | h; · subst h; simp at ht
                          · exact h
    have hi : t / k < d.size := Nat.div_lt_of_lt_mul (by rw [Nat.mul_comm]; exact ht)
    have hc : t % k < k := Nat.mod_lt _ k0
    have e2 := flatE_get hk d.toList (t / k) (t % k) hc
    rw [Nat.div_add_mod'] at e2
    rw [e2]
    have e1 := get_flatK enc k d t ht
    have hs : t < (flatK enc k d).toList.length := by simpa using ht
    have h3 : (flatK enc k d).toList[t]? = some (flatK enc k d)[t]! := by
      rw [List.getElem?_eq_getElem hs, getElem!_pos _ t (by simpa using ht)]; simp
    rw [h3, e1]
    have h4 : d.toList[t / k]? = some d[t / k]! := by
      rw [List.getElem?_eq_getElem (by simpa using hi), getElem!_pos d _ hi]; simp
    rw [h4]
    have h5 : t % k < (enc d[t / k]!).length := by rw [hk]; exact hc
    simp only [Option.bind_some]
    rw [List.getElem?_eq_getElem h5, getElem!_pos (enc d[t / k]!) (t % k) h5]
  · rw [List.getElem?_eq_none (by simpa using ht), List.getElem?_eq_none (by rw [flatE_length hk]; simpa using ht)]
end
section
variable {P : Program} {W : World} {ρ : Ren} {α : Type} [Inhabited α]
/-- the row behind the sort -/
theorem St.sorted {w : World} {H R : List SP} {g0 n cap k e m : Nat} {xs : List Value} {enc : α → List Value} (hk : ∀ x, (enc x).length = k) (s : St W H w) (hsel : Sel (rowP (.slice (some ⟨g0, 0, none⟩) n cap) e k n xs) H R) (d' : Array α) (hd : d'.size = n) (os : Array Obj) :
    St W (rowP (.slice (some ⟨g0, 0, none⟩) n cap) e k n (d'.toList.flatMap enc) :: R) (grow (putRowK enc k (Sort.ahead w m) g0 0 d') os) := by
  obtain ⟨hxl, hr⟩ := s.row hsel
  rcases hr with ⟨hv, _⟩ | ⟨g, cp, cur, hv, hbg, hg, hnc, hcm, hcs, hx⟩
  · cases hv
  cases hv
  have hgs : g0 < w.heap.size := (Array.getElem?_eq_some_iff.1 hg).1
  have hfl : (flatK enc k d').size = n * k := by rw [size_flatK, hd]
  have hh : (grow (putRowK enc k (Sort.ahead w m) g0 0 d') os).heap[g0]? = some (.cells (putCells id 0 (flatK enc k d') cur) e (0, 0)) := by
    rw [heap_grow_old _ _ (by unfold putRowK; rw [size_putRow]; exact hgs)]
    show (mapBlock (Sort.ahead w m) g0 (putCells id 0 (flatK enc k d'))).heap[g0]? = _
    simp only [mapBlock, heap_ahead, Array.getElem?_modify, hg]
    rfl
  refine s.rowStep hsel ⟨by rw [flatE_length hk]; simp [hd], .inr ⟨g0, cap, _, rfl, hbg, hh, hnc, hcm, by simpa [putCells] using hcs, ?_⟩⟩ ⟨rfl, rfl, rfl, by rw [size_grow]; unfold putRowK; rw [size_putRow]; show w.heap.size ≤ w.heap.size + os.size; omega, fun j hj hne => ?_⟩ (fun g' hg' => .inl hg')
  · rw [← flatK_list hk d']
    have hnk : n * k ≤ cur.size := by rw [hcs]; exact Nat.mul_le_mul_right k hnc
    apply List.ext_getElem?
    intro t
    by_cases ht : t < n * k
    · rw [List.getElem?_take_of_lt ht]
      have h1 : (putCells id 0 (flatK enc k d') cur).toList[t]? = some ((flatK enc k d')[t]!) := by
        simp only [putCells, Array.getElem?_toList, Array.getElem?_mapIdx]
        rw [Array.getElem?_eq_getElem (by omega)]
        simp [hfl, ht]
      rw [h1, List.getElem?_eq_getElem (by simpa [hfl] using ht), getElem!_pos _ t (by omega)]
      simp
    · rw [List.getElem?_eq_none (by simp; omega), List.getElem?_eq_none (by simp [hd]; omega)]
  · rw [heap_grow_old _ _ (by unfold putRowK; rw [size_putRow]; exact hj)]
    show (mapBlock (Sort.ahead w m) g0 _).heap[j]? = _
    have : g0 ≠ j := fun e => hne (by simp [Value.ownBlock, e])
    simp [mapBlock, Array.getElem?_modify, this]
theorem St.grown {w : World} {H : List SP} (s : St W H w) (os : Array Obj) : St W H (grow w os) := by
  have h := St.act (A := []) (B := []) (H := H) (w' := grow w os) s rfl rfl rfl (by rw [size_grow]; omega) (fun h1 _ _ => ⟨fun _ => none, trivial, (fun _ _ q => by cases q), (fun _ _ q => by cases q), fun k hk _ => heap_grow_old w os hk⟩)
  exact h
theorem swapperK_two {n : Nat} (h : 2 ≤ n) (ie : TypeInfo) (ke : Nat) : swapperK n ie ke = swapperK 2 ie ke := by
  have c : (n == 0) = false := by simp; omega
  have d : (n == 1) = false := by simp; omega
  simp [swapperK, c, d]
/-- which of Swapper's literals there are -/
theorem swaps_of {ie : TypeInfo} {ke a b f k : Nat} {gS : Bool} (h1 : P.funcs.findIdx? (·.name == "internal/reflectlite" ++ ".Swapper$" ++ toString 1) = some a) (h2 : P.funcs.findIdx? (·.name == "internal/reflectlite" ++ ".Swapper$" ++ toString 2) = some b)
    (hk : swapperK 2 ie ke = k) (h3 : P.funcs.findIdx? (·.name == "internal/reflectlite" ++ ".Swapper$" ++ toString k) = some f) (hx : ∀ args W, (callFunc f args).run P W = ((Extern.ReflectliteSwapper.swap gS args).run P W).andThen fun v w' => .ok (.value v) w') :
    ∀ n, ∃ f, P.funcs.findIdx? (·.name == "internal/reflectlite" ++ ".Swapper$" ++ toString (swapperK n ie ke)) = some f ∧ (2 ≤ n → ∃ gS, ∀ args W, (callFunc f args).run P W = ((Extern.ReflectliteSwapper.swap gS args).run P W).andThen fun v w' => .ok (.value v) w') := by
  intro n
  match n with
  | 0 => exact ⟨a, h1, fun h => by omega⟩
  | 1 => exact ⟨b, h2, fun h => by omega⟩
  | n + 2 => exact ⟨f, by rw [swapperK_two (by omega), hk]; exact h3, fun _ => ⟨gS, hx⟩⟩
end
end Go.Proofs.Ytmlnegmabfnaaaa
