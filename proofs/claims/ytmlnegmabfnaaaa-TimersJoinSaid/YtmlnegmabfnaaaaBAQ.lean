/-
  Mor3.
-/
import Derived.Test.YtmlnegmabfnaaaaBAP
import Derived.Lib.AppendStr
/-
  More rules of the walk: texts appended to rows of bytes, stores into rows, claims packed behind a hidden value.
-/
namespace Go.Proofs.Ytmlnegmabfnaaaa
open Go Go.RowKit
def packP {α : Type} (tag key : Nat) (F : α → List SP) : SP := ⟨tag, key, fun h => ∃ a, starL (F a) h⟩
theorem pack_star {α : Type} {tag key : Nat} {F : α → List SP} {H : List SP} (a : α) : ∀ g, starL (F a ++ H) g → starL (packP tag key F :: H) g := by
  intro g q
  obtain ⟨h1, h2, d, l1, l2, s1, s2⟩ := (starL_append g).1 q
  exact ⟨h1, h2, d, l1, l2, ⟨a, s1⟩, s2⟩
theorem unpack_star {α : Type} {tag key : Nat} {F : α → List SP} {H : List SP} {g : Hl} (q : starL (packP tag key F :: H) g) : ∃ a, starL (F a ++ H) g := by
  obtain ⟨h1, h2, d, l1, l2, ⟨a, s1⟩, s2⟩ := q
  exact ⟨a, (starL_append g).2 ⟨h1, h2, d, l1, l2, s1, s2⟩⟩
theorem St.unpack {W w : World} {α : Type} {tag key : Nat} {F : α → List SP} {H : List SP} (s : St W (packP tag key F :: H) w) : ∃ a, St W (F a ++ H) w := by
  obtain ⟨h, q, l⟩ := s.own
  obtain ⟨a, q⟩ := unpack_star q
  exact ⟨a, s.below, h, q, l⟩
theorem KJ.unpack {W : World} {n : Nat} {k : KK} {E : Env} {α : Type} {tag key : Nat} {F : α → List SP} {H : List SP} (h : ∀ a, KJ W n k E (F a ++ H)) : KJ W n k E (packP tag key F :: H) :=
  ⟨fun a w p s => by
    obtain ⟨x, s⟩ := (show St W (packP tag key F :: (H ++ dm a.defers)) w from s).unpack
    exact (h x).go a w p (by rw [Sta, List.append_assoc]; exact s)⟩
theorem KJ.unpack_at {W : World} {n : Nat} {k : KK} {E : Env} {α : Type} {tag key : Nat} {F : α → List SP} {H R : List SP} (q : Sel (packP tag key F) H R) (h : ∀ a, KJ W n k E (F a ++ R)) : KJ W n k E H := KJ.perm (KJ.unpack h) q.perm
section
variable {P : Program} {W : World} {n : Nat} {E : Env} {H H' R : List SP} {k : KK} {x y z : Operand} {t u e T : TypeId} {b off d m c : Nat}
/-- what a row's step leaves: the row alone has turned -/
theorem St.rowStep {w w' : World} {v v' : Value} {size i j : Nat} {xs ys : List Value} (s : St W H w) (hsel : Sel (rowP v e size i xs) H R) (hown : w'.ownsRow W.heap.size e size v' j ys) (hg : w.grownBy w' v.ownBlock) (hloc : ∀ g, v'.ownBlock = some g → v.ownBlock = some g ∨ g = w.heap.size) :
    St W (rowP v' e size j ys :: R) w' := by
  obtain ⟨g1, g2, dj, hA, hH, l1, l2⟩ := (show St W ([rowP v e size i xs] ++ R) w from s.perm hsel.perm).split
  have hold : ∀ gg, v.ownBlock = some gg → ∃ o, g1 gg = some o := by
    intro gg hgg
    obtain ⟨ha, _, _, le, _, ⟨_, hd⟩, _⟩ := hA
    rcases hd with ⟨hv0, _⟩ | ⟨g'', cap', cur', hv0, hh0, _⟩
    · rw [hv0] at hgg; simp [Value.ownBlock] at hgg
    · rw [hv0] at hgg; simp [Value.ownBlock] at hgg; subst hgg; exact ⟨_, le _ _ hh0⟩
  have hq3 : ∀ kk, kk < w.heap.size → g1 kk = none → w'.heap[kk]? = w.heap[kk]? := by
    intro kk hk hnone
    refine hg.block kk hk (fun e => ?_)
    obtain ⟨o, ho⟩ := hold kk e.symm
    rw [hnone] at ho; cases ho
  rcases hown.2 with ⟨hv, hj⟩ | ⟨g', cap, cur, hv, hbase, hh, hrest⟩
  · exact St.join (B := [rowP v' e size j ys]) (g := fun _ => none) s.below dj hH l1 l2 (starL_one ⟨hown.1, .inl ⟨hv, hj⟩⟩) hg.os hg.tape hg.output hg.size (fun _ _ q => by cases q) (fun _ _ q => by cases q) hq3
  · refine St.join (B := [rowP v' e size j ys]) (g := Hl.one g' (.cells cur e (0, 0))) s.below dj hH l1 l2 (starL_one ⟨hown.1, .inr ⟨g', cap, cur, hv, Hl.one_self _ _, hrest⟩⟩) hg.os hg.tape hg.output hg.size ?_ ?_ hq3
    · intro kk o q; obtain ⟨rfl, rfl⟩ := Hl.one_some q; exact hh
    · intro kk o q
      obtain ⟨rfl, rfl⟩ := Hl.one_some q
      rcases hloc kk (by rw [hv]; rfl) with hl | hl
      · exact .inl (hold kk hl)
      · exact .inr (by omega)
/-- []T{} -/
theorem KJ_bslice0 {m : Nat} [hu : UIs P t (.slice e)] [hs : SzIs P e m] (hn : Nat.blt d n = true)
    (h : ∀ g, KJ W n k ((d, .slice (some ⟨g, 0, none⟩) 0 0) :: E) (rowP (.slice (some ⟨g, 0, none⟩) 0 0) e m 0 [] :: H)) : KJ W n (.oper P (.buildSlice t 0 #[]) (some d) k) E H := by
  refine ⟨fun a w p s o ho hd => ?_⟩
  have hs := hs.h
  cases hq : P.info? e with
  | none => simp [hq] at hs
  | some it =>
    show uponP P o a _ ((execOp a.eval o).run P w)
    have hr2 : (execOp a.eval o).run P w = .ok (.value (.slice (some ⟨w.heap.size, 0, none⟩) 0 0)) (w.alloc (.cells #[] e)) := by
      simp [execOp, ho, Instr.buildSlice, run_underlying hu.h, sizeOf, typeInfo, hq, Instr.fill, newRow, Go.newObj, Sem.run, Result.andThen, Array.eq_empty_of_size_eq_zero (xs := Array.range 0) (by simp)]
    rw [hr2]
    have st : St W (rowP (.slice (some ⟨w.heap.size, 0, none⟩) 0 0) e m 0 [] :: (H ++ dm a.defers)) (w.alloc (.cells #[] e)) :=
      s.alloc ⟨by simp, .inr ⟨w.heap.size, 0, #[], rfl, Hl.one_self _ _, Nat.le_refl _, by unfold maxLen; omega, by simp, by simp⟩⟩
    have := (h w.heap.size).go _ _ (p.put (d := some d) hn _) st
    rw [← hd] at this
    exact this
/-- a store into a row -/
theorem KJ_storeRow {v : Value} {vs xs : List Value} {g i size : Nat} (hx : Env.ev E x = some (.pointer (some ⟨g, off, none⟩))) (hy : Env.ev E y = some v) [hi : SzIs P t m] (hsel : Sel (rowP (.slice (some ⟨g, 0, none⟩) i c) e size i xs) H R) (hv : CellsOf v vs) (hl : vs.length = m) (h1 : Ones vs) (hfit : off + m ≤ xs.length)
    (h : KJ W n k E (rowP (.slice (some ⟨g, 0, none⟩) i c) e size i (lay xs off vs) :: R)) : KJ W n (.oper P (.store t x y) none k) E H := by
  refine ⟨fun a w p s o ho hd => ?_⟩
  replace hsel := hsel.app (dm a.defers)
  have hrow := s.row hsel
  rcases hrow.2 with ⟨q, _⟩ | ⟨g', cap, cur, hvv, hbg, hg, hnc, hcm, hcs, htake⟩
  · cases q
  cases hvv
  have hblk : Blk w g cur.toList e := by simpa [Blk] using hg
  have hxl := hrow.1
  have hcl : xs.length ≤ cur.size := by rw [hxl, hcs]; exact Nat.mul_le_mul_right _ hnc
  have hrun := run_store_lay (P := P) w g off t cur.toList vs e hblk (by simp; omega) (by rw [hl]; exact hi.h) h1.all
  have e1 : (Instr.storeAt t (.pointer (some ⟨g, off, none⟩)) v).run P w = (Instr.storeAt t (.pointer (some ⟨g, off, none⟩)) (.agg vs.toArray)).run P w := by
    simp only [Instr.storeAt, storeVar, hv.spec]
    rfl
  show uponP P o a _ ((execOp a.eval o).run P w)
  have e2 : (execOp a.eval o).run P w = .ok .skip (w.setRow g (lay cur.toList off vs).toArray) := by
    simp [execOp, ho, p.ev hx, p.ev hy, e1, hrun, Result.andThen]
  rw [e2]
  have hlc : (lay cur.toList off vs).length = cur.size := by rw [lay_length _ _ _ (by simp; omega)]; simp
  have st : St W (rowP (.slice (some ⟨g, 0, none⟩) i c) e size i (lay xs off vs) :: (R ++ dm a.defers)) (w.setRow g (lay cur.toList off vs).toArray) := by
    refine s.rowStep hsel ⟨by rw [lay_length _ _ _ (by omega)]; exact hxl, .inr ⟨g, c, _, rfl, hbg, setRow_heap w g cur _ e _ hg, hnc, hcm, by simpa [hlc] using hcs, ?_⟩⟩ ⟨rfl, rfl, rfl, by simp [World.setRow], fun kk _ hk => setRow_other w g kk _ (fun e => hk (by simp [Value.ownBlock, e]))⟩ (fun g' hg' => .inl hg')
    show (lay cur.toList off vs).take (i * size) = lay xs off vs
    rw [← htake]
    have hs : off + vs.length ≤ i * size := by omega
    have hic : i * size ≤ cur.toList.length := by simp; omega
    unfold lay
    rw [List.take_take, Nat.min_eq_left (by omega), List.take_append, List.length_take, Nat.min_eq_left (by simp; omega), List.take_append, List.drop_take]
    rw [List.take_of_length_le (l := cur.toList.take off) (by simp; omega), List.take_of_length_le (l := vs) (by omega)]
    congr 3
    omega
  have := h.go _ _ (p.put (d := none) rfl undef) st
  rw [← hd] at this
  exact this
end
end Go.Proofs.Ytmlnegmabfnaaaa
