/-
  PoO3.
-/
import Derived.Test.YtdbfemdpdpaffaaGreatDoorPDF
import Derived.Test.YtdbfemdpdpaffaaGreatDoorPDG
/-
  PostingMemory: the walk, for a good posting and for a bad one (printed by genpoo3.py).
-/
namespace Go.Proofs.YtdbfemdpdpaffaaGreatDoor
open Go Go.RowKit Go.MapKept
section
variable {P : Program} {W : World} {n d m sz bytes : Nat} {E : Env} {H R : List SP} {k : KK} {t e : TypeId} {x y : Operand} {α : Type} {enc : α → List Value}
/-- make([]T, 0, m) -/
theorem KJ_make0P {C : Int} {zs : List Value} (hx : Env.ev E x = some (.int .i64 0)) (hy : Env.ev E y = some (.int .i64 C)) [hu : UIs P t (.slice e)] [hs : SzIs P e sz] [hb : ByIs P e bytes] [hz : ZcIs P e zs] (hC : C = (m : Int)) (hm : bytes * m ≤ 281474976710656) (hm2 : m ≤ 9223372036854775807) (hn : Nat.blt d n = true)
    (h : ∀ g c, KJ W n k ((d, .slice (some ⟨g, 0, none⟩) 0 c) :: E) (rowP (.slice (some ⟨g, 0, none⟩) 0 c) e sz 0 [] :: H)) : KJ W n (.oper P (.makeSlice t x y) (some d) k) E H := by
  refine ⟨fun a w p s o ho hd => ?_⟩
  have hz := hz.h
  have hs := hs.h
  have hb := hb.h
  cases hq : P.info? e with
  | none => simp [hq] at hz
  | some i =>
    simp [hq] at hz hs hb
    obtain ⟨zv, hz1, hz2⟩ := hz
    obtain ⟨w', h1, h2, h3⟩ := run_make_own (P := P) w w.heap.size t e i zv sz hu.h hq hz1 hs .i64 .i64 m (by rw [hb]; exact hm) (by unfold maxLen; omega) (Nat.le_refl _)
    show uponP P o a _ ((execOp a.eval o).run P w)
    have hrun : (execOp a.eval o).run P w = .ok (.value (.slice (some ⟨w.heap.size, 0, none⟩) 0 m)) w' := by
      simp only [execOp, ho, p.ev hx, p.ev hy, hC, Sem.run_bind, h1, Result.andThen_ok, Sem.run_pure]
    rw [hrun]
    have := (h w.heap.size m).go _ w' (p.put (d := some d) hn _) (s.newRow h2 h3)
    rw [← hd] at this
    exact this
/-- a block seen as a list -/
theorem KJ.cellsLs {g : Nat} {vs : List Value} {l : List α} (K : EncOk enc sz) (hs : Sel (cellsP g vs e) H R) (hv : l.flatMap enc = vs) (hm : m = l.length) (h63 : m ≤ maxLen) (h : KJ W n k E (lsP enc e sz (.slice (some ⟨g, 0, none⟩) m m) l :: R)) : KJ W n k E H := by
  subst hv hm
  exact ⟨fun a w q s => h.go a w q ((s.perm (hs.app _).perm).mono fun g' ⟨h1, h2, dj, l1, l2, a1, a2⟩ => ⟨h1, h2, dj, l1, l2, ⟨K.flat l, .inr ⟨g, l.length, (l.flatMap enc).toArray, rfl, a1, Nat.le_refl _, h63, by simpa using K.flat l, by have hf := K.flat l; simp only []; exact List.take_of_length_le (by omega)⟩⟩, a2⟩)⟩
/-- what some ways have in common -/
theorem KJ.join {k : KK} {G : Prop} (ι : Type) (Ei : ι → Env) (Hi : ι → List SP) (main : (∀ i, KJ W n k (Ei i) (Hi i)) → G) (tl : ∀ i, KJ W n k (Ei i) (Hi i)) : G := main tl
/-- rows as one claim -/
theorem KJ.rowsAll {In : LL} {Ys : List SP} (hY : Ys = In.map lrowP) (h1 : Pick Ys H R) (h : KJ W n k E (rowsP In :: R)) : KJ W n k E H := by
  subst hY
  exact ⟨fun ac w q s => h.go ac w q ((s.perm (h1.perm.append_right _)).mono fun _ x => bag_shut (key := 72) (L := In.map lrowP) (by rwa [List.append_assoc] at x))⟩
end
def mkLeg : Leg := ⟨[115, 112, 97, 114, 101], 9⟩
def spLeg : Leg := ⟨[115, 112, 111, 105, 108, 116], -1⟩
theorem catL_two (a b : Option Addr) (c e : Nat) (l : List Leg) : catL [(a, c, l), (b, e, [])] = l := by show l ++ ([] ++ []) = _; simp
section
variable {W : World} {F : Nat → Addr}
theorem psame1V (A : SP) (a : Option Addr) (c : Nat) (p : Pst) (hA : Lv W legC 2 A a p.legs) (hp : p.legs.length ≤ 4611686018427387904) {vs : List Value} {r : Bool} (hv : pstC p a c = vs) (hr : sameP p p = r) :
    Ct Tryz.prog W 22 [.agg vs.toArray, .agg vs.toArray] [A] (fun _ : Unit => .bool r) (fun _ => [A]) := by
  subst hv hr
  exact psame_ct A a a c c p p hA hA hp
theorem pencodeV (er : PErr W F) (A : SP) (a : Option Addr) (c : Nat) (p : Pst) (hp : PstFit p) (hL : Lv W legC 2 A a p.legs) {vs : List Value} {s : List UInt8} {e : Nat} (hv : pstC p a c = vs) (hs : (if checkE p = 0 then encPst p else []) = s) (he : checkE p = e) :
    Ct Tryz.prog W 17 [.agg vs.toArray] [A] (fun _ : Unit => .tuple #[strV s, errV F e]) (fun _ => [A]) := by
  subst hv hs he
  exact pencode_ct er A a c p hp hL

set_option maxHeartbeats 32000000 in
set_option maxRecDepth 20000 in
theorem pmemory_law (hE : ErrsOn L37 W F) (a : Option Addr) (c : Nat) (p : Pst) (nm : List UInt8) (fp : PstFit p) (hnm : nm.length ≤ 2000000) (L1 : Lv W legC 2 noP a p.legs) :
    Ct Tryz.prog W 8 [.agg (pstC p a c).toArray, strV nm] [] (fun _ : Unit => .bool true) (fun _ => []) := by
  have er := perr_of hE
  have e10 : W.cell? ⟨4, 0, none⟩ = some (errV F 10) := hE.at_ 10 (by decide)
  have e1 : W.cell? ⟨5, 0, none⟩ = some (errV F 1) := hE.at_ 1 (by decide)
  have e2 : W.cell? ⟨6, 0, none⟩ = some (errV F 2) := hE.at_ 2 (by decide)
  have e5 : W.cell? ⟨8, 0, none⟩ = some (errV F 5) := hE.at_ 5 (by decide)
  have cf := fixed_ct (W := W) (F := F) hE
  have np := fp.legs
  have hk : p.legs.length ≤ 4611686018427387904 := by omega
  have hacc := fp.acc
  have hamt := fp.amt
  obtain ⟨IN, hIN⟩ : ∃ IN, IN = p.legs ++ [mkLeg, mkLeg] := ⟨_, rfl⟩
  have hINl : IN.length = p.legs.length + 2 := by rw [hIN, List.length_append]; rfl
  have hINt : IN.take p.legs.length = p.legs := by rw [hIN, List.take_left' rfl]
  have hg0 : IN[p.legs.length]? = some mkLeg := by rw [hIN, List.getElem?_append_right (Nat.le_refl _), Nat.sub_self]; rfl
  have hg1 : IN[p.legs.length + 1]? = some mkLeg := by rw [hIN, List.getElem?_append_right (by omega), Nat.add_sub_cancel_left]; rfl
  have hLq : ∀ gi ci, Lv W legC 2 (lsP legC 55 2 (.slice (some ⟨gi, 0, none⟩) IN.length ci) IN) (some ⟨gi, 0, none⟩) p.legs := fun gi ci => by
    have h := Lv.take (W := W) (e := 55) (a := some ⟨gi, 0, none⟩) (c := ci) (i := p.legs.length) (L := IN) enc_leg rfl
    rw [hINt] at h
    exact h
  obtain ⟨V, hV⟩ : ∃ V, V = revL p.legs := ⟨_, rfl⟩
  have hVl : V.length = p.legs.length := by rw [hV]; exact revL_len p.legs
  obtain ⟨O, hO⟩ : ∃ O, O = mrgO p.legs := ⟨_, rfl⟩
  obtain ⟨me, hme⟩ : ∃ me, me = mrgE p.legs := ⟨_, rfl⟩
  have hOl : O.length ≤ p.legs.length := by rw [hO]; exact mrgO_len p.legs
  have cn := num_ct (W := W) (F := F) hE me (by rw [hme]; exact mrgE_le _)
  obtain ⟨e, he⟩ : ∃ e, e = checkE p := ⟨_, rfl⟩
  obtain ⟨B, hB⟩ : ∃ B, B = if checkE p = 0 then encPst p else [] := ⟨_, rfl⟩
  have hdec : e = 0 → B.length ≤ 9223372036854775807 ∧ decPst B = (p, 0) := fun h => by
    have h0 : checkE p = 0 := he.symm.trans h
    rw [hB, if_pos h0]
    exact ⟨by have := enc_len h0; omega, dec_enc h0⟩
  have cE := fun gi ci => pencodeV (W := W) (F := F) er (lsP legC 55 2 (.slice (some ⟨gi, 0, none⟩) IN.length ci) IN) (some ⟨gi, 0, none⟩) ci p fp (hLq gi ci) rfl hB.symm he.symm
  have cR := fun gi ci => preverseV (W := W) (lsP legC 55 2 (.slice (some ⟨gi, 0, none⟩) IN.length ci) IN) (some ⟨gi, 0, none⟩) ci p nm (hLq gi ci) np rfl rfl hV.symm
  have cM1 := fun gb gi ci => pmergeB (W := W) (F := F) e10 [cellsP gb [.slice (some ⟨gi, 0, none⟩) p.legs.length ci] 23, lsP legC 55 2 (.slice (some ⟨gi, 0, none⟩) IN.length ci) IN] (some ⟨gb, 0, none⟩) 1 [(some ⟨gi, 0, none⟩, ci, p.legs)] ((Lv.cells (T := 23) (cs := [.slice (some ⟨gi, 0, none⟩) p.legs.length ci]) rfl).bag Sel.here)
    (fun x hx => by rw [List.mem_singleton.1 hx]; exact (hLq gi ci).bag (Sel.there Sel.here)) (by simp) (by rw [show catL [((some ⟨gi, 0, none⟩ : Option Addr), ci, p.legs)] = p.legs by show p.legs ++ [] = _; simp]; omega) (by rw [show catL [((some ⟨gi, 0, none⟩ : Option Addr), ci, p.legs)] = p.legs by show p.legs ++ [] = _; simp]; exact hacc) (by rw [show catL [((some ⟨gi, 0, none⟩ : Option Addr), ci, p.legs)] = p.legs by show p.legs ++ [] = _; simp]; exact hamt) (O := O) (e := me) (v := .slice (some ⟨gb, 0, none⟩) 1 1) (by rw [show catL [((some ⟨gi, 0, none⟩ : Option Addr), ci, p.legs)] = p.legs by show p.legs ++ [] = _; simp]; exact hO.symm) (by rw [show catL [((some ⟨gi, 0, none⟩ : Option Addr), ci, p.legs)] = p.legs by show p.legs ++ [] = _; simp]; exact hme.symm) rfl
  have cM2 := fun gb gi ci => pmergeB (W := W) (F := F) e10 [cellsP gb [.slice (some ⟨gi, 0, none⟩) p.legs.length ci, .slice none 0 0] 23, lsP legC 55 2 (.slice (some ⟨gi, 0, none⟩) IN.length ci) IN] (some ⟨gb, 0, none⟩) 2 [(some ⟨gi, 0, none⟩, ci, p.legs), (none, 0, [])] ((Lv.cells (T := 23) (cs := [.slice (some ⟨gi, 0, none⟩) p.legs.length ci, .slice none 0 0]) rfl).bag Sel.here)
    (fun x hx => by
      rcases List.mem_cons.1 hx with rfl | hx
      · exact (hLq gi ci).bag (Sel.there Sel.here)
      · rw [List.mem_singleton.1 hx]
        exact ⟨fun w H R hs s hne => absurd rfl hne⟩) (by simp) (by rw [catL_two]; omega) (by rw [catL_two]; exact hacc) (by rw [catL_two]; exact hamt) (O := O) (e := me) (v := .slice (some ⟨gb, 0, none⟩) 2 2) (by rw [catL_two]; exact hO.symm) (by rw [catL_two]; exact hme.symm) rfl
  have cS := fun gi ci => psame1V (W := W) (lsP legC 55 2 (.slice (some ⟨gi, 0, none⟩) IN.length ci) IN) (some ⟨gi, 0, none⟩) ci p (hLq gi ci) hk rfl rfl
  have cC := fun gi ci => pcheckV (W := W) (F := F) er (lsP legC 55 2 (.slice (some ⟨gi, 0, none⟩) IN.length ci) IN) (some ⟨gi, 0, none⟩) ci p fp (hLq gi ci) rfl he.symm
  have cL : ∀ gi ci, Ct Tryz.prog W 25 [.slice (some ⟨gi, 0, none⟩) p.legs.length ci, .slice a p.legs.length c] [lsP legC 55 2 (.slice (some ⟨gi, 0, none⟩) IN.length ci) IN, noP] (fun _ : Unit => .bool true) (fun _ => [lsP legC 55 2 (.slice (some ⟨gi, 0, none⟩) IN.length ci) IN, noP]) := fun gi ci => by
    have h := samelegs_ct (W := W) (lsP legC 55 2 (.slice (some ⟨gi, 0, none⟩) IN.length ci) IN) noP (some ⟨gi, 0, none⟩) a ci c p.legs p.legs (hLq gi ci) L1 hk
    rw [decide_eq_true rfl] at h
    exact h
  have cO : ∀ m1 m2 n1 n2, Ct Tryz.prog W 25 [.slice m1 O.length m2, .slice n1 O.length n2] [lsP legC 55 2 (.slice m1 O.length m2) O, lsP legC 55 2 (.slice n1 O.length n2) O] (fun _ : Unit => .bool true) (fun _ => [lsP legC 55 2 (.slice m1 O.length m2) O, lsP legC 55 2 (.slice n1 O.length n2) O]) := fun m1 m2 n1 n2 => by
    have cF := samelegs_ct (W := W) (lsP legC 55 2 (.slice m1 O.length m2) O) (lsP legC 55 2 (.slice n1 O.length n2) O) m1 n1 m2 n2 O O (Lv.own enc_leg rfl) (Lv.own enc_leg rfl) (by omega)
    rw [decide_eq_true rfl] at cF
    exact cF
  have cA := fun x1 x2 y1 y2 => alikeV (W := W) (lsP legC 55 2 (.slice x1 p.legs.length x2) V) (lsP legC 55 2 (.slice y1 p.legs.length y2) V) x1 y1 x2 y2 ⟨nm, p.tick, p.note, V⟩ (Lv.own enc_leg hVl.symm) (Lv.own enc_leg hVl.symm) (by dsimp only; omega) (vs := [strV nm, .int .i64 p.tick, strV p.note, .slice x1 p.legs.length x2]) (ws := [strV nm, .int .i64 p.tick, strV p.note, .slice y1 p.legs.length y2]) (by unfold pstC; dsimp only; rw [hVl]) (by unfold pstC; dsimp only; rw [hVl])
  have cD := fun h => pdecode_ct (W := W) (F := F) er B (hdec h).1 e1 e2 e5 p 0 (hdec h).2
  have cB := fun x1 x2 => alikeV (W := W) (lsP legC 55 2 (.slice x1 p.legs.length x2) p.legs) noP x1 a x2 c p (Lv.own enc_leg rfl) L1 hk rfl rfl
  clear hO hme hV hINt fp he hB hdec
  obtain ⟨rb, hrb⟩ : ∃ rb, rb = sameP p p := ⟨_, rfl⟩
  simp only [← hrb] at cS
  clear hrb
  obtain ⟨id, tick, note, legs⟩ := p
  unfold pstC at cE cR cS cC cD cB ⊢
  dsimp only at cE cR cM1 cM2 cS cC cL cA cD cB hk np hacc hamt hINl hg0 hg1 hLq hVl hOl hIN L1 ⊢
  have hz : (!decide (mkLeg = mkLeg)) = false := by simp
  refine Ct.enter Tryz.func8 rfl Tryz.ntmps8 (by simp) (fun R => ?_)
  refine KJ.noP ?_
  apply KJ.join (W := W) (n := 206) {x : Nat × Nat × Nat × Nat // IN.length ≤ x.2.2.2} (fun x => [(1, strV nm), (2, .pointer (some ⟨x.1.1, 0, none⟩)), (5, .int .i64 (legs.length : Nat)), (6, .pointer (some ⟨x.1.2.1, 0, none⟩)), (7, .slice (some ⟨x.1.2.2.1, 0, none⟩) IN.length x.1.2.2.2), (44, .agg #[strV id, .int .i64 tick, strV note, .slice a legs.length c])])
    (fun x => [lsP legC 55 2 (.slice (some ⟨x.1.2.2.1, 0, none⟩) IN.length x.1.2.2.2) IN, cellsP x.1.1 [strV id, .int .i64 tick, strV note, .slice a legs.length c] 25, cellsP x.1.2.1 (legC mkLeg) 55, noP] ++ R)
  · intro tail1
    refine KJ.lvOpen L1 xS (fun b0 o0 hab => ?_)
    have d1 : (([] : List Leg).length + legs.length) * 24 ≤ 140737488355328 := by simp; omega
    have d2 : ([] : List Leg).length + legs.length ≤ 9223372036854775807 := by simp; omega
    have d3 : (legs.length + [mkLeg, mkLeg].length) * 24 ≤ 140737488355328 := by simp; omega
    have d4 : legs.length + [mkLeg, mkLeg].length ≤ 9223372036854775807 := by simp; omega
    repeat' (first 
    | (refine is_alloc ?_; refine KJ_alloc rfl (fun g6 => ?_); refine hold ?_)
    | (refine is_box ?_; refine KJ_box rfl xF rfl (fun g2 => ?_))
    | (refine is_call ?_; refine KJ_call xE cf xP rfl (fun _ => ?_))
    | (refine ek_build ?_; refine EK_ev (Ev_build xV xW) ?_)
    | refine xst ?_
    | (refine xsa ?_; intro _)
    | (refine xsb ?_ ?_ <;> intro _ <;> first | (exfalso; omega) | skip)
    | refine xsc ?_
    | (refine KJ_draws (id := 5) (.op 0 (.op 1 (.op 3 (.op 4 (.op 6 (.op 7 (.alt (.ef 2 [7, 6, 4, 3] (.alt (.ef 5 [7, 6] (.ef 8 [] (.ef 9 [] (.op 10 .nil)))) (.ef 8 [4, 3] (.ef 5 [] (.ef 9 [] (.op 10 .nil)))))) (.ef 8 [4, 3, 1, 0] (.ef 2 [4, 3] (.ef 5 [] (.ef 9 [] (.op 10 .nil)))))))))))) (by kernel_rfl) (by kernel_rfl) ?_)
    | (refine KJ_draws (id := 9) (.op 0 (.op 1 (.op 3 (.op 4 (.alt (.ef 2 [4, 3] (.alt (.ef 5 [] (.alt (.ef 6 [] (.ef 7 [] (.ef 8 [] (.ef 9 [] .nil)))) (.ef 7 [] (.ef 6 [] (.ef 8 [] (.ef 9 [] .nil)))))) (.alt (.ef 6 [4, 3] (.alt (.ef 5 [] (.ef 7 [] (.ef 8 [] (.ef 9 [] .nil)))) (.ef 7 [4, 3] (.ef 5 [] (.ef 8 [] (.ef 9 [] .nil)))))) (.ef 7 [4, 3] (.alt (.ef 5 [] (.ef 6 [] (.ef 8 [] (.ef 9 [] .nil)))) (.ef 6 [4, 3] (.ef 5 [] (.ef 8 [] (.ef 9 [] .nil))))))))) (.alt (.ef 6 [4, 3, 1, 0] (.alt (.ef 2 [4, 3] (.alt (.ef 5 [] (.ef 7 [] (.ef 8 [] (.ef 9 [] .nil)))) (.ef 7 [4, 3] (.ef 5 [] (.ef 8 [] (.ef 9 [] .nil)))))) (.ef 7 [4, 3, 1, 0] (.ef 2 [4, 3] (.ef 5 [] (.ef 8 [] (.ef 9 [] .nil))))))) (.ef 7 [4, 3, 1, 0] (.alt (.ef 2 [4, 3] (.alt (.ef 5 [] (.ef 6 [] (.ef 8 [] (.ef 9 [] .nil)))) (.ef 6 [4, 3] (.ef 5 [] (.ef 8 [] (.ef 9 [] .nil)))))) (.ef 6 [4, 3, 1, 0] (.ef 2 [4, 3] (.ef 5 [] (.ef 8 [] (.ef 9 [] .nil))))))))))))) (by kernel_rfl) (by kernel_rfl) ?_)
    | (refine KJ_draws (id := 14) (.op 0 (.op 1 (.op 2 (.op 3 (.op 4 (.ef 5 [] (.op 6 (.op 7 (.op 8 (.op 9 (.op 10 (.op 11 (.op 12 (.op 13 (.op 14 (.op 15 (.op 16 (.op 17 (.op 18 (.op 19 (.op 20 (.op 21 (.op 22 (.op 23 (.op 24 (.op 25 (.op 27 (.ef 26 [27] (.ef 28 [] (.op 29 (.op 30 (.op 31 (.op 32 (.op 33 (.ef 34 [] (.op 35 (.op 36 (.op 37 (.op 38 (.op 39 (.ef 40 [] (.op 41 (.op 42 .nil))))))))))))))))))))))))))))))))))))))))))) (by kernel_rfl) (by kernel_rfl) ?_)
    | refine FW_alt ?_ ?_
    | refine FW_efn rfl rfl rfl rfl rfl ?_ ?_
    | refine KJ_flow ?_ ?_
    | exact Rech.nil
    | fail)
    refine Hold.mk ?_
    repeat' (first 
    | (refine is_alloc ?_; refine hold ?_)
    | (refine is_append ?_; first | (refine KJ_appAll (l := legs) (l2 := [mkLeg, mkLeg]) enc_leg rfl rfl rfl rfl xS (Src.lv (Lv.cells (enc := legC) (sz := 2) (l := [mkLeg, mkLeg]) rfl) (fun _ => rfl) xS) d3 d4 rfl (fun a2 c2 => ?_); rw [← hIN]) | (refine KJ_appAll (l := ([] : List Leg)) (l2 := legs) enc_leg rfl rfl rfl rfl xS (Src.lv L1 hab xS) d1 d2 rfl (fun a1 c1 => ?_); rw [List.nil_append]))
    | (refine is_mkSlice ?_; refine KJ_make0P (m := legs.length + 2) rfl rfl rfl (by omega) (by omega) rfl (fun g5 c5 => ?_))
    | (refine is_bslice ?_; refine KJ_bsliceN (len := 2) (places := [(0, 2), (2, 2)]) (base := [strV [], .int .i64 0, strV [], .int .i64 0]) xV (by rfl) (by rfl) xW (by omega) rfl (fun gb => ?_))
    | (refine ek_add ?_; refine EK_ev (Ev_addI_v (r := ((legs.length + 2 : Nat) : Int)) rfl rfl (by omega) (by omega)) ?_)
    | refine xst ?_
    | (refine xsa ?_; intro _)
    | (refine xsb ?_ ?_ <;> intro _ <;> first | (exfalso; omega) | skip)
    | refine xsc ?_
    | (refine KJ_draws (id := 5) (.op 0 (.op 1 (.op 3 (.op 4 (.op 6 (.op 7 (.alt (.ef 2 [7, 6, 4, 3] (.alt (.ef 5 [7, 6] (.ef 8 [] (.ef 9 [] (.op 10 .nil)))) (.ef 8 [4, 3] (.ef 5 [] (.ef 9 [] (.op 10 .nil)))))) (.ef 8 [4, 3, 1, 0] (.ef 2 [4, 3] (.ef 5 [] (.ef 9 [] (.op 10 .nil)))))))))))) (by kernel_rfl) (by kernel_rfl) ?_)
    | (refine KJ_draws (id := 9) (.op 0 (.op 1 (.op 3 (.op 4 (.alt (.ef 2 [4, 3] (.alt (.ef 5 [] (.alt (.ef 6 [] (.ef 7 [] (.ef 8 [] (.ef 9 [] .nil)))) (.ef 7 [] (.ef 6 [] (.ef 8 [] (.ef 9 [] .nil)))))) (.alt (.ef 6 [4, 3] (.alt (.ef 5 [] (.ef 7 [] (.ef 8 [] (.ef 9 [] .nil)))) (.ef 7 [4, 3] (.ef 5 [] (.ef 8 [] (.ef 9 [] .nil)))))) (.ef 7 [4, 3] (.alt (.ef 5 [] (.ef 6 [] (.ef 8 [] (.ef 9 [] .nil)))) (.ef 6 [4, 3] (.ef 5 [] (.ef 8 [] (.ef 9 [] .nil))))))))) (.alt (.ef 6 [4, 3, 1, 0] (.alt (.ef 2 [4, 3] (.alt (.ef 5 [] (.ef 7 [] (.ef 8 [] (.ef 9 [] .nil)))) (.ef 7 [4, 3] (.ef 5 [] (.ef 8 [] (.ef 9 [] .nil)))))) (.ef 7 [4, 3, 1, 0] (.ef 2 [4, 3] (.ef 5 [] (.ef 8 [] (.ef 9 [] .nil))))))) (.ef 7 [4, 3, 1, 0] (.alt (.ef 2 [4, 3] (.alt (.ef 5 [] (.ef 6 [] (.ef 8 [] (.ef 9 [] .nil)))) (.ef 6 [4, 3] (.ef 5 [] (.ef 8 [] (.ef 9 [] .nil)))))) (.ef 6 [4, 3, 1, 0] (.ef 2 [4, 3] (.ef 5 [] (.ef 8 [] (.ef 9 [] .nil))))))))))))) (by kernel_rfl) (by kernel_rfl) ?_)
    | (refine KJ_draws (id := 14) (.op 0 (.op 1 (.op 2 (.op 3 (.op 4 (.ef 5 [] (.op 6 (.op 7 (.op 8 (.op 9 (.op 10 (.op 11 (.op 12 (.op 13 (.op 14 (.op 15 (.op 16 (.op 17 (.op 18 (.op 19 (.op 20 (.op 21 (.op 22 (.op 23 (.op 24 (.op 25 (.op 27 (.ef 26 [27] (.ef 28 [] (.op 29 (.op 30 (.op 31 (.op 32 (.op 33 (.ef 34 [] (.op 35 (.op 36 (.op 37 (.op 38 (.op 39 (.ef 40 [] (.op 41 (.op 42 .nil))))))))))))))))))))))))))))))))))))))))))) (by kernel_rfl) (by kernel_rfl) ?_)
    | refine FW_alt ?_ ?_
    | refine FW_efn rfl rfl rfl rfl rfl ?_ ?_
    | refine KJ_flow ?_ ?_
    | exact Rech.nil
    | fail)
    all_goals refine Hold.mk ?_
    all_goals refine KJ.lsOpen (l := IN) xS (fun a3 c3 hv hle => ?_)
    all_goals cases hv
    all_goals refine KJ.lsSome (l := IN) xS (by omega) (fun gi hgi => ?_)
    all_goals subst hgi
    all_goals exact KJ.weak (tail1 ⟨(g2, g6, gi, c2), hle⟩) xB (xN)
  intro ⟨(g2, g6, gi, ci), hle⟩
  dsimp only at hle ⊢
  have hnc : legs.length ≤ ci := by omega
  have o0 : 0 + Int.toNat (legs.length : Int) * 2 = legs.length * 2 := by simp
  have o1 : 0 + Int.toNat ((legs.length + 1 : Nat) : Int) * 2 = (legs.length + 1) * 2 := by simp
  apply KJ.join (W := W) (n := 206) (Nat × Nat × Nat × Option Addr × Nat × Option Addr × Nat) (fun x => [(2, .pointer (some ⟨g2, 0, none⟩)), (5, .int .i64 (legs.length : Nat)), (6, .pointer (some ⟨g6, 0, none⟩)), (7, .slice (some ⟨gi, 0, none⟩) IN.length ci), (8, .pointer (some ⟨x.1, 0, none⟩)), (9, strV B), (10, errV F e), (11, .pointer (some ⟨x.2.1, 0, none⟩)), (12, .pointer (some ⟨x.2.2.1, 0, none⟩)), (62, .slice (some ⟨gi, 0, none⟩) legs.length ci)])
    (fun x => [lsP legC 55 2 (.slice (some ⟨gi, 0, none⟩) IN.length ci) IN, cellsP g2 [strV id, .int .i64 tick, strV note, .slice a legs.length c] 25, cellsP g6 (legC mkLeg) 55, cellsP x.1 [strV id, .int .i64 tick, strV note, .slice (some ⟨gi, 0, none⟩) legs.length ci] 25, cellsP x.2.1 [strV nm, .int .i64 tick, strV note, .slice x.2.2.2.1 legs.length x.2.2.2.2.1] 25, cellsP x.2.2.1 [strV nm, .int .i64 tick, strV note, .slice x.2.2.2.2.2.1 legs.length x.2.2.2.2.2.2] 25, lsP legC 55 2 (.slice x.2.2.2.1 legs.length x.2.2.2.2.1) V, lsP legC 55 2 (.slice x.2.2.2.2.2.1 legs.length x.2.2.2.2.2.2) V, noP] ++ R)
  · intro tail2
    repeat' (first 
    | (refine is_alloc ?_; first | (refine KJ_alloc (d := 12) rfl (fun g12 => ?_)) | (refine KJ_alloc (d := 11) rfl (fun g11 => ?_)) | (refine KJ_alloc (d := 8) rfl (fun g8 => ?_)))
    | (refine is_call ?_; first | (refine KJ_call (d := 59) xE (cR _ _) xP rfl (fun y => ?_)) | (refine KJ_call (d := 56) xE (cR _ _) xP rfl (fun x => ?_)) | (refine KJ_call xE (cE _ _) xP rfl (fun _ => ?_)))
    | (refine is_bslice ?_; refine hold ?_)
    | (refine ek_slice ?_; refine EK_ev (Ev_sliceTo_d rfl rfl hnc) ?_)
    | refine xst ?_
    | (refine xsa ?_; intro _)
    | (refine xsb ?_ ?_ <;> intro _ <;> first | (exfalso; omega) | skip)
    | refine xsc ?_
    | (refine KJ_draws (id := 5) (.op 0 (.op 1 (.op 3 (.op 4 (.op 6 (.op 7 (.alt (.ef 2 [7, 6, 4, 3] (.alt (.ef 5 [7, 6] (.ef 8 [] (.ef 9 [] (.op 10 .nil)))) (.ef 8 [4, 3] (.ef 5 [] (.ef 9 [] (.op 10 .nil)))))) (.ef 8 [4, 3, 1, 0] (.ef 2 [4, 3] (.ef 5 [] (.ef 9 [] (.op 10 .nil)))))))))))) (by kernel_rfl) (by kernel_rfl) ?_)
    | (refine KJ_draws (id := 9) (.op 0 (.op 1 (.op 3 (.op 4 (.alt (.ef 2 [4, 3] (.alt (.ef 5 [] (.alt (.ef 6 [] (.ef 7 [] (.ef 8 [] (.ef 9 [] .nil)))) (.ef 7 [] (.ef 6 [] (.ef 8 [] (.ef 9 [] .nil)))))) (.alt (.ef 6 [4, 3] (.alt (.ef 5 [] (.ef 7 [] (.ef 8 [] (.ef 9 [] .nil)))) (.ef 7 [4, 3] (.ef 5 [] (.ef 8 [] (.ef 9 [] .nil)))))) (.ef 7 [4, 3] (.alt (.ef 5 [] (.ef 6 [] (.ef 8 [] (.ef 9 [] .nil)))) (.ef 6 [4, 3] (.ef 5 [] (.ef 8 [] (.ef 9 [] .nil))))))))) (.alt (.ef 6 [4, 3, 1, 0] (.alt (.ef 2 [4, 3] (.alt (.ef 5 [] (.ef 7 [] (.ef 8 [] (.ef 9 [] .nil)))) (.ef 7 [4, 3] (.ef 5 [] (.ef 8 [] (.ef 9 [] .nil)))))) (.ef 7 [4, 3, 1, 0] (.ef 2 [4, 3] (.ef 5 [] (.ef 8 [] (.ef 9 [] .nil))))))) (.ef 7 [4, 3, 1, 0] (.alt (.ef 2 [4, 3] (.alt (.ef 5 [] (.ef 6 [] (.ef 8 [] (.ef 9 [] .nil)))) (.ef 6 [4, 3] (.ef 5 [] (.ef 8 [] (.ef 9 [] .nil)))))) (.ef 6 [4, 3, 1, 0] (.ef 2 [4, 3] (.ef 5 [] (.ef 8 [] (.ef 9 [] .nil))))))))))))) (by kernel_rfl) (by kernel_rfl) ?_)
    | (refine KJ_draws (id := 14) (.op 0 (.op 1 (.op 2 (.op 3 (.op 4 (.ef 5 [] (.op 6 (.op 7 (.op 8 (.op 9 (.op 10 (.op 11 (.op 12 (.op 13 (.op 14 (.op 15 (.op 16 (.op 17 (.op 18 (.op 19 (.op 20 (.op 21 (.op 22 (.op 23 (.op 24 (.op 25 (.op 27 (.ef 26 [27] (.ef 28 [] (.op 29 (.op 30 (.op 31 (.op 32 (.op 33 (.ef 34 [] (.op 35 (.op 36 (.op 37 (.op 38 (.op 39 (.ef 40 [] (.op 41 (.op 42 .nil))))))))))))))))))))))))))))))))))))))))))) (by kernel_rfl) (by kernel_rfl) ?_)
    | refine FW_alt ?_ ?_
    | refine FW_efn rfl rfl rfl rfl rfl ?_ ?_
    | refine KJ_flow ?_ ?_
    | exact Rech.nil
    | fail)
    all_goals refine Hold.mk ?_
    all_goals exact KJ.weak (tail2 (g8, g11, g12, x.1, x.2, y.1, y.2)) xB (xN)
  intro ⟨g8, g11, g12, x1, x2, y1, y2⟩
  dsimp only
  apply KJ.join (W := W) (n := 206) {x : Nat × Nat × LL // x.2.2.length ≤ 6 ∧ ∀ y ∈ x.2.2, y.2.2.length ≤ 2000000} (fun x => [(7, .slice (some ⟨gi, 0, none⟩) IN.length ci), (17, .slice (some ⟨x.1.1, 0, none⟩) x.1.2.2.length x.1.2.1), (22, .slice none 0 0), (166, .slice (some ⟨x.1.1, 0, none⟩) x.1.2.2.length x.1.2.1), (167, .int .i64 (x.1.2.2.length : Nat)), (168, .int .i64 ((0 : Nat) : Int))])
    (fun x => [lsP legC 55 2 (.slice (some ⟨gi, 0, none⟩) IN.length ci) IN, lsP lsC 23 1 (.slice (some ⟨x.1.1, 0, none⟩) x.1.2.2.length x.1.2.1) x.1.2.2, rowsP x.1.2.2] ++ R)
  · intro tail3
    repeat' (first 
    | (refine is_call ?_; first | (refine KJ_call xE (cA _ _ _ _) xP rfl (fun _ => ?_)) | (refine KJ_call xE cn xP rfl (fun _ => ?_)) | (refine KJ_call xE (cO _ _ _ _) xP rfl (fun _ => ?_)) | (refine KJ_call xE (cL _ _) xP rfl (fun _ => ?_)) | (refine KJ_call xE (cC _ _) xP rfl (fun _ => ?_)) | (refine KJ_call xE (cS _ _) xP rfl (fun _ => ?_)) | (refine KJ_call xE (cM2 _ _ _) xP rfl (fun o => ?_)) | (refine KJ_call xE (cM1 _ _ _) xP rfl (fun m => ?_)))
    | (refine is_bslice ?_; first | (refine KJ_bsliceN (len := 4) (places := [(0, 1), (1, 1), (2, 1), (3, 1)]) (base := [.slice none 0 0, .slice none 0 0, .slice none 0 0, .slice none 0 0]) xV (by rfl) (by rfl) xW (by omega) rfl (fun gl => ?_); refine hold ?_) | (refine KJ_bsliceN (len := 2) (places := [(0, 1), (1, 1)]) (base := [.slice none 0 0, .slice none 0 0]) xV (by rfl) (by rfl) xW (by omega) rfl (fun gb => ?_)) | (refine KJ_bslice1 rfl xF (by rfl) (by omega) rfl (fun gb => ?_)))
    | (refine ek_load ?_; first | refine EK_ev (Ev_loadLs enc_leg rfl xS rfl o1 hg1) ?_ | refine EK_ev (Ev_loadLs enc_leg rfl xS rfl o0 hg0) ?_)
    | (refine ek_slice ?_; refine EK_ev (Ev_sliceTo_d rfl rfl hnc) ?_)
    | (refine ek_add ?_; refine EK_ev (Ev_addI_v (r := ((legs.length + 1 : Nat) : Int)) rfl rfl (by omega) (by omega)) ?_)
    | (refine ek_neq ?_; first | refine EK_ev (Ev_neqI_f rfl rfl rfl) ?_ | refine EK_ev (Ev_neqSt rfl rfl (leg_eqF mkLeg mkLeg Tryz.underlying55) hz) ?_)
    | refine xst ?_
    | (refine xsa ?_; intro _)
    | (refine xsb ?_ ?_ <;> intro _ <;> first | (exfalso; omega) | skip)
    | refine xsc ?_
    | (refine KJ_draws (id := 5) (.op 0 (.op 1 (.op 3 (.op 4 (.op 6 (.op 7 (.alt (.ef 2 [7, 6, 4, 3] (.alt (.ef 5 [7, 6] (.ef 8 [] (.ef 9 [] (.op 10 .nil)))) (.ef 8 [4, 3] (.ef 5 [] (.ef 9 [] (.op 10 .nil)))))) (.ef 8 [4, 3, 1, 0] (.ef 2 [4, 3] (.ef 5 [] (.ef 9 [] (.op 10 .nil)))))))))))) (by kernel_rfl) (by kernel_rfl) ?_)
    | (refine KJ_draws (id := 9) (.op 0 (.op 1 (.op 3 (.op 4 (.alt (.ef 2 [4, 3] (.alt (.ef 5 [] (.alt (.ef 6 [] (.ef 7 [] (.ef 8 [] (.ef 9 [] .nil)))) (.ef 7 [] (.ef 6 [] (.ef 8 [] (.ef 9 [] .nil)))))) (.alt (.ef 6 [4, 3] (.alt (.ef 5 [] (.ef 7 [] (.ef 8 [] (.ef 9 [] .nil)))) (.ef 7 [4, 3] (.ef 5 [] (.ef 8 [] (.ef 9 [] .nil)))))) (.ef 7 [4, 3] (.alt (.ef 5 [] (.ef 6 [] (.ef 8 [] (.ef 9 [] .nil)))) (.ef 6 [4, 3] (.ef 5 [] (.ef 8 [] (.ef 9 [] .nil))))))))) (.alt (.ef 6 [4, 3, 1, 0] (.alt (.ef 2 [4, 3] (.alt (.ef 5 [] (.ef 7 [] (.ef 8 [] (.ef 9 [] .nil)))) (.ef 7 [4, 3] (.ef 5 [] (.ef 8 [] (.ef 9 [] .nil)))))) (.ef 7 [4, 3, 1, 0] (.ef 2 [4, 3] (.ef 5 [] (.ef 8 [] (.ef 9 [] .nil))))))) (.ef 7 [4, 3, 1, 0] (.alt (.ef 2 [4, 3] (.alt (.ef 5 [] (.ef 6 [] (.ef 8 [] (.ef 9 [] .nil)))) (.ef 6 [4, 3] (.ef 5 [] (.ef 8 [] (.ef 9 [] .nil)))))) (.ef 6 [4, 3, 1, 0] (.ef 2 [4, 3] (.ef 5 [] (.ef 8 [] (.ef 9 [] .nil))))))))))))) (by kernel_rfl) (by kernel_rfl) ?_)
    | (refine KJ_draws (id := 14) (.op 0 (.op 1 (.op 2 (.op 3 (.op 4 (.ef 5 [] (.op 6 (.op 7 (.op 8 (.op 9 (.op 10 (.op 11 (.op 12 (.op 13 (.op 14 (.op 15 (.op 16 (.op 17 (.op 18 (.op 19 (.op 20 (.op 21 (.op 22 (.op 23 (.op 24 (.op 25 (.op 27 (.ef 26 [27] (.ef 28 [] (.op 29 (.op 30 (.op 31 (.op 32 (.op 33 (.ef 34 [] (.op 35 (.op 36 (.op 37 (.op 38 (.op 39 (.ef 40 [] (.op 41 (.op 42 .nil))))))))))))))))))))))))))))))))))))))))))) (by kernel_rfl) (by kernel_rfl) ?_)
    | refine FW_alt ?_ ?_
    | refine FW_efn rfl rfl rfl rfl rfl ?_ ?_
    | refine KJ_flow ?_ ?_
    | exact Rech.nil
    | fail)
    refine Hold.mk ?_
    obtain ⟨m1, m2⟩ := m
    obtain ⟨n1, n2⟩ := o
    dsimp only
    refine KJ.cellsLs (l := [(x1, x2, V), (y1, y2, V), (m1, m2, O), (n1, n2, O)]) lsC_ok xS (by show [Value.slice x1 V.length x2, .slice y1 V.length y2, .slice m1 O.length m2, .slice n1 O.length n2] = _; rw [hVl]; rfl) rfl (by show (4 : Nat) ≤ maxLen; decide) ?_
    refine KJ.rowsAll (In := [(x1, x2, V), (y1, y2, V), (m1, m2, O), (n1, n2, O)]) (Ys := [lsP legC 55 2 (.slice x1 legs.length x2) V, lsP legC 55 2 (.slice y1 legs.length y2) V, lsP legC 55 2 (.slice m1 O.length m2) O, lsP legC 55 2 (.slice n1 O.length n2) O]) (by show _ = [lsP legC 55 2 (.slice x1 V.length x2) V, lsP legC 55 2 (.slice y1 V.length y2) V, lsP legC 55 2 (.slice m1 O.length m2) O, lsP legC 55 2 (.slice n1 O.length n2) O]; rw [hVl]) xP ?_
    by_cases h0 : e = 0
    case neg =>
      have hne := errNe (F := F) h0
      repeat' (first 
    | (refine ek_eql ?_; refine EK_ev (Ev_eqlNil rfl hne) ?_)
    | refine xst ?_
    | (refine xsa ?_; intro _)
    | (refine xsb ?_ ?_ <;> intro _ <;> first | (exfalso; omega) | skip)
    | refine xsc ?_
    | (refine KJ_draws (id := 5) (.op 0 (.op 1 (.op 3 (.op 4 (.op 6 (.op 7 (.alt (.ef 2 [7, 6, 4, 3] (.alt (.ef 5 [7, 6] (.ef 8 [] (.ef 9 [] (.op 10 .nil)))) (.ef 8 [4, 3] (.ef 5 [] (.ef 9 [] (.op 10 .nil)))))) (.ef 8 [4, 3, 1, 0] (.ef 2 [4, 3] (.ef 5 [] (.ef 9 [] (.op 10 .nil)))))))))))) (by kernel_rfl) (by kernel_rfl) ?_)
    | (refine KJ_draws (id := 9) (.op 0 (.op 1 (.op 3 (.op 4 (.alt (.ef 2 [4, 3] (.alt (.ef 5 [] (.alt (.ef 6 [] (.ef 7 [] (.ef 8 [] (.ef 9 [] .nil)))) (.ef 7 [] (.ef 6 [] (.ef 8 [] (.ef 9 [] .nil)))))) (.alt (.ef 6 [4, 3] (.alt (.ef 5 [] (.ef 7 [] (.ef 8 [] (.ef 9 [] .nil)))) (.ef 7 [4, 3] (.ef 5 [] (.ef 8 [] (.ef 9 [] .nil)))))) (.ef 7 [4, 3] (.alt (.ef 5 [] (.ef 6 [] (.ef 8 [] (.ef 9 [] .nil)))) (.ef 6 [4, 3] (.ef 5 [] (.ef 8 [] (.ef 9 [] .nil))))))))) (.alt (.ef 6 [4, 3, 1, 0] (.alt (.ef 2 [4, 3] (.alt (.ef 5 [] (.ef 7 [] (.ef 8 [] (.ef 9 [] .nil)))) (.ef 7 [4, 3] (.ef 5 [] (.ef 8 [] (.ef 9 [] .nil)))))) (.ef 7 [4, 3, 1, 0] (.ef 2 [4, 3] (.ef 5 [] (.ef 8 [] (.ef 9 [] .nil))))))) (.ef 7 [4, 3, 1, 0] (.alt (.ef 2 [4, 3] (.alt (.ef 5 [] (.ef 6 [] (.ef 8 [] (.ef 9 [] .nil)))) (.ef 6 [4, 3] (.ef 5 [] (.ef 8 [] (.ef 9 [] .nil)))))) (.ef 6 [4, 3, 1, 0] (.ef 2 [4, 3] (.ef 5 [] (.ef 8 [] (.ef 9 [] .nil))))))))))))) (by kernel_rfl) (by kernel_rfl) ?_)
    | (refine KJ_draws (id := 14) (.op 0 (.op 1 (.op 2 (.op 3 (.op 4 (.ef 5 [] (.op 6 (.op 7 (.op 8 (.op 9 (.op 10 (.op 11 (.op 12 (.op 13 (.op 14 (.op 15 (.op 16 (.op 17 (.op 18 (.op 19 (.op 20 (.op 21 (.op 22 (.op 23 (.op 24 (.op 25 (.op 27 (.ef 26 [27] (.ef 28 [] (.op 29 (.op 30 (.op 31 (.op 32 (.op 33 (.ef 34 [] (.op 35 (.op 36 (.op 37 (.op 38 (.op 39 (.ef 40 [] (.op 41 (.op 42 .nil))))))))))))))))))))))))))))))))))))))))))) (by kernel_rfl) (by kernel_rfl) ?_)
    | refine FW_alt ?_ ?_
    | refine FW_efn rfl rfl rfl rfl rfl ?_ ?_
    | refine KJ_flow ?_ ?_
    | exact Rech.nil
    | fail)
      all_goals refine KJ.weak (tail3 ⟨(gl, 4, [(x1, x2, V), (y1, y2, V), (m1, m2, O), (n1, n2, O)]), by simp, fun y hy => ?_⟩) xB (xN)
      all_goals simp only [List.mem_cons, List.not_mem_nil, or_false] at hy
      all_goals rcases hy with rfl | rfl | rfl | rfl <;> dsimp only <;> omega
    subst h0
    have cD := cD rfl
    have b1 : ([(x1, x2, V), (y1, y2, V), (m1, m2, O), (n1, n2, O)].length + 2) * 24 ≤ 140737488355328 := by simp
    have b2 : [(x1, x2, V), (y1, y2, V), (m1, m2, O), (n1, n2, O)].length + 2 ≤ 9223372036854775807 := by simp
    repeat' (first 
    | (refine is_alloc ?_; first | (refine KJ_alloc (d := 20) rfl (fun g20 => ?_)) | (refine KJ_alloc (d := 18) rfl (fun g18 => ?_)))
    | (refine is_call ?_; first | (refine KJ_call xE (cB _ _) xP rfl (fun _ => ?_)) | (refine KJ_call (d := 138) xE cD xP rfl (fun w => ?_)) | (refine KJ_call (d := 133) xE cD xP rfl (fun v => ?_)))
    | (refine is_bslice ?_; refine KJ_bsliceN (len := 2) (places := [(0, 1), (1, 1)]) (base := [.slice none 0 0, .slice none 0 0]) xV (by rfl) (by rfl) xW (by omega) rfl (fun gb => ?_); refine hold ?_)
    | refine xst ?_
    | (refine xsa ?_; intro _)
    | (refine xsb ?_ ?_ <;> intro _ <;> first | (exfalso; omega) | skip)
    | refine xsc ?_
    | (refine KJ_draws (id := 5) (.op 0 (.op 1 (.op 3 (.op 4 (.op 6 (.op 7 (.alt (.ef 2 [7, 6, 4, 3] (.alt (.ef 5 [7, 6] (.ef 8 [] (.ef 9 [] (.op 10 .nil)))) (.ef 8 [4, 3] (.ef 5 [] (.ef 9 [] (.op 10 .nil)))))) (.ef 8 [4, 3, 1, 0] (.ef 2 [4, 3] (.ef 5 [] (.ef 9 [] (.op 10 .nil)))))))))))) (by kernel_rfl) (by kernel_rfl) ?_)
    | (refine KJ_draws (id := 9) (.op 0 (.op 1 (.op 3 (.op 4 (.alt (.ef 2 [4, 3] (.alt (.ef 5 [] (.alt (.ef 6 [] (.ef 7 [] (.ef 8 [] (.ef 9 [] .nil)))) (.ef 7 [] (.ef 6 [] (.ef 8 [] (.ef 9 [] .nil)))))) (.alt (.ef 6 [4, 3] (.alt (.ef 5 [] (.ef 7 [] (.ef 8 [] (.ef 9 [] .nil)))) (.ef 7 [4, 3] (.ef 5 [] (.ef 8 [] (.ef 9 [] .nil)))))) (.ef 7 [4, 3] (.alt (.ef 5 [] (.ef 6 [] (.ef 8 [] (.ef 9 [] .nil)))) (.ef 6 [4, 3] (.ef 5 [] (.ef 8 [] (.ef 9 [] .nil))))))))) (.alt (.ef 6 [4, 3, 1, 0] (.alt (.ef 2 [4, 3] (.alt (.ef 5 [] (.ef 7 [] (.ef 8 [] (.ef 9 [] .nil)))) (.ef 7 [4, 3] (.ef 5 [] (.ef 8 [] (.ef 9 [] .nil)))))) (.ef 7 [4, 3, 1, 0] (.ef 2 [4, 3] (.ef 5 [] (.ef 8 [] (.ef 9 [] .nil))))))) (.ef 7 [4, 3, 1, 0] (.alt (.ef 2 [4, 3] (.alt (.ef 5 [] (.ef 6 [] (.ef 8 [] (.ef 9 [] .nil)))) (.ef 6 [4, 3] (.ef 5 [] (.ef 8 [] (.ef 9 [] .nil)))))) (.ef 6 [4, 3, 1, 0] (.ef 2 [4, 3] (.ef 5 [] (.ef 8 [] (.ef 9 [] .nil))))))))))))) (by kernel_rfl) (by kernel_rfl) ?_)
    | (refine KJ_draws (id := 14) (.op 0 (.op 1 (.op 2 (.op 3 (.op 4 (.ef 5 [] (.op 6 (.op 7 (.op 8 (.op 9 (.op 10 (.op 11 (.op 12 (.op 13 (.op 14 (.op 15 (.op 16 (.op 17 (.op 18 (.op 19 (.op 20 (.op 21 (.op 22 (.op 23 (.op 24 (.op 25 (.op 27 (.ef 26 [27] (.ef 28 [] (.op 29 (.op 30 (.op 31 (.op 32 (.op 33 (.ef 34 [] (.op 35 (.op 36 (.op 37 (.op 38 (.op 39 (.ef 40 [] (.op 41 (.op 42 .nil))))))))))))))))))))))))))))))))))))))))))) (by kernel_rfl) (by kernel_rfl) ?_)
    | refine FW_alt ?_ ?_
    | refine FW_efn rfl rfl rfl rfl rfl ?_ ?_
    | refine KJ_flow ?_ ?_
    | exact Rech.nil
    | fail)
    all_goals refine Hold.mk ?_
    all_goals obtain ⟨v1, v2⟩ := v
    all_goals obtain ⟨w1, w2⟩ := w
    all_goals dsimp only
    repeat' (first 
    | (refine is_append ?_; refine KJ_appAll (l := [(x1, x2, V), (y1, y2, V), (m1, m2, O), (n1, n2, O)]) (l2 := [(v1, v2, legs), (w1, w2, legs)]) lsC_ok rfl rfl rfl rfl xS (Src.lv (Lv.cells (enc := lsC) (sz := 1) (l := [(v1, v2, legs), (w1, w2, legs)]) rfl) (fun _ => rfl) xS) b1 b2 rfl (fun q1 q2 => ?_))
    | refine xst ?_
    | (refine xsa ?_; intro _)
    | (refine xsb ?_ ?_ <;> intro _ <;> first | (exfalso; omega) | skip)
    | refine xsc ?_
    | (refine KJ_draws (id := 5) (.op 0 (.op 1 (.op 3 (.op 4 (.op 6 (.op 7 (.alt (.ef 2 [7, 6, 4, 3] (.alt (.ef 5 [7, 6] (.ef 8 [] (.ef 9 [] (.op 10 .nil)))) (.ef 8 [4, 3] (.ef 5 [] (.ef 9 [] (.op 10 .nil)))))) (.ef 8 [4, 3, 1, 0] (.ef 2 [4, 3] (.ef 5 [] (.ef 9 [] (.op 10 .nil)))))))))))) (by kernel_rfl) (by kernel_rfl) ?_)
    | (refine KJ_draws (id := 9) (.op 0 (.op 1 (.op 3 (.op 4 (.alt (.ef 2 [4, 3] (.alt (.ef 5 [] (.alt (.ef 6 [] (.ef 7 [] (.ef 8 [] (.ef 9 [] .nil)))) (.ef 7 [] (.ef 6 [] (.ef 8 [] (.ef 9 [] .nil)))))) (.alt (.ef 6 [4, 3] (.alt (.ef 5 [] (.ef 7 [] (.ef 8 [] (.ef 9 [] .nil)))) (.ef 7 [4, 3] (.ef 5 [] (.ef 8 [] (.ef 9 [] .nil)))))) (.ef 7 [4, 3] (.alt (.ef 5 [] (.ef 6 [] (.ef 8 [] (.ef 9 [] .nil)))) (.ef 6 [4, 3] (.ef 5 [] (.ef 8 [] (.ef 9 [] .nil))))))))) (.alt (.ef 6 [4, 3, 1, 0] (.alt (.ef 2 [4, 3] (.alt (.ef 5 [] (.ef 7 [] (.ef 8 [] (.ef 9 [] .nil)))) (.ef 7 [4, 3] (.ef 5 [] (.ef 8 [] (.ef 9 [] .nil)))))) (.ef 7 [4, 3, 1, 0] (.ef 2 [4, 3] (.ef 5 [] (.ef 8 [] (.ef 9 [] .nil))))))) (.ef 7 [4, 3, 1, 0] (.alt (.ef 2 [4, 3] (.alt (.ef 5 [] (.ef 6 [] (.ef 8 [] (.ef 9 [] .nil)))) (.ef 6 [4, 3] (.ef 5 [] (.ef 8 [] (.ef 9 [] .nil)))))) (.ef 6 [4, 3, 1, 0] (.ef 2 [4, 3] (.ef 5 [] (.ef 8 [] (.ef 9 [] .nil))))))))))))) (by kernel_rfl) (by kernel_rfl) ?_)
    | (refine KJ_draws (id := 14) (.op 0 (.op 1 (.op 2 (.op 3 (.op 4 (.ef 5 [] (.op 6 (.op 7 (.op 8 (.op 9 (.op 10 (.op 11 (.op 12 (.op 13 (.op 14 (.op 15 (.op 16 (.op 17 (.op 18 (.op 19 (.op 20 (.op 21 (.op 22 (.op 23 (.op 24 (.op 25 (.op 27 (.ef 26 [27] (.ef 28 [] (.op 29 (.op 30 (.op 31 (.op 32 (.op 33 (.ef 34 [] (.op 35 (.op 36 (.op 37 (.op 38 (.op 39 (.ef 40 [] (.op 41 (.op 42 .nil))))))))))))))))))))))))))))))))))))))))))) (by kernel_rfl) (by kernel_rfl) ?_)
    | refine FW_alt ?_ ?_
    | refine FW_efn rfl rfl rfl rfl rfl ?_ ?_
    | refine KJ_flow ?_ ?_
    | exact Rech.nil
    | fail)
    all_goals refine KJ.rowsPush (In := [(x1, x2, V), (y1, y2, V), (m1, m2, O), (n1, n2, O)]) (x := (v1, v2, legs)) rfl xP ?_
    all_goals refine KJ.rowsPush (In := [(x1, x2, V), (y1, y2, V), (m1, m2, O), (n1, n2, O)] ++ [(v1, v2, legs)]) (x := (w1, w2, legs)) rfl xP ?_
    all_goals refine KJ.lsSome (a := q1) (l := [(x1, x2, V), (y1, y2, V), (m1, m2, O), (n1, n2, O)] ++ [(v1, v2, legs), (w1, w2, legs)]) xS (by simp) (fun gq hgq => ?_)
    all_goals subst hgq
    all_goals refine KJ.weak (tail3 ⟨(gq, q2, [(x1, x2, V), (y1, y2, V), (m1, m2, O), (n1, n2, O)] ++ [(v1, v2, legs), (w1, w2, legs)]), by simp, fun y hy => ?_⟩) xB (xN)
    all_goals simp only [List.cons_append, List.nil_append, List.mem_cons, List.not_mem_nil, or_false] at hy
    all_goals rcases hy with rfl | rfl | rfl | rfl | rfl | rfl <;> dsimp only <;> omega
  intro ⟨(gl, cl, In), hI6, hrows⟩
  dsimp only at hI6 hrows ⊢
  clear cE cR cM1 cM2 cS cC cL cO cA cD cB hLq
  refine KJ.nilrow 23 1 ?_
  refine KJ.rowsNone ?_
  refine KJ_loop (fun x : {x : Nat × LL × Option Addr × Nat // x.1 ≤ In.length ∧ lgs x.2.1 = lgs (In.take x.1)} => [(7, .slice (some ⟨gi, 0, none⟩) IN.length ci), (17, .slice (some ⟨gl, 0, none⟩) In.length cl), (22, .slice x.1.2.2.1 x.1.2.1.length x.1.2.2.2), (166, .slice (some ⟨gl, 0, none⟩) In.length cl), (167, .int .i64 (In.length : Nat)), (168, .int .i64 (x.1.1 : Nat))])
    (fun x => [rowsP x.1.2.1, lsP lsC 23 1 (.slice x.1.2.2.1 x.1.2.1.length x.1.2.2.2) x.1.2.1, lsP legC 55 2 (.slice (some ⟨gi, 0, none⟩) IN.length ci) IN, lsP lsC 23 1 (.slice (some ⟨gl, 0, none⟩) In.length cl) In, rowsP In] ++ R) (fun x => In.length - x.1.1) ⟨(0, [], none, 0), Nat.zero_le _, rfl⟩ xB (xN) (fun ⟨(i, Was, xa, xc), hi, hL⟩ => ?_)
  dsimp only at hi hL ⊢
  have hIl := lgs_len hL
  rw [List.length_take] at hIl
  by_cases hlt : i < In.length
  · have ql : decide ((i : Int) < (In.length : Nat)) = true := decide_eq_true (by omega)
    obtain ⟨⟨ai, bi, l⟩, hx⟩ : ∃ s, In[i]? = some s := ⟨_, List.getElem?_eq_getElem hlt⟩
    have hLi := rows_lv (W := W) (List.mem_of_getElem? hx)
    have hol := hrows _ (List.mem_of_getElem? hx)
    have hnx := lgs_next hx hL
    dsimp only at hLi hol hnx
    refine KJ.lvOpen hLi xS (fun b1 o1 hab => ?_)
    have hoff : 0 + Int.toNat (i : Int) * 1 = i * 1 + 0 := by simp
    have kx : (lsC (ai, bi, l))[0]? = some (.slice ai l.length bi) := rfl
    have d1 : (([] : List Leg).length + l.length) * 24 ≤ 140737488355328 := by simp; omega
    have d2 : ([] : List Leg).length + l.length ≤ 9223372036854775807 := by simp; omega
    have g1 : (Was.length + 1) * 24 ≤ 140737488355328 := by omega
    have g2 : Was.length + 1 ≤ 9223372036854775807 := by omega
    repeat' (first 
    | (refine is_append ?_; refine KJ_appAll (l := ([] : List Leg)) (l2 := l) enc_leg rfl rfl rfl rfl xS (Src.lv hLi hab xS) d1 d2 rfl (fun a1 c1 => ?_); rw [List.nil_append]; refine hold ?_)
    | (refine is_bslice ?_; refine KJ_bslice0 rfl (fun g0 => ?_))
    | (refine ek_load ?_; refine EK_ev (Ev_loadLsF lsC_ok rfl xS rfl hoff hx kx) ?_)
    | (refine ek_lss ?_; refine EK_ev (Ev_lssI_q rfl rfl ql) ?_)
    | refine xst ?_
    | (refine xsa ?_; intro _)
    | (refine xsb ?_ ?_ <;> intro _ <;> first | (exfalso; omega) | skip)
    | refine xsc ?_
    | (refine KJ_draws (id := 5) (.op 0 (.op 1 (.op 3 (.op 4 (.op 6 (.op 7 (.alt (.ef 2 [7, 6, 4, 3] (.alt (.ef 5 [7, 6] (.ef 8 [] (.ef 9 [] (.op 10 .nil)))) (.ef 8 [4, 3] (.ef 5 [] (.ef 9 [] (.op 10 .nil)))))) (.ef 8 [4, 3, 1, 0] (.ef 2 [4, 3] (.ef 5 [] (.ef 9 [] (.op 10 .nil)))))))))))) (by kernel_rfl) (by kernel_rfl) ?_)
    | (refine KJ_draws (id := 9) (.op 0 (.op 1 (.op 3 (.op 4 (.alt (.ef 2 [4, 3] (.alt (.ef 5 [] (.alt (.ef 6 [] (.ef 7 [] (.ef 8 [] (.ef 9 [] .nil)))) (.ef 7 [] (.ef 6 [] (.ef 8 [] (.ef 9 [] .nil)))))) (.alt (.ef 6 [4, 3] (.alt (.ef 5 [] (.ef 7 [] (.ef 8 [] (.ef 9 [] .nil)))) (.ef 7 [4, 3] (.ef 5 [] (.ef 8 [] (.ef 9 [] .nil)))))) (.ef 7 [4, 3] (.alt (.ef 5 [] (.ef 6 [] (.ef 8 [] (.ef 9 [] .nil)))) (.ef 6 [4, 3] (.ef 5 [] (.ef 8 [] (.ef 9 [] .nil))))))))) (.alt (.ef 6 [4, 3, 1, 0] (.alt (.ef 2 [4, 3] (.alt (.ef 5 [] (.ef 7 [] (.ef 8 [] (.ef 9 [] .nil)))) (.ef 7 [4, 3] (.ef 5 [] (.ef 8 [] (.ef 9 [] .nil)))))) (.ef 7 [4, 3, 1, 0] (.ef 2 [4, 3] (.ef 5 [] (.ef 8 [] (.ef 9 [] .nil))))))) (.ef 7 [4, 3, 1, 0] (.alt (.ef 2 [4, 3] (.alt (.ef 5 [] (.ef 6 [] (.ef 8 [] (.ef 9 [] .nil)))) (.ef 6 [4, 3] (.ef 5 [] (.ef 8 [] (.ef 9 [] .nil)))))) (.ef 6 [4, 3, 1, 0] (.ef 2 [4, 3] (.ef 5 [] (.ef 8 [] (.ef 9 [] .nil))))))))))))) (by kernel_rfl) (by kernel_rfl) ?_)
    | (refine KJ_draws (id := 14) (.op 0 (.op 1 (.op 2 (.op 3 (.op 4 (.ef 5 [] (.op 6 (.op 7 (.op 8 (.op 9 (.op 10 (.op 11 (.op 12 (.op 13 (.op 14 (.op 15 (.op 16 (.op 17 (.op 18 (.op 19 (.op 20 (.op 21 (.op 22 (.op 23 (.op 24 (.op 25 (.op 27 (.ef 26 [27] (.ef 28 [] (.op 29 (.op 30 (.op 31 (.op 32 (.op 33 (.ef 34 [] (.op 35 (.op 36 (.op 37 (.op 38 (.op 39 (.ef 40 [] (.op 41 (.op 42 .nil))))))))))))))))))))))))))))))))))))))))))) (by kernel_rfl) (by kernel_rfl) ?_)
    | refine FW_alt ?_ ?_
    | refine FW_efn rfl rfl rfl rfl rfl ?_ ?_
    | refine KJ_flow ?_ ?_
    | exact Rech.nil
    | fail)
    refine Hold.mk ?_
    repeat' (first 
    | (refine is_append ?_; refine KJ_appOne (a := ((a1, c1, l) : Option Addr × Nat × List Leg)) lsC_ok rfl rfl rfl xS xS g1 g2 rfl (fun g3 c3 => ?_))
    | (refine is_bslice ?_; refine KJ_bslice1 rfl xF (by rfl) (by omega) rfl (fun gb => ?_))
    | (refine ek_add ?_; refine EK_ev (Ev_addI_v (r := ((i + 1 : Nat) : Int)) rfl rfl (by omega) (by omega)) ?_)
    | refine xst ?_
    | (refine xsa ?_; intro _)
    | (refine xsb ?_ ?_ <;> intro _ <;> first | (exfalso; omega) | skip)
    | refine xsc ?_
    | (refine KJ_draws (id := 5) (.op 0 (.op 1 (.op 3 (.op 4 (.op 6 (.op 7 (.alt (.ef 2 [7, 6, 4, 3] (.alt (.ef 5 [7, 6] (.ef 8 [] (.ef 9 [] (.op 10 .nil)))) (.ef 8 [4, 3] (.ef 5 [] (.ef 9 [] (.op 10 .nil)))))) (.ef 8 [4, 3, 1, 0] (.ef 2 [4, 3] (.ef 5 [] (.ef 9 [] (.op 10 .nil)))))))))))) (by kernel_rfl) (by kernel_rfl) ?_)
    | (refine KJ_draws (id := 9) (.op 0 (.op 1 (.op 3 (.op 4 (.alt (.ef 2 [4, 3] (.alt (.ef 5 [] (.alt (.ef 6 [] (.ef 7 [] (.ef 8 [] (.ef 9 [] .nil)))) (.ef 7 [] (.ef 6 [] (.ef 8 [] (.ef 9 [] .nil)))))) (.alt (.ef 6 [4, 3] (.alt (.ef 5 [] (.ef 7 [] (.ef 8 [] (.ef 9 [] .nil)))) (.ef 7 [4, 3] (.ef 5 [] (.ef 8 [] (.ef 9 [] .nil)))))) (.ef 7 [4, 3] (.alt (.ef 5 [] (.ef 6 [] (.ef 8 [] (.ef 9 [] .nil)))) (.ef 6 [4, 3] (.ef 5 [] (.ef 8 [] (.ef 9 [] .nil))))))))) (.alt (.ef 6 [4, 3, 1, 0] (.alt (.ef 2 [4, 3] (.alt (.ef 5 [] (.ef 7 [] (.ef 8 [] (.ef 9 [] .nil)))) (.ef 7 [4, 3] (.ef 5 [] (.ef 8 [] (.ef 9 [] .nil)))))) (.ef 7 [4, 3, 1, 0] (.ef 2 [4, 3] (.ef 5 [] (.ef 8 [] (.ef 9 [] .nil))))))) (.ef 7 [4, 3, 1, 0] (.alt (.ef 2 [4, 3] (.alt (.ef 5 [] (.ef 6 [] (.ef 8 [] (.ef 9 [] .nil)))) (.ef 6 [4, 3] (.ef 5 [] (.ef 8 [] (.ef 9 [] .nil)))))) (.ef 6 [4, 3, 1, 0] (.ef 2 [4, 3] (.ef 5 [] (.ef 8 [] (.ef 9 [] .nil))))))))))))) (by kernel_rfl) (by kernel_rfl) ?_)
    | (refine KJ_draws (id := 14) (.op 0 (.op 1 (.op 2 (.op 3 (.op 4 (.ef 5 [] (.op 6 (.op 7 (.op 8 (.op 9 (.op 10 (.op 11 (.op 12 (.op 13 (.op 14 (.op 15 (.op 16 (.op 17 (.op 18 (.op 19 (.op 20 (.op 21 (.op 22 (.op 23 (.op 24 (.op 25 (.op 27 (.ef 26 [27] (.ef 28 [] (.op 29 (.op 30 (.op 31 (.op 32 (.op 33 (.ef 34 [] (.op 35 (.op 36 (.op 37 (.op 38 (.op 39 (.ef 40 [] (.op 41 (.op 42 .nil))))))))))))))))))))))))))))))))))))))))))) (by kernel_rfl) (by kernel_rfl) ?_)
    | refine FW_alt ?_ ?_
    | refine FW_efn rfl rfl rfl rfl rfl ?_ ?_
    | refine KJ_flow ?_ ?_
    | exact Rech.nil
    | fail)
    all_goals refine KJ.rowsPush (In := Was) (x := (a1, c1, l)) rfl xP ?_
    all_goals refine KJ_again ⟨(i + 1, Was ++ [(a1, c1, l)], some ⟨g3, 0, none⟩, c3), hlt, hnx a1 c1⟩ (by show In.length - (i + 1) < In.length - i; omega) xB (xN)
  have ql : decide ((i : Int) < (In.length : Nat)) = false := decide_eq_false (by omega)
  rw [List.take_of_length_le (by omega)] at hL
  have hln := lgs_len hL
  repeat' (first 
    | (refine ek_lss ?_; refine EK_ev (Ev_lssI_q rfl rfl ql) ?_)
    | refine xst ?_
    | (refine xsa ?_; intro _)
    | (refine xsb ?_ ?_ <;> intro _ <;> first | (exfalso; omega) | skip)
    | refine xsc ?_
    | (refine KJ_draws (id := 5) (.op 0 (.op 1 (.op 3 (.op 4 (.op 6 (.op 7 (.alt (.ef 2 [7, 6, 4, 3] (.alt (.ef 5 [7, 6] (.ef 8 [] (.ef 9 [] (.op 10 .nil)))) (.ef 8 [4, 3] (.ef 5 [] (.ef 9 [] (.op 10 .nil)))))) (.ef 8 [4, 3, 1, 0] (.ef 2 [4, 3] (.ef 5 [] (.ef 9 [] (.op 10 .nil)))))))))))) (by kernel_rfl) (by kernel_rfl) ?_)
    | (refine KJ_draws (id := 9) (.op 0 (.op 1 (.op 3 (.op 4 (.alt (.ef 2 [4, 3] (.alt (.ef 5 [] (.alt (.ef 6 [] (.ef 7 [] (.ef 8 [] (.ef 9 [] .nil)))) (.ef 7 [] (.ef 6 [] (.ef 8 [] (.ef 9 [] .nil)))))) (.alt (.ef 6 [4, 3] (.alt (.ef 5 [] (.ef 7 [] (.ef 8 [] (.ef 9 [] .nil)))) (.ef 7 [4, 3] (.ef 5 [] (.ef 8 [] (.ef 9 [] .nil)))))) (.ef 7 [4, 3] (.alt (.ef 5 [] (.ef 6 [] (.ef 8 [] (.ef 9 [] .nil)))) (.ef 6 [4, 3] (.ef 5 [] (.ef 8 [] (.ef 9 [] .nil))))))))) (.alt (.ef 6 [4, 3, 1, 0] (.alt (.ef 2 [4, 3] (.alt (.ef 5 [] (.ef 7 [] (.ef 8 [] (.ef 9 [] .nil)))) (.ef 7 [4, 3] (.ef 5 [] (.ef 8 [] (.ef 9 [] .nil)))))) (.ef 7 [4, 3, 1, 0] (.ef 2 [4, 3] (.ef 5 [] (.ef 8 [] (.ef 9 [] .nil))))))) (.ef 7 [4, 3, 1, 0] (.alt (.ef 2 [4, 3] (.alt (.ef 5 [] (.ef 6 [] (.ef 8 [] (.ef 9 [] .nil)))) (.ef 6 [4, 3] (.ef 5 [] (.ef 8 [] (.ef 9 [] .nil)))))) (.ef 6 [4, 3, 1, 0] (.ef 2 [4, 3] (.ef 5 [] (.ef 8 [] (.ef 9 [] .nil))))))))))))) (by kernel_rfl) (by kernel_rfl) ?_)
    | (refine KJ_draws (id := 14) (.op 0 (.op 1 (.op 2 (.op 3 (.op 4 (.ef 5 [] (.op 6 (.op 7 (.op 8 (.op 9 (.op 10 (.op 11 (.op 12 (.op 13 (.op 14 (.op 15 (.op 16 (.op 17 (.op 18 (.op 19 (.op 20 (.op 21 (.op 22 (.op 23 (.op 24 (.op 25 (.op 27 (.ef 26 [27] (.ef 28 [] (.op 29 (.op 30 (.op 31 (.op 32 (.op 33 (.ef 34 [] (.op 35 (.op 36 (.op 37 (.op 38 (.op 39 (.ef 40 [] (.op 41 (.op 42 .nil))))))))))))))))))))))))))))))))))))))))))) (by kernel_rfl) (by kernel_rfl) ?_)
    | refine FW_alt ?_ ?_
    | refine FW_efn rfl rfl rfl rfl rfl ?_ ?_
    | refine KJ_flow ?_ ?_
    | exact Rech.nil
    | fail)
  refine KJ_loop (fun x : {x : Nat × List Leg // x.1 ≤ IN.length ∧ x.2.length = IN.length} => [(7, .slice (some ⟨gi, 0, none⟩) IN.length ci), (17, .slice (some ⟨gl, 0, none⟩) In.length cl), (22, .slice xa Was.length xc), (180, .int .i64 (IN.length : Nat)), (181, .int .i64 (x.1.1 : Nat))])
    (fun x => [lsP legC 55 2 (.slice (some ⟨gi, 0, none⟩) IN.length ci) x.1.2, rowsP Was, lsP lsC 23 1 (.slice xa Was.length xc) Was, lsP lsC 23 1 (.slice (some ⟨gl, 0, none⟩) In.length cl) In, rowsP In] ++ R) (fun x => IN.length - x.1.1) ⟨(0, IN), Nat.zero_le _, rfl⟩ xB (xN) (fun ⟨(j, N), hj, hN⟩ => ?_)
  dsimp only at hj hN ⊢
  by_cases hlt2 : j < IN.length
  · have q2 : decide ((j : Int) < (IN.length : Nat)) = true := decide_eq_true (by omega)
    have o2 : 0 + Int.toNat (j : Int) * 2 = j * 2 := by simp
    have hjN : j < N.length := by omega
    repeat' (first 
    | (refine is_store ?_; refine KJ_storeLs (a := spLeg) enc_leg rfl rfl xS hN.symm o2 hjN ?_)
    | (refine ek_build ?_; refine EK_ev (Ev_build xV xW) ?_)
    | (refine ek_add ?_; refine EK_ev (Ev_addI_v (r := ((j + 1 : Nat) : Int)) rfl rfl (by omega) (by omega)) ?_)
    | (refine ek_lss ?_; refine EK_ev (Ev_lssI_q rfl rfl q2) ?_)
    | refine xst ?_
    | (refine xsa ?_; intro _)
    | (refine xsb ?_ ?_ <;> intro _ <;> first | (exfalso; omega) | skip)
    | refine xsc ?_
    | (refine KJ_draws (id := 5) (.op 0 (.op 1 (.op 3 (.op 4 (.op 6 (.op 7 (.alt (.ef 2 [7, 6, 4, 3] (.alt (.ef 5 [7, 6] (.ef 8 [] (.ef 9 [] (.op 10 .nil)))) (.ef 8 [4, 3] (.ef 5 [] (.ef 9 [] (.op 10 .nil)))))) (.ef 8 [4, 3, 1, 0] (.ef 2 [4, 3] (.ef 5 [] (.ef 9 [] (.op 10 .nil)))))))))))) (by kernel_rfl) (by kernel_rfl) ?_)
    | (refine KJ_draws (id := 9) (.op 0 (.op 1 (.op 3 (.op 4 (.alt (.ef 2 [4, 3] (.alt (.ef 5 [] (.alt (.ef 6 [] (.ef 7 [] (.ef 8 [] (.ef 9 [] .nil)))) (.ef 7 [] (.ef 6 [] (.ef 8 [] (.ef 9 [] .nil)))))) (.alt (.ef 6 [4, 3] (.alt (.ef 5 [] (.ef 7 [] (.ef 8 [] (.ef 9 [] .nil)))) (.ef 7 [4, 3] (.ef 5 [] (.ef 8 [] (.ef 9 [] .nil)))))) (.ef 7 [4, 3] (.alt (.ef 5 [] (.ef 6 [] (.ef 8 [] (.ef 9 [] .nil)))) (.ef 6 [4, 3] (.ef 5 [] (.ef 8 [] (.ef 9 [] .nil))))))))) (.alt (.ef 6 [4, 3, 1, 0] (.alt (.ef 2 [4, 3] (.alt (.ef 5 [] (.ef 7 [] (.ef 8 [] (.ef 9 [] .nil)))) (.ef 7 [4, 3] (.ef 5 [] (.ef 8 [] (.ef 9 [] .nil)))))) (.ef 7 [4, 3, 1, 0] (.ef 2 [4, 3] (.ef 5 [] (.ef 8 [] (.ef 9 [] .nil))))))) (.ef 7 [4, 3, 1, 0] (.alt (.ef 2 [4, 3] (.alt (.ef 5 [] (.ef 6 [] (.ef 8 [] (.ef 9 [] .nil)))) (.ef 6 [4, 3] (.ef 5 [] (.ef 8 [] (.ef 9 [] .nil)))))) (.ef 6 [4, 3, 1, 0] (.ef 2 [4, 3] (.ef 5 [] (.ef 8 [] (.ef 9 [] .nil))))))))))))) (by kernel_rfl) (by kernel_rfl) ?_)
    | (refine KJ_draws (id := 14) (.op 0 (.op 1 (.op 2 (.op 3 (.op 4 (.ef 5 [] (.op 6 (.op 7 (.op 8 (.op 9 (.op 10 (.op 11 (.op 12 (.op 13 (.op 14 (.op 15 (.op 16 (.op 17 (.op 18 (.op 19 (.op 20 (.op 21 (.op 22 (.op 23 (.op 24 (.op 25 (.op 27 (.ef 26 [27] (.ef 28 [] (.op 29 (.op 30 (.op 31 (.op 32 (.op 33 (.ef 34 [] (.op 35 (.op 36 (.op 37 (.op 38 (.op 39 (.ef 40 [] (.op 41 (.op 42 .nil))))))))))))))))))))))))))))))))))))))))))) (by kernel_rfl) (by kernel_rfl) ?_)
    | refine FW_alt ?_ ?_
    | refine FW_efn rfl rfl rfl rfl rfl ?_ ?_
    | refine KJ_flow ?_ ?_
    | exact Rech.nil
    | fail)
    all_goals refine KJ_again ⟨(j + 1, N.set j spLeg), hlt2, by dsimp only; rw [List.length_set]; exact hN⟩ (by show IN.length - (j + 1) < IN.length - j; omega) xB (xN)
  have q2 : decide ((j : Int) < (IN.length : Nat)) = false := decide_eq_false (by omega)
  repeat' (first 
    | (refine ek_lss ?_; refine EK_ev (Ev_lssI_q rfl rfl q2) ?_)
    | refine xst ?_
    | (refine xsa ?_; intro _)
    | (refine xsb ?_ ?_ <;> intro _ <;> first | (exfalso; omega) | skip)
    | refine xsc ?_
    | (refine KJ_draws (id := 5) (.op 0 (.op 1 (.op 3 (.op 4 (.op 6 (.op 7 (.alt (.ef 2 [7, 6, 4, 3] (.alt (.ef 5 [7, 6] (.ef 8 [] (.ef 9 [] (.op 10 .nil)))) (.ef 8 [4, 3] (.ef 5 [] (.ef 9 [] (.op 10 .nil)))))) (.ef 8 [4, 3, 1, 0] (.ef 2 [4, 3] (.ef 5 [] (.ef 9 [] (.op 10 .nil)))))))))))) (by kernel_rfl) (by kernel_rfl) ?_)
    | (refine KJ_draws (id := 9) (.op 0 (.op 1 (.op 3 (.op 4 (.alt (.ef 2 [4, 3] (.alt (.ef 5 [] (.alt (.ef 6 [] (.ef 7 [] (.ef 8 [] (.ef 9 [] .nil)))) (.ef 7 [] (.ef 6 [] (.ef 8 [] (.ef 9 [] .nil)))))) (.alt (.ef 6 [4, 3] (.alt (.ef 5 [] (.ef 7 [] (.ef 8 [] (.ef 9 [] .nil)))) (.ef 7 [4, 3] (.ef 5 [] (.ef 8 [] (.ef 9 [] .nil)))))) (.ef 7 [4, 3] (.alt (.ef 5 [] (.ef 6 [] (.ef 8 [] (.ef 9 [] .nil)))) (.ef 6 [4, 3] (.ef 5 [] (.ef 8 [] (.ef 9 [] .nil))))))))) (.alt (.ef 6 [4, 3, 1, 0] (.alt (.ef 2 [4, 3] (.alt (.ef 5 [] (.ef 7 [] (.ef 8 [] (.ef 9 [] .nil)))) (.ef 7 [4, 3] (.ef 5 [] (.ef 8 [] (.ef 9 [] .nil)))))) (.ef 7 [4, 3, 1, 0] (.ef 2 [4, 3] (.ef 5 [] (.ef 8 [] (.ef 9 [] .nil))))))) (.ef 7 [4, 3, 1, 0] (.alt (.ef 2 [4, 3] (.alt (.ef 5 [] (.ef 6 [] (.ef 8 [] (.ef 9 [] .nil)))) (.ef 6 [4, 3] (.ef 5 [] (.ef 8 [] (.ef 9 [] .nil)))))) (.ef 6 [4, 3, 1, 0] (.ef 2 [4, 3] (.ef 5 [] (.ef 8 [] (.ef 9 [] .nil))))))))))))) (by kernel_rfl) (by kernel_rfl) ?_)
    | (refine KJ_draws (id := 14) (.op 0 (.op 1 (.op 2 (.op 3 (.op 4 (.ef 5 [] (.op 6 (.op 7 (.op 8 (.op 9 (.op 10 (.op 11 (.op 12 (.op 13 (.op 14 (.op 15 (.op 16 (.op 17 (.op 18 (.op 19 (.op 20 (.op 21 (.op 22 (.op 23 (.op 24 (.op 25 (.op 27 (.ef 26 [27] (.ef 28 [] (.op 29 (.op 30 (.op 31 (.op 32 (.op 33 (.ef 34 [] (.op 35 (.op 36 (.op 37 (.op 38 (.op 39 (.ef 40 [] (.op 41 (.op 42 .nil))))))))))))))))))))))))))))))))))))))))))) (by kernel_rfl) (by kernel_rfl) ?_)
    | refine FW_alt ?_ ?_
    | refine FW_efn rfl rfl rfl rfl rfl ?_ ?_
    | refine KJ_flow ?_ ?_
    | exact Rech.nil
    | fail)
  refine KJ_loop (fun x : {x : Nat // x ≤ In.length} => [(17, .slice (some ⟨gl, 0, none⟩) In.length cl), (22, .slice xa Was.length xc), (189, .slice (some ⟨gl, 0, none⟩) In.length cl), (190, .int .i64 (In.length : Nat)), (191, .int .i64 (x.1 : Nat))])
    (fun _ => [rowsP Was, lsP lsC 23 1 (.slice xa Was.length xc) Was, lsP lsC 23 1 (.slice (some ⟨gl, 0, none⟩) In.length cl) In, rowsP In] ++ R) (fun x => In.length - x.1) ⟨0, Nat.zero_le _⟩ xB (xN) (fun ⟨f, hf⟩ => ?_)
  dsimp only at hf ⊢
  by_cases hlt3 : f < In.length
  · have q3 : decide ((f : Int) < (In.length : Nat)) = true := decide_eq_true (by omega)
    obtain ⟨⟨ai, bi, l⟩, hx⟩ : ∃ s, In[f]? = some s := ⟨_, List.getElem?_eq_getElem hlt3⟩
    obtain ⟨ak, ck, hy⟩ := lgs_get hx hL
    have hLi := rows_lv (W := W) (List.mem_of_getElem? hx)
    have hLw := rows_lv (W := W) (List.mem_of_getElem? hy)
    have hol := hrows _ (List.mem_of_getElem? hx)
    dsimp only at hLi hLw hol hy
    have cF := samelegs_ct (W := W) (rowsP In) (rowsP Was) ai ak bi ck l l hLi hLw (by omega)
    rw [decide_eq_true rfl] at cF
    refine KJ.lsSome (a := xa) (l := Was) xS (by omega) (fun gx hgx => ?_)
    subst hgx
    have r0 : 0 + Int.toNat (f : Int) * 1 = f * 1 + 0 := by simp
    have kx : (lsC (ai, bi, l))[0]? = some (.slice ai l.length bi) := rfl
    have ky : (lsC (ak, ck, l))[0]? = some (.slice ak l.length ck) := rfl
    repeat' (first 
    | (refine is_call ?_; refine KJ_call xE cF xP rfl (fun _ => ?_))
    | (refine ek_load ?_; first | refine EK_ev (Ev_loadLsF lsC_ok rfl xS rfl r0 hy ky) ?_ | refine EK_ev (Ev_loadLsF lsC_ok rfl xS rfl r0 hx kx) ?_)
    | (refine ek_add ?_; refine EK_ev (Ev_addI_v (r := ((f + 1 : Nat) : Int)) rfl rfl (by omega) (by omega)) ?_)
    | (refine ek_lss ?_; refine EK_ev (Ev_lssI_q rfl rfl q3) ?_)
    | refine xst ?_
    | (refine xsa ?_; intro _)
    | (refine xsb ?_ ?_ <;> intro _ <;> first | (exfalso; omega) | skip)
    | refine xsc ?_
    | (refine KJ_draws (id := 5) (.op 0 (.op 1 (.op 3 (.op 4 (.op 6 (.op 7 (.alt (.ef 2 [7, 6, 4, 3] (.alt (.ef 5 [7, 6] (.ef 8 [] (.ef 9 [] (.op 10 .nil)))) (.ef 8 [4, 3] (.ef 5 [] (.ef 9 [] (.op 10 .nil)))))) (.ef 8 [4, 3, 1, 0] (.ef 2 [4, 3] (.ef 5 [] (.ef 9 [] (.op 10 .nil)))))))))))) (by kernel_rfl) (by kernel_rfl) ?_)
    | (refine KJ_draws (id := 9) (.op 0 (.op 1 (.op 3 (.op 4 (.alt (.ef 2 [4, 3] (.alt (.ef 5 [] (.alt (.ef 6 [] (.ef 7 [] (.ef 8 [] (.ef 9 [] .nil)))) (.ef 7 [] (.ef 6 [] (.ef 8 [] (.ef 9 [] .nil)))))) (.alt (.ef 6 [4, 3] (.alt (.ef 5 [] (.ef 7 [] (.ef 8 [] (.ef 9 [] .nil)))) (.ef 7 [4, 3] (.ef 5 [] (.ef 8 [] (.ef 9 [] .nil)))))) (.ef 7 [4, 3] (.alt (.ef 5 [] (.ef 6 [] (.ef 8 [] (.ef 9 [] .nil)))) (.ef 6 [4, 3] (.ef 5 [] (.ef 8 [] (.ef 9 [] .nil))))))))) (.alt (.ef 6 [4, 3, 1, 0] (.alt (.ef 2 [4, 3] (.alt (.ef 5 [] (.ef 7 [] (.ef 8 [] (.ef 9 [] .nil)))) (.ef 7 [4, 3] (.ef 5 [] (.ef 8 [] (.ef 9 [] .nil)))))) (.ef 7 [4, 3, 1, 0] (.ef 2 [4, 3] (.ef 5 [] (.ef 8 [] (.ef 9 [] .nil))))))) (.ef 7 [4, 3, 1, 0] (.alt (.ef 2 [4, 3] (.alt (.ef 5 [] (.ef 6 [] (.ef 8 [] (.ef 9 [] .nil)))) (.ef 6 [4, 3] (.ef 5 [] (.ef 8 [] (.ef 9 [] .nil)))))) (.ef 6 [4, 3, 1, 0] (.ef 2 [4, 3] (.ef 5 [] (.ef 8 [] (.ef 9 [] .nil))))))))))))) (by kernel_rfl) (by kernel_rfl) ?_)
    | (refine KJ_draws (id := 14) (.op 0 (.op 1 (.op 2 (.op 3 (.op 4 (.ef 5 [] (.op 6 (.op 7 (.op 8 (.op 9 (.op 10 (.op 11 (.op 12 (.op 13 (.op 14 (.op 15 (.op 16 (.op 17 (.op 18 (.op 19 (.op 20 (.op 21 (.op 22 (.op 23 (.op 24 (.op 25 (.op 27 (.ef 26 [27] (.ef 28 [] (.op 29 (.op 30 (.op 31 (.op 32 (.op 33 (.ef 34 [] (.op 35 (.op 36 (.op 37 (.op 38 (.op 39 (.ef 40 [] (.op 41 (.op 42 .nil))))))))))))))))))))))))))))))))))))))))))) (by kernel_rfl) (by kernel_rfl) ?_)
    | refine FW_alt ?_ ?_
    | refine FW_efn rfl rfl rfl rfl rfl ?_ ?_
    | refine KJ_flow ?_ ?_
    | exact Rech.nil
    | fail)
    all_goals refine KJ_again ⟨f + 1, hlt3⟩ (by show In.length - (f + 1) < In.length - f; omega) xB (xN)
  have q3 : decide ((f : Int) < (In.length : Nat)) = false := decide_eq_false (by omega)
  have cW := own_ct (W := W) (lsP lsC 23 1 (.slice (some ⟨gl, 0, none⟩) In.length cl) In) (some ⟨gl, 0, none⟩) cl In (Lv.own lsC_ok rfl) (by omega) hrows
  repeat' (first 
    | (refine is_call ?_; refine KJ_call xE cW xP rfl (fun _ => ?_))
    | (refine ek_lss ?_; refine EK_ev (Ev_lssI_q rfl rfl q3) ?_)
    | refine xst ?_
    | (refine xsa ?_; intro _)
    | (refine xsb ?_ ?_ <;> intro _ <;> first | (exfalso; omega) | skip)
    | refine xsc ?_
    | (refine KJ_draws (id := 5) (.op 0 (.op 1 (.op 3 (.op 4 (.op 6 (.op 7 (.alt (.ef 2 [7, 6, 4, 3] (.alt (.ef 5 [7, 6] (.ef 8 [] (.ef 9 [] (.op 10 .nil)))) (.ef 8 [4, 3] (.ef 5 [] (.ef 9 [] (.op 10 .nil)))))) (.ef 8 [4, 3, 1, 0] (.ef 2 [4, 3] (.ef 5 [] (.ef 9 [] (.op 10 .nil)))))))))))) (by kernel_rfl) (by kernel_rfl) ?_)
    | (refine KJ_draws (id := 9) (.op 0 (.op 1 (.op 3 (.op 4 (.alt (.ef 2 [4, 3] (.alt (.ef 5 [] (.alt (.ef 6 [] (.ef 7 [] (.ef 8 [] (.ef 9 [] .nil)))) (.ef 7 [] (.ef 6 [] (.ef 8 [] (.ef 9 [] .nil)))))) (.alt (.ef 6 [4, 3] (.alt (.ef 5 [] (.ef 7 [] (.ef 8 [] (.ef 9 [] .nil)))) (.ef 7 [4, 3] (.ef 5 [] (.ef 8 [] (.ef 9 [] .nil)))))) (.ef 7 [4, 3] (.alt (.ef 5 [] (.ef 6 [] (.ef 8 [] (.ef 9 [] .nil)))) (.ef 6 [4, 3] (.ef 5 [] (.ef 8 [] (.ef 9 [] .nil))))))))) (.alt (.ef 6 [4, 3, 1, 0] (.alt (.ef 2 [4, 3] (.alt (.ef 5 [] (.ef 7 [] (.ef 8 [] (.ef 9 [] .nil)))) (.ef 7 [4, 3] (.ef 5 [] (.ef 8 [] (.ef 9 [] .nil)))))) (.ef 7 [4, 3, 1, 0] (.ef 2 [4, 3] (.ef 5 [] (.ef 8 [] (.ef 9 [] .nil))))))) (.ef 7 [4, 3, 1, 0] (.alt (.ef 2 [4, 3] (.alt (.ef 5 [] (.ef 6 [] (.ef 8 [] (.ef 9 [] .nil)))) (.ef 6 [4, 3] (.ef 5 [] (.ef 8 [] (.ef 9 [] .nil)))))) (.ef 6 [4, 3, 1, 0] (.ef 2 [4, 3] (.ef 5 [] (.ef 8 [] (.ef 9 [] .nil))))))))))))) (by kernel_rfl) (by kernel_rfl) ?_)
    | (refine KJ_draws (id := 14) (.op 0 (.op 1 (.op 2 (.op 3 (.op 4 (.ef 5 [] (.op 6 (.op 7 (.op 8 (.op 9 (.op 10 (.op 11 (.op 12 (.op 13 (.op 14 (.op 15 (.op 16 (.op 17 (.op 18 (.op 19 (.op 20 (.op 21 (.op 22 (.op 23 (.op 24 (.op 25 (.op 27 (.ef 26 [27] (.ef 28 [] (.op 29 (.op 30 (.op 31 (.op 32 (.op 33 (.ef 34 [] (.op 35 (.op 36 (.op 37 (.op 38 (.op 39 (.ef 40 [] (.op 41 (.op 42 .nil))))))))))))))))))))))))))))))))))))))))))) (by kernel_rfl) (by kernel_rfl) ?_)
    | refine FW_alt ?_ ?_
    | refine FW_efn rfl rfl rfl rfl rfl ?_ ?_
    | refine KJ_flow ?_ ?_
    | exact Rech.nil
    | fail)
  all_goals (exact xdn ())

end
end Go.Proofs.YtdbfemdpdpaffaaGreatDoor
