/-
  PoR5, PoR6.
-/
import Derived.Test.YtdbfemdpdpaffaaGreatDoorPDC
import Derived.Test.YtdbfemdpdpaffaaGreatDoorPDD
import Derived.Test.YtdbfemdpdpaffaaGreatDoorPDE
import Derived.Test.YtdbfemdpdpaffaaGreatDoorPDM
/-
  PostingMerge: slices of any list, plain laws of merged lists.
-/
namespace Go.Proofs.YtdbfemdpdpaffaaGreatDoor
open Go Go.RowKit Go.MapKept
/-- where a part of a list lies -/
def subA (a : Option Addr) (i c s : Nat) : Option Addr := a.map fun A => if c - i = 0 then A else A.add (i * s)
section
variable {P : Program} {W : World} {n d : Nat} {E : Env} {H H' R : List SP} {k : KK} {t u e : TypeId} {x y z : Operand} {α : Type} {enc : α → List Value} {sz : Nat}
theorem Ev_sliceFromX {a : Option Addr} {i m c s : Nat} {ki : IntKind} (hx : Env.ev E x = some (.slice a m c)) (hy : Env.ev E y = some (.int ki ((i : Nat) : Int))) [hu : UIs P t (.slice e)] [hi : SzIs P e s] (ha : a = none → c = 0) (hb : i ≤ m) (hc : m ≤ c) : Ev P W n E H (.slice t x (some y) none none) (.slice (subA a i c s) (m - i) (c - i)) :=
  Ev.mk fun o ho ac w p _ => by
    have hi := hi.h
    cases hq : P.info? e with
    | none => simp [hq] at hi
    | some q =>
      have hi : q.size = s := by simpa [hq] using hi
      have h6 : (m : Int) ≤ c := by omega
      have h7 : (i : Int) ≤ m := by omega
      cases a with
      | none =>
        have := ha rfl
        have h1 : m = 0 := by omega
        have h2 : i = 0 := by omega
        subst this h1 h2
        simp [execOp, ho, p.ev hx, p.ev hy, Instr.sliceAt, Instr.slice, run_underlying hu.h, Instr.sliceBounds, Instr.sliceBound, asIntOf, sizeOf, typeInfo, hq, Result.andThen, subA]
      | some A =>
        by_cases h3 : c - i = 0
        · have h3' : c ≤ i := by omega
          have h4 : c = i := by omega
          simp [execOp, ho, p.ev hx, p.ev hy, Instr.sliceAt, Instr.slice, run_underlying hu.h, Instr.sliceBounds, Instr.sliceBound, asIntOf, hb, h6, h7, sizeOf, typeInfo, hq, hi, subA, h3', h4]
        · have h4 : ¬ c ≤ i := by omega
          have h5 : ¬ c = i := by omega
          simp [execOp, ho, p.ev hx, p.ev hy, Instr.sliceAt, Instr.slice, run_underlying hu.h, Instr.sliceBounds, Instr.sliceBound, asIntOf, hb, h6, h7, sizeOf, typeInfo, hq, hi, subA, h3, h5]
theorem Ev_sliceToX {a : Option Addr} {j m c s : Nat} {kj : IntKind} (hx : Env.ev E x = some (.slice a m c)) (hz : Env.ev E z = some (.int kj ((j : Nat) : Int))) [hu : UIs P t (.slice e)] [hi : SzIs P e s] (ha : a = none → c = 0) (hb : j ≤ c) : Ev P W n E H (.slice t x none (some z) none) (.slice a j c) :=
  Ev.mk fun o ho ac w p _ => by
    have hi := hi.h
    cases hq : P.info? e with
    | none => simp [hq] at hi
    | some q =>
      have hi : q.size = s := by simpa [hq] using hi
      have h7 : (j : Int) ≤ c := by omega
      cases a with
      | none =>
        have := ha rfl
        have h2 : j = 0 := by omega
        subst this h2
        simp [execOp, ho, p.ev hx, p.ev hz, Instr.sliceAt, Instr.slice, run_underlying hu.h, Instr.sliceBounds, Instr.sliceBound, asIntOf, sizeOf, typeInfo, hq, Result.andThen]
      | some A =>
        simp [execOp, ho, p.ev hx, p.ev hz, Instr.sliceAt, Instr.slice, run_underlying hu.h, Instr.sliceBounds, Instr.sliceBound, asIntOf, hb, h7, sizeOf, typeInfo, hq, hi, Addr.add]
theorem Lv.postX (K : EncOk enc sz) {A : SP} {a : Option Addr} {l : List α} (h : Lv W enc sz A a l) {i c : Nat} (hi : i ≤ l.length) (hc : l.length ≤ c) : Lv W enc sz A (subA a i c sz) (l.drop i) :=
  ⟨fun w H R hs s hne => by
    obtain ⟨b, o, ha, hr⟩ := h.go w H R hs s (by intro q; subst q; simp at hne)
    subst ha
    have hlt : i < l.length := by
      refine Nat.lt_of_not_le fun q => hne (List.drop_of_length_le q)
    have h0 : ¬ c - i = 0 := by omega
    refine ⟨b, o + i * sz, ?_, fun j v hj => ?_⟩
    · unfold subA Addr.add
      simp only [Option.map_some, if_neg h0]
      by_cases hz : i * sz = 0
      · rw [if_pos hz, hz]; simp
      · rw [if_neg hz]
    · have := hr _ v (K.drop_at hi hj)
      rwa [← Nat.add_assoc] at this⟩
end
theorem i64_add (x y : Int) : IntKind.i64.wrap (IntKind.i64.wrap x + y) = IntKind.i64.wrap (x + y) := by
  simp only [IntKind.wrap, IntKind.signed, IntKind.bits]
  simp
  repeat' split
  all_goals omega
theorem mrg_perm {l r : List Leg} (h : l.Perm r) : mrgO l = mrgO r ∧ mrgE l = mrgE r := by unfold mrgO mrgE; rw [mergeP_perm h]; exact ⟨rfl, rfl⟩
theorem mrg_nil : mrgO [] = [] ∧ mrgE [] = 0 := by unfold mrgO mrgE; rw [mergeP_zero (l := []) (fun a => rfl)]; exact ⟨rfl, rfl⟩
theorem mrg_err (l : List Leg) : mrgE l = 0 ∨ mrgE l = 10 := by unfold mrgE; split <;> simp
theorem mrg_again (l : List Leg) : mrgO (mrgO l) = mrgO l ∧ mrgE (mrgO l) = 0 := by
  cases h : mergeP l with
  | none =>
    have e : mrgO l = [] := by unfold mrgO; rw [h]; rfl
    rw [e]; exact mrg_nil
  | some w =>
    have e : mrgO l = w := by unfold mrgO; rw [h]; rfl
    rw [e]; unfold mrgO mrgE; rw [mergeP_again h]; exact ⟨rfl, rfl⟩
theorem mrg_out (l : List Leg) : (∀ x ∈ mrgO l, x.amt ≠ 0 ∧ fitsI x.amt = true ∧ ∃ y ∈ l, y.acc = x.acc) ∧ ∀ (i : Nat) x y, (mrgO l)[i]? = some x → (mrgO l)[i + 1]? = some y → Op.bytesLess x.acc y.acc = true := by
  cases h : mergeP l with
  | none =>
    have e : mrgO l = [] := by unfold mrgO; rw [h]; rfl
    rw [e]; exact ⟨fun x hx => (by cases hx), fun i x y hx => by simp at hx⟩
  | some w =>
    have e : mrgO l = w := by unfold mrgO; rw [h]; rfl
    rw [e]
    obtain ⟨h1, h2⟩ := mergeP_out h
    refine ⟨fun x hx => ⟨(h2 x hx).2.2, (h2 x hx).2.1, ?_⟩, fun i x y hx hy => ?_⟩
    · have h3 : mergeK (sumA (srtL l)) (heads (srtL l)) = some w := by rw [← mergeG_heads _ (srt_pair l)]; exact h
      have h4 := (mergeK_out h3).1.subset (List.mem_map.2 ⟨x, hx, rfl⟩)
      obtain ⟨y, hy, he⟩ := List.mem_map.1 ((heads_mem _ _).1 h4)
      exact ⟨y, (srt_perm l).mem_iff.1 hy, he⟩
    · rw [List.pairwise_iff_getElem] at h1
      obtain ⟨i1, e1⟩ := List.getElem?_eq_some_iff.1 hx
      obtain ⟨i2, e2⟩ := List.getElem?_eq_some_iff.1 hy
      have := h1 i (i + 1) (by rw [List.length_map]; exact i1) (by rw [List.length_map]; exact i2) (by omega)
      rwa [List.getElem_map, List.getElem_map, e1, e2] at this
theorem fits_le {x : Int} (h : fitsI x = true) : -9223372036854775808 ≤ x ∧ x ≤ 9223372036854775807 := by
  unfold fitsI at h
  simpa using h
theorem mrg_one {ls : LL} (h1 : ls.length ≤ 1) (h2 : ∀ x ∈ ls, legsE x.2.2 = 0) : mrgE (catL ls) = 0 ∧ ((mrgO (catL ls)).map (·.amt)).sum = 0 := by
  match ls, h1 with
  | [], _ => show mrgE [] = 0 ∧ ((mrgO []).map (·.amt)).sum = 0; rw [mrg_nil.1, mrg_nil.2]; exact ⟨rfl, rfl⟩
  | [x], _ =>
    obtain ⟨_, g2, g3, g4⟩ := legsE_zero (h2 x (List.mem_singleton.2 rfl))
    have e : catL [x] = x.2.2 := by show x.2.2 ++ [] = _; rw [List.append_nil]
    have h := mergeP_apart g3 (fun y hy => ⟨by unfold fitsI; have := g2 y hy; simp; omega, (g2 y hy).1⟩)
    rw [e]
    unfold mrgO mrgE
    rw [h]
    refine ⟨rfl, ?_⟩
    show ((srtL x.2.2).map (·.amt)).sum = 0
    rw [sumI_perm ((srt_perm x.2.2).map _), g4]
theorem rise_not {a b : List UInt8} (h : Op.bytesLess a b = true) : (Op.bytesLess b a || decide (b = a)) = false := by
  have h2 : b ≠ a := fun q => by rw [q, tl_irr] at h; cases h
  rw [tl_asym h, decide_eq_false h2]
  rfl
end Go.Proofs.YtdbfemdpdpaffaaGreatDoor
/-
  PostingMerge: the walk, for each answer of Merge (printed by genpor6.py).
-/
namespace Go.Proofs.YtdbfemdpdpaffaaGreatDoor
open Go Go.RowKit Go.MapKept
/-- a list of postings' legs that may be merged -/
def GoodL (W : World) (y : Option Addr × Nat × List Leg) : Prop := Lv W legC 2 noP y.1 y.2.2 ∧ legsE y.2.2 = 0 ∧ y.2.2.length ≤ 2000000 ∧ (∀ x ∈ y.2.2, x.acc.length ≤ 2000000) ∧ ∀ x ∈ y.2.2, -9223372036854775808 ≤ x.amt ∧ x.amt ≤ 9223372036854775807
theorem catL_one (a : Option Addr) (c : Nat) (l : List Leg) : catL [(a, c, l)] = l := by show l ++ [] = l; rw [List.append_nil]
theorem catL_three (a b d : Option Addr) (c e f : Nat) (l r : List Leg) : catL [(a, c, l), (b, e, []), (d, f, r)] = l ++ r := by show l ++ ([] ++ (r ++ [])) = _; rw [List.append_nil, List.nil_append]
theorem cut_perm (l : List Leg) (k : Nat) : (l.drop k ++ l.take k).Perm l := by
  have := List.perm_append_comm (l₁ := l.drop k) (l₂ := l.take k)
  rwa [List.take_append_drop] at this
section
variable {W : World} {F : Nat → Addr}
set_option maxHeartbeats 16000000 in
set_option maxRecDepth 20000 in
theorem pmerge_law0 (hE : ErrsOn L37 W F) (a b : Option Addr) (c d : Nat) (ls : List PP) (legs : List Leg) (cut_ by_ : Int) (hT : Lv W ppC 4 noP a ls) (hP : ∀ x ∈ ls, Lv W legC 2 noP x.2.1 x.1.legs ∧ PstFit x.1) (hn : ls.length ≤ 2000000) (hL : Lv W legC 2 noP b legs) (hb : b = none → d = 0) (hd : legs.length ≤ d) (hl : legs.length ≤ 2000000) (hacc : ∀ x ∈ legs, x.acc.length ≤ 2000000) (hamt : ∀ x ∈ legs, -9223372036854775808 ≤ x.amt ∧ x.amt ≤ 9223372036854775807) (hme : mrgE legs = 0) :
    Ct Tryz.prog W 6 [.slice a ls.length c, .slice b legs.length d, .int .i64 cut_, .int .i64 by_] [] (fun _ : Unit => .bool true) (fun _ => []) := by
  have e10 : W.cell? ⟨4, 0, none⟩ = some (errV F 10) := hE.at_ 10 (by decide)
  have pe := perr_of hE
  have cf := fixed_ct (W := W) (F := F) hE
  have cn := num_ct (W := W) (F := F) hE 0 (by decide)
  have hne10 := errNe (F := F) (show (10 : Nat) ≠ 0 by decide)
  obtain ⟨u, hu⟩ : ∃ u, u = wordN cut_ := ⟨_, rfl⟩
  have w1 : IntKind.u64.wrap cut_ = ((u : Nat) : Int) := by rw [hu]; exact wordN_wrap cut_
  obtain ⟨k, hk⟩ : ∃ k, k = u % (legs.length + 1) := ⟨_, rfl⟩
  have hkl : k ≤ legs.length := by rw [hk]; have := Nat.mod_lt u (show 0 < legs.length + 1 by omega); omega
  have w2 : IntKind.u64.wrap ((legs.length + 1 : Nat) : Int) = ((legs.length + 1 : Nat) : Int) := u64_wrap _ (by omega)
  have hr1 : ((u : Nat) : Int) % ((legs.length + 1 : Nat) : Int) = ((k : Nat) : Int) := by rw [hk]; rfl
  have w3 : IntKind.i64.wrap ((k : Nat) : Int) = ((k : Nat) : Int) := i64_wrap _ (by omega)
  have hlp : (legs.length + 1 : Nat) = legs.length + 1 := rfl
  obtain ⟨O, hO⟩ : ∃ O, O = mrgO legs := ⟨_, rfl⟩
  have hOl : O.length ≤ legs.length := by rw [hO]; exact mrgO_len legs
  obtain ⟨hout, hrise⟩ := mrg_out legs
  have hag := mrg_again legs
  rw [← hO] at hout hrise hag
  have hOacc : ∀ x ∈ O, x.acc.length ≤ 2000000 := fun x hx => by
    obtain ⟨y, hy, he⟩ := (hout x hx).2.2
    rw [← he]
    exact hacc y hy
  have hOamt : ∀ x ∈ O, -9223372036854775808 ≤ x.amt ∧ x.amt ≤ 9223372036854775807 := fun x hx => fits_le (hout x hx).2.1
  have pcut := mrg_perm (cut_perm legs k)
  rw [hme, ← hO] at pcut
  have cM1 := fun gb => pmergeB (W := W) (F := F) e10 [cellsP gb [.slice b legs.length d] 23] (some ⟨gb, 0, none⟩) 1 [(b, d, legs)] ((Lv.cells (T := 23) (cs := [.slice b legs.length d]) rfl).bag Sel.here)
    (fun x hx => by rw [List.mem_singleton.1 hx]; exact hL.any) (by simp) (by rw [catL_one]; omega) (by rw [catL_one]; exact hacc) (by rw [catL_one]; exact hamt) (O := O) (e := 0) (v := .slice (some ⟨gb, 0, none⟩) 1 1) (by rw [catL_one]; exact hO.symm) (by rw [catL_one]; exact hme) rfl
  have cM2 := fun gb => pmergeB (W := W) (F := F) e10 [cellsP gb [.slice (subA b k d 2) (legs.length - k) (d - k), .slice none 0 0, .slice b k d] 23] (some ⟨gb, 0, none⟩) 3 [(subA b k d 2, d - k, legs.drop k), (none, 0, []), (b, d, legs.take k)]
    ((Lv.cells (T := 23) (cs := [.slice (subA b k d 2) (legs.length - k) (d - k), .slice none 0 0, .slice b k d]) (by show [Value.slice (subA b k d 2) (legs.drop k).length (d - k), .slice none 0 0, .slice b (legs.take k).length d] = _; rw [List.length_drop, List.length_take, Nat.min_eq_left hkl])).bag Sel.here)
    (fun x hx => by
      rcases List.mem_cons.1 hx with rfl | hx
      · exact (hL.postX enc_leg hkl hd).any
      rcases List.mem_cons.1 hx with rfl | hx
      · exact ⟨fun w H R hs s hne => absurd rfl hne⟩
      · rw [List.mem_singleton.1 hx]
        exact (hL.pre enc_leg k).any) (by simp) (by rw [catL_three, (cut_perm legs k).length_eq]; omega) (by rw [catL_three]; exact fun x hx => hacc x ((cut_perm legs k).mem_iff.1 hx)) (by rw [catL_three]; exact fun x hx => hamt x ((cut_perm legs k).mem_iff.1 hx)) (O := O) (e := 0) (v := .slice (some ⟨gb, 0, none⟩) 3 3) (by rw [catL_three]; exact pcut.1) (by rw [catL_three]; exact pcut.2) rfl
  have cT := turned_ct (W := W) noP b d ⟨[], 0, [], legs⟩ by_ hL hl
  have pturn := turnL_perm legs (wordN by_)
  obtain ⟨V, hV⟩ : ∃ V, V = turnL legs (wordN by_) := ⟨_, rfl⟩
  unfold pstC at cT
  dsimp only at cT
  rw [← hV] at cT pturn
  have hVl : legs.length = V.length := pturn.length_eq
  have pmt := mrg_perm pturn.symm
  rw [hme, ← hO] at pmt
  have cM3 := fun gb x1 x2 => pmergeB (W := W) (F := F) e10 [cellsP gb [.slice x1 legs.length x2] 23, lsP legC 55 2 (.slice x1 legs.length x2) V] (some ⟨gb, 0, none⟩) 1 [(x1, x2, V)] ((Lv.cells (T := 23) (cs := [.slice x1 legs.length x2]) (by show [Value.slice x1 V.length x2] = _; rw [hVl])).bag Sel.here)
    (fun x hx => by rw [List.mem_singleton.1 hx]; exact (Lv.own (e := 55) (c := x2) enc_leg hVl).bag (Sel.there Sel.here)) (by simp) (by rw [catL_one, ← hVl]; omega) (by rw [catL_one]; exact fun x hx => hacc x (pturn.mem_iff.2 hx)) (by rw [catL_one]; exact fun x hx => hamt x (pturn.mem_iff.2 hx)) (O := O) (e := 0) (v := .slice (some ⟨gb, 0, none⟩) 1 1) (by rw [catL_one]; exact pmt.1) (by rw [catL_one]; exact pmt.2) rfl
  have cM4 := fun gb x1 x2 => pmergeB (W := W) (F := F) e10 [cellsP gb [.slice x1 O.length x2] 23, lsP legC 55 2 (.slice x1 O.length x2) O] (some ⟨gb, 0, none⟩) 1 [(x1, x2, O)] ((Lv.cells (T := 23) (cs := [.slice x1 O.length x2]) rfl).bag Sel.here)
    (fun x hx => by rw [List.mem_singleton.1 hx]; exact (Lv.own (e := 55) (c := x2) enc_leg rfl).bag (Sel.there Sel.here)) (by simp) (by rw [catL_one]; omega) (by rw [catL_one]; exact hOacc) (by rw [catL_one]; exact hOamt) (O := O) (e := 0) (v := .slice (some ⟨gb, 0, none⟩) 1 1) (by rw [catL_one]; exact hag.1) (by rw [catL_one]; exact hag.2) rfl
  have cS : ∀ m1 m2 n1 n2, Ct Tryz.prog W 25 [.slice m1 O.length m2, .slice n1 O.length n2] [lsP legC 55 2 (.slice m1 O.length m2) O, lsP legC 55 2 (.slice n1 O.length n2) O] (fun _ : Unit => .bool true) (fun _ => [lsP legC 55 2 (.slice m1 O.length m2) O, lsP legC 55 2 (.slice n1 O.length n2) O]) := fun m1 m2 n1 n2 => by
    have cF := samelegs_ct (W := W) (lsP legC 55 2 (.slice m1 O.length m2) O) (lsP legC 55 2 (.slice n1 O.length n2) O) m1 n1 m2 n2 O O (Lv.own enc_leg rfl) (Lv.own enc_leg rfl) (by omega)
    rw [decide_eq_true rfl] at cF
    exact cF
  clear hO hV hk hu pcut pmt pturn hag
  refine Ct.enter Tryz.func6 rfl Tryz.ntmps6 (by simp) (fun R => ?_)
  refine KJ.noP ?_
  repeat' (first 
    | (refine is_call ?_; first | (refine KJ_call xE cT xP rfl (fun z => ?_); refine hold ?_) | (refine KJ_call xE (cM2 _) xP rfl (fun y => ?_)) | (refine KJ_call xE (cM1 _) xP rfl (fun x => ?_)) | (refine KJ_call xE cf xP rfl (fun _ => ?_)))
    | (refine is_bslice ?_; first | (refine KJ_bsliceN (len := 3) (places := [(0, 1), (1, 1), (2, 1)]) (base := [.slice none 0 0, .slice none 0 0, .slice none 0 0]) xV (by rfl) (by rfl) xW (by omega) rfl (fun gb => ?_)) | (refine KJ_bslice1 rfl xF (by rfl) (by omega) rfl (fun gb => ?_)))
    | (refine ek_conv ?_; first | refine EK_ev (Ev_convI_v rfl w3) ?_ | refine EK_ev (Ev_convI_v rfl w2) ?_ | refine EK_ev (Ev_convI_v rfl w1) ?_)
    | (refine ek_slice ?_; first | refine EK_ev (Ev_sliceToX rfl rfl hb (Nat.le_trans hkl hd)) ?_ | refine EK_ev (Ev_sliceFromX rfl rfl hb hkl hd) ?_)
    | (refine ek_build ?_; refine EK_ev (Ev_build xV xW) ?_)
    | (refine ek_add ?_; refine EK_ev (Ev_addI_v (r := ((legs.length + 1 : Nat) : Int)) rfl rfl (by omega) (by omega)) ?_)
    | (refine ek_rem ?_; refine EK_ev (Ev_rem_w rfl rfl (by omega) hr1) ?_)
    | refine xst ?_
    | (refine xsa ?_; intro _)
    | (refine xsb ?_ ?_ <;> intro _ <;> first | (exfalso; omega) | skip)
    | refine xsc ?_
    | (refine KJ_draws (id := 6) (.op 0 (.op 1 (.op 2 (.op 3 (.op 4 (.op 5 (.ef 6 [] (.ef 7 [] (.op 8 (.op 9 (.op 10 (.op 11 (.op 12 .nil))))))))))))) (by kernel_rfl) (by kernel_rfl) ?_)
    | (refine KJ_draws (id := 14) (.op 0 (.op 1 (.op 2 (.op 3 (.op 4 (.op 5 (.op 6 (.op 7 (.op 8 (.op 9 (.op 10 (.op 11 (.op 12 (.op 13 (.op 14 (.op 15 (.op 16 (.op 17 .nil)))))))))))))))))) (by kernel_rfl) (by kernel_rfl) ?_)
    | refine FW_alt ?_ ?_
    | refine FW_efn rfl rfl rfl rfl rfl ?_ ?_
    | refine KJ_flow ?_ ?_
    | exact Rech.nil
    | fail)
  refine Hold.mk ?_
  obtain ⟨m1, m2⟩ := x
  obtain ⟨n1, n2⟩ := y
  obtain ⟨z1, z2⟩ := z
  dsimp only
  repeat' (first 
    | (refine is_alloc ?_; refine KJ_alloc rfl (fun g15 => ?_))
    | (refine is_call ?_; refine KJ_call xE (cM3 _ _ _) xP rfl (fun v => ?_); refine hold ?_)
    | (refine is_bslice ?_; refine KJ_bslice1 rfl xF (by rfl) (by omega) rfl (fun gb => ?_))
    | refine xst ?_
    | (refine xsa ?_; intro _)
    | (refine xsb ?_ ?_ <;> intro _ <;> first | (exfalso; omega) | skip)
    | refine xsc ?_
    | (refine KJ_draws (id := 6) (.op 0 (.op 1 (.op 2 (.op 3 (.op 4 (.op 5 (.ef 6 [] (.ef 7 [] (.op 8 (.op 9 (.op 10 (.op 11 (.op 12 .nil))))))))))))) (by kernel_rfl) (by kernel_rfl) ?_)
    | (refine KJ_draws (id := 14) (.op 0 (.op 1 (.op 2 (.op 3 (.op 4 (.op 5 (.op 6 (.op 7 (.op 8 (.op 9 (.op 10 (.op 11 (.op 12 (.op 13 (.op 14 (.op 15 (.op 16 (.op 17 .nil)))))))))))))))))) (by kernel_rfl) (by kernel_rfl) ?_)
    | refine FW_alt ?_ ?_
    | refine FW_efn rfl rfl rfl rfl rfl ?_ ?_
    | refine KJ_flow ?_ ?_
    | exact Rech.nil
    | fail)
  refine Hold.mk ?_
  obtain ⟨v1, v2⟩ := v
  dsimp only
  repeat' (first 
    | (refine is_call ?_; first | (refine KJ_call xE (cS _ _ _ _) xP rfl (fun _ => ?_)) | (refine KJ_call xE cn xP rfl (fun _ => ?_)))
    | (refine ek_neq ?_; refine EK_ev (Ev_neqI_f rfl rfl rfl) ?_)
    | refine xst ?_
    | (refine xsa ?_; intro _)
    | (refine xsb ?_ ?_ <;> intro _ <;> first | (exfalso; omega) | skip)
    | refine xsc ?_
    | (refine KJ_draws (id := 6) (.op 0 (.op 1 (.op 2 (.op 3 (.op 4 (.op 5 (.ef 6 [] (.ef 7 [] (.op 8 (.op 9 (.op 10 (.op 11 (.op 12 .nil))))))))))))) (by kernel_rfl) (by kernel_rfl) ?_)
    | (refine KJ_draws (id := 14) (.op 0 (.op 1 (.op 2 (.op 3 (.op 4 (.op 5 (.op 6 (.op 7 (.op 8 (.op 9 (.op 10 (.op 11 (.op 12 (.op 13 (.op 14 (.op 15 (.op 16 (.op 17 .nil)))))))))))))))))) (by kernel_rfl) (by kernel_rfl) ?_)
    | refine FW_alt ?_ ?_
    | refine FW_efn rfl rfl rfl rfl rfl ?_ ?_
    | refine KJ_flow ?_ ?_
    | exact Rech.nil
    | fail)
  refine KJ_loop (fun z : {i : Nat // i ≤ O.length} => [(0, .slice a ls.length c), (11, .slice m1 O.length m2), (101, .slice m1 O.length m2), (102, .int .i64 (O.length : Nat)), (103, .int .i64 (z.1 : Nat))])
    (fun _ => [lsP legC 55 2 (.slice m1 O.length m2) O, noP] ++ R) (fun z => O.length - z.1) ⟨0, Nat.zero_le _⟩ xB (xN) (fun ⟨i, hi⟩ => ?_)
  dsimp only at hi ⊢
  by_cases hlt : i < O.length
  · have ql : decide ((i : Int) < (O.length : Nat)) = true := decide_eq_true (by omega)
    obtain ⟨⟨acc, amt⟩, hx⟩ : ∃ s, O[i]? = some s := ⟨_, List.getElem?_eq_getElem hlt⟩
    have hnz := (hout _ (List.mem_of_getElem? hx)).1
    dsimp only at hnz
    have qz : decide (amt = 0) = false := decide_eq_false hnz
    refine KJ.lsSome (a := m1) (l := O) xS (by omega) (fun gm hgm => ?_)
    subst hgm
    have o0 : 0 + Int.toNat (i : Int) * 2 = i * 2 := by simp
    match i, hi, hlt, ql, hx, o0 with
    | 0, hi, hlt, ql, hx, o0 =>
      have qg : decide ((0 : Int) < ((0 : Nat) : Int)) = false := rfl
      repeat' (first 
    | (refine is_alloc ?_; refine KJ_alloc rfl (fun g19 => ?_))
    | (refine ek_load ?_; refine EK_ev (Ev_loadLs enc_leg rfl xS rfl o0 hx) ?_)
    | (refine ek_add ?_; refine EK_ev (Ev_addI_v (r := ((0 + 1 : Nat) : Int)) rfl rfl (by omega) (by omega)) ?_)
    | (refine ek_eql ?_; refine EK_ev (Ev_eqlI_q rfl rfl qz) ?_)
    | (refine ek_lss ?_; refine EK_ev (Ev_lssI_q rfl rfl ql) ?_)
    | (refine ek_gtr ?_; refine EK_ev (Ev_gtrI_q rfl rfl qg) ?_)
    | refine xst ?_
    | (refine xsa ?_; intro _)
    | (refine xsb ?_ ?_ <;> intro _ <;> first | (exfalso; omega) | skip)
    | refine xsc ?_
    | (refine KJ_draws (id := 6) (.op 0 (.op 1 (.op 2 (.op 3 (.op 4 (.op 5 (.ef 6 [] (.ef 7 [] (.op 8 (.op 9 (.op 10 (.op 11 (.op 12 .nil))))))))))))) (by kernel_rfl) (by kernel_rfl) ?_)
    | (refine KJ_draws (id := 14) (.op 0 (.op 1 (.op 2 (.op 3 (.op 4 (.op 5 (.op 6 (.op 7 (.op 8 (.op 9 (.op 10 (.op 11 (.op 12 (.op 13 (.op 14 (.op 15 (.op 16 (.op 17 .nil)))))))))))))))))) (by kernel_rfl) (by kernel_rfl) ?_)
    | refine FW_alt ?_ ?_
    | refine FW_efn rfl rfl rfl rfl rfl ?_ ?_
    | refine KJ_flow ?_ ?_
    | exact Rech.nil
    | fail)
      all_goals refine KJ_again ⟨0 + 1, hlt⟩ (by show O.length - (0 + 1) < O.length - 0; omega) xB (xN)
    | j + 1, hi, hlt, ql, hx, o0 =>
      obtain ⟨⟨pacc, pamt⟩, hy⟩ : ∃ s, O[j]? = some s := ⟨_, List.getElem?_eq_getElem (by omega)⟩
      have hr := rise_not (hrise j _ _ hy hx)
      dsimp only at hr
      have qg : decide ((0 : Int) < ((j + 1 : Nat) : Int)) = true := decide_eq_true (by omega)
      have p0 : 0 + Int.toNat (j : Int) * 2 + 0 = j * 2 + 0 := by simp
      have ky : (legC (⟨pacc, pamt⟩ : Leg))[0]? = some (strV pacc) := rfl
      repeat' (first 
    | (refine is_alloc ?_; refine KJ_alloc rfl (fun g19 => ?_))
    | (refine ek_load ?_; first | refine EK_ev (Ev_loadLsF enc_leg rfl xS rfl p0 hy ky) ?_ | refine EK_ev (Ev_loadLs enc_leg rfl xS rfl o0 hx) ?_)
    | (refine ek_add ?_; refine EK_ev (Ev_addI_v (r := ((j + 1 + 1 : Nat) : Int)) rfl rfl (by omega) (by omega)) ?_)
    | (refine ek_sub ?_; refine EK_ev (Ev_subI_v (r := ((j : Nat) : Int)) rfl rfl (by omega) (by omega)) ?_)
    | (refine ek_eql ?_; refine EK_ev (Ev_eqlI_q rfl rfl qz) ?_)
    | (refine ek_lss ?_; refine EK_ev (Ev_lssI_q rfl rfl ql) ?_)
    | (refine ek_leq ?_; refine EK_ev (Ev_leqS_q rfl rfl hr) ?_)
    | (refine ek_gtr ?_; refine EK_ev (Ev_gtrI_q rfl rfl qg) ?_)
    | refine xst ?_
    | (refine xsa ?_; intro _)
    | (refine xsb ?_ ?_ <;> intro _ <;> first | (exfalso; omega) | skip)
    | refine xsc ?_
    | (refine KJ_draws (id := 6) (.op 0 (.op 1 (.op 2 (.op 3 (.op 4 (.op 5 (.ef 6 [] (.ef 7 [] (.op 8 (.op 9 (.op 10 (.op 11 (.op 12 .nil))))))))))))) (by kernel_rfl) (by kernel_rfl) ?_)
    | (refine KJ_draws (id := 14) (.op 0 (.op 1 (.op 2 (.op 3 (.op 4 (.op 5 (.op 6 (.op 7 (.op 8 (.op 9 (.op 10 (.op 11 (.op 12 (.op 13 (.op 14 (.op 15 (.op 16 (.op 17 .nil)))))))))))))))))) (by kernel_rfl) (by kernel_rfl) ?_)
    | refine FW_alt ?_ ?_
    | refine FW_efn rfl rfl rfl rfl rfl ?_ ?_
    | refine KJ_flow ?_ ?_
    | exact Rech.nil
    | fail)
      all_goals refine KJ_again ⟨j + 1 + 1, hlt⟩ (by show O.length - (j + 1 + 1) < O.length - (j + 1); omega) xB (xN)
  have ql : decide ((i : Int) < (O.length : Nat)) = false := decide_eq_false (by omega)
  repeat' (first 
    | (refine is_call ?_; refine KJ_call xE (cM4 _ _ _) xP rfl (fun w => ?_); refine hold ?_)
    | (refine is_bslice ?_; refine KJ_bslice1 rfl xF (by rfl) (by omega) rfl (fun gb => ?_))
    | (refine ek_lss ?_; refine EK_ev (Ev_lssI_q rfl rfl ql) ?_)
    | refine xst ?_
    | (refine xsa ?_; intro _)
    | (refine xsb ?_ ?_ <;> intro _ <;> first | (exfalso; omega) | skip)
    | refine xsc ?_
    | (refine KJ_draws (id := 6) (.op 0 (.op 1 (.op 2 (.op 3 (.op 4 (.op 5 (.ef 6 [] (.ef 7 [] (.op 8 (.op 9 (.op 10 (.op 11 (.op 12 .nil))))))))))))) (by kernel_rfl) (by kernel_rfl) ?_)
    | (refine KJ_draws (id := 14) (.op 0 (.op 1 (.op 2 (.op 3 (.op 4 (.op 5 (.op 6 (.op 7 (.op 8 (.op 9 (.op 10 (.op 11 (.op 12 (.op 13 (.op 14 (.op 15 (.op 16 (.op 17 .nil)))))))))))))))))) (by kernel_rfl) (by kernel_rfl) ?_)
    | refine FW_alt ?_ ?_
    | refine FW_efn rfl rfl rfl rfl rfl ?_ ?_
    | refine KJ_flow ?_ ?_
    | exact Rech.nil
    | fail)
  refine Hold.mk ?_
  obtain ⟨w1_, w2_⟩ := w
  dsimp only
  repeat' (first 
    | (refine is_call ?_; refine KJ_call xE (cS _ _ _ _) xP rfl (fun _ => ?_))
    | refine xst ?_
    | (refine xsa ?_; intro _)
    | (refine xsb ?_ ?_ <;> intro _ <;> first | (exfalso; omega) | skip)
    | refine xsc ?_
    | (refine KJ_draws (id := 6) (.op 0 (.op 1 (.op 2 (.op 3 (.op 4 (.op 5 (.ef 6 [] (.ef 7 [] (.op 8 (.op 9 (.op 10 (.op 11 (.op 12 .nil))))))))))))) (by kernel_rfl) (by kernel_rfl) ?_)
    | (refine KJ_draws (id := 14) (.op 0 (.op 1 (.op 2 (.op 3 (.op 4 (.op 5 (.op 6 (.op 7 (.op 8 (.op 9 (.op 10 (.op 11 (.op 12 (.op 13 (.op 14 (.op 15 (.op 16 (.op 17 .nil)))))))))))))))))) (by kernel_rfl) (by kernel_rfl) ?_)
    | refine FW_alt ?_ ?_
    | refine FW_efn rfl rfl rfl rfl rfl ?_ ?_
    | refine KJ_flow ?_ ?_
    | exact Rech.nil
    | fail)
  refine KJ.nilrow 23 1 ?_
  refine KJ_loop (fun z : {z : Nat × LL × Option Addr × Nat // z.1 ≤ ls.length ∧ z.2.1.length ≤ 1 ∧ ∀ y ∈ z.2.1, GoodL W y} => [(22, .slice z.1.2.2.1 z.1.2.1.length z.1.2.2.2), (141, .slice a ls.length c), (142, .int .i64 (ls.length : Nat)), (143, .int .i64 (z.1.1 : Nat))])
    (fun z => [lsP lsC 23 1 (.slice z.1.2.2.1 z.1.2.1.length z.1.2.2.2) z.1.2.1, noP] ++ R) (fun z => ls.length - z.1.1) ⟨(0, [], none, 0), Nat.zero_le _, Nat.zero_le _, fun y hy => (by cases hy)⟩ xB (xN) (fun ⟨(q, all, xa, xc), hq, hall, hgd⟩ => ?_)
  dsimp only at hq hall hgd ⊢
  by_cases hlt2 : q < ls.length
  · have ql2 : decide ((q : Int) < (ls.length : Nat)) = true := decide_eq_true (by omega)
    obtain ⟨⟨p, pa, pc⟩, hx⟩ : ∃ s, ls[q]? = some s := ⟨_, List.getElem?_eq_getElem hlt2⟩
    obtain ⟨hPL, fp⟩ := hP _ (List.mem_of_getElem? hx)
    dsimp only at hPL fp
    have cC := pcheckV (W := W) (F := F) pe noP pa pc p fp hPL rfl rfl
    have hg2 : checkE p = 0 → GoodL W (pa, pc, p.legs) := fun h => ⟨hPL, (checkE_zero h).2.2.2.2.2.2, fp.legs, fp.acc, fp.amt⟩
    obtain ⟨e, he⟩ : ∃ e, e = checkE p := ⟨_, rfl⟩
    rw [← he] at cC hg2
    obtain ⟨id, tick, note, plegs⟩ := p
    unfold pstC at cC
    dsimp only at cC hg2 hPL
    refine KJ.lvSome hT xS (by omega) (fun b0 of hab => ?_)
    subst hab
    have o0 : of + Int.toNat (q : Int) * 4 = of + q * 4 := by simp
    by_cases h0 : e = 0
    · subst h0
      have hg2 := hg2 rfl
      by_cases h1 : all.length < 1
      · have q1 : decide ((all.length : Int) < 1) = true := decide_eq_true (by omega)
        have b1 : (all.length + 1) * 24 ≤ 140737488355328 := by omega
        have b2 : all.length + 1 ≤ 9223372036854775807 := by omega
        repeat' (first 
    | (refine is_alloc ?_; refine KJ_alloc rfl (fun g24 => ?_))
    | (refine is_call ?_; refine KJ_call xE cC xP rfl (fun _ => ?_))
    | (refine is_append ?_; refine KJ_appOne (a := ((pa, pc, plegs) : Option Addr × Nat × List Leg)) lsC_ok rfl rfl rfl xS xS b1 b2 rfl (fun g3 c3 => ?_))
    | (refine is_bslice ?_; refine KJ_bslice1 rfl xF (by rfl) (by omega) rfl (fun gb => ?_))
    | (refine ek_load ?_; refine EK_ev (Ev_loadLv ppC_ok hT rfl rfl xS o0 hx) ?_)
    | (refine ek_add ?_; refine EK_ev (Ev_addI_v (r := ((q + 1 : Nat) : Int)) rfl rfl (by omega) (by omega)) ?_)
    | (refine ek_lss ?_; first | refine EK_ev (Ev_lssI_q rfl rfl q1) ?_ | refine EK_ev (Ev_lssI_q rfl rfl ql2) ?_)
    | refine xst ?_
    | (refine xsa ?_; intro _)
    | (refine xsb ?_ ?_ <;> intro _ <;> first | (exfalso; omega) | skip)
    | refine xsc ?_
    | (refine KJ_draws (id := 6) (.op 0 (.op 1 (.op 2 (.op 3 (.op 4 (.op 5 (.ef 6 [] (.ef 7 [] (.op 8 (.op 9 (.op 10 (.op 11 (.op 12 .nil))))))))))))) (by kernel_rfl) (by kernel_rfl) ?_)
    | (refine KJ_draws (id := 14) (.op 0 (.op 1 (.op 2 (.op 3 (.op 4 (.op 5 (.op 6 (.op 7 (.op 8 (.op 9 (.op 10 (.op 11 (.op 12 (.op 13 (.op 14 (.op 15 (.op 16 (.op 17 .nil)))))))))))))))))) (by kernel_rfl) (by kernel_rfl) ?_)
    | refine FW_alt ?_ ?_
    | refine FW_efn rfl rfl rfl rfl rfl ?_ ?_
    | refine KJ_flow ?_ ?_
    | exact Rech.nil
    | fail)
        all_goals refine KJ_again ⟨(q + 1, all ++ [(pa, pc, plegs)], some ⟨g3, 0, none⟩, c3), hlt2, by dsimp only; rw [List.length_append, List.length_singleton]; omega, fun y hy => by
          rcases List.mem_append.1 hy with hy | hy
          · exact hgd y hy
          · rw [List.mem_singleton.1 hy]; exact hg2⟩ (by show ls.length - (q + 1) < ls.length - q; omega) xB (xN)
      · have q1 : decide ((all.length : Int) < 1) = false := decide_eq_false (by omega)
        repeat' (first 
    | (refine is_alloc ?_; refine KJ_alloc rfl (fun g24 => ?_))
    | (refine is_call ?_; refine KJ_call xE cC xP rfl (fun _ => ?_))
    | (refine ek_load ?_; refine EK_ev (Ev_loadLv ppC_ok hT rfl rfl xS o0 hx) ?_)
    | (refine ek_add ?_; refine EK_ev (Ev_addI_v (r := ((q + 1 : Nat) : Int)) rfl rfl (by omega) (by omega)) ?_)
    | (refine ek_lss ?_; first | refine EK_ev (Ev_lssI_q rfl rfl q1) ?_ | refine EK_ev (Ev_lssI_q rfl rfl ql2) ?_)
    | refine xst ?_
    | (refine xsa ?_; intro _)
    | (refine xsb ?_ ?_ <;> intro _ <;> first | (exfalso; omega) | skip)
    | refine xsc ?_
    | (refine KJ_draws (id := 6) (.op 0 (.op 1 (.op 2 (.op 3 (.op 4 (.op 5 (.ef 6 [] (.ef 7 [] (.op 8 (.op 9 (.op 10 (.op 11 (.op 12 .nil))))))))))))) (by kernel_rfl) (by kernel_rfl) ?_)
    | (refine KJ_draws (id := 14) (.op 0 (.op 1 (.op 2 (.op 3 (.op 4 (.op 5 (.op 6 (.op 7 (.op 8 (.op 9 (.op 10 (.op 11 (.op 12 (.op 13 (.op 14 (.op 15 (.op 16 (.op 17 .nil)))))))))))))))))) (by kernel_rfl) (by kernel_rfl) ?_)
    | refine FW_alt ?_ ?_
    | refine FW_efn rfl rfl rfl rfl rfl ?_ ?_
    | refine KJ_flow ?_ ?_
    | exact Rech.nil
    | fail)
        all_goals refine KJ_again ⟨(q + 1, all, xa, xc), hlt2, hall, hgd⟩ (by show ls.length - (q + 1) < ls.length - q; omega) xB (xN)
    · have hne := errNe (F := F) h0
      repeat' (first 
    | (refine is_alloc ?_; refine KJ_alloc rfl (fun g24 => ?_))
    | (refine is_call ?_; refine KJ_call xE cC xP rfl (fun _ => ?_))
    | (refine ek_load ?_; refine EK_ev (Ev_loadLv ppC_ok hT rfl rfl xS o0 hx) ?_)
    | (refine ek_add ?_; refine EK_ev (Ev_addI_v (r := ((q + 1 : Nat) : Int)) rfl rfl (by omega) (by omega)) ?_)
    | (refine ek_eql ?_; refine EK_ev (Ev_eqlNil rfl hne) ?_)
    | (refine ek_lss ?_; refine EK_ev (Ev_lssI_q rfl rfl ql2) ?_)
    | refine xst ?_
    | (refine xsa ?_; intro _)
    | (refine xsb ?_ ?_ <;> intro _ <;> first | (exfalso; omega) | skip)
    | refine xsc ?_
    | (refine KJ_draws (id := 6) (.op 0 (.op 1 (.op 2 (.op 3 (.op 4 (.op 5 (.ef 6 [] (.ef 7 [] (.op 8 (.op 9 (.op 10 (.op 11 (.op 12 .nil))))))))))))) (by kernel_rfl) (by kernel_rfl) ?_)
    | (refine KJ_draws (id := 14) (.op 0 (.op 1 (.op 2 (.op 3 (.op 4 (.op 5 (.op 6 (.op 7 (.op 8 (.op 9 (.op 10 (.op 11 (.op 12 (.op 13 (.op 14 (.op 15 (.op 16 (.op 17 .nil)))))))))))))))))) (by kernel_rfl) (by kernel_rfl) ?_)
    | refine FW_alt ?_ ?_
    | refine FW_efn rfl rfl rfl rfl rfl ?_ ?_
    | refine KJ_flow ?_ ?_
    | exact Rech.nil
    | fail)
      all_goals refine KJ_again ⟨(q + 1, all, xa, xc), hlt2, hall, hgd⟩ (by show ls.length - (q + 1) < ls.length - q; omega) xB (xN)
  have ql2 : decide ((q : Int) < (ls.length : Nat)) = false := decide_eq_false (by omega)
  have hone := mrg_one hall (fun y hy => (hgd y hy).2.1)
  have hcb := cat_bound (n := 1) (k := 2000000) hall (fun y hy => (hgd y hy).2.2.1)
  have hQl := mrgO_len (catL all)
  obtain ⟨Q, hQ⟩ : ∃ Q, Q = mrgO (catL all) := ⟨_, rfl⟩
  have cM5 := pmergeB (W := W) (F := F) e10 [lsP lsC 23 1 (.slice xa all.length xc) all] xa xc all ((Lv.own lsC_ok rfl).bag Sel.here) (fun y hy => (hgd y hy).1.any) (by omega) (by omega)
    (fun x hx => by
      obtain ⟨y, hy, hx⟩ := List.mem_flatMap.1 hx
      exact (hgd y hy).2.2.2.1 x hx) (fun x hx => by
      obtain ⟨y, hy, hx⟩ := List.mem_flatMap.1 hx
      exact (hgd y hy).2.2.2.2 x hx) (O := Q) (e := 0) (v := .slice xa all.length xc) hQ.symm hone.1 rfl
  have hsum := hone.2
  rw [← hQ] at hsum hQl
  repeat' (first 
    | (refine is_call ?_; refine KJ_call xE cM5 xP rfl (fun v => ?_); refine hold ?_)
    | (refine ek_lss ?_; refine EK_ev (Ev_lssI_q rfl rfl ql2) ?_)
    | refine xst ?_
    | (refine xsa ?_; intro _)
    | (refine xsb ?_ ?_ <;> intro _ <;> first | (exfalso; omega) | skip)
    | refine xsc ?_
    | (refine KJ_draws (id := 6) (.op 0 (.op 1 (.op 2 (.op 3 (.op 4 (.op 5 (.ef 6 [] (.ef 7 [] (.op 8 (.op 9 (.op 10 (.op 11 (.op 12 .nil))))))))))))) (by kernel_rfl) (by kernel_rfl) ?_)
    | (refine KJ_draws (id := 14) (.op 0 (.op 1 (.op 2 (.op 3 (.op 4 (.op 5 (.op 6 (.op 7 (.op 8 (.op 9 (.op 10 (.op 11 (.op 12 (.op 13 (.op 14 (.op 15 (.op 16 (.op 17 .nil)))))))))))))))))) (by kernel_rfl) (by kernel_rfl) ?_)
    | refine FW_alt ?_ ?_
    | refine FW_efn rfl rfl rfl rfl rfl ?_ ?_
    | refine KJ_flow ?_ ?_
    | exact Rech.nil
    | fail)
  refine Hold.mk ?_
  obtain ⟨u1, u2⟩ := v
  dsimp only
  repeat' (first 
    | refine xst ?_
    | (refine xsa ?_; intro _)
    | (refine xsb ?_ ?_ <;> intro _ <;> first | (exfalso; omega) | skip)
    | refine xsc ?_
    | (refine KJ_draws (id := 6) (.op 0 (.op 1 (.op 2 (.op 3 (.op 4 (.op 5 (.ef 6 [] (.ef 7 [] (.op 8 (.op 9 (.op 10 (.op 11 (.op 12 .nil))))))))))))) (by kernel_rfl) (by kernel_rfl) ?_)
    | (refine KJ_draws (id := 14) (.op 0 (.op 1 (.op 2 (.op 3 (.op 4 (.op 5 (.op 6 (.op 7 (.op 8 (.op 9 (.op 10 (.op 11 (.op 12 (.op 13 (.op 14 (.op 15 (.op 16 (.op 17 .nil)))))))))))))))))) (by kernel_rfl) (by kernel_rfl) ?_)
    | refine FW_alt ?_ ?_
    | refine FW_efn rfl rfl rfl rfl rfl ?_ ?_
    | refine KJ_flow ?_ ?_
    | exact Rech.nil
    | fail)
  refine KJ_loop (fun z : {z : Nat × Int // z.1 ≤ Q.length ∧ z.2 = IntKind.i64.wrap ((Q.take z.1).map (·.amt)).sum} => [(21, errV F 0), (26, .int .i64 z.1.2), (166, .slice u1 Q.length u2), (167, .int .i64 (Q.length : Nat)), (168, .int .i64 (z.1.1 : Nat))])
    (fun _ => [lsP legC 55 2 (.slice u1 Q.length u2) Q] ++ R) (fun z => Q.length - z.1.1) ⟨(0, 0), Nat.zero_le _, rfl⟩ xB (xN) (fun ⟨(f, s), hf, hs⟩ => ?_)
  dsimp only at hf hs ⊢
  by_cases hlt3 : f < Q.length
  · have ql3 : decide ((f : Int) < (Q.length : Nat)) = true := decide_eq_true (by omega)
    obtain ⟨⟨acc, amt⟩, hx⟩ : ∃ s, Q[f]? = some s := ⟨_, List.getElem?_eq_getElem hlt3⟩
    refine KJ.lsSome (a := u1) (l := Q) xS (by omega) (fun gm hgm => ?_)
    subst hgm
    have o0 : 0 + Int.toNat (f : Int) * 2 = f * 2 := by simp
    obtain ⟨s2, hs2⟩ : ∃ s2, IntKind.i64.wrap (s + amt) = s2 := ⟨_, rfl⟩
    have hs3 : s2 = IntKind.i64.wrap ((Q.take (f + 1)).map (·.amt)).sum := by
      rw [← hs2, hs, i64_add, List.take_add_one, hx, List.map_append, List.sum_append]
      simp
    repeat' (first 
    | (refine is_alloc ?_; refine KJ_alloc rfl (fun g28 => ?_))
    | (refine ek_load ?_; refine EK_ev (Ev_loadLs enc_leg rfl xS rfl o0 hx) ?_)
    | (refine ek_add ?_; first | refine EK_ev (Ev_addI_v (r := ((f + 1 : Nat) : Int)) rfl rfl (by omega) (by omega)) ?_ | refine EK_ev (Ev_add_w rfl rfl hs2) ?_)
    | (refine ek_lss ?_; refine EK_ev (Ev_lssI_q rfl rfl ql3) ?_)
    | refine xst ?_
    | (refine xsa ?_; intro _)
    | (refine xsb ?_ ?_ <;> intro _ <;> first | (exfalso; omega) | skip)
    | refine xsc ?_
    | (refine KJ_draws (id := 6) (.op 0 (.op 1 (.op 2 (.op 3 (.op 4 (.op 5 (.ef 6 [] (.ef 7 [] (.op 8 (.op 9 (.op 10 (.op 11 (.op 12 .nil))))))))))))) (by kernel_rfl) (by kernel_rfl) ?_)
    | (refine KJ_draws (id := 14) (.op 0 (.op 1 (.op 2 (.op 3 (.op 4 (.op 5 (.op 6 (.op 7 (.op 8 (.op 9 (.op 10 (.op 11 (.op 12 (.op 13 (.op 14 (.op 15 (.op 16 (.op 17 .nil)))))))))))))))))) (by kernel_rfl) (by kernel_rfl) ?_)
    | refine FW_alt ?_ ?_
    | refine FW_efn rfl rfl rfl rfl rfl ?_ ?_
    | refine KJ_flow ?_ ?_
    | exact Rech.nil
    | fail)
    all_goals refine KJ_again ⟨(f + 1, s2), hlt3, hs3⟩ (by show Q.length - (f + 1) < Q.length - f; omega) xB (xN)
  have ql3 : decide ((f : Int) < (Q.length : Nat)) = false := decide_eq_false (by omega)
  rw [List.take_of_length_le (by omega), hsum] at hs
  have hs : s = 0 := hs
  subst hs
  repeat' (first 
    | (refine ek_lss ?_; refine EK_ev (Ev_lssI_q rfl rfl ql3) ?_)
    | refine xst ?_
    | (refine xsa ?_; intro _)
    | (refine xsb ?_ ?_ <;> intro _ <;> first | (exfalso; omega) | skip)
    | refine xsc ?_
    | (refine KJ_draws (id := 6) (.op 0 (.op 1 (.op 2 (.op 3 (.op 4 (.op 5 (.ef 6 [] (.ef 7 [] (.op 8 (.op 9 (.op 10 (.op 11 (.op 12 .nil))))))))))))) (by kernel_rfl) (by kernel_rfl) ?_)
    | (refine KJ_draws (id := 14) (.op 0 (.op 1 (.op 2 (.op 3 (.op 4 (.op 5 (.op 6 (.op 7 (.op 8 (.op 9 (.op 10 (.op 11 (.op 12 (.op 13 (.op 14 (.op 15 (.op 16 (.op 17 .nil)))))))))))))))))) (by kernel_rfl) (by kernel_rfl) ?_)
    | refine FW_alt ?_ ?_
    | refine FW_efn rfl rfl rfl rfl rfl ?_ ?_
    | refine KJ_flow ?_ ?_
    | exact Rech.nil
    | fail)
  all_goals (exact xdn ())

set_option maxHeartbeats 16000000 in
set_option maxRecDepth 20000 in
theorem pmerge_law10 (hE : ErrsOn L37 W F) (a b : Option Addr) (c d : Nat) (ls : List PP) (legs : List Leg) (cut_ by_ : Int) (hT : Lv W ppC 4 noP a ls) (hP : ∀ x ∈ ls, Lv W legC 2 noP x.2.1 x.1.legs ∧ PstFit x.1) (hn : ls.length ≤ 2000000) (hL : Lv W legC 2 noP b legs) (hb : b = none → d = 0) (hd : legs.length ≤ d) (hl : legs.length ≤ 2000000) (hacc : ∀ x ∈ legs, x.acc.length ≤ 2000000) (hamt : ∀ x ∈ legs, -9223372036854775808 ≤ x.amt ∧ x.amt ≤ 9223372036854775807) (hme : mrgE legs = 10) :
    Ct Tryz.prog W 6 [.slice a ls.length c, .slice b legs.length d, .int .i64 cut_, .int .i64 by_] [] (fun _ : Unit => .bool true) (fun _ => []) := by
  have e10 : W.cell? ⟨4, 0, none⟩ = some (errV F 10) := hE.at_ 10 (by decide)
  have pe := perr_of hE
  have cf := fixed_ct (W := W) (F := F) hE
  have cn := num_ct (W := W) (F := F) hE 10 (by decide)
  have hne10 := errNe (F := F) (show (10 : Nat) ≠ 0 by decide)
  obtain ⟨u, hu⟩ : ∃ u, u = wordN cut_ := ⟨_, rfl⟩
  have w1 : IntKind.u64.wrap cut_ = ((u : Nat) : Int) := by rw [hu]; exact wordN_wrap cut_
  obtain ⟨k, hk⟩ : ∃ k, k = u % (legs.length + 1) := ⟨_, rfl⟩
  have hkl : k ≤ legs.length := by rw [hk]; have := Nat.mod_lt u (show 0 < legs.length + 1 by omega); omega
  have w2 : IntKind.u64.wrap ((legs.length + 1 : Nat) : Int) = ((legs.length + 1 : Nat) : Int) := u64_wrap _ (by omega)
  have hr1 : ((u : Nat) : Int) % ((legs.length + 1 : Nat) : Int) = ((k : Nat) : Int) := by rw [hk]; rfl
  have w3 : IntKind.i64.wrap ((k : Nat) : Int) = ((k : Nat) : Int) := i64_wrap _ (by omega)
  have hlp : (legs.length + 1 : Nat) = legs.length + 1 := rfl
  obtain ⟨O, hO⟩ : ∃ O, O = mrgO legs := ⟨_, rfl⟩
  have hOl : O.length ≤ legs.length := by rw [hO]; exact mrgO_len legs
  obtain ⟨hout, hrise⟩ := mrg_out legs
  have hag := mrg_again legs
  rw [← hO] at hout hrise hag
  have hOacc : ∀ x ∈ O, x.acc.length ≤ 2000000 := fun x hx => by
    obtain ⟨y, hy, he⟩ := (hout x hx).2.2
    rw [← he]
    exact hacc y hy
  have hOamt : ∀ x ∈ O, -9223372036854775808 ≤ x.amt ∧ x.amt ≤ 9223372036854775807 := fun x hx => fits_le (hout x hx).2.1
  have pcut := mrg_perm (cut_perm legs k)
  rw [hme, ← hO] at pcut
  have cM1 := fun gb => pmergeB (W := W) (F := F) e10 [cellsP gb [.slice b legs.length d] 23] (some ⟨gb, 0, none⟩) 1 [(b, d, legs)] ((Lv.cells (T := 23) (cs := [.slice b legs.length d]) rfl).bag Sel.here)
    (fun x hx => by rw [List.mem_singleton.1 hx]; exact hL.any) (by simp) (by rw [catL_one]; omega) (by rw [catL_one]; exact hacc) (by rw [catL_one]; exact hamt) (O := O) (e := 10) (v := .slice (some ⟨gb, 0, none⟩) 1 1) (by rw [catL_one]; exact hO.symm) (by rw [catL_one]; exact hme) rfl
  have cM2 := fun gb => pmergeB (W := W) (F := F) e10 [cellsP gb [.slice (subA b k d 2) (legs.length - k) (d - k), .slice none 0 0, .slice b k d] 23] (some ⟨gb, 0, none⟩) 3 [(subA b k d 2, d - k, legs.drop k), (none, 0, []), (b, d, legs.take k)]
    ((Lv.cells (T := 23) (cs := [.slice (subA b k d 2) (legs.length - k) (d - k), .slice none 0 0, .slice b k d]) (by show [Value.slice (subA b k d 2) (legs.drop k).length (d - k), .slice none 0 0, .slice b (legs.take k).length d] = _; rw [List.length_drop, List.length_take, Nat.min_eq_left hkl])).bag Sel.here)
    (fun x hx => by
      rcases List.mem_cons.1 hx with rfl | hx
      · exact (hL.postX enc_leg hkl hd).any
      rcases List.mem_cons.1 hx with rfl | hx
      · exact ⟨fun w H R hs s hne => absurd rfl hne⟩
      · rw [List.mem_singleton.1 hx]
        exact (hL.pre enc_leg k).any) (by simp) (by rw [catL_three, (cut_perm legs k).length_eq]; omega) (by rw [catL_three]; exact fun x hx => hacc x ((cut_perm legs k).mem_iff.1 hx)) (by rw [catL_three]; exact fun x hx => hamt x ((cut_perm legs k).mem_iff.1 hx)) (O := O) (e := 10) (v := .slice (some ⟨gb, 0, none⟩) 3 3) (by rw [catL_three]; exact pcut.1) (by rw [catL_three]; exact pcut.2) rfl
  have cT := turned_ct (W := W) noP b d ⟨[], 0, [], legs⟩ by_ hL hl
  have pturn := turnL_perm legs (wordN by_)
  obtain ⟨V, hV⟩ : ∃ V, V = turnL legs (wordN by_) := ⟨_, rfl⟩
  unfold pstC at cT
  dsimp only at cT
  rw [← hV] at cT pturn
  have hVl : legs.length = V.length := pturn.length_eq
  have pmt := mrg_perm pturn.symm
  rw [hme, ← hO] at pmt
  have cM3 := fun gb x1 x2 => pmergeB (W := W) (F := F) e10 [cellsP gb [.slice x1 legs.length x2] 23, lsP legC 55 2 (.slice x1 legs.length x2) V] (some ⟨gb, 0, none⟩) 1 [(x1, x2, V)] ((Lv.cells (T := 23) (cs := [.slice x1 legs.length x2]) (by show [Value.slice x1 V.length x2] = _; rw [hVl])).bag Sel.here)
    (fun x hx => by rw [List.mem_singleton.1 hx]; exact (Lv.own (e := 55) (c := x2) enc_leg hVl).bag (Sel.there Sel.here)) (by simp) (by rw [catL_one, ← hVl]; omega) (by rw [catL_one]; exact fun x hx => hacc x (pturn.mem_iff.2 hx)) (by rw [catL_one]; exact fun x hx => hamt x (pturn.mem_iff.2 hx)) (O := O) (e := 10) (v := .slice (some ⟨gb, 0, none⟩) 1 1) (by rw [catL_one]; exact pmt.1) (by rw [catL_one]; exact pmt.2) rfl
  have cM4 := fun gb x1 x2 => pmergeB (W := W) (F := F) e10 [cellsP gb [.slice x1 O.length x2] 23, lsP legC 55 2 (.slice x1 O.length x2) O] (some ⟨gb, 0, none⟩) 1 [(x1, x2, O)] ((Lv.cells (T := 23) (cs := [.slice x1 O.length x2]) rfl).bag Sel.here)
    (fun x hx => by rw [List.mem_singleton.1 hx]; exact (Lv.own (e := 55) (c := x2) enc_leg rfl).bag (Sel.there Sel.here)) (by simp) (by rw [catL_one]; omega) (by rw [catL_one]; exact hOacc) (by rw [catL_one]; exact hOamt) (O := O) (e := 0) (v := .slice (some ⟨gb, 0, none⟩) 1 1) (by rw [catL_one]; exact hag.1) (by rw [catL_one]; exact hag.2) rfl
  have cS : ∀ m1 m2 n1 n2, Ct Tryz.prog W 25 [.slice m1 O.length m2, .slice n1 O.length n2] [lsP legC 55 2 (.slice m1 O.length m2) O, lsP legC 55 2 (.slice n1 O.length n2) O] (fun _ : Unit => .bool true) (fun _ => [lsP legC 55 2 (.slice m1 O.length m2) O, lsP legC 55 2 (.slice n1 O.length n2) O]) := fun m1 m2 n1 n2 => by
    have cF := samelegs_ct (W := W) (lsP legC 55 2 (.slice m1 O.length m2) O) (lsP legC 55 2 (.slice n1 O.length n2) O) m1 n1 m2 n2 O O (Lv.own enc_leg rfl) (Lv.own enc_leg rfl) (by omega)
    rw [decide_eq_true rfl] at cF
    exact cF
  clear hO hV hk hu pcut pmt pturn hag
  refine Ct.enter Tryz.func6 rfl Tryz.ntmps6 (by simp) (fun R => ?_)
  refine KJ.noP ?_
  repeat' (first 
    | (refine is_call ?_; first | (refine KJ_call xE cT xP rfl (fun z => ?_); refine hold ?_) | (refine KJ_call xE (cM2 _) xP rfl (fun y => ?_)) | (refine KJ_call xE (cM1 _) xP rfl (fun x => ?_)) | (refine KJ_call xE cf xP rfl (fun _ => ?_)))
    | (refine is_bslice ?_; first | (refine KJ_bsliceN (len := 3) (places := [(0, 1), (1, 1), (2, 1)]) (base := [.slice none 0 0, .slice none 0 0, .slice none 0 0]) xV (by rfl) (by rfl) xW (by omega) rfl (fun gb => ?_)) | (refine KJ_bslice1 rfl xF (by rfl) (by omega) rfl (fun gb => ?_)))
    | (refine ek_conv ?_; first | refine EK_ev (Ev_convI_v rfl w3) ?_ | refine EK_ev (Ev_convI_v rfl w2) ?_ | refine EK_ev (Ev_convI_v rfl w1) ?_)
    | (refine ek_slice ?_; first | refine EK_ev (Ev_sliceToX rfl rfl hb (Nat.le_trans hkl hd)) ?_ | refine EK_ev (Ev_sliceFromX rfl rfl hb hkl hd) ?_)
    | (refine ek_build ?_; refine EK_ev (Ev_build xV xW) ?_)
    | (refine ek_add ?_; refine EK_ev (Ev_addI_v (r := ((legs.length + 1 : Nat) : Int)) rfl rfl (by omega) (by omega)) ?_)
    | (refine ek_rem ?_; refine EK_ev (Ev_rem_w rfl rfl (by omega) hr1) ?_)
    | refine xst ?_
    | (refine xsa ?_; intro _)
    | (refine xsb ?_ ?_ <;> intro _ <;> first | (exfalso; omega) | skip)
    | refine xsc ?_
    | (refine KJ_draws (id := 6) (.op 0 (.op 1 (.op 2 (.op 3 (.op 4 (.op 5 (.ef 6 [] (.ef 7 [] (.op 8 (.op 9 (.op 10 (.op 11 (.op 12 .nil))))))))))))) (by kernel_rfl) (by kernel_rfl) ?_)
    | (refine KJ_draws (id := 14) (.op 0 (.op 1 (.op 2 (.op 3 (.op 4 (.op 5 (.op 6 (.op 7 (.op 8 (.op 9 (.op 10 (.op 11 (.op 12 (.op 13 (.op 14 (.op 15 (.op 16 (.op 17 .nil)))))))))))))))))) (by kernel_rfl) (by kernel_rfl) ?_)
    | refine FW_alt ?_ ?_
    | refine FW_efn rfl rfl rfl rfl rfl ?_ ?_
    | refine KJ_flow ?_ ?_
    | exact Rech.nil
    | fail)
  refine Hold.mk ?_
  obtain ⟨m1, m2⟩ := x
  obtain ⟨n1, n2⟩ := y
  obtain ⟨z1, z2⟩ := z
  dsimp only
  repeat' (first 
    | (refine is_alloc ?_; refine KJ_alloc rfl (fun g15 => ?_))
    | (refine is_call ?_; refine KJ_call xE (cM3 _ _ _) xP rfl (fun v => ?_); refine hold ?_)
    | (refine is_bslice ?_; refine KJ_bslice1 rfl xF (by rfl) (by omega) rfl (fun gb => ?_))
    | refine xst ?_
    | (refine xsa ?_; intro _)
    | (refine xsb ?_ ?_ <;> intro _ <;> first | (exfalso; omega) | skip)
    | refine xsc ?_
    | (refine KJ_draws (id := 6) (.op 0 (.op 1 (.op 2 (.op 3 (.op 4 (.op 5 (.ef 6 [] (.ef 7 [] (.op 8 (.op 9 (.op 10 (.op 11 (.op 12 .nil))))))))))))) (by kernel_rfl) (by kernel_rfl) ?_)
    | (refine KJ_draws (id := 14) (.op 0 (.op 1 (.op 2 (.op 3 (.op 4 (.op 5 (.op 6 (.op 7 (.op 8 (.op 9 (.op 10 (.op 11 (.op 12 (.op 13 (.op 14 (.op 15 (.op 16 (.op 17 .nil)))))))))))))))))) (by kernel_rfl) (by kernel_rfl) ?_)
    | refine FW_alt ?_ ?_
    | refine FW_efn rfl rfl rfl rfl rfl ?_ ?_
    | refine KJ_flow ?_ ?_
    | exact Rech.nil
    | fail)
  refine Hold.mk ?_
  obtain ⟨v1, v2⟩ := v
  dsimp only
  repeat' (first 
    | (refine is_call ?_; first | (refine KJ_call xE (cS _ _ _ _) xP rfl (fun _ => ?_)) | (refine KJ_call xE cn xP rfl (fun _ => ?_)))
    | (refine ek_neq ?_; first | refine EK_ev (Ev_neqNil rfl hne10) ?_ | refine EK_ev (Ev_neqI_f rfl rfl rfl) ?_)
    | refine xst ?_
    | (refine xsa ?_; intro _)
    | (refine xsb ?_ ?_ <;> intro _ <;> first | (exfalso; omega) | skip)
    | refine xsc ?_
    | (refine KJ_draws (id := 6) (.op 0 (.op 1 (.op 2 (.op 3 (.op 4 (.op 5 (.ef 6 [] (.ef 7 [] (.op 8 (.op 9 (.op 10 (.op 11 (.op 12 .nil))))))))))))) (by kernel_rfl) (by kernel_rfl) ?_)
    | (refine KJ_draws (id := 14) (.op 0 (.op 1 (.op 2 (.op 3 (.op 4 (.op 5 (.op 6 (.op 7 (.op 8 (.op 9 (.op 10 (.op 11 (.op 12 (.op 13 (.op 14 (.op 15 (.op 16 (.op 17 .nil)))))))))))))))))) (by kernel_rfl) (by kernel_rfl) ?_)
    | refine FW_alt ?_ ?_
    | refine FW_efn rfl rfl rfl rfl rfl ?_ ?_
    | refine KJ_flow ?_ ?_
    | exact Rech.nil
    | fail)
  refine KJ_loop (fun z : {i : Nat // i ≤ O.length} => [(0, .slice a ls.length c), (11, .slice m1 O.length m2), (101, .slice m1 O.length m2), (102, .int .i64 (O.length : Nat)), (103, .int .i64 (z.1 : Nat))])
    (fun _ => [lsP legC 55 2 (.slice m1 O.length m2) O, noP] ++ R) (fun z => O.length - z.1) ⟨0, Nat.zero_le _⟩ xB (xN) (fun ⟨i, hi⟩ => ?_)
  dsimp only at hi ⊢
  by_cases hlt : i < O.length
  · have ql : decide ((i : Int) < (O.length : Nat)) = true := decide_eq_true (by omega)
    obtain ⟨⟨acc, amt⟩, hx⟩ : ∃ s, O[i]? = some s := ⟨_, List.getElem?_eq_getElem hlt⟩
    have hnz := (hout _ (List.mem_of_getElem? hx)).1
    dsimp only at hnz
    have qz : decide (amt = 0) = false := decide_eq_false hnz
    refine KJ.lsSome (a := m1) (l := O) xS (by omega) (fun gm hgm => ?_)
    subst hgm
    have o0 : 0 + Int.toNat (i : Int) * 2 = i * 2 := by simp
    match i, hi, hlt, ql, hx, o0 with
    | 0, hi, hlt, ql, hx, o0 =>
      have qg : decide ((0 : Int) < ((0 : Nat) : Int)) = false := rfl
      repeat' (first 
    | (refine is_alloc ?_; refine KJ_alloc rfl (fun g19 => ?_))
    | (refine ek_load ?_; refine EK_ev (Ev_loadLs enc_leg rfl xS rfl o0 hx) ?_)
    | (refine ek_add ?_; refine EK_ev (Ev_addI_v (r := ((0 + 1 : Nat) : Int)) rfl rfl (by omega) (by omega)) ?_)
    | (refine ek_eql ?_; refine EK_ev (Ev_eqlI_q rfl rfl qz) ?_)
    | (refine ek_lss ?_; refine EK_ev (Ev_lssI_q rfl rfl ql) ?_)
    | (refine ek_gtr ?_; refine EK_ev (Ev_gtrI_q rfl rfl qg) ?_)
    | refine xst ?_
    | (refine xsa ?_; intro _)
    | (refine xsb ?_ ?_ <;> intro _ <;> first | (exfalso; omega) | skip)
    | refine xsc ?_
    | (refine KJ_draws (id := 6) (.op 0 (.op 1 (.op 2 (.op 3 (.op 4 (.op 5 (.ef 6 [] (.ef 7 [] (.op 8 (.op 9 (.op 10 (.op 11 (.op 12 .nil))))))))))))) (by kernel_rfl) (by kernel_rfl) ?_)
    | (refine KJ_draws (id := 14) (.op 0 (.op 1 (.op 2 (.op 3 (.op 4 (.op 5 (.op 6 (.op 7 (.op 8 (.op 9 (.op 10 (.op 11 (.op 12 (.op 13 (.op 14 (.op 15 (.op 16 (.op 17 .nil)))))))))))))))))) (by kernel_rfl) (by kernel_rfl) ?_)
    | refine FW_alt ?_ ?_
    | refine FW_efn rfl rfl rfl rfl rfl ?_ ?_
    | refine KJ_flow ?_ ?_
    | exact Rech.nil
    | fail)
      all_goals refine KJ_again ⟨0 + 1, hlt⟩ (by show O.length - (0 + 1) < O.length - 0; omega) xB (xN)
    | j + 1, hi, hlt, ql, hx, o0 =>
      obtain ⟨⟨pacc, pamt⟩, hy⟩ : ∃ s, O[j]? = some s := ⟨_, List.getElem?_eq_getElem (by omega)⟩
      have hr := rise_not (hrise j _ _ hy hx)
      dsimp only at hr
      have qg : decide ((0 : Int) < ((j + 1 : Nat) : Int)) = true := decide_eq_true (by omega)
      have p0 : 0 + Int.toNat (j : Int) * 2 + 0 = j * 2 + 0 := by simp
      have ky : (legC (⟨pacc, pamt⟩ : Leg))[0]? = some (strV pacc) := rfl
      repeat' (first 
    | (refine is_alloc ?_; refine KJ_alloc rfl (fun g19 => ?_))
    | (refine ek_load ?_; first | refine EK_ev (Ev_loadLsF enc_leg rfl xS rfl p0 hy ky) ?_ | refine EK_ev (Ev_loadLs enc_leg rfl xS rfl o0 hx) ?_)
    | (refine ek_add ?_; refine EK_ev (Ev_addI_v (r := ((j + 1 + 1 : Nat) : Int)) rfl rfl (by omega) (by omega)) ?_)
    | (refine ek_sub ?_; refine EK_ev (Ev_subI_v (r := ((j : Nat) : Int)) rfl rfl (by omega) (by omega)) ?_)
    | (refine ek_eql ?_; refine EK_ev (Ev_eqlI_q rfl rfl qz) ?_)
    | (refine ek_lss ?_; refine EK_ev (Ev_lssI_q rfl rfl ql) ?_)
    | (refine ek_leq ?_; refine EK_ev (Ev_leqS_q rfl rfl hr) ?_)
    | (refine ek_gtr ?_; refine EK_ev (Ev_gtrI_q rfl rfl qg) ?_)
    | refine xst ?_
    | (refine xsa ?_; intro _)
    | (refine xsb ?_ ?_ <;> intro _ <;> first | (exfalso; omega) | skip)
    | refine xsc ?_
    | (refine KJ_draws (id := 6) (.op 0 (.op 1 (.op 2 (.op 3 (.op 4 (.op 5 (.ef 6 [] (.ef 7 [] (.op 8 (.op 9 (.op 10 (.op 11 (.op 12 .nil))))))))))))) (by kernel_rfl) (by kernel_rfl) ?_)
    | (refine KJ_draws (id := 14) (.op 0 (.op 1 (.op 2 (.op 3 (.op 4 (.op 5 (.op 6 (.op 7 (.op 8 (.op 9 (.op 10 (.op 11 (.op 12 (.op 13 (.op 14 (.op 15 (.op 16 (.op 17 .nil)))))))))))))))))) (by kernel_rfl) (by kernel_rfl) ?_)
    | refine FW_alt ?_ ?_
    | refine FW_efn rfl rfl rfl rfl rfl ?_ ?_
    | refine KJ_flow ?_ ?_
    | exact Rech.nil
    | fail)
      all_goals refine KJ_again ⟨j + 1 + 1, hlt⟩ (by show O.length - (j + 1 + 1) < O.length - (j + 1); omega) xB (xN)
  have ql : decide ((i : Int) < (O.length : Nat)) = false := decide_eq_false (by omega)
  repeat' (first 
    | (refine is_call ?_; refine KJ_call xE (cM4 _ _ _) xP rfl (fun w => ?_); refine hold ?_)
    | (refine is_bslice ?_; refine KJ_bslice1 rfl xF (by rfl) (by omega) rfl (fun gb => ?_))
    | (refine ek_lss ?_; refine EK_ev (Ev_lssI_q rfl rfl ql) ?_)
    | refine xst ?_
    | (refine xsa ?_; intro _)
    | (refine xsb ?_ ?_ <;> intro _ <;> first | (exfalso; omega) | skip)
    | refine xsc ?_
    | (refine KJ_draws (id := 6) (.op 0 (.op 1 (.op 2 (.op 3 (.op 4 (.op 5 (.ef 6 [] (.ef 7 [] (.op 8 (.op 9 (.op 10 (.op 11 (.op 12 .nil))))))))))))) (by kernel_rfl) (by kernel_rfl) ?_)
    | (refine KJ_draws (id := 14) (.op 0 (.op 1 (.op 2 (.op 3 (.op 4 (.op 5 (.op 6 (.op 7 (.op 8 (.op 9 (.op 10 (.op 11 (.op 12 (.op 13 (.op 14 (.op 15 (.op 16 (.op 17 .nil)))))))))))))))))) (by kernel_rfl) (by kernel_rfl) ?_)
    | refine FW_alt ?_ ?_
    | refine FW_efn rfl rfl rfl rfl rfl ?_ ?_
    | refine KJ_flow ?_ ?_
    | exact Rech.nil
    | fail)
  refine Hold.mk ?_
  obtain ⟨w1_, w2_⟩ := w
  dsimp only
  repeat' (first 
    | (refine is_call ?_; refine KJ_call xE (cS _ _ _ _) xP rfl (fun _ => ?_))
    | refine xst ?_
    | (refine xsa ?_; intro _)
    | (refine xsb ?_ ?_ <;> intro _ <;> first | (exfalso; omega) | skip)
    | refine xsc ?_
    | (refine KJ_draws (id := 6) (.op 0 (.op 1 (.op 2 (.op 3 (.op 4 (.op 5 (.ef 6 [] (.ef 7 [] (.op 8 (.op 9 (.op 10 (.op 11 (.op 12 .nil))))))))))))) (by kernel_rfl) (by kernel_rfl) ?_)
    | (refine KJ_draws (id := 14) (.op 0 (.op 1 (.op 2 (.op 3 (.op 4 (.op 5 (.op 6 (.op 7 (.op 8 (.op 9 (.op 10 (.op 11 (.op 12 (.op 13 (.op 14 (.op 15 (.op 16 (.op 17 .nil)))))))))))))))))) (by kernel_rfl) (by kernel_rfl) ?_)
    | refine FW_alt ?_ ?_
    | refine FW_efn rfl rfl rfl rfl rfl ?_ ?_
    | refine KJ_flow ?_ ?_
    | exact Rech.nil
    | fail)
  refine KJ.nilrow 23 1 ?_
  refine KJ_loop (fun z : {z : Nat × LL × Option Addr × Nat // z.1 ≤ ls.length ∧ z.2.1.length ≤ 1 ∧ ∀ y ∈ z.2.1, GoodL W y} => [(22, .slice z.1.2.2.1 z.1.2.1.length z.1.2.2.2), (141, .slice a ls.length c), (142, .int .i64 (ls.length : Nat)), (143, .int .i64 (z.1.1 : Nat))])
    (fun z => [lsP lsC 23 1 (.slice z.1.2.2.1 z.1.2.1.length z.1.2.2.2) z.1.2.1, noP] ++ R) (fun z => ls.length - z.1.1) ⟨(0, [], none, 0), Nat.zero_le _, Nat.zero_le _, fun y hy => (by cases hy)⟩ xB (xN) (fun ⟨(q, all, xa, xc), hq, hall, hgd⟩ => ?_)
  dsimp only at hq hall hgd ⊢
  by_cases hlt2 : q < ls.length
  · have ql2 : decide ((q : Int) < (ls.length : Nat)) = true := decide_eq_true (by omega)
    obtain ⟨⟨p, pa, pc⟩, hx⟩ : ∃ s, ls[q]? = some s := ⟨_, List.getElem?_eq_getElem hlt2⟩
    obtain ⟨hPL, fp⟩ := hP _ (List.mem_of_getElem? hx)
    dsimp only at hPL fp
    have cC := pcheckV (W := W) (F := F) pe noP pa pc p fp hPL rfl rfl
    have hg2 : checkE p = 0 → GoodL W (pa, pc, p.legs) := fun h => ⟨hPL, (checkE_zero h).2.2.2.2.2.2, fp.legs, fp.acc, fp.amt⟩
    obtain ⟨e, he⟩ : ∃ e, e = checkE p := ⟨_, rfl⟩
    rw [← he] at cC hg2
    obtain ⟨id, tick, note, plegs⟩ := p
    unfold pstC at cC
    dsimp only at cC hg2 hPL
    refine KJ.lvSome hT xS (by omega) (fun b0 of hab => ?_)
    subst hab
    have o0 : of + Int.toNat (q : Int) * 4 = of + q * 4 := by simp
    by_cases h0 : e = 0
    · subst h0
      have hg2 := hg2 rfl
      by_cases h1 : all.length < 1
      · have q1 : decide ((all.length : Int) < 1) = true := decide_eq_true (by omega)
        have b1 : (all.length + 1) * 24 ≤ 140737488355328 := by omega
        have b2 : all.length + 1 ≤ 9223372036854775807 := by omega
        repeat' (first 
    | (refine is_alloc ?_; refine KJ_alloc rfl (fun g24 => ?_))
    | (refine is_call ?_; refine KJ_call xE cC xP rfl (fun _ => ?_))
    | (refine is_append ?_; refine KJ_appOne (a := ((pa, pc, plegs) : Option Addr × Nat × List Leg)) lsC_ok rfl rfl rfl xS xS b1 b2 rfl (fun g3 c3 => ?_))
    | (refine is_bslice ?_; refine KJ_bslice1 rfl xF (by rfl) (by omega) rfl (fun gb => ?_))
    | (refine ek_load ?_; refine EK_ev (Ev_loadLv ppC_ok hT rfl rfl xS o0 hx) ?_)
    | (refine ek_add ?_; refine EK_ev (Ev_addI_v (r := ((q + 1 : Nat) : Int)) rfl rfl (by omega) (by omega)) ?_)
    | (refine ek_lss ?_; first | refine EK_ev (Ev_lssI_q rfl rfl q1) ?_ | refine EK_ev (Ev_lssI_q rfl rfl ql2) ?_)
    | refine xst ?_
    | (refine xsa ?_; intro _)
    | (refine xsb ?_ ?_ <;> intro _ <;> first | (exfalso; omega) | skip)
    | refine xsc ?_
    | (refine KJ_draws (id := 6) (.op 0 (.op 1 (.op 2 (.op 3 (.op 4 (.op 5 (.ef 6 [] (.ef 7 [] (.op 8 (.op 9 (.op 10 (.op 11 (.op 12 .nil))))))))))))) (by kernel_rfl) (by kernel_rfl) ?_)
    | (refine KJ_draws (id := 14) (.op 0 (.op 1 (.op 2 (.op 3 (.op 4 (.op 5 (.op 6 (.op 7 (.op 8 (.op 9 (.op 10 (.op 11 (.op 12 (.op 13 (.op 14 (.op 15 (.op 16 (.op 17 .nil)))))))))))))))))) (by kernel_rfl) (by kernel_rfl) ?_)
    | refine FW_alt ?_ ?_
    | refine FW_efn rfl rfl rfl rfl rfl ?_ ?_
    | refine KJ_flow ?_ ?_
    | exact Rech.nil
    | fail)
        all_goals refine KJ_again ⟨(q + 1, all ++ [(pa, pc, plegs)], some ⟨g3, 0, none⟩, c3), hlt2, by dsimp only; rw [List.length_append, List.length_singleton]; omega, fun y hy => by
          rcases List.mem_append.1 hy with hy | hy
          · exact hgd y hy
          · rw [List.mem_singleton.1 hy]; exact hg2⟩ (by show ls.length - (q + 1) < ls.length - q; omega) xB (xN)
      · have q1 : decide ((all.length : Int) < 1) = false := decide_eq_false (by omega)
        repeat' (first 
    | (refine is_alloc ?_; refine KJ_alloc rfl (fun g24 => ?_))
    | (refine is_call ?_; refine KJ_call xE cC xP rfl (fun _ => ?_))
    | (refine ek_load ?_; refine EK_ev (Ev_loadLv ppC_ok hT rfl rfl xS o0 hx) ?_)
    | (refine ek_add ?_; refine EK_ev (Ev_addI_v (r := ((q + 1 : Nat) : Int)) rfl rfl (by omega) (by omega)) ?_)
    | (refine ek_lss ?_; first | refine EK_ev (Ev_lssI_q rfl rfl q1) ?_ | refine EK_ev (Ev_lssI_q rfl rfl ql2) ?_)
    | refine xst ?_
    | (refine xsa ?_; intro _)
    | (refine xsb ?_ ?_ <;> intro _ <;> first | (exfalso; omega) | skip)
    | refine xsc ?_
    | (refine KJ_draws (id := 6) (.op 0 (.op 1 (.op 2 (.op 3 (.op 4 (.op 5 (.ef 6 [] (.ef 7 [] (.op 8 (.op 9 (.op 10 (.op 11 (.op 12 .nil))))))))))))) (by kernel_rfl) (by kernel_rfl) ?_)
    | (refine KJ_draws (id := 14) (.op 0 (.op 1 (.op 2 (.op 3 (.op 4 (.op 5 (.op 6 (.op 7 (.op 8 (.op 9 (.op 10 (.op 11 (.op 12 (.op 13 (.op 14 (.op 15 (.op 16 (.op 17 .nil)))))))))))))))))) (by kernel_rfl) (by kernel_rfl) ?_)
    | refine FW_alt ?_ ?_
    | refine FW_efn rfl rfl rfl rfl rfl ?_ ?_
    | refine KJ_flow ?_ ?_
    | exact Rech.nil
    | fail)
        all_goals refine KJ_again ⟨(q + 1, all, xa, xc), hlt2, hall, hgd⟩ (by show ls.length - (q + 1) < ls.length - q; omega) xB (xN)
    · have hne := errNe (F := F) h0
      repeat' (first 
    | (refine is_alloc ?_; refine KJ_alloc rfl (fun g24 => ?_))
    | (refine is_call ?_; refine KJ_call xE cC xP rfl (fun _ => ?_))
    | (refine ek_load ?_; refine EK_ev (Ev_loadLv ppC_ok hT rfl rfl xS o0 hx) ?_)
    | (refine ek_add ?_; refine EK_ev (Ev_addI_v (r := ((q + 1 : Nat) : Int)) rfl rfl (by omega) (by omega)) ?_)
    | (refine ek_eql ?_; refine EK_ev (Ev_eqlNil rfl hne) ?_)
    | (refine ek_lss ?_; refine EK_ev (Ev_lssI_q rfl rfl ql2) ?_)
    | refine xst ?_
    | (refine xsa ?_; intro _)
    | (refine xsb ?_ ?_ <;> intro _ <;> first | (exfalso; omega) | skip)
    | refine xsc ?_
    | (refine KJ_draws (id := 6) (.op 0 (.op 1 (.op 2 (.op 3 (.op 4 (.op 5 (.ef 6 [] (.ef 7 [] (.op 8 (.op 9 (.op 10 (.op 11 (.op 12 .nil))))))))))))) (by kernel_rfl) (by kernel_rfl) ?_)
    | (refine KJ_draws (id := 14) (.op 0 (.op 1 (.op 2 (.op 3 (.op 4 (.op 5 (.op 6 (.op 7 (.op 8 (.op 9 (.op 10 (.op 11 (.op 12 (.op 13 (.op 14 (.op 15 (.op 16 (.op 17 .nil)))))))))))))))))) (by kernel_rfl) (by kernel_rfl) ?_)
    | refine FW_alt ?_ ?_
    | refine FW_efn rfl rfl rfl rfl rfl ?_ ?_
    | refine KJ_flow ?_ ?_
    | exact Rech.nil
    | fail)
      all_goals refine KJ_again ⟨(q + 1, all, xa, xc), hlt2, hall, hgd⟩ (by show ls.length - (q + 1) < ls.length - q; omega) xB (xN)
  have ql2 : decide ((q : Int) < (ls.length : Nat)) = false := decide_eq_false (by omega)
  have hone := mrg_one hall (fun y hy => (hgd y hy).2.1)
  have hcb := cat_bound (n := 1) (k := 2000000) hall (fun y hy => (hgd y hy).2.2.1)
  have hQl := mrgO_len (catL all)
  obtain ⟨Q, hQ⟩ : ∃ Q, Q = mrgO (catL all) := ⟨_, rfl⟩
  have cM5 := pmergeB (W := W) (F := F) e10 [lsP lsC 23 1 (.slice xa all.length xc) all] xa xc all ((Lv.own lsC_ok rfl).bag Sel.here) (fun y hy => (hgd y hy).1.any) (by omega) (by omega)
    (fun x hx => by
      obtain ⟨y, hy, hx⟩ := List.mem_flatMap.1 hx
      exact (hgd y hy).2.2.2.1 x hx) (fun x hx => by
      obtain ⟨y, hy, hx⟩ := List.mem_flatMap.1 hx
      exact (hgd y hy).2.2.2.2 x hx) (O := Q) (e := 0) (v := .slice xa all.length xc) hQ.symm hone.1 rfl
  have hsum := hone.2
  rw [← hQ] at hsum hQl
  repeat' (first 
    | (refine is_call ?_; refine KJ_call xE cM5 xP rfl (fun v => ?_); refine hold ?_)
    | (refine ek_lss ?_; refine EK_ev (Ev_lssI_q rfl rfl ql2) ?_)
    | refine xst ?_
    | (refine xsa ?_; intro _)
    | (refine xsb ?_ ?_ <;> intro _ <;> first | (exfalso; omega) | skip)
    | refine xsc ?_
    | (refine KJ_draws (id := 6) (.op 0 (.op 1 (.op 2 (.op 3 (.op 4 (.op 5 (.ef 6 [] (.ef 7 [] (.op 8 (.op 9 (.op 10 (.op 11 (.op 12 .nil))))))))))))) (by kernel_rfl) (by kernel_rfl) ?_)
    | (refine KJ_draws (id := 14) (.op 0 (.op 1 (.op 2 (.op 3 (.op 4 (.op 5 (.op 6 (.op 7 (.op 8 (.op 9 (.op 10 (.op 11 (.op 12 (.op 13 (.op 14 (.op 15 (.op 16 (.op 17 .nil)))))))))))))))))) (by kernel_rfl) (by kernel_rfl) ?_)
    | refine FW_alt ?_ ?_
    | refine FW_efn rfl rfl rfl rfl rfl ?_ ?_
    | refine KJ_flow ?_ ?_
    | exact Rech.nil
    | fail)
  refine Hold.mk ?_
  obtain ⟨u1, u2⟩ := v
  dsimp only
  repeat' (first 
    | refine xst ?_
    | (refine xsa ?_; intro _)
    | (refine xsb ?_ ?_ <;> intro _ <;> first | (exfalso; omega) | skip)
    | refine xsc ?_
    | (refine KJ_draws (id := 6) (.op 0 (.op 1 (.op 2 (.op 3 (.op 4 (.op 5 (.ef 6 [] (.ef 7 [] (.op 8 (.op 9 (.op 10 (.op 11 (.op 12 .nil))))))))))))) (by kernel_rfl) (by kernel_rfl) ?_)
    | (refine KJ_draws (id := 14) (.op 0 (.op 1 (.op 2 (.op 3 (.op 4 (.op 5 (.op 6 (.op 7 (.op 8 (.op 9 (.op 10 (.op 11 (.op 12 (.op 13 (.op 14 (.op 15 (.op 16 (.op 17 .nil)))))))))))))))))) (by kernel_rfl) (by kernel_rfl) ?_)
    | refine FW_alt ?_ ?_
    | refine FW_efn rfl rfl rfl rfl rfl ?_ ?_
    | refine KJ_flow ?_ ?_
    | exact Rech.nil
    | fail)
  refine KJ_loop (fun z : {z : Nat × Int // z.1 ≤ Q.length ∧ z.2 = IntKind.i64.wrap ((Q.take z.1).map (·.amt)).sum} => [(21, errV F 0), (26, .int .i64 z.1.2), (166, .slice u1 Q.length u2), (167, .int .i64 (Q.length : Nat)), (168, .int .i64 (z.1.1 : Nat))])
    (fun _ => [lsP legC 55 2 (.slice u1 Q.length u2) Q] ++ R) (fun z => Q.length - z.1.1) ⟨(0, 0), Nat.zero_le _, rfl⟩ xB (xN) (fun ⟨(f, s), hf, hs⟩ => ?_)
  dsimp only at hf hs ⊢
  by_cases hlt3 : f < Q.length
  · have ql3 : decide ((f : Int) < (Q.length : Nat)) = true := decide_eq_true (by omega)
    obtain ⟨⟨acc, amt⟩, hx⟩ : ∃ s, Q[f]? = some s := ⟨_, List.getElem?_eq_getElem hlt3⟩
    refine KJ.lsSome (a := u1) (l := Q) xS (by omega) (fun gm hgm => ?_)
    subst hgm
    have o0 : 0 + Int.toNat (f : Int) * 2 = f * 2 := by simp
    obtain ⟨s2, hs2⟩ : ∃ s2, IntKind.i64.wrap (s + amt) = s2 := ⟨_, rfl⟩
    have hs3 : s2 = IntKind.i64.wrap ((Q.take (f + 1)).map (·.amt)).sum := by
      rw [← hs2, hs, i64_add, List.take_add_one, hx, List.map_append, List.sum_append]
      simp
    repeat' (first 
    | (refine is_alloc ?_; refine KJ_alloc rfl (fun g28 => ?_))
    | (refine ek_load ?_; refine EK_ev (Ev_loadLs enc_leg rfl xS rfl o0 hx) ?_)
    | (refine ek_add ?_; first | refine EK_ev (Ev_addI_v (r := ((f + 1 : Nat) : Int)) rfl rfl (by omega) (by omega)) ?_ | refine EK_ev (Ev_add_w rfl rfl hs2) ?_)
    | (refine ek_lss ?_; refine EK_ev (Ev_lssI_q rfl rfl ql3) ?_)
    | refine xst ?_
    | (refine xsa ?_; intro _)
    | (refine xsb ?_ ?_ <;> intro _ <;> first | (exfalso; omega) | skip)
    | refine xsc ?_
    | (refine KJ_draws (id := 6) (.op 0 (.op 1 (.op 2 (.op 3 (.op 4 (.op 5 (.ef 6 [] (.ef 7 [] (.op 8 (.op 9 (.op 10 (.op 11 (.op 12 .nil))))))))))))) (by kernel_rfl) (by kernel_rfl) ?_)
    | (refine KJ_draws (id := 14) (.op 0 (.op 1 (.op 2 (.op 3 (.op 4 (.op 5 (.op 6 (.op 7 (.op 8 (.op 9 (.op 10 (.op 11 (.op 12 (.op 13 (.op 14 (.op 15 (.op 16 (.op 17 .nil)))))))))))))))))) (by kernel_rfl) (by kernel_rfl) ?_)
    | refine FW_alt ?_ ?_
    | refine FW_efn rfl rfl rfl rfl rfl ?_ ?_
    | refine KJ_flow ?_ ?_
    | exact Rech.nil
    | fail)
    all_goals refine KJ_again ⟨(f + 1, s2), hlt3, hs3⟩ (by show Q.length - (f + 1) < Q.length - f; omega) xB (xN)
  have ql3 : decide ((f : Int) < (Q.length : Nat)) = false := decide_eq_false (by omega)
  rw [List.take_of_length_le (by omega), hsum] at hs
  have hs : s = 0 := hs
  subst hs
  repeat' (first 
    | (refine ek_lss ?_; refine EK_ev (Ev_lssI_q rfl rfl ql3) ?_)
    | refine xst ?_
    | (refine xsa ?_; intro _)
    | (refine xsb ?_ ?_ <;> intro _ <;> first | (exfalso; omega) | skip)
    | refine xsc ?_
    | (refine KJ_draws (id := 6) (.op 0 (.op 1 (.op 2 (.op 3 (.op 4 (.op 5 (.ef 6 [] (.ef 7 [] (.op 8 (.op 9 (.op 10 (.op 11 (.op 12 .nil))))))))))))) (by kernel_rfl) (by kernel_rfl) ?_)
    | (refine KJ_draws (id := 14) (.op 0 (.op 1 (.op 2 (.op 3 (.op 4 (.op 5 (.op 6 (.op 7 (.op 8 (.op 9 (.op 10 (.op 11 (.op 12 (.op 13 (.op 14 (.op 15 (.op 16 (.op 17 .nil)))))))))))))))))) (by kernel_rfl) (by kernel_rfl) ?_)
    | refine FW_alt ?_ ?_
    | refine FW_efn rfl rfl rfl rfl rfl ?_ ?_
    | refine KJ_flow ?_ ?_
    | exact Rech.nil
    | fail)
  all_goals (exact xdn ())

theorem pmerge_law (hE : ErrsOn L37 W F) (a b : Option Addr) (c d : Nat) (ls : List PP) (legs : List Leg) (cut_ by_ : Int) (hT : Lv W ppC 4 noP a ls) (hP : ∀ x ∈ ls, Lv W legC 2 noP x.2.1 x.1.legs ∧ PstFit x.1) (hn : ls.length ≤ 2000000) (hL : Lv W legC 2 noP b legs) (hb : b = none → d = 0) (hd : legs.length ≤ d) (hl : legs.length ≤ 2000000) (hacc : ∀ x ∈ legs, x.acc.length ≤ 2000000) (hamt : ∀ x ∈ legs, -9223372036854775808 ≤ x.amt ∧ x.amt ≤ 9223372036854775807) :
    Ct Tryz.prog W 6 [.slice a ls.length c, .slice b legs.length d, .int .i64 cut_, .int .i64 by_] [] (fun _ : Unit => .bool true) (fun _ => []) := by
  rcases mrg_err legs with h | h
  · exact pmerge_law0 hE a b c d ls legs cut_ by_ hT hP hn hL hb hd hl hacc hamt h
  · exact pmerge_law10 hE a b c d ls legs cut_ by_ hT hP hn hL hb hd hl hacc hamt h
end
end Go.Proofs.YtdbfemdpdpaffaaGreatDoor
