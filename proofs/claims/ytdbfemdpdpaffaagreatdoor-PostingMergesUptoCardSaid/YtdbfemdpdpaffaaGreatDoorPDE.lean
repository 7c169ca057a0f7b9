/-
  PoR4.
-/
import Derived.Test.YtdbfemdpdpaffaaGreatDoorPCQ
import Derived.Test.YtdbfemdpdpaffaaGreatDoorPBX
import Derived.Test.YtdbfemdpdpaffaaGreatDoorPCK
import Derived.Test.YtdbfemdpdpaffaaGreatDoorPBZ
import Derived.Test.YtdbfemdpdpaffaaGreatDoorPBI
import Derived.Test.YtdbfemdpdpaffaaGreatDoorPCU
import Derived.Test.YtdbfemdpdpaffaaGreatDoorPBP
import Derived.Test.YtdbfemdpdpaffaaGreatDoorPCO
import Derived.Test.YtdbfemdpdpaffaaGreatDoorPCV
import Derived.Test.YtdbfemdpdpaffaaGreatDoorPDD
/-
  PostingMerges: the walk.
-/
namespace Go.Proofs.YtdbfemdpdpaffaaGreatDoor
open Go Go.RowKit Go.MapKept
/-- rows of one's own that a list of lists tells of, as one claim -/
def lrowP (x : Option Addr × Nat × List Leg) : SP := lsP legC 55 2 (.slice x.1 x.2.2.length x.2.1) x.2.2
def rowsP (In : LL) : SP := bagP 72 (In.map lrowP)
theorem Sel.of {A : SP} : ∀ {L : List SP}, A ∈ L → ∃ R, Sel A L R
  | B :: L, h => by
    by_cases e : A = B
    · subst e; exact ⟨L, Sel.here⟩
    · rcases List.mem_cons.1 h with h | h
      · exact absurd h e
      · obtain ⟨R, hR⟩ := Sel.of h
        exact ⟨B :: R, Sel.there hR⟩
theorem rows_push {In : LL} {x : Option Addr × Nat × List Leg} {M : List SP} {g : Hl} (q : starL (lrowP x :: rowsP In :: M) g) : starL (rowsP (In ++ [x]) :: M) g := by
  have q2 := bag_open (L := In.map lrowP) (starL_swap g q)
  refine bag_shut (L := (In ++ [x]).map lrowP) ?_
  rw [List.map_append, List.append_assoc]
  exact q2
section
variable {P : Program} {W : World} {n : Nat} {E : Env} {H R : List SP} {k : KK}
theorem KJ.rowsPush {In : LL} {x : Option Addr × Nat × List Leg} {y : SP} (hy : y = lrowP x) (h1 : Pick [y, rowsP In] H R) (h : KJ W n k E (rowsP (In ++ [x]) :: R)) : KJ W n k E H := by
  subst hy
  exact ⟨fun ac w q s => h.go ac w q ((s.perm (h1.perm.append_right _)).mono fun _ x => rows_push x)⟩
theorem KJ.rowsNone (h : KJ W n k E (rowsP [] :: H)) : KJ W n k E H :=
  ⟨fun ac w q s => h.go ac w q (s.mono fun _ x => bag_shut (key := 72) (L := []) x)⟩
theorem rows_lv {In : LL} {x : Option Addr × Nat × List Leg} (hx : x ∈ In) : Lv W legC 2 (rowsP In) x.1 x.2.2 := by
  obtain ⟨R, hR⟩ := Sel.of (List.mem_map.2 ⟨x, hx, rfl⟩ : lrowP x ∈ In.map lrowP)
  exact (Lv.own (e := 55) (c := x.2.1) enc_leg rfl).bag hR
end
/-- the lists alone -/
def lgs (l : LL) : List (List Leg) := l.map fun x => x.2.2
theorem catL_lgs (l : LL) : catL l = (lgs l).flatten := by unfold catL lgs; rw [List.flatMap_def]
theorem lgs_len {l r : LL} (h : lgs l = lgs r) : l.length = r.length := by have := congrArg List.length h; unfold lgs at this; simpa using this
theorem lgs_next {In ls : LL} {i : Nat} {x : Option Addr × Nat × List Leg} (h : ls[i]? = some x) (hI : lgs In = lgs (ls.take i)) (a : Option Addr) (c : Nat) : lgs (In ++ [(a, c, x.2.2)]) = lgs (ls.take (i + 1)) := by
  unfold lgs at hI ⊢
  rw [List.take_add_one, h, List.map_append, List.map_append, hI]
  rfl
theorem lgs_get {In ls : LL} {i : Nat} {x : Option Addr × Nat × List Leg} (h : ls[i]? = some x) (hI : lgs In = lgs ls) : ∃ a c, In[i]? = some (a, c, x.2.2) := by
  have h1 := congrArg (fun l => l[i]?) hI
  unfold lgs at h1
  simp only [List.getElem?_map, h, Option.map_some] at h1
  obtain ⟨⟨a, c, l⟩, h2, h3⟩ := Option.map_eq_some_iff.1 h1
  dsimp only at h3
  subst h3
  exact ⟨a, c, h2⟩
theorem heads_len : ∀ (n : Nat) (l : List Leg), l.length ≤ n → (heads l).length ≤ l.length
  | _, [], _ => by unfold heads; simp
  | 0, x :: r, h => by simp at h
  | n + 1, x :: r, h => by
    have h1 : (r.dropWhile fun y => decide (y.acc = x.acc)).length ≤ r.length := (List.dropWhile_sublist _).length_le
    simp only [List.length_cons] at h
    have h2 := heads_len n (r.dropWhile fun y => decide (y.acc = x.acc)) (by omega)
    rw [heads_cons, List.length_cons, List.length_cons]
    omega
theorem mrgO_len (l : List Leg) : (mrgO l).length ≤ l.length := by
  unfold mrgO
  cases h : mergeP l with
  | none => simp
  | some w =>
    have h1 : mergeK (sumA (srtL l)) (heads (srtL l)) = some w := by rw [← mergeG_heads _ (srt_pair l)]; exact h
    have h2 := (mergeK_out h1).1.length_le
    have h3 := heads_len _ (srtL l) (Nat.le_refl _)
    rw [List.length_map] at h2
    rw [srt_len] at h3
    show w.length ≤ _
    omega
theorem mrgE_le (l : List Leg) : mrgE l ≤ 37 := by unfold mrgE; split <;> omega
section
variable {W : World} {F : Nat → Addr}
set_option maxHeartbeats 16000000 in
set_option maxRecDepth 20000 in
theorem pmerges_law (hE : ErrsOn L37 W F) (a : Option Addr) (c : Nat) (ls : LL) (hT : Lv W lsC 1 noP a ls) (hI : ∀ x ∈ ls, Lv W legC 2 noP x.1 x.2.2) (hn : ls.length ≤ 2000000) (hl : (catL ls).length ≤ 2199023255552) (hone : ∀ x ∈ ls, x.2.2.length ≤ 2000000) (hacc : ∀ x ∈ catL ls, x.acc.length ≤ 2000000) (hamt : ∀ x ∈ catL ls, -9223372036854775808 ≤ x.amt ∧ x.amt ≤ 9223372036854775807) :
    Ct Tryz.prog W 5 [.slice a ls.length c] [] (fun _ : Unit => .bool true) (fun _ => []) := by
  have e10 : W.cell? ⟨4, 0, none⟩ = some (errV F 10) := hE.at_ 10 (by decide)
  have cf := fixed_ct (W := W) (F := F) hE
  have cn := num_ct (W := W) (F := F) hE (mrgE (catL ls)) (mrgE_le _)
  have cD := dmerge_ct (W := W) noP a c ls hT hI hn hl hamt
  have cM : ∀ In : LL, lgs In = lgs ls → ∀ xa xc, Ct Tryz.prog W 23 [.slice xa ls.length xc] [lsP lsC 23 1 (.slice xa ls.length xc) In, rowsP In] (fun x : Option Addr × Nat => .tuple #[.slice x.1 (mrgO (catL ls)).length x.2, errV F (mrgE (catL ls))]) (fun x => [lsP legC 55 2 (.slice x.1 (mrgO (catL ls)).length x.2) (mrgO (catL ls)), lsP lsC 23 1 (.slice xa ls.length xc) In, rowsP In]) := fun In hIn xa xc => by
    have hcat : catL In = catL ls := by rw [catL_lgs, catL_lgs, hIn]
    have hlen := lgs_len hIn
    rw [← hcat] at hl hacc hamt ⊢
    rw [← hlen] at hn ⊢
    exact pmergeB (W := W) (F := F) e10 [lsP lsC 23 1 (.slice xa In.length xc) In, rowsP In] xa xc In ((Lv.own lsC_ok rfl).bag Sel.here) (fun x hx => (rows_lv hx).bag (Sel.there Sel.here)) hn hl hacc hamt rfl rfl rfl
  obtain ⟨O, hO⟩ : ∃ O, O = mrgO (catL ls) := ⟨_, rfl⟩
  obtain ⟨er, her⟩ : ∃ er, er = mrgE (catL ls) := ⟨_, rfl⟩
  have hOl : O.length ≤ 4611686018427387904 := by
    rw [hO]
    exact Nat.le_trans (mrgO_len _) (by omega)
  rw [← hO, ← her] at cD
  simp only [← hO, ← her] at cM
  rw [← her] at cn
  clear her hO
  refine Ct.enter Tryz.func5 rfl Tryz.ntmps5 (by simp) (fun R => ?_)
  refine KJ.noP ?_
  repeat' (first 
    | (refine is_call ?_; refine KJ_call xE cf xP rfl (fun _ => ?_))
    | refine xst ?_
    | (refine xsa ?_; intro _)
    | (refine xsb ?_ ?_ <;> intro _ <;> first | (exfalso; omega) | skip)
    | refine xsc ?_
    | (refine KJ_draws (id := 14) (.op 0 (.op 1 (.op 2 (.op 3 (.op 4 (.op 5 (.op 6 (.op 7 (.ef 8 [] (.op 9 .nil)))))))))) (by kernel_rfl) (by kernel_rfl) ?_)
    | refine FW_alt ?_ ?_
    | refine FW_efn rfl rfl rfl rfl rfl ?_ ?_
    | refine KJ_flow ?_ ?_
    | exact Rech.nil
    | fail)
  refine KJ.nilrow 23 1 ?_
  refine KJ.rowsNone ?_
  refine KJ_loop (fun x : {x : Nat × LL × Option Addr × Nat // x.1 ≤ ls.length ∧ lgs x.2.1 = lgs (ls.take x.1)} => [(0, .slice a ls.length c), (3, .slice x.1.2.2.1 x.1.2.1.length x.1.2.2.2), (13, .slice a ls.length c), (14, .int .i64 (ls.length : Nat)), (15, .int .i64 (x.1.1 : Nat))])
    (fun x => [rowsP x.1.2.1, lsP lsC 23 1 (.slice x.1.2.2.1 x.1.2.1.length x.1.2.2.2) x.1.2.1, noP] ++ R) (fun x => ls.length - x.1.1) ⟨(0, [], none, 0), Nat.zero_le _, rfl⟩ xB (xN) (fun ⟨(i, In, xa, xc), hi, hL⟩ => ?_)
  dsimp only at hi hL ⊢
  have hIl := lgs_len hL
  rw [List.length_take] at hIl
  by_cases hlt : i < ls.length
  · have ql : decide ((i : Int) < (ls.length : Nat)) = true := decide_eq_true (by omega)
    obtain ⟨⟨ai, ci, l⟩, hx⟩ : ∃ s, ls[i]? = some s := ⟨_, List.getElem?_eq_getElem hlt⟩
    have hLi := hI _ (List.mem_of_getElem? hx)
    have hol := hone _ (List.mem_of_getElem? hx)
    have hnx := lgs_next hx hL
    dsimp only at hLi hol hnx
    refine KJ.lvSome hT xS (by omega) (fun b0 of hab => ?_)
    subst hab
    refine KJ.lvOpen hLi xS (fun b1 o1 hab => ?_)
    have hoff : of + Int.toNat (i : Int) * 1 = of + i * 1 + 0 := by simp
    have kx : (lsC (ai, ci, l))[0]? = some (.slice ai l.length ci) := rfl
    have d1 : (([] : List Leg).length + l.length) * 24 ≤ 140737488355328 := by simp; omega
    have d2 : ([] : List Leg).length + l.length ≤ 9223372036854775807 := by simp; omega
    have g1 : (In.length + 1) * 24 ≤ 140737488355328 := by omega
    have g2 : In.length + 1 ≤ 9223372036854775807 := by omega
    repeat' (first 
    | (refine is_append ?_; refine KJ_appAll (l := ([] : List Leg)) (l2 := l) enc_leg rfl rfl rfl rfl xS (Src.lv hLi hab xS) d1 d2 rfl (fun a1 c1 => ?_); rw [List.nil_append]; refine hold ?_)
    | (refine is_bslice ?_; refine KJ_bslice0 rfl (fun g0 => ?_))
    | (refine ek_load ?_; refine EK_ev (Ev_loadLvF lsC_ok hT rfl rfl xS hoff hx kx) ?_)
    | (refine ek_lss ?_; refine EK_ev (Ev_lssI_q rfl rfl ql) ?_)
    | refine xst ?_
    | (refine xsa ?_; intro _)
    | (refine xsb ?_ ?_ <;> intro _ <;> first | (exfalso; omega) | skip)
    | refine xsc ?_
    | (refine KJ_draws (id := 14) (.op 0 (.op 1 (.op 2 (.op 3 (.op 4 (.op 5 (.op 6 (.op 7 (.ef 8 [] (.op 9 .nil)))))))))) (by kernel_rfl) (by kernel_rfl) ?_)
    | refine FW_alt ?_ ?_
    | refine FW_efn rfl rfl rfl rfl rfl ?_ ?_
    | refine KJ_flow ?_ ?_
    | exact Rech.nil
    | fail)
    refine Hold.mk ?_
    repeat' (first 
    | (refine is_append ?_; refine KJ_appOne (a := ((a1, c1, l) : Option Addr × Nat × List Leg)) lsC_ok rfl rfl rfl xS xS g1 g2 rfl (fun g3 c3 => ?_))
    | (refine is_bslice ?_; refine KJ_bslice1 rfl xF (by rfl) (by omega) rfl (fun gb => ?_))
    | (refine ek_add ?_; refine EK_ev (Ev_addI_v (r := ((i + 1 : Nat) : Int)) rfl rfl (by omega) (by omega)) ?_)
    | refine xst ?_
    | (refine xsa ?_; intro _)
    | (refine xsb ?_ ?_ <;> intro _ <;> first | (exfalso; omega) | skip)
    | refine xsc ?_
    | (refine KJ_draws (id := 14) (.op 0 (.op 1 (.op 2 (.op 3 (.op 4 (.op 5 (.op 6 (.op 7 (.ef 8 [] (.op 9 .nil)))))))))) (by kernel_rfl) (by kernel_rfl) ?_)
    | refine FW_alt ?_ ?_
    | refine FW_efn rfl rfl rfl rfl rfl ?_ ?_
    | refine KJ_flow ?_ ?_
    | exact Rech.nil
    | fail)
    all_goals refine KJ.rowsPush (x := (a1, c1, l)) rfl xP ?_
    all_goals refine KJ_again ⟨(i + 1, In ++ [(a1, c1, l)], some ⟨g3, 0, none⟩, c3), hlt, hnx a1 c1⟩ (by show ls.length - (i + 1) < ls.length - i; omega) xB (xN)
  have ql : decide ((i : Int) < (ls.length : Nat)) = false := decide_eq_false (by omega)
  rw [List.take_of_length_le (by omega)] at hL
  have hln := lgs_len hL
  have cM := cM In hL
  rw [hln]
  repeat' (first 
    | (refine is_call ?_; first | (refine KJ_call xE cD xP rfl (fun y => ?_); refine hold ?_) | (refine KJ_call xE (cM _ _) xP rfl (fun x => ?_)))
    | (refine ek_lss ?_; refine EK_ev (Ev_lssI_q rfl rfl ql) ?_)
    | refine xst ?_
    | (refine xsa ?_; intro _)
    | (refine xsb ?_ ?_ <;> intro _ <;> first | (exfalso; omega) | skip)
    | refine xsc ?_
    | (refine KJ_draws (id := 14) (.op 0 (.op 1 (.op 2 (.op 3 (.op 4 (.op 5 (.op 6 (.op 7 (.ef 8 [] (.op 9 .nil)))))))))) (by kernel_rfl) (by kernel_rfl) ?_)
    | refine FW_alt ?_ ?_
    | refine FW_efn rfl rfl rfl rfl rfl ?_ ?_
    | refine KJ_flow ?_ ?_
    | exact Rech.nil
    | fail)
  refine Hold.mk ?_
  obtain ⟨m1, m2⟩ := x
  obtain ⟨n1, n2⟩ := y
  dsimp only
  have cF := samelegs_ct (W := W) (lsP legC 55 2 (.slice m1 O.length m2) O) (lsP legC 55 2 (.slice n1 O.length n2) O) m1 n1 m2 n2 O O (Lv.own enc_leg rfl) (Lv.own enc_leg rfl) hOl
  rw [decide_eq_true rfl] at cF
  repeat' (first 
    | refine xst ?_
    | (refine xsa ?_; intro _)
    | (refine xsb ?_ ?_ <;> intro _ <;> first | (exfalso; omega) | skip)
    | refine xsc ?_
    | (refine KJ_draws (id := 14) (.op 0 (.op 1 (.op 2 (.op 3 (.op 4 (.op 5 (.op 6 (.op 7 (.ef 8 [] (.op 9 .nil)))))))))) (by kernel_rfl) (by kernel_rfl) ?_)
    | refine FW_alt ?_ ?_
    | refine FW_efn rfl rfl rfl rfl rfl ?_ ?_
    | refine KJ_flow ?_ ?_
    | exact Rech.nil
    | fail)
  refine KJ_loop (fun z : {i : Nat // i ≤ ls.length} => [(0, .slice a ls.length c), (3, .slice xa ls.length xc), (6, .slice m1 O.length m2), (7, errV F er), (8, .slice n1 O.length n2), (9, .int .i64 ((er : Nat) : Int)), (37, .int .i64 (ls.length : Nat)), (38, .int .i64 (z.1 : Nat))])
    (fun _ => [lsP legC 55 2 (.slice n1 O.length n2) O, lsP legC 55 2 (.slice m1 O.length m2) O, lsP lsC 23 1 (.slice xa ls.length xc) In, rowsP In, noP] ++ R) (fun z => ls.length - z.1) ⟨0, Nat.zero_le _⟩ xB (xN) (fun ⟨j, hj⟩ => ?_)
  dsimp only at hj ⊢
  by_cases hlt : j < ls.length
  · have ql : decide ((j : Int) < (ls.length : Nat)) = true := decide_eq_true (by omega)
    obtain ⟨⟨aj, cj, l⟩, hx⟩ : ∃ s, ls[j]? = some s := ⟨_, List.getElem?_eq_getElem hlt⟩
    obtain ⟨ak, ck, hy⟩ := lgs_get hx hL
    have hLi := hI _ (List.mem_of_getElem? hx)
    have hLo := rows_lv (W := W) (List.mem_of_getElem? hy)
    have hol := hone _ (List.mem_of_getElem? hx)
    dsimp only at hLi hLo hol hy
    have cS := samelegs_ct (W := W) (rowsP In) noP ak aj ck cj l l hLo hLi (by omega)
    rw [decide_eq_true rfl] at cS
    refine KJ.lvSome hT xS (by omega) (fun b0 of hab => ?_)
    subst hab
    refine KJ.lsSome (a := xa) (l := In) xS (by omega) (fun gx hgx => ?_)
    subst hgx
    have o0 : of + Int.toNat (j : Int) * 1 = of + j * 1 + 0 := by simp
    have r0 : 0 + Int.toNat (j : Int) * 1 = j * 1 + 0 := by simp
    have kx : (lsC (aj, cj, l))[0]? = some (.slice aj l.length cj) := rfl
    have ky : (lsC (ak, ck, l))[0]? = some (.slice ak l.length ck) := rfl
    repeat' (first 
    | (refine is_call ?_; refine KJ_call xE cS xP rfl (fun _ => ?_))
    | (refine ek_load ?_; first | refine EK_ev (Ev_loadLsF lsC_ok rfl xS hln.symm r0 hy ky) ?_ | refine EK_ev (Ev_loadLvF lsC_ok hT rfl rfl xS o0 hx kx) ?_)
    | (refine ek_add ?_; refine EK_ev (Ev_addI_v (r := ((j + 1 : Nat) : Int)) rfl rfl (by omega) (by omega)) ?_)
    | (refine ek_lss ?_; refine EK_ev (Ev_lssI_q rfl rfl ql) ?_)
    | refine xst ?_
    | (refine xsa ?_; intro _)
    | (refine xsb ?_ ?_ <;> intro _ <;> first | (exfalso; omega) | skip)
    | refine xsc ?_
    | (refine KJ_draws (id := 14) (.op 0 (.op 1 (.op 2 (.op 3 (.op 4 (.op 5 (.op 6 (.op 7 (.ef 8 [] (.op 9 .nil)))))))))) (by kernel_rfl) (by kernel_rfl) ?_)
    | refine FW_alt ?_ ?_
    | refine FW_efn rfl rfl rfl rfl rfl ?_ ?_
    | refine KJ_flow ?_ ?_
    | exact Rech.nil
    | fail)
    all_goals refine KJ_again ⟨j + 1, hlt⟩ (by show ls.length - (j + 1) < ls.length - j; omega) xB (xN)
  have ql : decide ((j : Int) < (ls.length : Nat)) = false := decide_eq_false (by omega)
  have qe : decide (((er : Nat) : Int) = (er : Nat)) = true := decide_eq_true rfl
  repeat' (first 
    | (refine is_call ?_; first | (refine KJ_call xE cF xP rfl (fun _ => ?_)) | (refine KJ_call xE cn xP rfl (fun _ => ?_)))
    | (refine ek_eql ?_; refine EK_ev (Ev_eqlI_q rfl rfl qe) ?_)
    | (refine ek_lss ?_; refine EK_ev (Ev_lssI_q rfl rfl ql) ?_)
    | refine xst ?_
    | (refine xsa ?_; intro _)
    | (refine xsb ?_ ?_ <;> intro _ <;> first | (exfalso; omega) | skip)
    | refine xsc ?_
    | (refine KJ_draws (id := 14) (.op 0 (.op 1 (.op 2 (.op 3 (.op 4 (.op 5 (.op 6 (.op 7 (.ef 8 [] (.op 9 .nil)))))))))) (by kernel_rfl) (by kernel_rfl) ?_)
    | refine FW_alt ?_ ?_
    | refine FW_efn rfl rfl rfl rfl rfl ?_ ?_
    | refine KJ_flow ?_ ?_
    | exact Rech.nil
    | fail)
  all_goals (exact xdn ())
end
end Go.Proofs.YtdbfemdpdpaffaaGreatDoor
