/-
  SoF.
-/
import Derived.Test.YtmlnegmabfnaaaaBBH
/-
  sort.Slice's own functions, by contract: pdqsort_func.
-/
namespace Go.Proofs.Ytmlnegmabfnaaaa
open Go Go.RowKit Go.Sort
section
variable {W : World} {α : Type} [Inhabited α] {g sf : FuncId} {lb sb : List Value} {lt : α → α → Bool} {n : Nat} {D : Array α → SP} [FnIs Try.prog g]
structure PqS (α : Type) where
  f : Nat
  d : Array α
  a : Nat
  b : Nat
  lim : Nat
  wb : Bool
  wp : Bool
set_option maxHeartbeats 32000000 in
theorem pdq_ct (S : SoOk Try.prog W g sf lb sb lt n D) {LIM : Nat} (hlim : LIM < 4611686018427387904) : ∀ (F : Nat) (d : Array α) (a b limit : Nat), d.size = n → a ≤ b → b ≤ n → b - a < F → limit ≤ LIM →
    Ct Try.prog W 23 [lsV g sf lb sb, .int .i64 (a : Nat), .int .i64 (b : Nat), .int .i64 (limit : Nat)] [D d] (fun _ : Unit => .tuple #[]) (fun _ => [D (pq lt F d a b limit true true)]) := by
  have hn := S.small
  intro F
  induction F using Nat.strongRecOn with
  | _ F ih =>
  intro d a b limit hd hab hb hF hl
  obtain ⟨z, hz⟩ : ∃ z, z = pq lt F d a b limit true true := ⟨_, rfl⟩
  rw [← hz]
  refine Ct.enter Try.func23 rfl Try.ntmps23 (by simp) (fun R => ?_)
  repeat' (first 
    | (refine is_box ?_; refine KJ_box rfl xF rfl (fun gd => ?_))
    | refine xst ?_
    | (refine xsa ?_; intro _)
    | (refine xsb ?_ ?_ <;> intro _ <;> first | (exfalso; omega) | skip)
    | refine xsc ?_
    | fail)
  refine KJ_loop (fun x : {x : PqS α // x.f ≤ F ∧ x.d.size = n ∧ x.a ≤ x.b ∧ x.b ≤ n ∧ x.b - x.a < x.f ∧ x.lim ≤ LIM ∧ pq lt x.f x.d x.a x.b x.lim x.wb x.wp = z} => [(1, .int .i64 (x.1.a : Nat)), (2, .int .i64 (x.1.b : Nat)), (3, .int .i64 (x.1.lim : Nat)), (4, .pointer (some ⟨gd, 0, none⟩)), (8, .bool x.1.wb), (9, .bool x.1.wp)])
    (fun x => [D x.1.d, cellsP gd (lsC g sf lb sb) 70] ++ R) (fun x => x.1.f) ⟨⟨F, d, a, b, limit, true, true⟩, Nat.le_refl _, hd, hab, hb, hF, hl, hz.symm⟩ xB (xN) (fun ⟨⟨f, d, a, b, lim, wb, wp⟩, g1, hd, hab, hb, hF, hl, g2⟩ => ?_)
  dsimp only at g1 hd hab hb hF hl g2 ⊢
  cases f with
  | zero => omega
  | succ f =>
  unfold pq at g2
  by_cases h12 : b - a ≤ 12
  · have q1 : decide (((b - a : Nat) : Int) ≤ 12) = true := decide_eq_true (by omega)
    have c1 := ins_ct S d hd a b hab hb
    rw [if_pos h12] at g2
    rw [g2] at c1
    repeat' (first 
    | (refine is_call ?_; refine KJ_call xE c1 xP rfl (fun _ => ?_))
    | (refine ek_sub ?_; refine EK_ev (Ev_subI_v (r := ((b - a : Nat) : Int)) rfl rfl (by omega) (by omega)) ?_)
    | (refine ek_leq ?_; refine EK_ev (Ev_leqI_q rfl rfl q1) ?_)
    | refine xst ?_
    | (refine xsa ?_; intro _)
    | (refine xsb ?_ ?_ <;> intro _ <;> first | (exfalso; omega) | skip)
    | refine xsc ?_
    | fail)
    all_goals (exact xdn ())
  have q1 : decide (((b - a : Nat) : Int) ≤ 12) = false := decide_eq_false (by omega)
  rw [if_neg h12] at g2
  by_cases h0 : lim = 0
  · have q2 : decide (((lim : Nat) : Int) = 0) = true := decide_eq_true (by omega)
    have c1 := heap_ct S d hd a b hab hb
    rw [if_pos h0] at g2
    rw [g2] at c1
    repeat' (first 
    | (refine is_call ?_; refine KJ_call xE c1 xP rfl (fun _ => ?_))
    | (refine ek_sub ?_; refine EK_ev (Ev_subI_v (r := ((b - a : Nat) : Int)) rfl rfl (by omega) (by omega)) ?_)
    | (refine ek_eql ?_; refine EK_ev (Ev_eqlI_q rfl rfl q2) ?_)
    | (refine ek_leq ?_; refine EK_ev (Ev_leqI_q rfl rfl q1) ?_)
    | refine xst ?_
    | (refine xsa ?_; intro _)
    | (refine xsb ?_ ?_ <;> intro _ <;> first | (exfalso; omega) | skip)
    | refine xsc ?_
    | fail)
    all_goals (exact xdn ())
  have q2 : decide (((lim : Nat) : Int) = 0) = false := decide_eq_false (by omega)
  rw [if_neg h0] at g2
  obtain ⟨lim2, hlim2⟩ : ∃ x, x = if wb = true then lim else lim - 1 := ⟨_, rfl⟩
  have hl2 : lim2 ≤ LIM := by rw [hlim2]; split <;> omega
  rw [← hlim2] at g2
  obtain ⟨d1, hd1⟩ : ∃ x, x = if wb = true then d else breakPatterns d a b := ⟨_, rfl⟩
  have z1 : d1.size = n := by
    rw [hd1]
    cases wb
    · exact (breakPatterns_holds d a b hab (by omega)).1.trans hd
    · exact hd
  obtain ⟨pi, hpi⟩ : ∃ x, x = pqIns lt d a b wb wp := ⟨_, rfl⟩
  have zi : pi.1.size = n := by rw [hpi]; exact (pqIns_size hab (by omega) wb wp).trans hd
  obtain ⟨pv, hpv⟩ : ∃ x, x = pqPiv lt d a b wb := ⟨_, rfl⟩
  rw [← hpi, ← hpv] at g2
  apply KJ_rest (fun K => KJ W 130 K [(1, .int .i64 (a : Nat)), (2, .int .i64 (b : Nat)), (3, .int .i64 (lim2 : Nat)), (4, .pointer (some ⟨gd, 0, none⟩)), (8, .bool wb), (9, .bool wp), (10, .int .i64 (b - a : Nat))] ([D d1, cellsP gd (lsC g sf lb sb) 70] ++ R))
  · intro rest
    rcases (show wb = true ∨ wb = false by cases wb <;> simp) with hwb | hwb
    · refine KJ.asv0 8 rfl (show Value.bool wb = .bool true by rw [hwb]) ?_
      have e1 : d1 = d := by rw [hd1, hwb]; rfl
      have e8' : Value.bool true = .bool wb := by rw [hwb]
      have e3 : Value.int .i64 ((lim : Nat) : Int) = .int .i64 ((lim2 : Nat) : Int) := by rw [hlim2, hwb]; rfl
      repeat' (first 
    | (refine at_seq_region (id := 11) ?_; refine KJ.asv0 8 rfl e8' ?_; refine KJ.asv0 3 rfl e3 ?_; refine KJ.weak rest xB ?_)
    | (refine ek_sub ?_; refine EK_ev (Ev_subI_v (r := ((b - a : Nat) : Int)) rfl rfl (by omega) (by omega)) ?_)
    | (refine ek_eql ?_; refine EK_ev (Ev_eqlI_q rfl rfl q2) ?_)
    | (refine ek_leq ?_; refine EK_ev (Ev_leqI_q rfl rfl q1) ?_)
    | refine xst ?_
    | (refine xsa ?_; intro _)
    | (refine xsb ?_ ?_ <;> intro _ <;> first | (exfalso; omega) | skip)
    | refine xsc ?_
    | fail)
      all_goals (rw [e1]; exact (xN))
    · refine KJ.asv0 8 rfl (show Value.bool wb = .bool false by rw [hwb]) ?_
      have c1 := brk_ct S d hd a b hab hb
      rw [show breakPatterns d a b = d1 by rw [hd1, hwb]; rfl] at c1
      have e8' : Value.bool false = .bool wb := by rw [hwb]
      have e3 : lim2 = lim - 1 := by rw [hlim2, hwb]; rfl
      repeat' (first 
    | (refine at_seq_region (id := 11) ?_; refine KJ.asv0 8 rfl e8' ?_; exact KJ.weak rest xB (xN))
    | (refine is_call ?_; refine KJ_call xE c1 xP rfl (fun _ => ?_))
    | (refine ek_sub ?_; first | refine EK_ev (Ev_subI_v (r := ((lim2 : Nat) : Int)) rfl rfl (by omega) (by omega)) ?_ | refine EK_ev (Ev_subI_v (r := ((b - a : Nat) : Int)) rfl rfl (by omega) (by omega)) ?_)
    | (refine ek_eql ?_; refine EK_ev (Ev_eqlI_q rfl rfl q2) ?_)
    | (refine ek_leq ?_; refine EK_ev (Ev_leqI_q rfl rfl q1) ?_)
    | refine xst ?_
    | (refine xsa ?_; intro _)
    | (refine xsb ?_ ?_ <;> intro _ <;> first | (exfalso; omega) | skip)
    | refine xsc ?_
    | fail)
  have hcp := choosePivot_holds lt d1 a b (by omega)
  have cp := pivot_ct S d1 z1 a b (by omega) hb
  obtain ⟨⟨c1, c2⟩, hc⟩ : ∃ x, x = choosePivot lt d1 a b := ⟨_, rfl⟩
  rw [← hc] at hcp cp
  dsimp only at hcp cp
  obtain ⟨d2, hd2⟩ : ∃ x, x = pqPre lt d a b wb := ⟨_, rfl⟩
  have z2 : d2.size = n := by rw [hd2]; exact (pqPre_size hab (by omega) wb).trans hd
  obtain ⟨hn2, hhn⟩ : ∃ x, x = pqHint lt d a b wb := ⟨_, rfl⟩
  have e2 : d2 = if c2 = .decreasing then reverseRange d1 a b else d1 := by rw [hd2]; unfold pqPre; dsimp only; rw [← hd1, ← hc]
  have ev : pv = if c2 = .decreasing then (b - 1) - (c1 - a) else c1 := by rw [hpv]; unfold pqPiv; dsimp only; rw [← hd1, ← hc]
  have eh : hn2 = if c2 = .decreasing then .increasing else c2 := by rw [hhn]; unfold pqHint; dsimp only; rw [← hd1, ← hc]
  have hpv1 : a ≤ pv ∧ pv < b := by rw [ev]; split <;> omega
  have ei : pi = if wb = true ∧ wp = true ∧ hn2 = .increasing then partialInsertionSort lt d2 a b else (d2, false) := by rw [hpi]; unfold pqIns; rw [← hd2, ← hhn]
  clear hc hd2 hhn hpi hpv hd1
  apply KJ_rest (fun K => KJ W 130 K [(1, .int .i64 (a : Nat)), (2, .int .i64 (b : Nat)), (3, .int .i64 (lim2 : Nat)), (4, .pointer (some ⟨gd, 0, none⟩)), (8, .bool wb), (9, .bool wp), (10, .int .i64 (b - a : Nat)), (11, .int .i64 (pv : Nat)), (12, .int .i64 (hintI hn2))] ([D d2, cellsP gd (lsC g sf lb sb) 70] ++ R))
  · intro rest
    by_cases hdec : c2 = .decreasing
    · have cr := rev_ct S d1 z1 a b (by omega) hb
      rw [if_pos hdec] at e2 ev eh
      rw [← e2] at cr
      have q3 : decide (hintI c2 = 2) = true := by rw [hdec]; rfl
      have e12 : Value.int .i64 1 = .int .i64 (hintI hn2) := by rw [eh]; rfl
      repeat' (first 
    | (refine at_seq_region (id := 16) ?_; refine KJ.asv0 12 rfl e12 ?_; exact KJ.weak rest xB (xN))
    | (refine is_call ?_; first | (refine KJ_call xE cr xP rfl (fun _ => ?_)) | (refine KJ_call xE cp xP rfl (fun _ => ?_)))
    | (refine ek_sub ?_; first | refine EK_ev (Ev_subI_v (r := ((c1 - a : Nat) : Int)) rfl rfl (by omega) (by omega)) ?_ | refine EK_ev (Ev_subI_v (r := ((b - 1 : Nat) : Int)) rfl rfl (by omega) (by omega)) ?_ | refine EK_ev (Ev_subI_v (r := ((pv : Nat) : Int)) rfl rfl (by omega) (by omega)) ?_)
    | (refine ek_eql ?_; refine EK_ev (Ev_eqlI_q rfl rfl q3) ?_)
    | refine xst ?_
    | (refine xsa ?_; intro _)
    | (refine xsb ?_ ?_ <;> intro _ <;> first | (exfalso; omega) | skip)
    | refine xsc ?_
    | fail)
    · rw [if_neg hdec] at e2 ev eh
      have q3 : decide (hintI c2 = 2) = false := by cases c2 <;> first | rfl | exact absurd rfl hdec
      have e11 : Value.int .i64 ((c1 : Nat) : Int) = .int .i64 ((pv : Nat) : Int) := by rw [ev]
      have e12 : Value.int .i64 (hintI c2) = .int .i64 (hintI hn2) := by rw [eh]
      repeat' (first 
    | (refine at_seq_region (id := 16) ?_; refine KJ.asv0 11 rfl e11 ?_; refine KJ.asv0 12 rfl e12 ?_; refine KJ.weak rest xB ?_)
    | (refine is_call ?_; refine KJ_call xE cp xP rfl (fun _ => ?_))
    | (refine ek_eql ?_; refine EK_ev (Ev_eqlI_q rfl rfl q3) ?_)
    | refine xst ?_
    | (refine xsa ?_; intro _)
    | (refine xsb ?_ ?_ <;> intro _ <;> first | (exfalso; omega) | skip)
    | refine xsc ?_
    | fail)
      all_goals (rw [e2]; exact (xN))
  obtain ⟨d3, fin⟩ := pi
  dsimp only at zi g2 ei
  apply KJ_rest (fun K => fin = false → KJ W 130 K [(1, .int .i64 (a : Nat)), (2, .int .i64 (b : Nat)), (3, .int .i64 (lim2 : Nat)), (4, .pointer (some ⟨gd, 0, none⟩)), (8, .bool wb), (9, .bool wp), (10, .int .i64 (b - a : Nat)), (11, .int .i64 (pv : Nat))] ([D d3, cellsP gd (lsC g sf lb sb) 70] ++ R))
  · intro rest
    by_cases hcnd : wb = true ∧ wp = true ∧ hn2 = .increasing
    · have cps := pins_ct S d2 z2 a b (by omega) hb
      rw [if_pos hcnd] at ei
      rw [← ei] at cps
      dsimp only at cps
      have q4 : decide (hintI hn2 = 1) = true := by rw [hcnd.2.2]; rfl
      have e8 : Value.bool wb = .bool true := by rw [hcnd.1]
      have e9 : Value.bool wp = .bool true := by rw [hcnd.2.1]
      cases fin with
      | true =>
        simp only [if_true] at g2
        rw [g2] at cps
        refine KJ.asv0 8 rfl e8 ?_
        refine KJ.asv0 9 rfl e9 ?_
        repeat' (first 
    | (refine is_call ?_; refine KJ_call xE cps xP rfl (fun _ => ?_))
    | (refine ek_eql ?_; refine EK_ev (Ev_eqlI_q rfl rfl q4) ?_)
    | refine xst ?_
    | (refine xsa ?_; intro _)
    | (refine xsb ?_ ?_ <;> intro _ <;> first | (exfalso; omega) | skip)
    | refine xsc ?_
    | fail)
        all_goals (exact xdn ())
      | false =>
        refine KJ.asv0 8 rfl e8 ?_
        refine KJ.asv0 9 rfl e9 ?_
        have e8' : Value.bool true = .bool wb := by rw [hcnd.1]
        have e9' : Value.bool true = .bool wp := by rw [hcnd.2.1]
        repeat' (first 
    | (refine at_seq_region (id := 18) ?_; refine KJ.asv0 8 rfl e8' ?_; refine KJ.asv0 9 rfl e9' ?_; exact KJ.weak (rest rfl) xB (xN))
    | (refine is_call ?_; refine KJ_call xE cps xP rfl (fun _ => ?_))
    | (refine ek_eql ?_; refine EK_ev (Ev_eqlI_q rfl rfl q4) ?_)
    | refine xst ?_
    | (refine xsa ?_; intro _)
    | (refine xsb ?_ ?_ <;> intro _ <;> first | (exfalso; omega) | skip)
    | refine xsc ?_
    | fail)
    · rw [if_neg hcnd] at ei
      have e3 : d3 = d2 := congrArg Prod.fst ei
      have ef : fin = false := congrArg Prod.snd ei
      have rest := rest ef
      rcases (show wb = false ∨ wb = true by cases wb <;> simp) with hwb | hwb
      · refine KJ.asv0 8 rfl (show Value.bool wb = .bool false by rw [hwb]) ?_
        have e8' : Value.bool false = .bool wb := by rw [hwb]
        repeat' (first 
    | (refine at_seq_region (id := 18) ?_; refine KJ.asv0 8 rfl e8' ?_; refine KJ.weak rest xB ?_)
    | refine xst ?_
    | (refine xsa ?_; intro _)
    | (refine xsb ?_ ?_ <;> intro _ <;> first | (exfalso; omega) | skip)
    | refine xsc ?_
    | fail)
        all_goals (rw [e3]; exact (xN))
      · refine KJ.asv0 8 rfl (show Value.bool wb = .bool true by rw [hwb]) ?_
        have e8' : Value.bool true = .bool wb := by rw [hwb]
        rcases (show wp = false ∨ wp = true by cases wp <;> simp) with hwp | hwp
        · refine KJ.asv0 9 rfl (show Value.bool wp = .bool false by rw [hwp]) ?_
          have e9' : Value.bool false = .bool wp := by rw [hwp]
          repeat' (first 
    | (refine at_seq_region (id := 18) ?_; refine KJ.asv0 8 rfl e8' ?_; refine KJ.asv0 9 rfl e9' ?_; refine KJ.weak rest xB ?_)
    | refine xst ?_
    | (refine xsa ?_; intro _)
    | (refine xsb ?_ ?_ <;> intro _ <;> first | (exfalso; omega) | skip)
    | refine xsc ?_
    | fail)
          all_goals (rw [e3]; exact (xN))
        · refine KJ.asv0 9 rfl (show Value.bool wp = .bool true by rw [hwp]) ?_
          have e9' : Value.bool true = .bool wp := by rw [hwp]
          have q4 : decide (hintI hn2 = 1) = false := by
            rw [hwb, hwp] at hcnd
            cases hn2 <;> first | rfl | exact absurd ⟨rfl, rfl, rfl⟩ hcnd
          repeat' (first 
    | (refine at_seq_region (id := 18) ?_; refine KJ.asv0 8 rfl e8' ?_; refine KJ.asv0 9 rfl e9' ?_; refine KJ.weak rest xB ?_)
    | (refine ek_eql ?_; refine EK_ev (Ev_eqlI_q rfl rfl q4) ?_)
    | refine xst ?_
    | (refine xsa ?_; intro _)
    | (refine xsb ?_ ?_ <;> intro _ <;> first | (exfalso; omega) | skip)
    | refine xsc ?_
    | fail)
          all_goals (rw [e3]; exact (xN))
  intro hfin
  rw [hfin] at g2
  simp only [Bool.false_eq_true, if_false] at g2
  clear ei e2 eh ev cp
  by_cases hpe : 0 < a ∧ lt d3[a - 1]! d3[pv]! = false
  · have q5 : decide ((0 : Int) < ((a : Nat) : Int)) = true := decide_eq_true (by omega)
    have cl := S.less d3 zi (a - 1) pv (by omega) (by omega)
    rw [hpe.2] at cl
    rw [if_pos hpe] at g2
    have ce := parteq_ct S d3 zi a b pv (by omega) hb (by omega)
    have hin := parteq_in (lt := lt) d3 pv (a := a) (b := b) (by omega)
    obtain ⟨⟨m, d4⟩, hm⟩ : ∃ x, x = partitionEqual lt d3 a b pv := ⟨_, rfl⟩
    rw [← hm] at ce hin g2
    dsimp only at ce hin g2
    clear hm
    repeat' (first 
    | (refine is_call ?_; refine KJ_call xE ce xP rfl (fun _ => ?_))
    | (refine is_callV ?_; refine KJ_less rfl rfl rfl cl xP rfl (fun _ => ?_))
    | (refine ek_sub ?_; refine EK_ev (Ev_subI_v (r := ((a - 1 : Nat) : Int)) rfl rfl (by omega) (by omega)) ?_)
    | (refine ek_gtr ?_; refine EK_ev (Ev_gtrI_q rfl rfl q5) ?_)
    | refine xst ?_
    | (refine xsa ?_; intro _)
    | (refine xsb ?_ ?_ <;> intro _ <;> first | (exfalso; omega) | skip)
    | refine xsc ?_
    | fail)
    refine KJ_again ⟨⟨f, d4, m, b, lim2, wb, wp⟩, by dsimp only; omega, hin.2.2.trans zi, hin.2.1, hb, by dsimp only; omega, hl2, g2⟩ (by dsimp only; omega) xB (xN)
  rw [if_neg hpe] at g2
  have cpt := part_ct S d3 zi a b pv (by omega) hb (by omega)
  have hin := part_in (lt := lt) d3 pv (a := a) (b := b) (by omega)
  obtain ⟨⟨m, al, d4⟩, hm⟩ : ∃ x, x = partition lt d3 a b pv := ⟨_, rfl⟩
  rw [← hm] at cpt hin g2
  dsimp only at cpt hin g2
  clear hm
  have z4 : d4.size = n := hin.2.2.trans zi
  apply KJ_rest (fun K => KJ W 130 K [(1, .int .i64 (a : Nat)), (2, .int .i64 (b : Nat)), (3, .int .i64 (lim2 : Nat)), (4, .pointer (some ⟨gd, 0, none⟩)), (8, .bool wb), (9, .bool wp), (10, .int .i64 (b - a : Nat)), (11, .int .i64 (pv : Nat))] ([D d3, cellsP gd (lsC g sf lb sb) 70] ++ R))
  · intro rest
    by_cases ha0 : 0 < a
    · have q5 : decide ((0 : Int) < ((a : Nat) : Int)) = true := decide_eq_true (by omega)
      have cl := S.less d3 zi (a - 1) pv (by omega) (by omega)
      have hlt : lt d3[a - 1]! d3[pv]! = true := by
        cases h : lt d3[a - 1]! d3[pv]! with
        | true => rfl
        | false => exact absurd ⟨ha0, h⟩ hpe
      rw [hlt] at cl
      repeat' (first 
    | (refine at_seq_region (id := 21) ?_; exact KJ.weak rest xB (xN))
    | (refine is_callV ?_; refine KJ_less rfl rfl rfl cl xP rfl (fun _ => ?_))
    | (refine ek_sub ?_; refine EK_ev (Ev_subI_v (r := ((a - 1 : Nat) : Int)) rfl rfl (by omega) (by omega)) ?_)
    | (refine ek_gtr ?_; refine EK_ev (Ev_gtrI_q rfl rfl q5) ?_)
    | refine xst ?_
    | (refine xsa ?_; intro _)
    | (refine xsb ?_ ?_ <;> intro _ <;> first | (exfalso; omega) | skip)
    | refine xsc ?_
    | fail)
    · have q5 : decide ((0 : Int) < ((a : Nat) : Int)) = false := decide_eq_false (by omega)
      repeat' (first 
    | (refine at_seq_region (id := 21) ?_; exact KJ.weak rest xB (xN))
    | (refine ek_gtr ?_; refine EK_ev (Ev_gtrI_q rfl rfl q5) ?_)
    | refine xst ?_
    | (refine xsa ?_; intro _)
    | (refine xsb ?_ ?_ <;> intro _ <;> first | (exfalso; omega) | skip)
    | refine xsc ?_
    | fail)
  have w8 : ((b - a : Nat) : Int) / 8 = (((b - a) / 8 : Nat) : Int) := by omega
  by_cases hlr : m - a < b - m
  · rw [if_pos hlr] at g2
    have q6 : decide (((m - a : Nat) : Int) < ((b - m : Nat) : Int)) = true := decide_eq_true (by omega)
    have q7 : decide ((((b - a) / 8 : Nat) : Int) ≤ ((m - a : Nat) : Int)) = decide ((b - a) / 8 ≤ m - a) := by simp only [Int.ofNat_le]
    have cr := ih f (by omega) d4 a m lim2 z4 hin.1 (by omega) (by omega) hl2
    have zr := pq_size (lt := lt) f d4 a m lim2 true true hin.1 (by omega)
    obtain ⟨d5, hd5⟩ : ∃ x, x = pq lt f d4 a m lim2 true true := ⟨_, rfl⟩
    rw [← hd5] at cr zr g2
    clear hd5
    repeat' (first 
    | (refine is_call ?_; first | (refine KJ_call xE cr xP rfl (fun _ => ?_)) | (refine KJ_call xE cpt xP rfl (fun _ => ?_)))
    | (refine ek_add ?_; refine EK_ev (Ev_addI_v (r := ((m + 1 : Nat) : Int)) rfl rfl (by omega) (by omega)) ?_)
    | (refine ek_sub ?_; first | refine EK_ev (Ev_subI_v (r := ((b - m : Nat) : Int)) rfl rfl (by omega) (by omega)) ?_ | refine EK_ev (Ev_subI_v (r := ((m - a : Nat) : Int)) rfl rfl (by omega) (by omega)) ?_)
    | (refine ek_quo ?_; refine EK_ev (Ev_quo_w rfl rfl (by omega) w8) ?_)
    | (refine ek_lss ?_; refine EK_ev (Ev_lssI_q rfl rfl q6) ?_)
    | (refine ek_geq ?_; refine EK_ev (Ev_geqI_q rfl rfl q7) ?_)
    | refine xst ?_
    | (refine xsa ?_; intro _)
    | (refine xsb ?_ ?_ <;> intro _ <;> first | (exfalso; omega) | skip)
    | refine xsc ?_
    | fail)
    refine KJ_again ⟨⟨f, d5, m + 1, b, lim2, _, al⟩, by dsimp only; omega, zr.trans z4, by dsimp only; omega, hb, by dsimp only; omega, hl2, g2⟩ (by dsimp only; omega) xB (xN)
  · rw [if_neg hlr] at g2
    have q6 : decide (((m - a : Nat) : Int) < ((b - m : Nat) : Int)) = false := decide_eq_false (by omega)
    have q7 : decide ((((b - a) / 8 : Nat) : Int) ≤ ((b - m : Nat) : Int)) = decide ((b - a) / 8 ≤ b - m) := by simp only [Int.ofNat_le]
    have cr := ih f (by omega) d4 (m + 1) b lim2 z4 (by omega) hb (by omega) hl2
    have zr := pq_size (lt := lt) f d4 (m + 1) b lim2 true true (by omega) (by omega)
    obtain ⟨d5, hd5⟩ : ∃ x, x = pq lt f d4 (m + 1) b lim2 true true := ⟨_, rfl⟩
    rw [← hd5] at cr zr g2
    clear hd5
    repeat' (first 
    | (refine is_call ?_; first | (refine KJ_call xE cr xP rfl (fun _ => ?_)) | (refine KJ_call xE cpt xP rfl (fun _ => ?_)))
    | (refine ek_add ?_; refine EK_ev (Ev_addI_v (r := ((m + 1 : Nat) : Int)) rfl rfl (by omega) (by omega)) ?_)
    | (refine ek_sub ?_; first | refine EK_ev (Ev_subI_v (r := ((b - m : Nat) : Int)) rfl rfl (by omega) (by omega)) ?_ | refine EK_ev (Ev_subI_v (r := ((m - a : Nat) : Int)) rfl rfl (by omega) (by omega)) ?_)
    | (refine ek_quo ?_; refine EK_ev (Ev_quo_w rfl rfl (by omega) w8) ?_)
    | (refine ek_lss ?_; refine EK_ev (Ev_lssI_q rfl rfl q6) ?_)
    | (refine ek_geq ?_; refine EK_ev (Ev_geqI_q rfl rfl q7) ?_)
    | refine xst ?_
    | (refine xsa ?_; intro _)
    | (refine xsb ?_ ?_ <;> intro _ <;> first | (exfalso; omega) | skip)
    | refine xsc ?_
    | fail)
    refine KJ_again ⟨⟨f, d5, a, m, lim2, _, al⟩, by dsimp only; omega, zr.trans z4, hin.1, by dsimp only; omega, by dsimp only; omega, hl2, g2⟩ (by dsimp only; omega) xB (xN)
end
end Go.Proofs.Ytmlnegmabfnaaaa
