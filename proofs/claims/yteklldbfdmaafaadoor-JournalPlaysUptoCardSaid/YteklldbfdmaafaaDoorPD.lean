/-
  JLe3, JLe4, Rng, JEa, Rdk, Rdk2, Rdk3, Fatep, Rdk4, Rdk5, Crq, Ref7p, Ref7, Ref7b, JRf2, JRf3, JRf4.
-/
import Derived.RangeFuncIn
import Derived.Test.YteklldbfdmaafaaDoorPC
/-
  A journal's life: the state, step by step, as plain data.
-/
namespace Go.Proofs.YteklldbfdmaafaaDoor
open Go Go.RowKit
structure JL (N at_ n v : Nat) (lf : Int) (rs : List (List UInt8)) (sy : Nat) (D : Dsk) : Prop where
  ok : D.ok
  n40 : D.n = N
  life : D.life = lf
  fit : (rs.flatMap pcsJ).length ≤ n
  small : ∀ r ∈ rs, r.length ≤ 3000
  syl : sy ≤ rs.length
  whole : ∀ j p, ((rs.take sy).flatMap pcsJ)[j]? = some p → D.sec (at_ + j) = sealB (stampN v j : Nat) p
  old : ∀ j, ((rs.take sy).flatMap pcsJ).length ≤ j → j < n → getB ((D.sec (at_ + j)).drop 248) 8 < (stampN v j : Nat)
  und : ∃ m, D.und = (wsJ at_ v ((rs.take sy).flatMap pcsJ).length ((rs.drop sy).flatMap pcsJ)).take m ∧ (D.off = false → ((rs.drop sy).flatMap pcsJ).length ≤ m)
section
variable {N at_ n v : Nat} {lf : Int} {rs : List (List UInt8)} {sy : Nat} {D : Dsk}
theorem JL.split (rs : List (List UInt8)) (sy : Nat) : rs.flatMap pcsJ = (rs.take sy).flatMap pcsJ ++ (rs.drop sy).flatMap pcsJ := by rw [← List.flatMap_append, List.take_append_drop]
theorem JL.seen (h : JL N at_ n v lf rs sy D) (hv : v ≤ 1099511627776) (hat : at_ + n ≤ N) (hn : n ≤ 60) (dn : Nat → Nat) (hd : ∀ k, dn k ≤ 256) :
    Seen at_ n v rs sy (fun i => cut (layAll D.img (cutP dn D.und 0)) (i * 256) 256) ∧ ((∀ k, dn k = 256) → D.off = false → ∀ j p, (rs.flatMap pcsJ)[j]? = some p → cut (layAll D.img (cutP dn D.und 0)) ((at_ + j) * 256) 256 = sealB (stampN v j : Nat) p) ∧
    (∀ j, (rs.flatMap pcsJ).length ≤ j → j < n → cut (layAll D.img (cutP dn D.und 0)) ((at_ + j) * 256) 256 = D.sec (at_ + j)) := by
  obtain ⟨m, hu, hm⟩ := h.und
  have hlen := h.ok.len
  rw [h.n40] at hlen
  have hfit := h.fit
  have hsp := JL.split rs sy
  have hple := pcs_le_all rs
  have hwhole := h.whole
  have hold := h.old
  obtain ⟨T, hT⟩ : ∃ T, T = (rs.take sy).flatMap pcsJ := ⟨_, rfl⟩
  obtain ⟨F, hF⟩ : ∃ F, F = (rs.drop sy).flatMap pcsJ := ⟨_, rfl⟩
  obtain ⟨G, hG⟩ : ∃ G, G = rs.flatMap pcsJ := ⟨_, rfl⟩
  rw [← hT, ← hF] at hu
  rw [← hF] at hm
  rw [← hT, ← hF, ← hG] at hsp
  rw [← hG] at hfit hple
  rw [← hT] at hwhole hold
  have hGl : G.length = T.length + F.length := by rw [hsp, List.length_append]
  have hFle : ∀ p ∈ F, p.length ≤ 234 := fun p hp => hple p (by rw [hsp]; simp [hp])
  rw [hu]
  have hsl : ∀ j, j < n → (D.sec (at_ + j)).length = 256 := fun j hj => cut_length _ _ _ (by omega)
  have hoff : ∀ j, j < T.length ∨ G.length ≤ j → cut (layAll D.img (cutP dn ((wsJ at_ v T.length F).take m) 0)) ((at_ + j) * 256) 256 = D.sec (at_ + j) := fun j hj =>
    torn_ws_off at_ v N dn F T.length m 0 (at_ + j) D.img hlen (by omega) hFle (by omega)
  have hin : ∀ j p, G[j]? = some p → T.length ≤ j → ∃ d, d ≤ 256 ∧ cut (layAll D.img (cutP dn ((wsJ at_ v T.length F).take m) 0)) ((at_ + j) * 256) 256 = tornB (sealB (stampN v j : Nat) p) (D.sec (at_ + j)) d ∧ ((∀ k, dn k = 256) → F.length ≤ m → d = 256) := fun j p hj hTj => by
    rw [hsp, List.getElem?_append_right hTj] at hj
    have := torn_ws at_ v N dn hd F T.length m 0 D.img hlen (by omega) hFle (j - T.length) p hj
    rw [show at_ + T.length + (j - T.length) = at_ + j by omega, show T.length + (j - T.length) = j by omega] at this
    exact this
  have htorn : ∀ j p d, G[j]? = some p → T.length ≤ j → d ≤ 256 → getB ((tornB (sealB (stampN v j : Nat) p) (D.sec (at_ + j)) d).drop 248) 8 ≤ (stampN v j : Nat) ∧ (tornB (sealB (stampN v j : Nat) p) (D.sec (at_ + j)) d = sealB (stampN v j : Nat) p ∨ openS (stampN v j : Nat) (tornB (sealB (stampN v j : Nat) p) (D.sec (at_ + j)) d) = none) := fun j p d hj hTj hd2 => by
    have hjl := (List.getElem?_eq_some_iff.1 hj).1
    have ho := hold j hTj (by omega)
    have hst : 1 ≤ stampN v j := by unfold stampN; omega
    exact torn_tail (t := stampN v j - 1) (stamp_lt hv (by omega)) (by omega) (hple p (List.mem_of_getElem? hj)) (hsl j (by omega)) hd2 (by omega)
  have hTG : ∀ j p, T[j]? = some p → G[j]? = some p := fun j p hj => by rw [hsp, List.getElem?_append_left (List.getElem?_eq_some_iff.1 hj).1]; exact hj
  refine ⟨⟨fun j p hj => ?_, fun j p hj => ?_, fun j hj1 hj2 => ?_, fun j hj => ?_⟩, fun h256 hon j p hj => ?_, fun j hj1 hj2 => ?_⟩
  · rw [← hG] at hj
    rcases Nat.lt_or_ge j T.length with hlt | hge
    · left
      rw [hoff j (.inl hlt)]
      exact hwhole j p (by rw [hsp, List.getElem?_append_left hlt] at hj; exact hj)
    · obtain ⟨d, d1, d2, d3⟩ := hin j p hj hge
      rw [d2]
      exact (htorn j p d hj hge d1).2
  · rw [← hT] at hj
    rw [hoff j (.inl (List.getElem?_eq_some_iff.1 hj).1)]
    exact hwhole j p hj
  · rw [← hG] at hj1
    rw [hoff j (.inr hj1)]
    exact openS_tail (stamp_lt hv (by omega)) (hold j (by omega) hj2)
  · rcases Nat.lt_or_ge j T.length with hlt | hge
    · rw [hoff j (.inl hlt)]
      have hp : T[j]? = some T[j] := List.getElem?_eq_getElem hlt
      rw [hwhole j _ hp, seal_getT (stampN v j) _ (hple _ (List.mem_of_getElem? (hTG j _ hp))) (stamp_lt hv (by omega))]
      omega
    · rcases Nat.lt_or_ge j G.length with hlt2 | hge2
      · have hp : G[j]? = some G[j] := List.getElem?_eq_getElem hlt2
        obtain ⟨d, d1, d2, d3⟩ := hin j _ hp hge
        rw [d2]
        exact (htorn j _ d hp hge d1).1
      · rw [hoff j (.inr hge2)]
        have := hold j hge hj
        omega
  · rw [← hG] at hj
    rcases Nat.lt_or_ge j T.length with hlt | hge
    · rw [hoff j (.inl hlt)]
      exact hwhole j p (by rw [hsp, List.getElem?_append_left hlt] at hj; exact hj)
    · obtain ⟨d, d1, d2, d3⟩ := hin j p hj hge
      have hjl := (List.getElem?_eq_some_iff.1 hj).1
      rw [d2, d3 h256 (hm hon), torn_full _ _ (sealB_length _ _ (hple p (List.mem_of_getElem? hj))) (hsl j (by omega))]
  · rw [← hG] at hj1
    exact hoff j (.inr hj1)
theorem JL.und_in (h : JL N at_ n v lf rs sy D) (hat : at_ + n ≤ N) (hn : n ≤ 60) : (∀ x ∈ D.und, x.1 < N ∧ x.2.length = 256) ∧ D.und.length ≤ 60 := by
  obtain ⟨m, hu, hm⟩ := h.und
  have hfit := h.fit
  have hsp := congrArg List.length (JL.split rs sy)
  rw [List.length_append] at hsp
  rw [hu]
  refine ⟨fun x hx => ?_, by rw [List.length_take, wsJ_length]; omega⟩
  obtain ⟨h1, h2, h3⟩ := wsJ_in at_ v _ _ (fun p hp => pcs_le_all (rs.drop sy) p hp) x (List.mem_of_mem_take hx)
  exact ⟨by omega, h3⟩
theorem JL.full (h : JL N at_ n v lf rs sy D) (hat : at_ + n ≤ N) (hn : n ≤ 60) : cutP (fun _ => 256) D.und 0 = D.und := cutP_full _ (fun _ => rfl) _ _ (fun x hx => ((h.und_in hat hn).1 x hx).2)
theorem JL.start (hok : D.ok) (hn : D.n = N) (hu : D.und = []) (ht : ∀ j, j < n → getB ((D.sec (at_ + j)).drop 248) 8 < (stampN v j : Nat)) : JL N at_ n v D.life [] 0 D :=
  ⟨hok, hn, rfl, by simp, fun r hr => by simp at hr, Nat.le_refl _, fun j p hj => by simp at hj, fun j _ hj => ht j hj, ⟨0, by rw [hu]; rfl, fun _ => Nat.le_refl _⟩⟩
/-- what stands there now -/
theorem JL.now (h : JL N at_ n v lf rs sy D) (ho : D.off = false) (hv : 1 ≤ v ∧ v ≤ 1099511627776) (hat : at_ + n ≤ N) (hn : n ≤ 60) : rpGo D at_ (n : Nat) v (((n : Nat) : Int).toNat + 1) 0 [] = rs := by
  obtain ⟨s1, s2, s3⟩ := h.seen hv.2 hat hn (fun _ => 256) (fun _ => Nat.le_refl _)
  obtain ⟨m, m1, m2, m3, m4⟩ := seen_read (D := D) s1 hv hn h.fit h.small h.syl (fun j hj => by
    have hhas : D.has ((at_ + j : Nat) : Int) = true := by unfold Dsk.has; exact decide_eq_true (by rw [h.n40]; omega)
    have hE : D.readE ((at_ + j : Nat) : Int) = 0 := by unfold Dsk.readE; rw [ho, hhas]; rfl
    have hS : D.readS ((at_ + j : Nat) : Int) = D.rd (at_ + j) := by unfold Dsk.readS; rw [ho, hhas]; rfl
    have hl := h.ok.len
    rw [h.n40] at hl
    refine ⟨hE, ?_⟩
    show D.readS ((at_ + j : Nat) : Int) = _
    rw [hS, h.full hat hn]
    exact rd_lay D.img N (at_ + j) (by omega) hl D.und (h.und_in hat hn).1)
  rw [m3, m4 (s2 (fun _ => rfl) ho)]
  exact List.take_length
/-- a record more -/
theorem JL.append (h : JL N at_ n v lf rs sy D) (ho : D.off = false) (hat : at_ + n ≤ N) (_ : n ≤ 60) (r : List UInt8) (hr : r.length ≤ 3000) (hfit : (rs.flatMap pcsJ).length + (pcsJ r).length ≤ n) :
    JL N at_ n v lf (rs ++ [r]) sy (apGo at_ v (rs.flatMap pcsJ).length (pcsJ r) 0 D).2 ∧ (apGo at_ v (rs.flatMap pcsJ).length (pcsJ r) 0 D).2.off = !(apGo at_ v (rs.flatMap pcsJ).length (pcsJ r) 0 D).1 := by
  obtain ⟨w1, w2, w3, w4, w5⟩ := ap_ways at_ v (rs.flatMap pcsJ).length (pcsJ r) 0 D ho h.ok (pcsJ_le r) (by rw [h.n40]; omega)
  obtain ⟨m, hu, hm⟩ := h.und
  have hm := hm ho
  have hsp := congrArg List.length (JL.split rs sy)
  rw [List.length_append] at hsp
  have htk : (rs ++ [r]).take sy = rs.take sy := List.take_append_of_le_length h.syl
  have hdr : ((rs ++ [r]).drop sy).flatMap pcsJ = (rs.drop sy).flatMap pcsJ ++ pcsJ r := by
    rw [List.drop_append_of_le_length h.syl, List.flatMap_append]
    simp
  rw [List.take_of_length_le (by rw [wsJ_length]; exact hm)] at hu
  have hws : wsJ at_ v ((rs.take sy).flatMap pcsJ).length ((rs.drop sy).flatMap pcsJ ++ pcsJ r) = D.und ++ wsJ at_ v (rs.flatMap pcsJ).length (pcsJ r) := by rw [wsJ_app, ← hu, ← hsp]
  have hul : D.und.length = ((rs.drop sy).flatMap pcsJ).length := by rw [hu, wsJ_length]
  obtain ⟨A, hA⟩ : ∃ A, A = apGo at_ v (rs.flatMap pcsJ).length (pcsJ r) 0 D := ⟨_, rfl⟩
  rw [← hA] at w1 w2 w3 w4 w5 ⊢
  rw [Nat.add_zero] at w1
  have hsec : ∀ i, A.2.sec i = D.sec i := fun i => by unfold Dsk.sec; rw [w2]
  refine ⟨⟨w4, by rw [w3, h.n40], by rw [w5, h.life], by rw [List.flatMap_append, List.length_append]; simpa using hfit, fun x hx => ?_, by rw [List.length_append]; have := h.syl; omega, fun j p hj => ?_, fun j hj1 hj2 => ?_, ?_⟩, ?_⟩
  · rcases List.mem_append.1 hx with hx | hx
    · exact h.small x hx
    · simp at hx; rw [hx]; exact hr
  · rw [htk] at hj
    rw [hsec]
    exact h.whole j p hj
  · rw [htk] at hj1
    rw [hsec]
    exact h.old j hj1 hj2
  · rw [htk, hdr, hws]
    rcases w1 with ⟨_, b, c⟩ | ⟨_, b, k, c⟩
    · refine ⟨D.und.length + (pcsJ r).length, ?_, fun _ => by rw [List.length_append, hul]; omega⟩
      rw [List.take_of_length_le (by rw [List.length_append, wsJ_length]; omega)]
      exact c
    · refine ⟨D.und.length + k, ?_, fun q => by rw [b] at q; cases q⟩
      rw [List.take_append, List.take_of_length_le (by omega), Nat.add_sub_cancel_left]
      exact c
  · rcases w1 with ⟨a, b, c⟩ | ⟨a, b, k, c⟩
    · rw [a, b]; rfl
    · rw [a, b]; rfl
/-- the crash: some first ones, the synced ones among them; the tails tell no later stamp; a later version tells nothing -/
theorem JL.crash (h : JL N at_ n v lf rs sy D) (hv : 1 ≤ v ∧ v + 1 ≤ 1099511627776) (hat : at_ + n ≤ N) (hn : n ≤ 60) (kept : List Bool) (torn bytes : Int) :
    (∃ m, sy ≤ m ∧ m ≤ rs.length ∧ rpGo (D.crash kept torn bytes) at_ (n : Nat) v (((n : Nat) : Int).toNat + 1) 0 [] = rs.take m) ∧ (∀ j, j < n → getB (((D.crash kept torn bytes).sec (at_ + j)).drop 248) 8 ≤ (stampN v j : Nat)) ∧
    rpGo (D.crash kept torn bytes) at_ (n : Nat) (v + 1) (((n : Nat) : Int).toNat + 1) 0 [] = [] ∧ (D.crash kept torn bytes).ok ∧ (D.crash kept torn bytes).n = N := by
  obtain ⟨s1, -, -⟩ := h.seen (by omega) hat hn (done kept torn bytes) (doneK_le kept torn bytes)
  have hsec : ∀ i, (D.crash kept torn bytes).sec i = cut (layAll D.img (cutP (done kept torn bytes) D.und 0)) (i * 256) 256 := fun i => by
    unfold Dsk.sec
    show cut (layDone _ _ _ _ _) _ _ = _
    rw [layDone_eq]
  have hok := Dsk.crash_ok h.ok kept torn bytes
  have hn40 : (D.crash kept torn bytes).n = N := h.n40
  have hcl : (D.crash kept torn bytes).off = false ∧ (D.crash kept torn bytes).und = [] := ⟨rfl, rfl⟩
  obtain ⟨D2, hD2⟩ : ∃ D2, D2 = D.crash kept torn bytes := ⟨_, rfl⟩
  rw [← hD2] at hok hn40 hcl ⊢
  simp only [← hD2] at hsec
  clear hD2
  have hrd : ∀ j, j < n → D2.readE ((at_ : Int) + (j : Nat)) = 0 ∧ D2.readS ((at_ : Int) + (j : Nat)) = D2.sec (at_ + j) := fun j hj => by
    have hhas : D2.has ((at_ + j : Nat) : Int) = true := by unfold Dsk.has; exact decide_eq_true (by rw [hn40]; omega)
    refine ⟨?_, ?_⟩
    · show D2.readE ((at_ + j : Nat) : Int) = 0
      unfold Dsk.readE; rw [hcl.1, hhas]; rfl
    · show D2.readS ((at_ + j : Nat) : Int) = _
      unfold Dsk.readS Dsk.rd; rw [hcl.1, hhas, hcl.2]; rfl
  refine ⟨?_, fun j hj => by rw [hsec]; exact s1.tails j hj, ?_, hok, hn40⟩
  · obtain ⟨m, m1, m2, m3, -⟩ := seen_read (D := D2) s1 ⟨hv.1, by omega⟩ hn h.fit h.small h.syl (fun j hj => by
      obtain ⟨a, b⟩ := hrd j hj
      exact ⟨a, by rw [b, hsec]⟩)
    exact ⟨m, m1, m2, m3⟩
  · have hp : payO D2 at_ (n : Nat) (v + 1) 0 = none := by
      unfold payO
      by_cases h0 : n = 0
      · rw [if_pos (by omega)]
      · rw [if_neg (by omega)]
        obtain ⟨a, b⟩ := hrd 0 (by omega)
        rw [a, if_neg (by simp), b, hsec]
        have ht := s1.tails 0 (by omega)
        exact openS_tail (stamp_lt (by omega) (by omega)) (by unfold stampN at ht ⊢; omega)
    have hr := recO_none (i := 0) hp
    show (match recO D2 at_ (n : Nat) (v + 1) 0 with | none => [] | some (s, u) => rpGo D2 at_ (n : Nat) (v + 1) ((n : Nat) : Int).toNat (0 + u.toNat) ([] ++ [s])) = []
    rw [hr]
end
end Go.Proofs.YteklldbfdmaafaaDoor
/-
  Sync, Append to a dead journal, the law's record for every fill, same: contracts.
-/
namespace Go.Proofs.YteklldbfdmaafaaDoor
open Go Go.RowKit
section
variable {P : Program} {W : World} {n : Nat} {k : KK} {E : Env} {H R : List SP} {x z : Operand} {t e : TypeId}
theorem KJ.row_shapeJ {v : Value} {e size m : Nat} {xs : List Value} (hsel : Sel (rowP v e size m xs) H R) (hm : 0 < m) (h : ∀ g c, v = .slice (some ⟨g, 0, none⟩) m c → KJ W n k E H) : KJ W n k E H :=
  ⟨fun a w p s => by
    rcases (s.left.row hsel).2 with ⟨_, q⟩ | ⟨g, c, _, q, _⟩
    · omega
    · exact (h g c q).go a w p s⟩
end
section
variable {W : World} {E : Nat → Addr} {p g : Nat} {D : Dsk}
theorem sync_ct (hE : ErrsOn L8 W E) (at_ n ver used life : Int) (hdn : downB D life false = false) (hul : D.und.length < 1073741823) : Ct Tryd.prog W 106 [.pointer (some ⟨g, 0, none⟩)] [DiskP p D, cellsP g [.pointer (some ⟨p, 0, none⟩), .int .i64 at_, .int .i64 n, .int .i64 ver, .int .i64 used, .int .i64 life, .bool false] 165] (fun _ : Unit => errV E (if D.flushE = 0 then 0 else 12)) (fun _ => [DiskP p D.flushD, cellsP g [.pointer (some ⟨p, 0, none⟩), .int .i64 at_, .int .i64 n, .int .i64 ver, .int .i64 used, .int .i64 life, .bool (decide (D.flushE ≠ 0))] 165]) := by
  have e12 : W.cell? ⟨2, 0, none⟩ = some (errV E 12) := hE.at_ 12 (by decide)
  have c1 := down_ct (W := W) (p := p) (g := g) (D := D) at_ n ver used life false
  rw [hdn] at c1
  have c2 := flush_ct (W := W) (p := p) (D := D) hE (by omega)
  obtain ⟨D1, hD1⟩ : ∃ D1, D1 = D.flushD := ⟨_, rfl⟩
  obtain ⟨e, he⟩ : ∃ e, e = D.flushE := ⟨_, rfl⟩
  rw [← hD1, ← he]
  rw [← hD1, ← he] at c2
  clear hD1 he
  by_cases hz : e = 0
  · subst hz
    have c2' : Ct Tryd.prog W 24 [.pointer (some ⟨p, 0, none⟩)] [DiskP p D] (fun _ : Unit => .nilIface) (fun _ => [DiskP p D1]) := c2
    refine Ct.enter Tryd.func106 rfl Tryd.ntmps106 (by simp) (fun R => ?_)
    repeat' (first 
    | (refine is_call ?_; first | (refine KJ_call xE c2' xP rfl (fun _ => ?_)) | (refine KJ_call xE c1 xP rfl (fun _ => ?_)))
    | refine xst ?_
    | (refine xsa ?_; intro _)
    | (refine xsb ?_ ?_ <;> intro _ <;> first | (exfalso; omega) | skip)
    | refine xsc ?_
    | fail)
    all_goals (exact xdn ())
  · obtain ⟨ea, hea⟩ := errV_ne (E := E) hz
    rw [hea] at c2
    rw [if_neg hz, decide_eq_true (show e ≠ 0 from hz)]
    refine Ct.enter Tryd.func106 rfl Tryd.ntmps106 (by simp) (fun R => ?_)
    repeat' (first 
    | (refine is_call ?_; first | (refine KJ_call xE c2 xP rfl (fun _ => ?_)) | (refine KJ_call xE c1 xP rfl (fun _ => ?_)))
    | (refine ek_load ?_; refine EK_ev (Ev_loadOld rfl e12) ?_)
    | refine xst ?_
    | (refine xsa ?_; intro _)
    | (refine xsb ?_ ?_ <;> intro _ <;> first | (exfalso; omega) | skip)
    | refine xsc ?_
    | fail)
    all_goals (exact xdn ())
theorem sync_down (hE : ErrsOn L8 W E) (at_ n ver used life : Int) (dead : Bool) (hdn : downB D life dead = true) : Ct Tryd.prog W 106 [.pointer (some ⟨g, 0, none⟩)] [DiskP p D, cellsP g [.pointer (some ⟨p, 0, none⟩), .int .i64 at_, .int .i64 n, .int .i64 ver, .int .i64 used, .int .i64 life, .bool dead] 165] (fun _ : Unit => errV E 12) (fun _ => [DiskP p D, cellsP g [.pointer (some ⟨p, 0, none⟩), .int .i64 at_, .int .i64 n, .int .i64 ver, .int .i64 used, .int .i64 life, .bool true] 165]) := by
  have e12 : W.cell? ⟨2, 0, none⟩ = some (errV E 12) := hE.at_ 12 (by decide)
  have c1 := down_ct (W := W) (p := p) (g := g) (D := D) at_ n ver used life dead
  rw [hdn] at c1
  refine Ct.enter Tryd.func106 rfl Tryd.ntmps106 (by simp) (fun R => ?_)
  repeat' (first 
    | (refine is_call ?_; refine KJ_call xE c1 xP rfl (fun _ => ?_))
    | (refine ek_load ?_; refine EK_ev (Ev_loadOld rfl e12) ?_)
    | refine xst ?_
    | (refine xsa ?_; intro _)
    | (refine xsb ?_ ?_ <;> intro _ <;> first | (exfalso; omega) | skip)
    | refine xsc ?_
    | fail)
  all_goals (exact xdn ())
theorem append_down (hE : ErrsOn L8 W E) (at_ n ver used life : Int) (dead : Bool) (r : List UInt8) (hdn : downB D life dead = true) : Ct Tryd.prog W 67 [.pointer (some ⟨g, 0, none⟩), strV r] [DiskP p D, cellsP g [.pointer (some ⟨p, 0, none⟩), .int .i64 at_, .int .i64 n, .int .i64 ver, .int .i64 used, .int .i64 life, .bool dead] 165] (fun _ : Unit => errV E 12) (fun _ => [DiskP p D, cellsP g [.pointer (some ⟨p, 0, none⟩), .int .i64 at_, .int .i64 n, .int .i64 ver, .int .i64 used, .int .i64 life, .bool true] 165]) := by
  have e12 : W.cell? ⟨2, 0, none⟩ = some (errV E 12) := hE.at_ 12 (by decide)
  have c1 := down_ct (W := W) (p := p) (g := g) (D := D) at_ n ver used life dead
  rw [hdn] at c1
  refine Ct.enter Tryd.func67 rfl Tryd.ntmps67 (by simp) (fun R => ?_)
  repeat' (first 
    | (refine is_call ?_; refine KJ_call xE c1 xP rfl (fun _ => ?_))
    | (refine ek_load ?_; refine EK_ev (Ev_loadOld rfl e12) ?_)
    | refine xst ?_
    | (refine xsa ?_; intro _)
    | (refine xsb ?_ ?_ <;> intro _ <;> first | (exfalso; omega) | skip)
    | refine xsc ?_
    | (refine KJ_draws (id := 8) (.op 0 (.op 1 (.op 2 (.op 3 (.op 4 (.op 5 (.op 6 (.op 7 (.op 8 (.op 9 (.op 10 (.ef 11 [] (.op 12 (.op 13 (.op 14 (.op 15 (.op 16 .nil))))))))))))))))) (by kernel_rfl) (by kernel_rfl) ?_)
    | (refine KJ_draws (id := 10) (.op 0 (.op 1 (.op 2 (.op 3 (.op 4 (.op 5 (.op 6 (.op 7 (.op 8 (.op 9 (.op 10 (.op 11 (.op 12 (.op 13 (.op 14 (.op 15 (.op 16 (.op 17 (.ef 18 [] (.op 19 .nil)))))))))))))))))))) (by kernel_rfl) (by kernel_rfl) ?_)
    | (refine KJ_draws (id := 14) (.op 0 (.op 1 (.op 2 (.op 3 (.op 4 (.op 5 (.ef 6 [3, 2, 1, 0] (.op 7 (.op 8 (.op 9 (.ef 10 [] .nil))))))))))) (by kernel_rfl) (by kernel_rfl) ?_)
    | refine FW_alt ?_ ?_
    | refine KJ_flow ?_ ?_
    | exact Rech.nil
    | fail)
  all_goals (exact xdn ())
theorem i64_mod (x : Int) : IntKind.i64.wrap x % 256 = x % 256 := by
  have : IntKind.i64.wrap x = if x % 18446744073709551616 ≥ 9223372036854775808 then x % 18446744073709551616 - 18446744073709551616 else x % 18446744073709551616 := by
    simp [IntKind.wrap, IntKind.signed, IntKind.bits]
  rw [this]
  split <;> omega
theorem recC_any (fill : Int) (i : Nat) : IntKind.u8.wrap (IntKind.i64.wrap (IntKind.i64.wrap (fill + (i : Int) * 7) + (i : Int) / 251)) = ((recC fill i).toNat : Int) := by
  have e : ∀ z, IntKind.u8.wrap z = z % 256 := fun _ => rfl
  rw [e, i64_mod, Int.add_emod, i64_mod, ← Int.add_emod, ← e]
  exact recC_int fill i
set_option maxHeartbeats 400000 in
set_option maxRecDepth 100000 in
theorem record10a_ct (size fill : Int) : Ct Tryd.prog W 68 [.int .i64 size, .int .i64 fill] [] (fun _ : Unit => strV (recL size fill)) (fun _ => []) := by
  obtain ⟨B, hB⟩ : ∃ B, IntKind.u64.wrap size = B := ⟨_, rfl⟩
  have hBb : 0 ≤ B ∧ B < 18446744073709551616 := by
    have e : IntKind.u64.wrap size = size % 18446744073709551616 := rfl
    omega
  obtain ⟨n, hn⟩ : ∃ n : Nat, B % 3001 = (n : Int) := ⟨(B % 3001).toNat, by omega⟩
  have hn2 : n ≤ 3000 := by omega
  have eL : recL size fill = recB fill n := by unfold recL; rw [hB, hn]; rfl
  rw [eL]
  clear eL
  refine Ct.enter Tryd.func68 rfl Tryd.ntmps68 (by simp) (fun R => ?_)
  repeat' (first 
    | (refine is_mkSlice ?_; refine KJ_makeBytes rfl rfl rfl (by omega) rfl (fun g => ?_))
    | (refine ek_conv ?_; refine EK_ev (Ev_convI_v rfl hB) ?_)
    | (refine ek_rem ?_; refine EK_ev (Ev_rem_w rfl rfl (by omega) hn) ?_)
    | refine xst ?_
    | (refine xsa ?_; intro _)
    | (refine xsb ?_ ?_ <;> intro _ <;> first | (exfalso; omega) | skip)
    | refine xsc ?_
    | fail)
  refine KJ_loop (fun i : {k : Nat // k ≤ n} => [(1, .int .i64 fill), (6, .slice (some ⟨g, 0, none⟩) n n), (15, .int .i64 (n : Nat)), (16, .int .i64 (i.1 : Nat))]) (fun i => [cellsP g (bvs (recB fill i.1 ++ zs (n - i.1))) 5] ++ R) (fun i => n - i.1) ⟨0, by omega⟩ xB (by show ∀ h, starL (cellsP g (bvs (zs n)) 5 :: R) h → _; exact (xN)) (fun ⟨k, hk⟩ => ?_)
  dsimp only
  by_cases hlt : k < n
  · have ql : decide ((k : Int) < (n : Nat)) = true := decide_eq_true (by omega)
    have hlen := recB_length fill k
    have hzl : (zs (n - k)).length = n - k := by simp [zs]
    have hcv := recC_any fill k
    obtain ⟨s1, hs1⟩ : ∃ s, IntKind.i64.wrap (fill + (k : Int) * 7) = s := ⟨_, rfl⟩
    rw [hs1] at hcv
    obtain ⟨q1, hq1⟩ : ∃ q, (k : Int) / 251 = q := ⟨_, rfl⟩
    rw [hq1] at hcv
    obtain ⟨s2, hs2⟩ : ∃ s, IntKind.i64.wrap (s1 + q1) = s := ⟨_, rfl⟩
    rw [hs2] at hcv
    have hfit : 0 + (k : Int).toNat * 1 + [Value.int IntKind.u8 ((recC fill k).toNat : Int)].length ≤ (bvs (recB fill k ++ zs (n - k))).length := by rw [bvs_length', List.length_append, hlen, hzl]; simp; omega
    repeat' (first 
    | (refine is_store ?_; refine KJ_store (v := .int .u8 ((recC fill k).toNat : Int)) rfl rfl xS xF (by rfl) xO (Laid.of hfit) xR ?_)
    | (refine ek_conv ?_; refine EK_ev (Ev_convI_v rfl hcv) ?_)
    | (refine ek_add ?_; first | refine EK_ev (Ev_add_w rfl rfl hs2) ?_ | refine EK_ev (Ev_add_w rfl rfl hs1) ?_)
    | (refine ek_quo ?_; refine EK_ev (Ev_quo_w rfl rfl (by omega) hq1) ?_)
    | (refine ek_lss ?_; refine EK_ev (Ev_lssI_q rfl rfl ql) ?_)
    | refine xst ?_
    | (refine xsa ?_; intro _)
    | (refine xsb ?_ ?_ <;> intro _ <;> first | (exfalso; omega) | skip)
    | refine xsc ?_
    | fail)
    refine KJ_again ⟨k + 1, by omega⟩ (by show n - (k + 1) < n - k; omega) xB ?_
    have e3 : 0 + (k : Int).toNat * 1 = k := by simp
    have e := lay_zs (recB fill k) k (n - k - 1) (recC fill k) hlen
    rw [show n - k - 1 + 1 = n - k by omega, ← recB_next] at e
    rw [e3]
    have e2 : lay (bvs (recB fill k ++ zs (n - k))) k [Value.int IntKind.u8 ((recC fill k).toNat : Int)] = bvs (recB fill (k + 1) ++ zs (n - (k + 1))) := by
      rw [show n - (k + 1) = n - k - 1 by omega]; exact e
    rw [e2]
    exact (xN)
  · have hkn : k = n := by omega
    subst hkn
    have ql : decide ((k : Int) < (k : Int)) = false := decide_eq_false (by omega)
    have e0 : recB fill k ++ zs (k - k) = recB fill k := by simp [zs]
    rw [e0]
    repeat' (first 
    | (refine ek_conv ?_; refine EK_ev (Ev_bytesAll rfl xS (recB_length _ _)) ?_)
    | (refine ek_lss ?_; refine EK_ev (Ev_lssI_q rfl rfl ql) ?_)
    | refine xst ?_
    | (refine xsa ?_; intro _)
    | (refine xsb ?_ ?_ <;> intro _ <;> first | (exfalso; omega) | skip)
    | refine xsc ?_
    | fail)
    all_goals (exact xdn ())
set_option maxHeartbeats 400000 in
set_option maxRecDepth 100000 in
/-- alike: a list, and the beginning of another one -/
theorem same_ct (l L : List (List UInt8)) (a1 a2 : Option Addr) (c1 c2 : Nat) (hl : l.length ≤ L.length) (he : L.take l.length = l) (hL : L.length ≤ 1048576) : Ct Tryd.prog W 72 [.slice a1 l.length c1, .slice a2 l.length c2] [rowP (.slice a1 l.length c1) 9 1 l.length (l.map strV), rowP (.slice a2 L.length c2) 9 1 L.length (L.map strV)] (fun _ : Unit => .bool true) (fun _ => [rowP (.slice a1 l.length c1) 9 1 l.length (l.map strV), rowP (.slice a2 L.length c2) 9 1 L.length (L.map strV)]) := by
  by_cases h0 : l.length = 0
  · have ql : decide ((((0 : Nat)) : Int) < (l.length : Int)) = false := decide_eq_false (by omega)
    have ql' : decide ((0 : Int) < (l.length : Int)) = false := ql
    refine Ct.enter Tryd.func72 rfl Tryd.ntmps72 (by simp) (fun R => ?_)
    repeat' (first 
    | (refine ek_neq ?_; refine EK_ev (Ev_neqI_f rfl rfl rfl) ?_)
    | refine xst ?_
    | (refine xsa ?_; intro _)
    | (refine xsb ?_ ?_ <;> intro _ <;> first | (exfalso; omega) | skip)
    | refine xsc ?_
    | (refine KJ_draws (id := 6) (.op 0 (.op 1 (.op 2 (.op 3 (.op 4 (.op 5 (.op 6 (.op 7 (.op 8 .nil))))))))) (by kernel_rfl) (by kernel_rfl) ?_)
    | refine FW_alt ?_ ?_
    | refine KJ_flow ?_ ?_
    | exact Rech.nil
    | fail)
    refine KJ_loop (fun i : {k : Nat // k = 0} => [(12, .int .i64 (l.length : Nat)), (13, .int .i64 (i.1 : Nat))]) (fun _ => [rowP (.slice a1 l.length c1) 9 1 l.length (l.map strV), rowP (.slice a2 L.length c2) 9 1 L.length (L.map strV)] ++ R) (fun i => 0) ⟨0, rfl⟩ xB (xN) (fun ⟨k, hk⟩ => ?_)
    subst hk
    dsimp only
    repeat' (first 
    | (refine ek_lss ?_; refine EK_ev (Ev_lssI_q rfl rfl ql) ?_)
    | refine xst ?_
    | (refine xsa ?_; intro _)
    | (refine xsb ?_ ?_ <;> intro _ <;> first | (exfalso; omega) | skip)
    | refine xsc ?_
    | (refine KJ_draws (id := 6) (.op 0 (.op 1 (.op 2 (.op 3 (.op 4 (.op 5 (.op 6 (.op 7 (.op 8 .nil))))))))) (by kernel_rfl) (by kernel_rfl) ?_)
    | refine FW_alt ?_ ?_
    | refine KJ_flow ?_ ?_
    | exact Rech.nil
    | fail)
    all_goals (exact xdn ())
  refine Ct.enter Tryd.func72 rfl Tryd.ntmps72 (by simp) (fun R => ?_)
  refine KJ.row_shapeJ (v := .slice a1 l.length c1) xS (by omega) (fun g1 d1 e1 => ?_)
  simp only [Value.slice.injEq] at e1
  obtain ⟨rfl, -, rfl⟩ := e1
  refine KJ.row_shapeJ (v := .slice a2 L.length c2) xS (by omega) (fun g2 d2 e2 => ?_)
  simp only [Value.slice.injEq] at e2
  obtain ⟨rfl, -, rfl⟩ := e2
  repeat' (first 
    | (refine ek_neq ?_; refine EK_ev (Ev_neqI_f rfl rfl rfl) ?_)
    | refine xst ?_
    | (refine xsa ?_; intro _)
    | (refine xsb ?_ ?_ <;> intro _ <;> first | (exfalso; omega) | skip)
    | refine xsc ?_
    | (refine KJ_draws (id := 6) (.op 0 (.op 1 (.op 2 (.op 3 (.op 4 (.op 5 (.op 6 (.op 7 (.op 8 .nil))))))))) (by kernel_rfl) (by kernel_rfl) ?_)
    | refine FW_alt ?_ ?_
    | refine KJ_flow ?_ ?_
    | exact Rech.nil
    | fail)
  refine KJ_loop (fun i : {k : Nat // k ≤ l.length} => [(0, .slice (some ⟨g1, 0, none⟩) l.length c1), (1, .slice (some ⟨g2, 0, none⟩) l.length c2), (12, .int .i64 (l.length : Nat)), (13, .int .i64 (i.1 : Nat))]) (fun _ => [rowP (.slice (some ⟨g1, 0, none⟩) l.length c1) 9 1 l.length (l.map strV), rowP (.slice (some ⟨g2, 0, none⟩) L.length c2) 9 1 L.length (L.map strV)] ++ R) (fun i => l.length - i.1) ⟨0, by omega⟩ xB (xN) (fun ⟨k, hk⟩ => ?_)
  dsimp only
  by_cases hlt : k < l.length
  rotate_left
  · have hkl : k = l.length := by omega
    subst hkl
    have ql : decide ((l.length : Int) < (l.length : Int)) = false := decide_eq_false (by omega)
    repeat' (first 
    | (refine ek_lss ?_; refine EK_ev (Ev_lssI_q rfl rfl ql) ?_)
    | refine xst ?_
    | (refine xsa ?_; intro _)
    | (refine xsb ?_ ?_ <;> intro _ <;> first | (exfalso; omega) | skip)
    | refine xsc ?_
    | (refine KJ_draws (id := 6) (.op 0 (.op 1 (.op 2 (.op 3 (.op 4 (.op 5 (.op 6 (.op 7 (.op 8 .nil))))))))) (by kernel_rfl) (by kernel_rfl) ?_)
    | refine FW_alt ?_ ?_
    | refine KJ_flow ?_ ?_
    | exact Rech.nil
    | fail)
    all_goals (exact xdn ())
  have ql : decide ((k : Int) < (l.length : Int)) = true := decide_eq_true (by omega)
  obtain ⟨s, hs⟩ : ∃ s, l[k]? = some s := ⟨_, List.getElem?_eq_getElem hlt⟩
  have hs2 : L[k]? = some s := by
    rw [← he, List.getElem?_take, if_pos hlt] at hs
    exact hs
  have hg1 : (l.map strV)[0 + ((k : Nat) : Int).toNat * 1]? = some (strV s) := by rw [Int.toNat_natCast, Nat.mul_one, Nat.zero_add, List.getElem?_map, hs]; rfl
  have hg2 : (L.map strV)[0 + ((k : Nat) : Int).toNat * 1]? = some (strV s) := by rw [Int.toNat_natCast, Nat.mul_one, Nat.zero_add, List.getElem?_map, hs2]; rfl
  repeat' (first 
    | (refine ek_load ?_; first | refine EK_ev (Ev_loadRow (g := g2) (i := L.length) rfl xS hg2) ?_ | refine EK_ev (Ev_loadRow (g := g1) (i := l.length) (c := c1) rfl xS hg1) ?_)
    | (refine ek_add ?_; refine EK_ev (Ev_addI_v (r := ((k + 1 : Nat) : Int)) rfl rfl (by omega) (by omega)) ?_)
    | (refine ek_neq ?_; refine EK_ev (Ev_neqS_f rfl rfl rfl) ?_)
    | (refine ek_lss ?_; refine EK_ev (Ev_lssI_q rfl rfl ql) ?_)
    | refine xst ?_
    | (refine xsa ?_; intro _)
    | (refine xsb ?_ ?_ <;> intro _ <;> first | (exfalso; omega) | skip)
    | refine xsc ?_
    | (refine KJ_draws (id := 6) (.op 0 (.op 1 (.op 2 (.op 3 (.op 4 (.op 5 (.op 6 (.op 7 (.op 8 .nil))))))))) (by kernel_rfl) (by kernel_rfl) ?_)
    | refine FW_alt ?_ ?_
    | refine KJ_flow ?_ ?_
    | exact Rech.nil
    | fail)
  all_goals exact KJ_again ⟨k + 1, by omega⟩ (by show l.length - (k + 1) < l.length - k; omega) xB (xN)
end
end Go.Proofs.YteklldbfdmaafaaDoor
/-
  Range over a function: the rounds' contract, the statement, the rounds' own walk.
-/
namespace Go.Proofs.YteklldbfdmaafaaDoor
open Go Go.RowKit
/-- the value of yield -/
abbrev yv (l : Nat) : Value := .func (.yield l) #[] #[]
/-- the loop's record: in what state, with what jump; the slots asg E says -/
def recP (l : Nat) (st : LoopState) (pe : Option Code) (n : Nat) (E : Env) (ps : Array Tmp) (asg bd : Code) : SP :=
  ⟨4, l, fun h => ∃ fn tmps D, h l = some (.loop { state := st, pending := pe, fn, tmps, params := ps, assign := asg, body := bd, defers := D }) ∧ tmps.size = n ∧ ∀ t v, Env.at E t = some v → tmps[t]? = some v⟩
theorem recP_up {l : Nat} {st : LoopState} {pe : Option Code} {n : Nat} {E : Env} {ps : Array Tmp} {asg bd : Code} : ∀ h g, Hl.le h g → (recP l st pe n E ps asg bd).ok h → (recP l st pe n E ps asg bd).ok g :=
  fun _ _ le ⟨fn, tmps, D, a, b, c⟩ => ⟨fn, tmps, D, le _ _ a, b, c⟩
section
variable {P : Program} {W w : World} {n : Nat} {q : QQ} {k : KK} {E : Env} {H H' R : List SP} {l : Nat} {st : LoopState} {pe : Option Code} {ps : Array Tmp} {asg bd : Code} {X : Type}
theorem St.recd (s : St W H w) (p : Sel (recP l st pe n E ps asg bd) H R) : ∃ fn tmps D, w.heap[l]? = some (.loop { state := st, pending := pe, fn, tmps, params := ps, assign := asg, body := bd, defers := D }) ∧ tmps.size = n ∧ ∀ t v, Env.at E t = some v → tmps[t]? = some v := by
  obtain ⟨h, ⟨fn, tmps, D, a, b⟩, lies⟩ := s.sel p recP_up
  exact ⟨fn, tmps, D, (lies l _ a).2, b⟩
/-- the record turns -/
theorem St.recTurn {st' : LoopState} {pe' : Option Code} {fn : FuncId} {tmps : Array Value} {D : Nat} (s : St W H w) (p : Sel (recP l st pe n E ps asg bd) H R) (hh : w.heap[l]? = some (.loop { state := st, pending := pe, fn, tmps, params := ps, assign := asg, body := bd, defers := D })) :
    St W (recP l st' pe' n E ps asg bd :: R) (w.putObj l (.loop { state := st', pending := pe', fn, tmps, params := ps, assign := asg, body := bd, defers := D })) := by
  have hlt := (Array.getElem?_eq_some_iff.1 hh).1
  refine St.act (A := [recP l st pe n E ps asg bd]) (B := [recP l st' pe' n E ps asg bd]) (H := R) (s.perm p.perm) rfl rfl rfl (by simp) ?_
  intro h1 ⟨h, _, _, le, _, ⟨fn', tmps', D', a, b⟩, _⟩ lies
  have ha := (lies l _ (le _ _ a)).2
  rw [hh] at ha; cases ha
  refine ⟨Hl.one l _, starL_one ⟨fn, tmps, D, Hl.one_self _ _, b⟩, fun k x hx => ?_, fun k x hx => ?_, fun k _ hn => World.putObj_heap_other ?_⟩
  · obtain ⟨rfl, rfl⟩ := Hl.one_some hx; exact World.putObj_heap_same hlt
  · obtain ⟨rfl, rfl⟩ := Hl.one_some hx; exact .inl ⟨_, le _ _ a⟩
  · intro e; subst e; rw [le _ _ a] at hn; cases hn

/-- what a round's end must show -/
def RPost (W : World) {X : Type} (r : X → Bool) (H' : X → List SP) (R : List SP) : Ending → World → Prop := fun e w => ∃ x, e = .returned (.bool (r x)) ∧ St W (H' x ++ R) w
/-- a round's contract: yield, called with args where Hpre is owned -/
structure Yt (P : Program) (W : World) (l : Nat) (args : List Value) (Hpre : List SP) {X : Type} (r : X → Bool) (H' : X → List SP) : Prop where
  go : ∀ R w, St W (Hpre ++ R) w → ∃ f tmps asg bd, (Instr.yield l args.toArray).run P w = .ok (.round l f tmps asg bd) w ∧ RoundIn Fence.wide 0 P l f tmps asg bd w (RPost W r H' R)
/-- yield is called -/
theorem KJ_yield {x : Operand} {xs : List Operand} {ts : Array TypeId} {vs : List Value} {dd : Option Tmp} {Hpre : List SP} {r : X → Bool} {Hp : X → List SP} (hf : Env.ev E x = some (yv l)) (hx : Evs E xs vs) (hc : Yt P W l vs Hpre r Hp) (hp : Pick Hpre H R) (hn : dstOk n dd = true)
    (h : ∀ c, KJ W n k (Env.put E dd (.bool (r c))) (Hp c ++ R)) : KJ W n (.oper P (.call { callee := .value x, args := xs.toArray, argTypes := ts }) dd k) E H := by
  refine ⟨fun a w p s o ho hd => ?_⟩
  subst hd
  show uponP P o a _ ((execOp a.eval o).run P w)
  obtain ⟨f, tmps, asg, bd, hy, hr⟩ := hc.go (R ++ dm a.defers) w (s.perm ((hp.perm.append_right _).trans (by rw [List.append_assoc])))
  have hv := p.evs hx
  have hrun : (execOp a.eval o).run P w = .ok (.round l f tmps asg bd) w := by
    have : (execOp a.eval o).run P w = (Instr.yield l vs.toArray).run P w := by
      simp [execOp, ho, resolve, p.ev hf, Deferred.ofValue, invoke, hv, callFunc]
    rw [this, hy]
  rw [hrun]
  refine RoundIn.mono hr ?_
  rintro e w' ⟨c, rfl, s⟩
  refine ⟨_, rfl, (h c).go _ w' (p.put hn _) ?_⟩
  show St W (_ ++ dm (a.put o.dst _).defers) w'
  rw [put_defers, List.append_assoc]; exact s
theorem Yt.frame {args : List Value} {Hpre : List SP} {r : X → Bool} {Hp : X → List SP} (h : Yt P W l args Hpre r Hp) (F : List SP) : Yt P W l args (Hpre ++ F) r (fun x => Hp x ++ F) :=
  ⟨fun R w s => by
    obtain ⟨f, tmps, asg, bd, h1, h2⟩ := h.go (F ++ R) w (by rw [← List.append_assoc]; exact s)
    exact ⟨f, tmps, asg, bd, h1, h2.mono fun e w' ⟨x, he, s⟩ => ⟨x, he, by rw [List.append_assoc]; exact s⟩⟩⟩
theorem Pick.all (H : List SP) : Pick H H [] := by
  induction H with
  | nil => exact .nil
  | cons A H ih => exact .cons .here ih
/-- yield is called with all that is owned -/
theorem KJ_yield_all {x : Operand} {xs : List Operand} {ts : Array TypeId} {vs : List Value} {dd : Option Tmp} {H0 : List SP} {r : X → Bool} {Hp : X → List SP} (hf : Env.ev E x = some (yv l)) (hx : Evs E xs vs) (hc : Yt P W l vs H0 r Hp) (hp : H.Perm H0) (hn : dstOk n dd = true)
    (h : ∀ c, KJ W n k (Env.put E dd (.bool (r c))) (Hp c)) : KJ W n (.oper P (.call { callee := .value x, args := xs.toArray, argTypes := ts }) dd k) E H :=
  KJ.perm (KJ_yield hf hx hc (Pick.all H0) hn (fun c => by rw [List.append_nil]; exact h c)) hp
theorem KJ_cond_b {c : Operand} {x y : Code} {t : Bool} (hc : Env.ev E c = some (.bool t)) (ht : t = true → KJ W n (.code P x q) E H) (hf : t = false → KJ W n (.code P y q) E H) : KJ W n (.code P (Code.cond c x y) q) E H := KJ_cond hc ht hf

/-- the slots of a round: yield's arguments in the parameters -/
def Env.ofPs : List Tmp → List Value → Env → Env
  | p :: ps, v :: vs, E => Env.ofPs ps vs ((p, v) :: E)
  | _, _, E => E
theorem Hd.ofPs : ∀ (ps : List Tmp) (vs : List Value) (E : Env) (tmps : Array Value), (∀ p ∈ ps, p < n) → tmps.size = n → (∀ t v, Env.at E t = some v → tmps[t]? = some v) →
    Hd n (Env.ofPs ps vs E) { tmps := (ps.zip vs).foldl (fun t (p, v) => t.setIfInBounds p v) tmps, defers := [] }
  | [], vs, E, tmps, _, h1, h2 => ⟨by simpa using h1, fun t v q => by simpa using h2 t v (by simpa [Env.ofPs] using q)⟩
  | p :: ps, [], E, tmps, _, h1, h2 => ⟨by simpa using h1, fun t v q => by simpa using h2 t v (by simpa [Env.ofPs] using q)⟩
  | p :: ps, v :: vs, E, tmps, hp, h1, h2 => by
    have := Hd.ofPs ps vs ((p, v) :: E) (tmps.setIfInBounds p v) (fun x hx => hp x (by simp [hx])) (by simpa using h1) (fun t u q => by
      rw [Env.at_cons] at q
      split at q
      · rename_i e; subst e; cases q
        have : p < tmps.size := by rw [h1]; exact hp p (by simp)
        simp [this]
      · rename_i e
        rw [Array.getElem?_setIfInBounds_ne e]
        exact h2 t u q)
    simpa [Env.ofPs] using this

/-- behind the assignment: the round begins; the body is walked in the round's frame -/
def BeginK (P : Program) (l : Nat) (bd : Code) (Q : Exit → Act → World → Prop) : Act → World → Prop := fun a₁ w₁ => ∃ w₂, (Instr.beginRound l).run P w₁ = .ok () w₂ ∧ bd.wpIn (fen (some l)) 0 P Q a₁ w₂
abbrev asgQ (P : Program) (l : Nat) (bd : Code) (Q : Exit → Act → World → Prop) : QQ := .thn (BeginK P l bd Q) (.rnd l fun _ _ _ => False)
theorem is_begin {bd : Code} {Q : Exit → Act → World → Prop} (h : KJ W n (.raw (BeginK P l bd Q)) E H) : KJ W n (.raw (BeginK P l bd Q)) E H := h
theorem KJ_begin {Q : Exit → Act → World → Prop} {E' : Env} {bd' : Code} (hs : Sel (recP l .ready pe n E' ps asg bd') H R) (h : KJ W n (.code P bd (.rnd l Q)) E (recP l .busy pe n E' ps asg bd' :: R)) : KJ W n (.raw (BeginK P l bd Q)) E H :=
  ⟨fun a w p s => by
    obtain ⟨fn, tmps, D, hh, _⟩ := s.left.recd hs
    exact ⟨_, run_beginRound hh rfl, h.go a _ p (St.recTurn s (hs.app _) hh)⟩⟩
/-- a round is over: jump: how it is left -/
theorem KJ_round {r : X → Bool} {Hp : X → List SP} {ex : Exit} {jump : Option Code} {E' : Env} (hj : ex = .normal ∧ jump = none ∨ ex = .ret ∧ jump = some .ret ∨ ∃ id, ex = .exit id ∧ jump = some (.exit id)) (hs : Sel (recP l .busy pe n E' ps asg bd) H H') (c : X) (hc : jump.isNone = r c)
    (hE : ∀ g, starL (recP l (if jump.isNone then .ready else .done) jump n E' ps asg bd :: H') g → starL (Hp c ++ R) g) : KJ W n (.ex (.rnd l (roundPost P l (RPost W r Hp R))) ex) E H :=
  ⟨fun a w p s => by
    obtain ⟨fn, tmps, D, hh, _⟩ := s.left.recd hs
    have hrun := run_endRound (P := P) jump hh
    have st : St W (recP l (if jump.isNone then .ready else .done) jump n E' ps asg bd :: H') _ := (St.recTurn (st' := if jump.isNone then .ready else .done) (pe' := jump) s (hs.app _) hh).left (B := dm a.defers)
    have fin : ∃ v w', (Instr.endRound l jump).run P w = .ok v w' ∧ RPost W r Hp R (.returned v) w' := ⟨_, _, hrun, c, by rw [hc], st.mono hE⟩
    rcases hj with ⟨rfl, rfl⟩ | ⟨rfl, rfl⟩ | ⟨id, rfl, rfl⟩
    · exact fin
    · exact fin
    · exact fin⟩
theorem KJ_round_t {A B : List SP} {E' : Env} (hs : Sel (recP l .busy pe n E' ps asg bd) H H') (hE : ∀ g, starL (recP l .ready none n E' ps asg bd :: H') g → starL (A ++ R) g) : KJ W n (.ex (.rnd l (roundPost P l (RPost W (fun b : Bool => b) (fun b => if b then A else B) R))) .normal) E H :=
  KJ_round (.inl ⟨rfl, rfl⟩) hs true rfl hE
/-- a round's contract from its walk -/
theorem Yt.of {args : List Value} {psl : List Tmp} {Hpre : List SP} {r : X → Bool} {Hp : X → List SP} (hl : args.length = psl.length) (hp : ∀ p ∈ psl, p < n)
    (h : ∀ R, KJ W n (.code P asg (asgQ P l bd (roundPost P l (RPost W r Hp R)))) (Env.ofPs psl args E) (recP l .ready pe n E psl.toArray asg bd :: Hpre ++ R)) : Yt P W l args (recP l .ready pe n E psl.toArray asg bd :: Hpre) r Hp :=
  ⟨fun R w s => by
    obtain ⟨fn, tmps, D, hh, h1, h2⟩ := s.recd .here
    refine ⟨_, _, _, _, run_yield hh (by simpa using hl), ?_⟩
    refine roundIn_of_wpIn (F := Fence.wide) (n := 0) trivial ?_
    have hd := Hd.ofPs psl args E tmps hp h1 h2
    have := (h R).go _ w hd (s.perm (by show _; simp [dm]))
    simp only [List.zip_toArray, List.foldl_toArray', List.size_toArray]
    exact this⟩
/-- the statement -/
theorem KJ_range {g : Operand} {gf : FuncId} {lb : List Value} {Hpre : List SP} {pe : X → Option Code} {Hp : X → List SP} {v : X → Value} (hro : q.ro = none) (hg : Env.ev E g = some (.func (.func gf) #[] lb.toArray)) [hf : FnIs P gf]
    (hc : ∀ l, Ct P W gf (yv l :: lb) (recP l .ready none n E ps asg bd :: Hpre) v (fun x => recP l (if (pe x).isNone then .ready else .done) (pe x) n E ps asg bd :: Hp x)) (hp : Pick Hpre H R)
    (h0 : ∀ x, pe x = none → KJ W n (.ex q .normal) E (Hp x ++ R)) (h1 : ∀ x c, pe x = some c → KJ W n (.code P c q) E (Hp x ++ R)) : KJ W n (.code P (Code.rangeFunc g ps asg bd) q) E H := by
  refine ⟨fun a w p s => ?_⟩
  show (Code.rangeFunc g ps asg bd).wpIn (fen q.ro) 0 P q.den a w
  rw [hro]
  refine wpIn_rangeFunc fun fn _ => ?_
  obtain ⟨W1, hW1⟩ : ∃ W1, ((w.alloc (.deferred (some []))).alloc (.loop { state := .ready, pending := none, fn, tmps := a.tmps, params := ps, assign := asg, body := bd, defers := w.heap.size })) = W1 := ⟨_, rfl⟩
  have hev := p.ev hg
  have hb : FnIs P gf := hf
  refine ⟨w.heap.size + 1, [{ target := .collected w.heap.size, args := #[] }], W1, { target := .fn (.func gf) lb.toArray, args := #[yv (w.heap.size + 1)] }, W1, gf, (yv (w.heap.size + 1) :: lb).toArray, W1, ?_, ?_, fun _ _ => trivial, ?_, fun e => by simp at e, ?_⟩
  · rw [← hW1]; exact run_enterLoop_outer _ _ _ _ _
  · simp only [resolve, hev]
    simp [go_sem]
  · have hf := hf.h
    cases hq : P.funcs[gf]? with
    | none => simp [hq] at hf
    | some fnn =>
      simp [hq] at hf
      obtain ⟨h1, h2⟩ := hf
      have hb : ¬ fnn.body = none := by cases h : fnn.body <;> simp_all
      simp [invoke, callFunc, Go.program, Sem.run, hq, h2, hb, Result.andThen]
  · have s1 : St W (recP (w.heap.size + 1) .ready none n E ps asg bd :: objP w.heap.size (.deferred (some [])) :: (H ++ dm a.defers)) W1 := by
      rw [← hW1]
      have := (St.alloc (A := objP w.heap.size (.deferred (some []))) (o := .deferred (some [])) s (Hl.one_self _ _))
      refine this.alloc (A := recP (w.heap.size + 1) .ready none n E ps asg bd) ?_
      rw [World.size_alloc]
      exact ⟨fn, a.tmps, w.heap.size, Hl.one_self _ _, p.size, p.at_⟩
    have hpm : (recP (w.heap.size + 1) .ready none n E ps asg bd :: objP w.heap.size (.deferred (some [])) :: (H ++ dm a.defers)).Perm ((recP (w.heap.size + 1) .ready none n E ps asg bd :: Hpre) ++ (R ++ (objP w.heap.size (.deferred (some [])) :: dm a.defers))) := by
      refine List.Perm.cons _ ?_
      refine (List.perm_middle (l₁ := H)).symm.trans ?_
      refine List.Perm.trans (hp.perm.append_right _) ?_
      show ((Hpre ++ R) ++ _).Perm (Hpre ++ (R ++ _))
      rw [List.append_assoc]
    refine (callsIn_wide (n := 0)).2 (((hc (w.heap.size + 1)).go _ W1 (s1.perm hpm)).mono ?_)
    rintro e w2 ⟨x, rfl, s2⟩
    obtain ⟨fn', tmps', D', hh, _⟩ := s2.recd .here
    have hne : (if (pe x).isNone then LoopState.ready else LoopState.done) ≠ .busy := by split <;> simp
    have s3 := St.recTurn (st' := .exhausted) (pe' := pe x) s2 .here hh
    have s4 : St W ((Hp x ++ R) ++ (objP w.heap.size (.deferred (some [])) :: dm a.defers)) (w2.putObj (w.heap.size + 1) (.loop { state := .exhausted, pending := pe x, fn := fn', tmps := tmps', params := ps, assign := asg, body := bd, defers := D' })) := by
      have := s3.right (A := [recP (w.heap.size + 1) .exhausted (pe x) n E ps asg bd])
      rw [List.append_assoc]; exact this
    refine ⟨pe x, _, run_endLoop hh hne, ?_⟩
    have p2 : Hd n E { a with defers := [{ target := .collected w.heap.size, args := #[] }] ++ a.defers } := ⟨p.size, p.at_⟩
    cases hpe : pe x with
    | none =>
      rw [hpe] at s4
      exact (h0 x hpe).go _ _ p2 s4
    | some c =>
      rw [hpe] at s4
      have := (h1 x c hpe).go _ _ p2 s4
      have e2 : KK.den (.code P c q) = c.wpIn (fen q.ro) 0 P q.den := rfl
      rw [e2, hro] at this
      exact this
end
end Go.Proofs.YteklldbfdmaafaaDoor
/-
  journal.Each, its iterator, and a range over it.
-/
namespace Go.Proofs.YteklldbfdmaafaaDoor
open Go Go.RowKit
theorem Ev_makeFunc {P : Program} {W : World} {n : Nat} {E : Env} {H : List SP} {f : Fn} {xs ys : List Operand} {us vs : List Value} (hx : Evs E xs us) (hy : Evs E ys vs) (hc : (Instr.makeFunc f us.toArray vs.toArray) = pure (.func f us.toArray vs.toArray)) : Ev P W n E H (.makeFunc f xs.toArray ys.toArray) (.func f us.toArray vs.toArray) :=
  Ev.mk fun o ho a w p _ => by
    have h1 := p.evs hx
    have h2 := p.evs hy
    simp [execOp, ho, h1, h2, hc]
/-- a function is not nil -/
theorem Ev_eqlFn {P : Program} {W : World} {n : Nat} {E : Env} {H : List SP} {t u : TypeId} {x y : Operand} {f : Fn} {us vs : Array Value} {ps rs : Array TypeId} {vr : Bool} (hx : Env.ev E x = some (.func f us vs)) (hy : Env.ev E y = some .nilFunc) [hu : UIs P t (.func ps rs vr)] : Ev P W n E H (.binOp .eql t x y u) (.bool false) := by
  refine Ev_bin hx hy (fun w => ?_) (fun w => ?_)
  · cases x <;> cases y <;> simp [eqGuard]
  · have e : (Op.equal t (.func f us vs) .nilFunc).run P w = .ok false w := by
      unfold Op.equal Op.maxDepth
      have key : ∀ m, (Op.equalIn (m + 1) t (.func f us vs) .nilFunc).run P w = .ok false w := by
        intro m
        simp [Op.equalIn, run_underlying hu.h]
      exact key 9999
    simp [binOp, e, Result.andThen]
theorem KJ_absurd {W : World} {n : Nat} {k : KK} {E : Env} {H R : List SP} (hs : Sel (factP False) H R) : KJ W n k E H := ⟨fun _ _ _ s => (s.left.fact hs).elim⟩
theorem KJ.fact {W : World} {n : Nat} {k : KK} {E : Env} {H R : List SP} {p : Prop} (hs : Sel (factP p) H R) (h : p → KJ W n k E H) : KJ W n k E H := ⟨fun a w q s => (h (s.left.fact hs)).go a w q s⟩
theorem Ct.post_eq {P : Program} {W : World} {f : FuncId} {args : List Value} {Hpre : List SP} {X : Type} {r : X → Value} {H' H'' : X → List SP} (h : Ct P W f args Hpre r H') (e : ∀ x, H' x = H'' x) : Ct P W f args Hpre r H'' := by
  have : H' = H'' := funext e
  subst this; exact h
section
variable {W : World} {E : Nat → Addr} {p g l : Nat} {D : Dsk}
/-- a slot that holds a list of texts -/
abbrev lstP (g : Nat) (a : Option Addr) (c : Nat) (L : List (List UInt8)) : List SP := [cellsP g [.slice a L.length c] 47, rowP (.slice a L.length c) 9 1 L.length (L.map strV)]
set_option maxHeartbeats 400000 in
theorem each1_ct (L : List (List UInt8)) (a : Option Addr) (c : Nat) (J S : Nat → List SP) (hL : L.length ≤ 1048576)
    (hy : ∀ i s, L[i]? = some s → Yt Tryd.prog W l [.int .i64 (i : Nat), strV s] (J i) (fun b : Bool => b) (fun b => if b then J (i + 1) else S i)) :
    Ct Tryd.prog W 103 [yv l, .pointer (some ⟨g, 0, none⟩)] (J 0 ++ lstP g a c L) (fun _ : Option {i // i < L.length} => .tuple #[]) (fun x => (match x with | none => J L.length | some i => S i.1) ++ lstP g a c L) := by
  by_cases h0 : L.length = 0
  · have ql : decide ((((0 : Nat)) : Int) < (L.length : Int)) = false := decide_eq_false (by omega)
    have ql' : decide ((0 : Int) < (L.length : Int)) = false := ql
    refine Ct.enter Tryd.func103 rfl Tryd.ntmps103 (by simp) (fun R => ?_)
    obtain ⟨H0, hH0⟩ : ∃ H0, H0 = lstP g a c L ++ (J 0 ++ R) := ⟨_, rfl⟩
    refine KJ.perm (H' := lstP g a c L ++ (J 0 ++ R)) ?_ (by rw [List.append_assoc]; exact List.perm_append_comm_assoc _ _ _)
    repeat' (first 
    | refine xst ?_
    | (refine xsa ?_; intro _)
    | (refine xsb ?_ ?_ <;> intro _ <;> first | (exfalso; omega) | skip)
    | refine xsc ?_
    | fail)
    refine KJ_loop (fun i : {k : Nat // k = 0} => [(5, .slice a L.length c), (6, .int .i64 (L.length : Nat)), (7, .int .i64 (i.1 : Nat))]) (fun _ => lstP g a c L ++ (J 0 ++ R)) (fun i => 0) ⟨0, rfl⟩ xB (fun _ q => q) (fun ⟨k, hk⟩ => ?_)
    subst hk
    dsimp only
    repeat' (first 
    | (refine ek_lss ?_; refine EK_ev (Ev_lssI_q rfl rfl ql) ?_)
    | refine xst ?_
    | (refine xsa ?_; intro _)
    | (refine xsb ?_ ?_ <;> intro _ <;> first | (exfalso; omega) | skip)
    | refine xsc ?_
    | fail)
    (refine is_ex ?_; exact KJ_done (by first | exact Or.inl rfl | exact Or.inr rfl) rfl Rvs.nil none (by rfl) (fun gg q => by
      have q2 := starL_perm (List.perm_append_comm_assoc _ _ _) gg q
      show starL ((J L.length ++ _) ++ R) gg
      rw [h0, List.append_assoc]
      exact q2))
  refine Ct.enter Tryd.func103 rfl Tryd.ntmps103 (by simp) (fun R => ?_)
  refine KJ.perm (H' := lstP g a c L ++ (J 0 ++ R)) ?_ (by rw [List.append_assoc]; exact List.perm_append_comm_assoc _ _ _)
  refine KJ.row_shapeJ (v := .slice a L.length c) (e := 9) (size := 1) (m := L.length) (xs := L.map strV) (R := cellsP g [.slice a L.length c] 47 :: (J 0 ++ R)) xS (by omega) (fun g1 d1 e1 => ?_)
  simp only [Value.slice.injEq] at e1
  obtain ⟨rfl, -, rfl⟩ := e1
  repeat' (first 
    | refine xst ?_
    | (refine xsa ?_; intro _)
    | (refine xsb ?_ ?_ <;> intro _ <;> first | (exfalso; omega) | skip)
    | refine xsc ?_
    | fail)
  refine KJ_loop (fun i : {k : Nat // k ≤ L.length} => [(0, yv l), (5, .slice (some ⟨g1, 0, none⟩) L.length c), (6, .int .i64 (L.length : Nat)), (7, .int .i64 (i.1 : Nat))]) (fun i => lstP g (some ⟨g1, 0, none⟩) c L ++ (J i.1 ++ R)) (fun i => L.length - i.1) ⟨0, by omega⟩ xB (fun _ q => q) (fun ⟨k, hk⟩ => ?_)
  dsimp only
  by_cases hlt : k < L.length
  rotate_left
  · have hkl : k = L.length := by omega
    subst hkl
    have ql : decide ((L.length : Int) < (L.length : Int)) = false := decide_eq_false (by omega)
    repeat' (first 
    | (refine ek_lss ?_; refine EK_ev (Ev_lssI_q rfl rfl ql) ?_)
    | refine xst ?_
    | (refine xsa ?_; intro _)
    | (refine xsb ?_ ?_ <;> intro _ <;> first | (exfalso; omega) | skip)
    | refine xsc ?_
    | fail)
    (refine is_ex ?_; exact KJ_done (by first | exact Or.inl rfl | exact Or.inr rfl) rfl Rvs.nil none (by rfl) (fun gg q => by
      have q2 := starL_perm (List.perm_append_comm_assoc _ _ _) gg q
      show starL ((J L.length ++ _) ++ R) gg
      rw [List.append_assoc]
      exact q2))
  have ql : decide ((k : Int) < (L.length : Int)) = true := decide_eq_true (by omega)
  obtain ⟨s, hs⟩ : ∃ s, L[k]? = some s := ⟨_, List.getElem?_eq_getElem hlt⟩
  have hg1 : (L.map strV)[0 + ((k : Nat) : Int).toNat * 1]? = some (strV s) := by rw [Int.toNat_natCast, Nat.mul_one, Nat.zero_add, List.getElem?_map, hs]; rfl
  have hyk : Yt Tryd.prog W l [.int .i64 (k : Nat), strV s] (J k ++ (lstP g (some ⟨g1, 0, none⟩) c L ++ R)) (fun b : Bool => b) (fun b => (if b then J (k + 1) else S k) ++ (lstP g (some ⟨g1, 0, none⟩) c L ++ R)) := (hy k s hs).frame _
  have hpk : (lstP g (some ⟨g1, 0, none⟩) c L ++ (J k ++ R)).Perm (J k ++ (lstP g (some ⟨g1, 0, none⟩) c L ++ R)) := List.perm_append_comm_assoc _ _ _
  repeat' (first 
    | (refine KJ_yield_all (l := l) rfl xE hyk hpk rfl (fun b => ?_))
    | (refine KJ_cond_b rfl (fun q => ?_) (fun q => ?_))
    | (refine ek_load ?_; refine EK_ev (Ev_loadRow (g := g1) (i := L.length) (c := c) rfl xS hg1) ?_)
    | (refine ek_add ?_; refine EK_ev (Ev_addI_v (r := ((k + 1 : Nat) : Int)) rfl rfl (by omega) (by omega)) ?_)
    | (refine ek_lss ?_; refine EK_ev (Ev_lssI_q rfl rfl ql) ?_)
    | refine xst ?_
    | (refine xsa ?_; intro _)
    | (refine xsb ?_ ?_ <;> intro _ <;> first | (exfalso; omega) | skip)
    | refine xsc ?_
    | fail)
  · have hb : b = false := by cases b <;> simp_all
    subst hb
    refine is_ex ?_
    exact KJ_done (by first | exact Or.inl rfl | exact Or.inr rfl) rfl Rvs.nil (some ⟨k, hlt⟩) (by rfl) (fun gg q => by
      show starL ((S k ++ _) ++ R) gg
      rw [List.append_assoc]
      exact q)
  · have hb : b = true := by cases b <;> simp_all
    subst hb
    refine KJ_again ⟨k + 1, hlt⟩ (by show L.length - (k + 1) < L.length - k; omega) (by refine Subs.cons rfl (Subs.cons rfl (Subs.cons rfl (Subs.cons rfl Subs.nil)))) (fun gg q => ?_)
    exact starL_perm (List.perm_append_comm_assoc _ _ _) gg q
  · cases q
/-- a range over a list that journal.Each has made; jump: how a round leaves -/
theorem KJ_rangeEach {n : Nat} {q : QQ} {gop : Operand} {En : Env} {H R : List SP} {psl : List Tmp} {asg bd : Code} {L : List (List UInt8)} {a : Option Addr} {c : Nat} (hro : q.ro = none) (hg : Env.ev En gop = some (.func (.func 103) #[] #[.pointer (some ⟨g, 0, none⟩)])) (hL : L.length ≤ 1048576) (hpl : psl.length = 2) (hpn : ∀ p ∈ psl, p < n)
    (J S : Nat → List SP) (jump : Code) (hp : Pick (J 0 ++ lstP g a c L) H R)
    (hb : ∀ l i s, L[i]? = some s → ∀ R, KJ W n (.code Tryd.prog asg (asgQ Tryd.prog l bd (roundPost Tryd.prog l (RPost W (fun b : Bool => b) (fun b => if b then recP l .ready none n En psl.toArray asg bd :: J (i + 1) else recP l .done (some jump) n En psl.toArray asg bd :: S i) R)))) (Env.ofPs psl [.int .i64 (i : Nat), strV s] En) (recP l .ready none n En psl.toArray asg bd :: J i ++ R))
    (h0 : KJ W n (.ex q .normal) En ((J L.length ++ lstP g a c L) ++ R)) (h1 : ∀ i, i < L.length → KJ W n (.code Tryd.prog jump q) En ((S i ++ lstP g a c L) ++ R)) : KJ W n (.code Tryd.prog (Code.rangeFunc gop psl.toArray asg bd) q) En H := by
  refine KJ_range (X := Option {i // i < L.length}) (lb := [.pointer (some ⟨g, 0, none⟩)]) (pe := fun x => match x with | none => none | some _ => some jump) (Hp := fun x => (match x with | none => J L.length | some i => S i.1) ++ lstP g a c L) (v := fun _ => .tuple #[]) hro hg (fun l => ?_) hp (fun x hx => ?_) (fun x cc hx => ?_)
  · refine Ct.post_eq (each1_ct (l := l) (g := g) L a c (fun i => recP l .ready none n En psl.toArray asg bd :: J i) (fun i => recP l .done (some jump) n En psl.toArray asg bd :: S i) hL (fun i s hs => ?_)) (fun x => by cases x <;> rfl)
    exact Yt.of (n := n) (by rw [hpl]; rfl) hpn (fun R => hb l i s hs R)
  · cases x with
    | none => exact h0
    | some i => cases hx
  · cases x with
    | none => cases hx
    | some i =>
      cases hx
      exact h1 i.1 i.2
set_option maxHeartbeats 400000 in
set_option maxRecDepth 100000 in
/-- Each, where Replay tells L -/
theorem each_ct (L : List (List UInt8)) (e : Value) (at_ n ver : Int) (hr : Ct Tryd.prog W 70 [.pointer (some ⟨p, 0, none⟩), .int .i64 at_, .int .i64 n, .int .i64 ver] [DiskP p D] (fun x : Option Addr × Nat => .tuple #[.slice x.1 L.length x.2, e]) (fun x => [DiskP p D, rowP (.slice x.1 L.length x.2) 9 1 L.length (L.map strV)])) :
    Ct Tryd.prog W 71 [.pointer (some ⟨p, 0, none⟩), .int .i64 at_, .int .i64 n, .int .i64 ver] [DiskP p D] (fun x : Nat × Option Addr × Nat => .func (.func 103) #[] #[.pointer (some ⟨x.1, 0, none⟩)]) (fun x => DiskP p D :: lstP x.1 x.2.1 x.2.2 L) := by
  refine Ct.enter Tryd.func71 rfl Tryd.ntmps71 (by simp) (fun R => ?_)
  repeat' (first 
    | (refine is_alloc ?_; refine KJ_alloc rfl (fun gl => ?_))
    | (refine is_call ?_; refine KJ_call xE hr xP rfl (fun x => ?_))
    | (refine ek_mkFunc ?_; refine EK_ev (Ev_makeFunc (us := []) (vs := [.pointer (some ⟨gl, 0, none⟩)]) xE xE rfl) ?_)
    | refine xst ?_
    | (refine xsa ?_; intro _)
    | (refine xsb ?_ ?_ <;> intro _ <;> first | (exfalso; omega) | skip)
    | refine xsc ?_
    | fail)
  all_goals (exact xdn (gl, x.1, x.2))
end
end Go.Proofs.YteklldbfdmaafaaDoor
/-
  The document's disk (remitref06) over the same plain data as the program's: its methods as contracts.
-/
namespace Go.Proofs.YteklldbfdmaafaaDoor
open Go Go.RowKit
section
variable {W : World} {n : Nat} {k : KK} {E : Env} {H R : List SP}
theorem KJ.row_shape {v : Value} {e size m : Nat} {xs : List Value} (hsel : Sel (rowP v e size m xs) H R) (hm : 0 < m) (h : ∀ g c, v = .slice (some ⟨g, 0, none⟩) m c → KJ W n k E H) : KJ W n k E H :=
  ⟨fun a w p s => by
    rcases (s.left.row hsel).2 with ⟨_, q⟩ | ⟨g, c, _, q, _⟩
    · omega
    · exact (h g c q).go a w p s⟩
theorem KJ.row_slice {v : Value} {e size m : Nat} {xs : List Value} (hsel : Sel (rowP v e size m xs) H R) (h : ∀ ad c, v = .slice ad m c → KJ W n k E H) : KJ W n k E H :=
  ⟨fun a w p s => by
    rcases (s.left.row hsel).2 with ⟨q, q2⟩ | ⟨g, c, _, q, _⟩
    · subst q2; exact (h none 0 q).go a w p s
    · exact (h _ c q).go a w p s⟩
end
def secsV (img : List UInt8) (n : Nat) : List Value := (List.range n).map fun i => strV (cut img (i * 256) 256)
def waysV (u : List (Nat × List UInt8)) : List Value := u.flatMap fun x => [.int .i64 (x.1 : Nat), strV x.2]
theorem secsV_length (img : List UInt8) (n : Nat) : (secsV img n).length = n := by simp [secsV]
theorem secsV_get (img : List UInt8) (n i : Nat) (h : i < n) : (secsV img n)[i]? = some (strV (cut img (i * 256) 256)) := by simp [secsV, h]
theorem waysV_get (u : List (Nat × List UInt8)) (k j : Nat) (b : List UInt8) (h : u[k]? = some (j, b)) (z : Nat) (v : Value) (hv : [Value.int .i64 (j : Nat), strV b][z]? = some v) : (waysV u)[k * 2 + z]? = some v := by
  have hz : z < 2 := by have := (List.getElem?_eq_some_iff.1 hv).1; simpa using this
  rw [← hv]
  exact flat_get _ 2 u (fun _ _ => rfl) k (j, b) h z hz
theorem waysV_snoc (u : List (Nat × List UInt8)) (j : Nat) (b : List UInt8) : waysV (u ++ [(j, b)]) = waysV u ++ [.int .i64 (j : Nat), strV b] := by simp [waysV]
/-- a sector is laid -/
theorem secsV_lay {img b : List UInt8} {n i : Nat} (hl : img.length = 256 * n) (hi : i < n) (hb : b.length ≤ 256) :
    lay (secsV img n) i [strV (b ++ (cut img (i * 256) 256).drop b.length)] = secsV (lay img (i * 256) b) n := by
  apply List.ext_getElem
  · rw [lay_length _ _ _ (by rw [secsV_length]; simp; omega), secsV_length, secsV_length]
  · intro j h1 h2
    rw [secsV_length] at h2
    have hr : (secsV (lay img (i * 256) b) n)[j]? = some (strV (cut (lay img (i * 256) b) (j * 256) 256)) := secsV_get _ _ _ h2
    have hll : (lay (secsV img n) i [strV (b ++ (cut img (i * 256) 256).drop b.length)])[j]? = some (strV (cut (lay img (i * 256) b) (j * 256) 256)) := by
      by_cases hji : j = i
      · subst hji
        have e : cut (lay img (j * 256) b) (j * 256) 256 = b ++ (cut img (j * 256) 256).drop b.length := by
          unfold cut lay
          rw [List.drop_left' (by simp; omega), List.take_append, List.take_of_length_le (by omega), List.drop_take, List.drop_drop]
        rw [e]
        unfold lay
        rw [List.getElem?_append_right (by simp [secsV_length]; omega), List.length_take, secsV_length, Nat.min_eq_left (by omega), Nat.sub_self]
        rfl
      · have e : cut (lay img (i * 256) b) (j * 256) 256 = cut img (j * 256) 256 := by
          rcases Nat.lt_or_ge j i with hlt | hge
          · exact cut_lay_before _ _ _ _ _ (by omega) (by omega)
          · exact cut_lay_behind _ _ _ _ _ (by omega) (by omega)
        rw [e, ← secsV_get img n j h2]
        unfold lay
        rcases Nat.lt_or_ge j i with hlt | hge
        · rw [List.getElem?_append_left (by simp [secsV_length]; omega), List.getElem?_take_of_lt hlt]
        · rw [List.getElem?_append_right (by simp [secsV_length]; omega), List.length_take, secsV_length, Nat.min_eq_left (by omega), List.getElem?_append_right (by simp; omega), List.getElem?_drop]
          congr 1
          simp
          omega
    rw [List.getElem?_eq_getElem h1] at hll
    rw [List.getElem?_eq_getElem (by rw [secsV_length]; exact h2)] at hr
    rw [← hr] at hll
    exact Option.some.inj hll
/-- the document's disk at p -/
def refC (sv wv : Value) (D : Dsk) : List Value := [sv, wv, .bool D.off, .bool (decide (0 ≤ D.armed)), .int .i64 (max D.armed 0), .int .i64 D.writes, .int .i64 D.flushes, .int .i64 D.life]
def RefF (p : Nat) (D : Dsk) (x : Value × Value) : List SP := [cellsP p (refC x.1 x.2 D) 97, rowP x.1 9 1 D.n (secsV D.img D.n), rowP x.2 192 2 D.und.length (waysV D.und)]
def RefP (p : Nat) (D : Dsk) : SP := packP 21 p (RefF p D)

end Go.Proofs.YteklldbfdmaafaaDoor
/-
  The document's disk (remitref06): its methods over plain data.
-/
namespace Go.Proofs.YteklldbfdmaafaaDoor
open Go Go.RowKit
theorem RefF_eq (p : Nat) (D : Dsk) (sv wv : Value) : RefF p D (sv, wv) = [cellsP p [sv, wv, .bool D.off, .bool (decide (0 ≤ D.armed)), .int .i64 (max D.armed 0), .int .i64 D.writes, .int .i64 D.flushes, .int .i64 D.life] 97, rowP (sv) 9 1 D.n (secsV D.img D.n), rowP (wv) 192 2 D.und.length (waysV D.und)] := rfl
theorem Ct_ref {P : Program} {W : World} {f : FuncId} {args : List Value} {X : Type} {r : X → Value} {H' : X → List SP} {p : Nat} {D : Dsk} (h : ∀ sv wv, Ct P W f args (RefF p D (sv, wv)) r H') : Ct P W f args [RefP p D] r H' :=
  Ct_unpack (Hs := []) (fun ⟨sv, wv⟩ => by rw [List.append_nil]; exact h sv wv)
theorem KJ_doneR {P : Program} {W : World} {n : Nat} {E : Env} {H R : List SP} {r : Unit → Value} {fn : Func} {rs : List ResultVar} {vs : List Value} {ex : Exit} {p : Nat} {D : Dsk} (hex : ex = .ret ∨ ex = .normal) (hr : fn.results = rs.toArray) (hv : Rvs P E H rs vs) (hc : tupleV vs = r ()) (sv wv : Value) (h : ∀ g, starL H g → starL (RefF p D (sv, wv) ++ R) g) : KJ W n (.ex (.top (bodyPostM Fence.wide 0 P fn (Post W r (fun _ => [RefP p D]) R))) ex) E H :=
  KJ_done hex hr hv () hc (fun g q => pack_star (F := RefF p D) (sv, wv) g (h g q))
section
variable {P : Program} {W : World} {n : Nat} {E : Env} {H R : List SP} {x y : Operand} {t u : TypeId} {k : IntKind}
theorem Ev_minV {i j m : Int} {ts : Array TypeId} (hx : Env.ev E x = some (.int k i)) (hy : Env.ev E y = some (.int k j)) (h : min i j = m) : Ev P W n E H (.call { callee := .builtin .min, args := #[x, y], argTypes := ts }) (.int k m) := by subst h; exact Ev_min hx hy
theorem Ev_addV {i j m : Int} (hx : Env.ev E x = some (.int k i)) (hy : Env.ev E y = some (.int k j)) (h : k.wrap (i + j) = m) : Ev P W n E H (.binOp .add t x y u) (.int k m) := by subst h; exact Ev_add hx hy
end
theorem w64_wrap (x : Int) : IntKind.i64.wrap x = w64 x := by
  unfold w64 Go.RowKit.wrap64
  have : IntKind.i64.wrap x = if x % 18446744073709551616 ≥ 9223372036854775808 then x % 18446744073709551616 - 18446744073709551616 else x % 18446744073709551616 := by
    simp [IntKind.wrap, IntKind.signed, IntKind.bits]
  rw [this]
  split <;> omega
section
variable {W : World} {p : Nat} {D : Dsk}
theorem rgoes_ct (ha : -1 ≤ D.armed ∧ D.armed ≤ 9223372036854775807) (hoff : D.off = false) (sv wv : Value) : Ct Tryd.prog W 122 [.pointer (some ⟨p, 0, none⟩)] (RefF p D (sv, wv)) (fun _ : Unit => .bool D.dead) (fun _ => RefF p D.gone (sv, wv)) := by
  obtain ⟨n, img, und, off, armed, wr, fl, lf⟩ := D
  dsimp only at ha hoff
  subst hoff
  rcases (show armed = -1 ∨ armed = 0 ∨ 0 < armed by omega) with h | h | h
  · have e1 : RefF p ({ n := n, img := img, und := und, off := false, armed := armed, writes := wr, flushes := fl, life := lf } : Dsk) (sv, wv) = [cellsP p [sv, wv, .bool false, .bool false, .int .i64 0, .int .i64 wr, .int .i64 fl, .int .i64 lf] 97, rowP sv 9 1 n (secsV img n), rowP wv 192 2 und.length (waysV und)] := by
      subst h; rfl
    have e2 : RefF p (({ n := n, img := img, und := und, off := false, armed := armed, writes := wr, flushes := fl, life := lf } : Dsk)).gone (sv, wv) = [cellsP p [sv, wv, .bool false, .bool false, .int .i64 0, .int .i64 wr, .int .i64 fl, .int .i64 lf] 97, rowP sv 9 1 n (secsV img n), rowP wv 192 2 und.length (waysV und)] := by
      subst h; rfl
    have e3 : (({ n := n, img := img, und := und, off := false, armed := armed, writes := wr, flushes := fl, life := lf } : Dsk)).dead = false := by unfold Dsk.dead; exact decide_eq_false (by show ¬ armed = 0; omega)
    rw [e1, e2, e3]
    refine Ct.enter Tryd.func122 rfl Tryd.ntmps122 (by simp) (fun R => ?_)
    repeat' (first 
    | refine xst ?_
    | (refine xsa ?_; intro _)
    | (refine xsb ?_ ?_ <;> intro _ <;> first | (exfalso; omega) | skip)
    | refine xsc ?_
    | fail)
    all_goals exact KJ_done (by first | exact Or.inl rfl | exact Or.inr rfl) rfl (by (repeat' (first | exact Rvs.nil | (apply Rvs.tmp; exact rfl))); first | done | fail) () (by rfl) (xN)
  · have e1 : RefF p ({ n := n, img := img, und := und, off := false, armed := armed, writes := wr, flushes := fl, life := lf } : Dsk) (sv, wv) = [cellsP p [sv, wv, .bool false, .bool true, .int .i64 0, .int .i64 wr, .int .i64 fl, .int .i64 lf] 97, rowP sv 9 1 n (secsV img n), rowP wv 192 2 und.length (waysV und)] := by
      subst h; rfl
    have e2 : RefF p (({ n := n, img := img, und := und, off := false, armed := armed, writes := wr, flushes := fl, life := lf } : Dsk)).gone (sv, wv) = [cellsP p [sv, wv, .bool true, .bool true, .int .i64 0, .int .i64 wr, .int .i64 fl, .int .i64 lf] 97, rowP sv 9 1 n (secsV img n), rowP wv 192 2 und.length (waysV und)] := by
      subst h; rfl
    have e3 : (({ n := n, img := img, und := und, off := false, armed := armed, writes := wr, flushes := fl, life := lf } : Dsk)).dead = true := by unfold Dsk.dead; exact decide_eq_true h
    rw [e1, e2, e3]
    refine Ct.enter Tryd.func122 rfl Tryd.ntmps122 (by simp) (fun R => ?_)
    repeat' (first 
    | (refine ek_gtr ?_; refine EK_ev (Ev_gtrI_q rfl rfl (q := false) (by rfl)) ?_)
    | refine xst ?_
    | (refine xsa ?_; intro _)
    | (refine xsb ?_ ?_ <;> intro _ <;> first | (exfalso; omega) | skip)
    | refine xsc ?_
    | fail)
    all_goals exact KJ_done (by first | exact Or.inl rfl | exact Or.inr rfl) rfl (by (repeat' (first | exact Rvs.nil | (apply Rvs.tmp; exact rfl))); first | done | fail) () (by rfl) (xN)
  · have e1 : RefF p ({ n := n, img := img, und := und, off := false, armed := armed, writes := wr, flushes := fl, life := lf } : Dsk) (sv, wv) = [cellsP p [sv, wv, .bool false, .bool true, .int .i64 armed, .int .i64 wr, .int .i64 fl, .int .i64 lf] 97, rowP sv 9 1 n (secsV img n), rowP wv 192 2 und.length (waysV und)] := by
      have h1 : decide (0 ≤ armed) = true := decide_eq_true (by omega)
      have h2 : max armed 0 = armed := by omega
      simp only [RefF, refC, h1, h2]
    have e2 : RefF p (({ n := n, img := img, und := und, off := false, armed := armed, writes := wr, flushes := fl, life := lf } : Dsk)).gone (sv, wv) = [cellsP p [sv, wv, .bool false, .bool true, .int .i64 (armed - 1), .int .i64 wr, .int .i64 fl, .int .i64 lf] 97, rowP sv 9 1 n (secsV img n), rowP wv 192 2 und.length (waysV und)] := by
      have h1 : decide (0 ≤ armed - 1) = true := decide_eq_true (by omega)
      have h2 : max (armed - 1) 0 = armed - 1 := by omega
      have h3 : ¬ (armed = 0) := by omega
      simp only [RefF, refC, Dsk.gone, h3, h, if_true, if_false, h1, h2]
    have e3 : (({ n := n, img := img, und := und, off := false, armed := armed, writes := wr, flushes := fl, life := lf } : Dsk)).dead = false := by unfold Dsk.dead; exact decide_eq_false (by show ¬ armed = 0; omega)
    rw [e1, e2, e3]
    refine Ct.enter Tryd.func122 rfl Tryd.ntmps122 (by simp) (fun R => ?_)
    repeat' (first 
    | (refine ek_gtr ?_; refine EK_ev (Ev_gtrI_q rfl rfl (q := true) (decide_eq_true h)) ?_)
    | refine xst ?_
    | (refine xsa ?_; intro _)
    | (refine xsb ?_ ?_ <;> intro _ <;> first | (exfalso; omega) | skip)
    | refine xsc ?_
    | fail)
    all_goals exact KJ_done (by first | exact Or.inl rfl | exact Or.inr rfl) rfl (by (repeat' (first | exact Rvs.nil | (apply Rvs.tmp; exact rfl))); first | done | fail) () (by rfl) (xN)
theorem rarm_ct (k : Int) (hk : k ≤ 9223372036854775807) : Ct Tryd.prog W 94 [.pointer (some ⟨p, 0, none⟩), .int .i64 k] [RefP p D] (fun _ : Unit => .tuple #[]) (fun _ => [RefP p (D.arm k)]) := by
  refine Ct_ref (fun sv wv => ?_)
  obtain ⟨n, img, und, off, armed, wr, fl, lf⟩ := D
  have h1 : decide (0 ≤ max k (-1)) = decide (0 ≤ k) := by rw [decide_eq_decide]; omega
  have h2 : max (max k (-1)) 0 = max k 0 := by omega
  have e2 : RefF p ((({ n := n, img := img, und := und, off := off, armed := armed, writes := wr, flushes := fl, life := lf } : Dsk)).arm k) (sv, wv) = [cellsP p [sv, wv, .bool off, .bool (decide (0 ≤ k)), .int .i64 (max k 0), .int .i64 wr, .int .i64 fl, .int .i64 lf] 97, rowP sv 9 1 n (secsV img n), rowP wv 192 2 und.length (waysV und)] := by
    show [cellsP p [sv, wv, .bool off, .bool (decide (0 ≤ max k (-1))), .int .i64 (max (max k (-1)) 0), .int .i64 wr, .int .i64 fl, .int .i64 lf] 97, rowP sv 9 1 n (secsV img n), rowP wv 192 2 und.length (waysV und)] = _
    rw [h1, h2]
  show Ct _ _ _ _ [cellsP p [sv, wv, .bool off, .bool (decide (0 ≤ armed)), .int .i64 (max armed 0), .int .i64 wr, .int .i64 fl, .int .i64 lf] 97, rowP sv 9 1 n (secsV img n), rowP wv 192 2 und.length (waysV und)] _ _
  refine Ct.enter Tryd.func94 rfl Tryd.ntmps94 (by simp) (fun R => ?_)
  repeat' (first 
    | refine xst ?_
    | (refine xsa ?_; intro _)
    | (refine xsb ?_ ?_ <;> intro _ <;> first | (exfalso; omega) | skip)
    | refine xsc ?_
    | fail)
  refine KJ_doneR (by first | exact Or.inl rfl | exact Or.inr rfl) rfl (by (repeat' (first | exact Rvs.nil | (apply Rvs.tmp; exact rfl))); first | done | fail) (by rfl) sv wv (fun g q => ?_)
  rw [e2]
  exact (xN) g q
theorem rwrite_ct (hok : D.ok) (i : Int) (s : List UInt8) (hul : D.und.length < 1073741824) : Ct Tryd.prog W 97 [.pointer (some ⟨p, 0, none⟩), .int .i64 i, strV s] [RefP p D] (fun _ : Unit => .int .i64 (D.writeE i s)) (fun _ => [RefP p (D.writeD i s)]) := by
  refine Ct_ref (fun sv wv => ?_)
  by_cases hoff : D.off = true
  · have e1 : D.writeE i s = 12 := by unfold Dsk.writeE; rw [if_pos hoff]
    have e2 : D.writeD i s = D := by unfold Dsk.writeD; rw [if_pos hoff]
    rw [e1, e2]
    show Ct _ _ _ _ [cellsP p [sv, wv, .bool D.off, .bool (decide (0 ≤ D.armed)), .int .i64 (max D.armed 0), .int .i64 D.writes, .int .i64 D.flushes, .int .i64 D.life] 97, rowP (sv) 9 1 D.n (secsV D.img D.n), rowP (wv) 192 2 D.und.length (waysV D.und)] _ _
    rw [hoff]
    refine Ct.enter Tryd.func97 rfl Tryd.ntmps97 (by simp) (fun R => ?_)
    repeat' (first 
    | refine xst ?_
    | (refine xsa ?_; intro _)
    | (refine xsb ?_ ?_ <;> intro _ <;> first | (exfalso; omega) | skip)
    | refine xsc ?_
    | fail)
    all_goals refine KJ_doneR (by first | exact Or.inl rfl | exact Or.inr rfl) rfl (by (repeat' (first | exact Rvs.nil | (apply Rvs.tmp; exact rfl))); first | done | fail) (by rfl) (sv) (wv) (fun g q => ?_)
    show starL ([cellsP p [sv, wv, .bool D.off, .bool (decide (0 ≤ D.armed)), .int .i64 (max D.armed 0), .int .i64 D.writes, .int .i64 D.flushes, .int .i64 D.life] 97, rowP (sv) 9 1 D.n (secsV D.img D.n), rowP (wv) 192 2 D.und.length (waysV D.und)] ++ R) g
    rw [hoff]
    exact (xN) g q
  have hoff : D.off = false := by simpa using hoff
  have hbad : ∀ e : Nat, D.writeE i s = e → D.writeD i s = D → (D.has i = false ∨ (D.has i = true ∧ s.length ≠ 256)) → (e = if D.has i then 7 else 6) → Ct Tryd.prog W 97 [.pointer (some ⟨p, 0, none⟩), .int .i64 i, strV s] (RefF p D (sv, wv)) (fun _ : Unit => .int .i64 (D.writeE i s)) (fun _ => [RefP p (D.writeD i s)]) := by
    intro e e1 e2 hc he
    rw [e1, e2]
    show Ct _ _ _ _ [cellsP p [sv, wv, .bool D.off, .bool (decide (0 ≤ D.armed)), .int .i64 (max D.armed 0), .int .i64 D.writes, .int .i64 D.flushes, .int .i64 D.life] 97, rowP (sv) 9 1 D.n (secsV D.img D.n), rowP (wv) 192 2 D.und.length (waysV D.und)] _ _
    rw [hoff]
    rcases hc with hc | ⟨hc, hs⟩
    · rw [hc] at he
      subst he
      have hc' : ¬ (0 ≤ i ∧ i < D.n) := by unfold Dsk.has at hc; exact of_decide_eq_false hc
      by_cases hi : i < 0
      · have q1 : decide (i < 0) = true := decide_eq_true hi
        refine Ct.enter Tryd.func97 rfl Tryd.ntmps97 (by simp) (fun R => ?_)
        repeat' (first 
    | (refine ek_lss ?_; refine EK_ev (Ev_lssI_q rfl rfl q1) ?_)
    | refine xst ?_
    | (refine xsa ?_; intro _)
    | (refine xsb ?_ ?_ <;> intro _ <;> first | (exfalso; omega) | skip)
    | refine xsc ?_
    | fail)
        all_goals refine KJ_doneR (by first | exact Or.inl rfl | exact Or.inr rfl) rfl (by (repeat' (first | exact Rvs.nil | (apply Rvs.tmp; exact rfl))); first | done | fail) (by rfl) (sv) (wv) (fun g q => ?_)
        all_goals (show starL ([cellsP p [sv, wv, .bool D.off, .bool (decide (0 ≤ D.armed)), .int .i64 (max D.armed 0), .int .i64 D.writes, .int .i64 D.flushes, .int .i64 D.life] 97, rowP (sv) 9 1 D.n (secsV D.img D.n), rowP (wv) 192 2 D.und.length (waysV D.und)] ++ R) g; rw [hoff]; exact (xN) g q)
      · have q1 : decide (i < 0) = false := decide_eq_false hi
        have q2 : decide ((D.n : Int) ≤ i) = true := decide_eq_true (by omega)
        refine Ct.enter Tryd.func97 rfl Tryd.ntmps97 (by simp) (fun R => ?_)
        refine KJ.row_slice (v := sv) xS (fun ad c e => ?_)
        subst e
        repeat' (first 
    | (refine ek_lss ?_; refine EK_ev (Ev_lssI_q rfl rfl q1) ?_)
    | (refine ek_geq ?_; refine EK_ev (Ev_geqI_q rfl rfl q2) ?_)
    | refine xst ?_
    | (refine xsa ?_; intro _)
    | (refine xsb ?_ ?_ <;> intro _ <;> first | (exfalso; omega) | skip)
    | refine xsc ?_
    | fail)
        all_goals refine KJ_doneR (by first | exact Or.inl rfl | exact Or.inr rfl) rfl (by (repeat' (first | exact Rvs.nil | (apply Rvs.tmp; exact rfl))); first | done | fail) (by rfl) (.slice ad D.n c) (wv) (fun g q => ?_)
        all_goals (show starL ([cellsP p [.slice ad D.n c, wv, .bool D.off, .bool (decide (0 ≤ D.armed)), .int .i64 (max D.armed 0), .int .i64 D.writes, .int .i64 D.flushes, .int .i64 D.life] 97, rowP (.slice ad D.n c) 9 1 D.n (secsV D.img D.n), rowP (wv) 192 2 D.und.length (waysV D.und)] ++ R) g; rw [hoff]; exact (xN) g q)
    · rw [hc] at he
      subst he
      have hc' : 0 ≤ i ∧ i < D.n := by unfold Dsk.has at hc; exact of_decide_eq_true hc
      have q1 : decide (i < 0) = false := decide_eq_false (by omega)
      have q2 : decide ((D.n : Int) ≤ i) = false := decide_eq_false (by omega)
      have q3 : ((s.length : Nat) : Int) ≠ 256 := by omega
      refine Ct.enter Tryd.func97 rfl Tryd.ntmps97 (by simp) (fun R => ?_)
      refine KJ.row_slice (v := sv) xS (fun ad c e => ?_)
      subst e
      repeat' (first 
    | (refine ek_neq ?_; refine EK_ev (Ev_neqI_t rfl rfl q3) ?_)
    | (refine ek_lss ?_; refine EK_ev (Ev_lssI_q rfl rfl q1) ?_)
    | (refine ek_geq ?_; refine EK_ev (Ev_geqI_q rfl rfl q2) ?_)
    | refine xst ?_
    | (refine xsa ?_; intro _)
    | (refine xsb ?_ ?_ <;> intro _ <;> first | (exfalso; omega) | skip)
    | refine xsc ?_
    | fail)
      all_goals refine KJ_doneR (by first | exact Or.inl rfl | exact Or.inr rfl) rfl (by (repeat' (first | exact Rvs.nil | (apply Rvs.tmp; exact rfl))); first | done | fail) (by rfl) (.slice ad D.n c) (wv) (fun g q => ?_)
      all_goals (show starL ([cellsP p [.slice ad D.n c, wv, .bool D.off, .bool (decide (0 ≤ D.armed)), .int .i64 (max D.armed 0), .int .i64 D.writes, .int .i64 D.flushes, .int .i64 D.life] 97, rowP (.slice ad D.n c) 9 1 D.n (secsV D.img D.n), rowP (wv) 192 2 D.und.length (waysV D.und)] ++ R) g; rw [hoff]; exact (xN) g q)
  by_cases hh : D.has i = true
  rotate_left
  · have hh : D.has i = false := by simpa using hh
    exact hbad 6 (by unfold Dsk.writeE; rw [if_neg (by rw [hoff]; simp), if_neg (by rw [hh]; simp)]) (by unfold Dsk.writeD; rw [if_neg (by rw [hoff]; simp), if_neg (by rw [hh]; simp)]) (.inl hh) (by rw [hh]; rfl)
  by_cases hs : s.length = 256
  rotate_left
  · exact hbad 7 (by unfold Dsk.writeE; rw [if_neg (by rw [hoff]; simp), if_pos hh, if_neg hs]) (by unfold Dsk.writeD; rw [if_neg (by rw [hoff]; simp), if_pos hh, if_neg hs]) (.inr ⟨hh, hs⟩) (by rw [hh]; rfl)
  clear hbad
  have hc' : 0 ≤ i ∧ i < D.n := by unfold Dsk.has at hh; exact of_decide_eq_true hh
  have q1 : decide (i < 0) = false := decide_eq_false (by omega)
  have q2 : decide ((D.n : Int) ≤ i) = false := decide_eq_false (by omega)
  have q3 : ((s.length : Nat) : Int) = 256 := by omega
  obtain ⟨j, rfl⟩ : ∃ j : Nat, i = (j : Int) := ⟨i.toNat, by omega⟩
  obtain ⟨D1, hD1⟩ : ∃ D1 : Dsk, D1 = { D with und := D.und ++ [(j, s)] } := ⟨_, rfl⟩
  have cg : ∀ sv wv, Ct Tryd.prog W 122 [.pointer (some ⟨p, 0, none⟩)] (RefF p D1 (sv, wv)) (fun _ : Unit => .bool D.dead) (fun _ => RefF p D1.gone (sv, wv)) := fun sv wv => by
    subst hD1; exact rgoes_ct (D := { D with und := D.und ++ [(j, s)] }) ⟨hok.arm1, hok.arm2⟩ hoff sv wv
  have hz : ∀ sv wv, RefF p D1 (sv, wv) = [cellsP p [sv, wv, .bool false, .bool (decide (0 ≤ D.armed)), .int .i64 (max D.armed 0), .int .i64 D.writes, .int .i64 D.flushes, .int .i64 D.life] 97, rowP (sv) 9 1 D.n (secsV D.img D.n), rowP (wv) 192 2 (D.und.length + 1) (waysV D.und ++ [.int .i64 (j : Nat), strV s])] := fun sv wv => by
    subst hD1; simp only [RefF, refC, hoff, List.length_append, List.length_cons, List.length_nil, waysV_snoc]
  have hgw : D1.gone.writes = D.writes := by rw [Dsk.gone_writes, hD1]
  have hgn : D1.gone.n = D.n := by rw [Dsk.gone_n, hD1]
  by_cases hd : D.dead = true
  · have e1 : D.writeE (j : Int) s = 12 := by unfold Dsk.writeE; rw [if_neg (by rw [hoff]; simp), if_pos hh, if_pos hs, if_pos hd]
    have e2 : D.writeD (j : Int) s = D1.gone := by unfold Dsk.writeD; rw [if_neg (by rw [hoff]; simp), if_pos hh, if_pos hs, if_pos hd, hD1, Int.toNat_natCast]
    rw [hd] at cg
    rw [e1, e2]
    show Ct _ _ _ _ [cellsP p [sv, wv, .bool D.off, .bool (decide (0 ≤ D.armed)), .int .i64 (max D.armed 0), .int .i64 D.writes, .int .i64 D.flushes, .int .i64 D.life] 97, rowP (sv) 9 1 D.n (secsV D.img D.n), rowP (wv) 192 2 D.und.length (waysV D.und)] _ _
    rw [hoff]
    refine Ct.enter Tryd.func97 rfl Tryd.ntmps97 (by simp) (fun R => ?_)
    refine KJ.row_slice (v := sv) xS (fun ad c e => ?_)
    subst e
    refine KJ.row_slice (v := wv) xS (fun wa wc e => ?_)
    subst e
    simp only [hz] at cg
    repeat' (first 
    | (refine is_call ?_; refine KJ_call xE (cg _ _) xP rfl (fun _ => ?_))
    | (refine is_append ?_; refine KJ_append (a2 := 0) rfl rfl (by rfl) (by omega) xS (Src.cells (i := 2) xS xC) (by rfl) (by omega) xO (by omega) (by omega) rfl rfl (fun gw cw => ?_))
    | (refine is_bslice ?_; refine KJ_bslice1 rfl xF (by rfl) (by omega) rfl (fun _ => ?_))
    | (refine ek_build ?_; refine EK_ev (Ev_build xV xW) ?_)
    | (refine ek_neq ?_; refine EK_ev (Ev_neqI_f rfl rfl q3) ?_)
    | (refine ek_lss ?_; refine EK_ev (Ev_lssI_q rfl rfl q1) ?_)
    | (refine ek_geq ?_; refine EK_ev (Ev_geqI_q rfl rfl q2) ?_)
    | refine xst ?_
    | (refine xsa ?_; intro _)
    | (refine xsb ?_ ?_ <;> intro _ <;> first | (exfalso; omega) | skip)
    | refine xsc ?_
    | fail)
    all_goals refine KJ_doneR (by first | exact Or.inl rfl | exact Or.inr rfl) rfl (by (repeat' (first | exact Rvs.nil | (apply Rvs.tmp; exact rfl))); first | done | fail) (by rfl) (.slice ad D.n c) (.slice (some ⟨gw, 0, none⟩) (D.und.length + 1) cw) (fun g q => ?_)
    all_goals exact (xN) g q
  · have hd : D.dead = false := by simpa using hd
    have e1 : D.writeE (j : Int) s = 0 := by unfold Dsk.writeE; rw [if_neg (by rw [hoff]; simp), if_pos hh, if_pos hs, if_neg (by rw [hd]; simp)]
    have e2 : D.writeD (j : Int) s = { D1.gone with writes := w64 (D1.gone.writes + 1) } := by unfold Dsk.writeD; rw [if_neg (by rw [hoff]; simp), if_pos hh, if_pos hs, if_neg (by rw [hd]; simp), hD1, Int.toNat_natCast]
    rw [hd] at cg
    rw [e1, e2]
    obtain ⟨D2, hD2⟩ : ∃ D2, D2 = D1.gone := ⟨_, rfl⟩
    rw [← hD2] at cg hgn ⊢
    have hw1 : IntKind.i64.wrap (D2.writes + 1) = w64 (D2.writes + 1) := w64_wrap _
    clear hD2 hgw
    have hz2 : ∀ sv wv, RefF p D2 (sv, wv) = [cellsP p [sv, wv, .bool D2.off, .bool (decide (0 ≤ D2.armed)), .int .i64 (max D2.armed 0), .int .i64 D2.writes, .int .i64 D2.flushes, .int .i64 D2.life] 97, rowP sv 9 1 D2.n (secsV D2.img D2.n), rowP wv 192 2 D2.und.length (waysV D2.und)] := fun _ _ => rfl
    simp only [hz2] at cg
    show Ct _ _ _ _ [cellsP p [sv, wv, .bool D.off, .bool (decide (0 ≤ D.armed)), .int .i64 (max D.armed 0), .int .i64 D.writes, .int .i64 D.flushes, .int .i64 D.life] 97, rowP (sv) 9 1 D.n (secsV D.img D.n), rowP (wv) 192 2 D.und.length (waysV D.und)] _ _
    rw [hoff]
    refine Ct.enter Tryd.func97 rfl Tryd.ntmps97 (by simp) (fun R => ?_)
    refine KJ.row_slice (v := sv) xS (fun ad c e => ?_)
    subst e
    refine KJ.row_slice (v := wv) xS (fun wa wc e => ?_)
    subst e
    simp only [hz] at cg
    repeat' (first 
    | (refine is_call ?_; refine KJ_call xE (cg _ _) xP rfl (fun _ => ?_))
    | (refine is_append ?_; refine KJ_append (a2 := 0) rfl rfl (by rfl) (by omega) xS (Src.cells (i := 2) xS xC) (by rfl) (by omega) xO (by omega) (by omega) rfl rfl (fun gw cw => ?_))
    | (refine is_bslice ?_; refine KJ_bslice1 rfl xF (by rfl) (by omega) rfl (fun _ => ?_))
    | (refine ek_build ?_; refine EK_ev (Ev_build xV xW) ?_)
    | (refine ek_add ?_; refine EK_ev (Ev_addV rfl rfl hw1) ?_)
    | (refine ek_neq ?_; refine EK_ev (Ev_neqI_f rfl rfl q3) ?_)
    | (refine ek_lss ?_; refine EK_ev (Ev_lssI_q rfl rfl q1) ?_)
    | (refine ek_geq ?_; refine EK_ev (Ev_geqI_q rfl rfl q2) ?_)
    | refine xst ?_
    | (refine xsa ?_; intro _)
    | (refine xsb ?_ ?_ <;> intro _ <;> first | (exfalso; omega) | skip)
    | refine xsc ?_
    | fail)
    all_goals refine KJ_doneR (by first | exact Or.inl rfl | exact Or.inr rfl) rfl (by (repeat' (first | exact Rvs.nil | (apply Rvs.tmp; exact rfl))); first | done | fail) (by rfl) (.slice ad D.n c) (.slice (some ⟨gw, 0, none⟩) (D.und.length + 1) cw) (fun g q => ?_)
    all_goals exact (xN) g q
end
end Go.Proofs.YteklldbfdmaafaaDoor
/-
  The document's disk (remitref06): Read, Flush, Crash, Image over plain data.
-/
namespace Go.Proofs.YteklldbfdmaafaaDoor
open Go Go.RowKit
theorem lastW_take (u : List (Nat × List UInt8)) (k j : Nat) (b : List UInt8) (i : Nat) (h : u[k]? = some (j, b)) : lastW (u.take (k + 1)) i = if j = i then some b else lastW (u.take k) i := by
  have h1 := (List.getElem?_eq_some_iff.1 h).1
  have h2 : u[k] = (j, b) := (List.getElem?_eq_some_iff.1 h).2
  rw [List.take_succ_eq_append_getElem h1, h2, lastW_snoc]
theorem starL_nilrow {e size : Nat} {H R : List SP} : ∀ g, starL (H ++ R) g → starL (H ++ [rowP (.slice none 0 0) e size 0 []] ++ R) g := by
  intro g q
  have q2 : starL (rowP (.slice none 0 0) e size 0 [] :: (H ++ R)) g := ⟨fun _ => none, g, (fun _ _ q => by cases q), (fun _ _ q => by cases q), .rfl, ⟨by simp, .inl ⟨rfl, rfl⟩⟩, q⟩
  refine starL_perm ?_ g q2
  have : (H ++ [rowP (.slice none 0 0) e size 0 []] ++ R) = H ++ rowP (.slice none 0 0) e size 0 [] :: R := by simp
  rw [this]
  exact List.perm_middle.symm
section
variable {W : World} {p : Nat} {D : Dsk}
set_option maxHeartbeats 1000000 in
theorem rread_ct (hok : D.ok) (i : Int) (hul : D.und.length < 1073741824) : Ct Tryd.prog W 96 [.pointer (some ⟨p, 0, none⟩), .int .i64 i] [RefP p D] (fun _ : Unit => .tuple #[strV (D.readS i), .int .i64 (D.readE i)]) (fun _ => [RefP p D]) := by
  refine Ct_ref (fun sv wv => ?_)
  have hn1 := hok.n1
  have hn2 := hok.n2
  by_cases hoff : D.off = true
  · have e1 : D.readE i = 12 := by unfold Dsk.readE; rw [if_pos hoff]
    have e2 : D.readS i = [] := by unfold Dsk.readS; rw [if_pos hoff]
    rw [e1, e2]
    show Ct _ _ _ _ [cellsP p [sv, wv, .bool D.off, .bool (decide (0 ≤ D.armed)), .int .i64 (max D.armed 0), .int .i64 D.writes, .int .i64 D.flushes, .int .i64 D.life] 97, rowP (sv) 9 1 D.n (secsV D.img D.n), rowP (wv) 192 2 D.und.length (waysV D.und)] _ _
    rw [hoff]
    refine Ct.enter Tryd.func96 rfl Tryd.ntmps96 (by simp) (fun R => ?_)
    repeat' (first 
    | refine xst ?_
    | (refine xsa ?_; intro _)
    | (refine xsb ?_ ?_ <;> intro _ <;> first | (exfalso; omega) | skip)
    | refine xsc ?_
    | fail)
    all_goals refine KJ_doneR (by first | exact Or.inl rfl | exact Or.inr rfl) rfl (by (repeat' (first | exact Rvs.nil | (apply Rvs.tmp; exact rfl))); first | done | fail) (by rfl) (sv) (wv) (fun g q => ?_)
    all_goals (show starL ([cellsP p [sv, wv, .bool D.off, .bool (decide (0 ≤ D.armed)), .int .i64 (max D.armed 0), .int .i64 D.writes, .int .i64 D.flushes, .int .i64 D.life] 97, rowP (sv) 9 1 D.n (secsV D.img D.n), rowP (wv) 192 2 D.und.length (waysV D.und)] ++ R) g; rw [hoff]; exact (xN) g q)
  have hoff : D.off = false := by simpa using hoff
  by_cases hh : D.has i = true
  rotate_left
  · have hh : D.has i = false := by simpa using hh
    have e1 : D.readE i = 6 := by unfold Dsk.readE; rw [if_neg (by rw [hoff]; simp), if_neg (by rw [hh]; simp)]
    have e2 : D.readS i = [] := by unfold Dsk.readS; rw [if_neg (by rw [hoff]; simp), if_neg (by rw [hh]; simp)]
    rw [e1, e2]
    have hc' : ¬ (0 ≤ i ∧ i < D.n) := by unfold Dsk.has at hh; exact of_decide_eq_false hh
    show Ct _ _ _ _ [cellsP p [sv, wv, .bool D.off, .bool (decide (0 ≤ D.armed)), .int .i64 (max D.armed 0), .int .i64 D.writes, .int .i64 D.flushes, .int .i64 D.life] 97, rowP (sv) 9 1 D.n (secsV D.img D.n), rowP (wv) 192 2 D.und.length (waysV D.und)] _ _
    rw [hoff]
    by_cases hi : i < 0
    · have q1 : decide (i < 0) = true := decide_eq_true hi
      refine Ct.enter Tryd.func96 rfl Tryd.ntmps96 (by simp) (fun R => ?_)
      repeat' (first 
    | (refine ek_lss ?_; refine EK_ev (Ev_lssI_q rfl rfl q1) ?_)
    | refine xst ?_
    | (refine xsa ?_; intro _)
    | (refine xsb ?_ ?_ <;> intro _ <;> first | (exfalso; omega) | skip)
    | refine xsc ?_
    | fail)
      all_goals refine KJ_doneR (by first | exact Or.inl rfl | exact Or.inr rfl) rfl (by (repeat' (first | exact Rvs.nil | (apply Rvs.tmp; exact rfl))); first | done | fail) (by rfl) (sv) (wv) (fun g q => ?_)
      all_goals (show starL ([cellsP p [sv, wv, .bool D.off, .bool (decide (0 ≤ D.armed)), .int .i64 (max D.armed 0), .int .i64 D.writes, .int .i64 D.flushes, .int .i64 D.life] 97, rowP (sv) 9 1 D.n (secsV D.img D.n), rowP (wv) 192 2 D.und.length (waysV D.und)] ++ R) g; rw [hoff]; exact (xN) g q)
    · have q1 : decide (i < 0) = false := decide_eq_false hi
      have q2 : decide ((D.n : Int) ≤ i) = true := decide_eq_true (by omega)
      refine Ct.enter Tryd.func96 rfl Tryd.ntmps96 (by simp) (fun R => ?_)
      refine KJ.row_shape (v := sv) xS (by omega) (fun gs c e => ?_)
      subst e
      repeat' (first 
    | (refine ek_lss ?_; refine EK_ev (Ev_lssI_q rfl rfl q1) ?_)
    | (refine ek_geq ?_; refine EK_ev (Ev_geqI_q rfl rfl q2) ?_)
    | refine xst ?_
    | (refine xsa ?_; intro _)
    | (refine xsb ?_ ?_ <;> intro _ <;> first | (exfalso; omega) | skip)
    | refine xsc ?_
    | fail)
      all_goals refine KJ_doneR (by first | exact Or.inl rfl | exact Or.inr rfl) rfl (by (repeat' (first | exact Rvs.nil | (apply Rvs.tmp; exact rfl))); first | done | fail) (by rfl) (.slice (some ⟨gs, 0, none⟩) D.n c) (wv) (fun g q => ?_)
      all_goals (show starL ([cellsP p [.slice (some ⟨gs, 0, none⟩) D.n c, wv, .bool D.off, .bool (decide (0 ≤ D.armed)), .int .i64 (max D.armed 0), .int .i64 D.writes, .int .i64 D.flushes, .int .i64 D.life] 97, rowP (.slice (some ⟨gs, 0, none⟩) D.n c) 9 1 D.n (secsV D.img D.n), rowP (wv) 192 2 D.und.length (waysV D.und)] ++ R) g; rw [hoff]; exact (xN) g q)
  have hc' : 0 ≤ i ∧ i < D.n := by unfold Dsk.has at hh; exact of_decide_eq_true hh
  have q1 : decide (i < 0) = false := decide_eq_false (by omega)
  have q2 : decide ((D.n : Int) ≤ i) = false := decide_eq_false (by omega)
  obtain ⟨j, rfl⟩ : ∃ j : Nat, i = (j : Int) := ⟨i.toNat, by omega⟩
  have hj : j < D.n := by omega
  have e1 : D.readE (j : Int) = 0 := by unfold Dsk.readE; rw [if_neg (by rw [hoff]; simp), if_pos hh]
  have e2 : D.readS (j : Int) = (lastW (D.und.take D.und.length) j).getD (D.sec j) := by unfold Dsk.readS; rw [if_neg (by rw [hoff]; simp), if_pos hh, Int.toNat_natCast, List.take_length]; rfl
  obtain ⟨A, hA⟩ : ∃ A : Nat → List UInt8, A = fun k => (lastW (D.und.take k) j).getD (D.sec j) := ⟨_, rfl⟩
  have hA0 : D.sec j = A 0 := by rw [hA]; simp [lastW_nil]
  have hAl : (lastW (D.und.take D.und.length) j).getD (D.sec j) = A D.und.length := by rw [hA]
  have hAn : ∀ k i b, D.und[k]? = some (i, b) → A (k + 1) = if i = j then b else A k := fun k i b h => by
    rw [hA]
    show (lastW (D.und.take (k + 1)) j).getD _ = _
    rw [lastW_take _ _ _ _ _ h]
    split <;> rfl
  have hS : (secsV D.img D.n)[0 + (j : Int).toNat * 1]? = some (strV (A 0)) := by
    rw [Int.toNat_natCast, Nat.mul_one, Nat.zero_add, secsV_get _ _ _ hj, ← hA0]; rfl
  rw [e1, e2, hAl]
  clear hA hAl e1 e2 hA0
  show Ct _ _ _ _ [cellsP p [sv, wv, .bool D.off, .bool (decide (0 ≤ D.armed)), .int .i64 (max D.armed 0), .int .i64 D.writes, .int .i64 D.flushes, .int .i64 D.life] 97, rowP (sv) 9 1 D.n (secsV D.img D.n), rowP (wv) 192 2 D.und.length (waysV D.und)] _ _
  rw [hoff]
  refine Ct.enter Tryd.func96 rfl Tryd.ntmps96 (by simp) (fun R => ?_)
  refine KJ.row_shape (v := sv) xS (by omega) (fun gs c e => ?_)
  subst e
  refine KJ.row_slice (v := wv) xS (fun wa wc e => ?_)
  subst e
  repeat' (first 
    | (refine ek_load ?_; refine EK_ev (Ev_loadRow rfl xS hS) ?_)
    | (refine ek_lss ?_; refine EK_ev (Ev_lssI_q rfl rfl q1) ?_)
    | (refine ek_geq ?_; refine EK_ev (Ev_geqI_q rfl rfl q2) ?_)
    | refine xst ?_
    | (refine xsa ?_; intro _)
    | (refine xsb ?_ ?_ <;> intro _ <;> first | (exfalso; omega) | skip)
    | refine xsc ?_
    | fail)
  refine KJ_loop (fun i : {k : Nat // k ≤ D.und.length} => [(1, .int .i64 (j : Nat)), (6, strV (A i.1)), (34, .slice wa D.und.length wc), (35, .int .i64 D.und.length), (36, .int .i64 (i.1 : Nat))]) (fun _ => [cellsP p [.slice (some ⟨gs, 0, none⟩) D.n c, .slice wa D.und.length wc, .bool false, .bool (decide (0 ≤ D.armed)), .int .i64 (max D.armed 0), .int .i64 D.writes, .int .i64 D.flushes, .int .i64 D.life] 97, rowP (.slice (some ⟨gs, 0, none⟩) D.n c) 9 1 D.n (secsV D.img D.n), rowP (.slice wa D.und.length wc) 192 2 D.und.length (waysV D.und)] ++ R) (fun i => D.und.length - i.1) ⟨0, by omega⟩ xB (xN) (fun ⟨k, hk⟩ => ?_)
  dsimp only
  by_cases hlt : k < D.und.length
  · obtain ⟨x, b, hx⟩ : ∃ x b, D.und[k]? = some (x, b) := ⟨(D.und[k]).1, (D.und[k]).2, by rw [List.getElem?_eq_getElem hlt]⟩
    have hnx := hAn k x b hx
    have hW : ∀ z v, [Value.int .i64 (x : Nat), strV b][z]? = some v → (waysV D.und)[0 + (k : Int).toNat * 2 + z]? = some v := fun z v hv => by rw [Int.toNat_natCast, Nat.zero_add]; exact waysV_get _ _ _ _ hx z v hv
    refine KJ.row_shape (v := .slice wa D.und.length wc) xS (by omega) (fun gw c' e => ?_)
    obtain ⟨rfl, rfl⟩ : wa = some ⟨gw, 0, none⟩ ∧ wc = c' := by cases e; exact ⟨rfl, rfl⟩
    by_cases hxj : x = j
    · have hq : ((x : Nat) : Int) = ((j : Nat) : Int) := by omega
      rw [if_pos hxj] at hnx
      repeat' (first 
    | (refine ek_load ?_; refine EK_ev (Ev_loadRowAgg rfl xS hW (by rfl)) ?_)
    | (refine ek_add ?_; refine EK_ev (Ev_addI_v (r := ((k + 1 : Nat) : Int)) rfl rfl (by omega) (by omega)) ?_)
    | (refine ek_eql ?_; refine EK_ev (Ev_eqlI_t rfl rfl hq) ?_)
    | refine xst ?_
    | (refine xsa ?_; intro _)
    | (refine xsb ?_ ?_ <;> intro _ <;> first | (exfalso; omega) | skip)
    | refine xsc ?_
    | fail)
      refine KJ_again ⟨k + 1, by omega⟩ (by show D.und.length - (k + 1) < D.und.length - k; omega) ?_ (xN)
      rw [hnx]
      exact xB
    · have hq : ((x : Nat) : Int) ≠ ((j : Nat) : Int) := by omega
      rw [if_neg hxj] at hnx
      repeat' (first 
    | (refine ek_load ?_; refine EK_ev (Ev_loadRowAgg rfl xS hW (by rfl)) ?_)
    | (refine ek_add ?_; refine EK_ev (Ev_addI_v (r := ((k + 1 : Nat) : Int)) rfl rfl (by omega) (by omega)) ?_)
    | (refine ek_eql ?_; refine EK_ev (Ev_eqlI_f rfl rfl hq) ?_)
    | refine xst ?_
    | (refine xsa ?_; intro _)
    | (refine xsb ?_ ?_ <;> intro _ <;> first | (exfalso; omega) | skip)
    | refine xsc ?_
    | fail)
      refine KJ_again ⟨k + 1, by omega⟩ (by show D.und.length - (k + 1) < D.und.length - k; omega) ?_ (xN)
      rw [hnx]
      exact xB
  · have hkl : k = D.und.length := by omega
    subst hkl
    repeat' (first 
    | refine xst ?_
    | (refine xsa ?_; intro _)
    | (refine xsb ?_ ?_ <;> intro _ <;> first | (exfalso; omega) | skip)
    | refine xsc ?_
    | fail)
    all_goals refine KJ_doneR (by first | exact Or.inl rfl | exact Or.inr rfl) rfl (by (repeat' (first | exact Rvs.nil | (apply Rvs.tmp; exact rfl))); first | done | fail) (by rfl) (.slice (some ⟨gs, 0, none⟩) D.n c) (.slice wa D.und.length wc) (fun g q => ?_)
    all_goals (show starL ([cellsP p [.slice (some ⟨gs, 0, none⟩) D.n c, .slice wa D.und.length wc, .bool D.off, .bool (decide (0 ≤ D.armed)), .int .i64 (max D.armed 0), .int .i64 D.writes, .int .i64 D.flushes, .int .i64 D.life] 97, rowP (.slice (some ⟨gs, 0, none⟩) D.n c) 9 1 D.n (secsV D.img D.n), rowP (.slice wa D.und.length wc) 192 2 D.und.length (waysV D.und)] ++ R) g; rw [hoff]; exact (xN) g q)
theorem rimage_ct (hok : D.ok) : Ct Tryd.prog W 59 [.pointer (some ⟨p, 0, none⟩)] [RefP p D] (fun _ : Unit => strV D.img) (fun _ => [RefP p D]) := by
  refine Ct_ref (fun sv wv => ?_)
  have hn1 := hok.n1
  have hn2 := hok.n2
  have hlen := hok.len
  have hfull : D.img.take (256 * D.n) = D.img := List.take_of_length_le (by omega)
  have hA0 : ([] : List Value) = bvs (D.img.take (256 * 0)) := rfl
  show Ct _ _ _ _ [cellsP p [sv, wv, .bool D.off, .bool (decide (0 ≤ D.armed)), .int .i64 (max D.armed 0), .int .i64 D.writes, .int .i64 D.flushes, .int .i64 D.life] 97, rowP (sv) 9 1 D.n (secsV D.img D.n), rowP (wv) 192 2 D.und.length (waysV D.und)] _ _
  refine Ct.enter Tryd.func59 rfl Tryd.ntmps59 (by simp) (fun R => ?_)
  refine KJ.row_shape (v := sv) xS (by omega) (fun gs c e => ?_)
  subst e
  repeat' (first 
    | (refine is_bslice ?_; refine KJ_bslice0 rfl (fun g0 => ?_))
    | refine xst ?_
    | (refine xsa ?_; intro _)
    | (refine xsb ?_ ?_ <;> intro _ <;> first | (exfalso; omega) | skip)
    | refine xsc ?_
    | fail)
  refine KJ_loop (fun i : {x : Nat × Nat × Nat // x.1 ≤ D.n} => [(3, .slice (some ⟨i.1.2.1, 0, none⟩) (256 * i.1.1) i.1.2.2), (10, .slice (some ⟨gs, 0, none⟩) D.n c), (11, .int .i64 D.n), (12, .int .i64 (i.1.1 : Nat))]) (fun i => [rowP (.slice (some ⟨i.1.2.1, 0, none⟩) (256 * i.1.1) i.1.2.2) 5 1 (256 * i.1.1) (bvs (D.img.take (256 * i.1.1)))] ++ [cellsP p [.slice (some ⟨gs, 0, none⟩) D.n c, wv, .bool D.off, .bool (decide (0 ≤ D.armed)), .int .i64 (max D.armed 0), .int .i64 D.writes, .int .i64 D.flushes, .int .i64 D.life] 97, rowP (.slice (some ⟨gs, 0, none⟩) D.n c) 9 1 D.n (secsV D.img D.n), rowP (wv) 192 2 D.und.length (waysV D.und)] ++ R) (fun i => D.n - i.1.1) ⟨(0, g0, 0), by omega⟩ xB ?_ (fun ⟨⟨k, g1, c1⟩, hk⟩ => ?_)
  · exact (xN)
  dsimp only at hk ⊢
  by_cases hlt : k < D.n
  · have hS : (secsV D.img D.n)[0 + (k : Int).toNat * 1]? = some (strV (cut D.img (k * 256) 256)) := by rw [Int.toNat_natCast, Nat.mul_one, Nat.zero_add, secsV_get _ _ _ hlt]
    have hcl : (cut D.img (k * 256) 256).length = 256 := cut_length _ _ _ (by omega)
    have hnx : bvs (D.img.take (256 * k)) ++ bvs (cut D.img (k * 256) 256) = bvs (D.img.take (256 * (k + 1))) := by rw [← take_cut]; simp [bvs]
    have hnl : 256 * k + (cut D.img (k * 256) 256).length = 256 * (k + 1) := by rw [hcl]; omega
    repeat' (first 
    | (refine is_append ?_; refine KJ_appendStr rfl rfl xS (.inr rfl) (by rw [hcl]; omega) rfl (fun g2 c2 => ?_))
    | (refine ek_load ?_; refine EK_ev (Ev_loadRow rfl xS hS) ?_)
    | (refine ek_add ?_; refine EK_ev (Ev_addI_v (r := ((k + 1 : Nat) : Int)) rfl rfl (by omega) (by omega)) ?_)
    | refine xst ?_
    | (refine xsa ?_; intro _)
    | (refine xsb ?_ ?_ <;> intro _ <;> first | (exfalso; omega) | skip)
    | refine xsc ?_
    | fail)
    rw [hnl, hnx]
    refine KJ_again ⟨(k + 1, g2, c2), by omega⟩ (by show D.n - (k + 1) < D.n - k; omega) xB (xN)
  · have hkl : k = D.n := by omega
    subst hkl
    rw [hfull]
    repeat' (first 
    | (refine ek_conv ?_; refine EK_ev (Ev_bytesRow rfl xS) ?_)
    | refine xst ?_
    | (refine xsa ?_; intro _)
    | (refine xsb ?_ ?_ <;> intro _ <;> first | (exfalso; omega) | skip)
    | refine xsc ?_
    | fail)
    all_goals refine KJ_doneR (by first | exact Or.inl rfl | exact Or.inr rfl) rfl (by (repeat' (first | exact Rvs.nil | (apply Rvs.tmp; exact rfl))); first | done | fail) (by rfl) (.slice (some ⟨gs, 0, none⟩) D.n c) (wv) (fun g q => ?_)
    all_goals (show starL ([cellsP p [.slice (some ⟨gs, 0, none⟩) D.n c, wv, .bool D.off, .bool (decide (0 ≤ D.armed)), .int .i64 (max D.armed 0), .int .i64 D.writes, .int .i64 D.flushes, .int .i64 D.life] 97, rowP (.slice (some ⟨gs, 0, none⟩) D.n c) 9 1 D.n (secsV D.img D.n), rowP (wv) 192 2 D.und.length (waysV D.und)] ++ R) g; exact (xN) g q)
set_option maxHeartbeats 1000000 in
theorem rflush_ct (hok : D.ok) (hul : D.und.length < 1073741824) : Ct Tryd.prog W 93 [.pointer (some ⟨p, 0, none⟩)] [RefP p D] (fun _ : Unit => .int .i64 D.flushE) (fun _ => [RefP p D.flushD]) := by
  refine Ct_ref (fun sv wv => ?_)
  by_cases hoff : D.off = true
  · have e1 : D.flushE = 12 := by unfold Dsk.flushE; rw [hoff]; rfl
    have e2 : D.flushD = D := by unfold Dsk.flushD; rw [if_pos hoff]
    rw [e1, e2]
    show Ct _ _ _ _ [cellsP p [sv, wv, .bool D.off, .bool (decide (0 ≤ D.armed)), .int .i64 (max D.armed 0), .int .i64 D.writes, .int .i64 D.flushes, .int .i64 D.life] 97, rowP (sv) 9 1 D.n (secsV D.img D.n), rowP (wv) 192 2 D.und.length (waysV D.und)] _ _
    rw [hoff]
    refine Ct.enter Tryd.func93 rfl Tryd.ntmps93 (by simp) (fun R => ?_)
    repeat' (first 
    | refine xst ?_
    | (refine xsa ?_; intro _)
    | (refine xsb ?_ ?_ <;> intro _ <;> first | (exfalso; omega) | skip)
    | refine xsc ?_
    | (refine KJ_draws (id := 9) (.op 0 (.op 1 (.op 2 (.op 3 (.op 4 (.op 5 (.op 6 (.op 7 (.op 8 (.ef 9 [] .nil)))))))))) (by kernel_rfl) (by kernel_rfl) ?_)
    | refine FW_alt ?_ ?_
    | refine KJ_flow ?_ ?_
    | exact Rech.nil
    | fail)
    all_goals refine KJ_doneR (by first | exact Or.inl rfl | exact Or.inr rfl) rfl (by (repeat' (first | exact Rvs.nil | (apply Rvs.tmp; exact rfl))); first | done | fail) (by rfl) (sv) (wv) (fun g q => ?_)
    all_goals (show starL ([cellsP p [sv, wv, .bool D.off, .bool (decide (0 ≤ D.armed)), .int .i64 (max D.armed 0), .int .i64 D.writes, .int .i64 D.flushes, .int .i64 D.life] 97, rowP (sv) 9 1 D.n (secsV D.img D.n), rowP (wv) 192 2 D.und.length (waysV D.und)] ++ R) g; rw [hoff]; exact (xN) g q)
  have hoff : D.off = false := by simpa using hoff
  have cg : Ct Tryd.prog W 122 [.pointer (some ⟨p, 0, none⟩)] (RefF p D (sv, wv)) (fun _ : Unit => .bool D.dead) (fun _ => RefF p D.gone (sv, wv)) := rgoes_ct ⟨hok.arm1, hok.arm2⟩ hoff sv wv
  have hz : RefF p D (sv, wv) = [cellsP p [sv, wv, .bool false, .bool (decide (0 ≤ D.armed)), .int .i64 (max D.armed 0), .int .i64 D.writes, .int .i64 D.flushes, .int .i64 D.life] 97, rowP (sv) 9 1 D.n (secsV D.img D.n), rowP (wv) 192 2 D.und.length (waysV D.und)] := by simp only [RefF, refC, hoff]
  rw [hz] at cg
  by_cases hd : D.dead = true
  · have e1 : D.flushE = 12 := by unfold Dsk.flushE; rw [hoff, hd]; rfl
    have e2 : D.flushD = D.gone := by unfold Dsk.flushD; rw [if_neg (by rw [hoff]; simp), if_pos hd]
    rw [hd] at cg
    rw [e1, e2]
    show Ct _ _ _ _ [cellsP p [sv, wv, .bool D.off, .bool (decide (0 ≤ D.armed)), .int .i64 (max D.armed 0), .int .i64 D.writes, .int .i64 D.flushes, .int .i64 D.life] 97, rowP (sv) 9 1 D.n (secsV D.img D.n), rowP (wv) 192 2 D.und.length (waysV D.und)] _ _
    rw [hoff]
    refine Ct.enter Tryd.func93 rfl Tryd.ntmps93 (by simp) (fun R => ?_)
    repeat' (first 
    | (refine is_call ?_; refine KJ_call xE cg xP rfl (fun _ => ?_))
    | refine xst ?_
    | (refine xsa ?_; intro _)
    | (refine xsb ?_ ?_ <;> intro _ <;> first | (exfalso; omega) | skip)
    | refine xsc ?_
    | (refine KJ_draws (id := 9) (.op 0 (.op 1 (.op 2 (.op 3 (.op 4 (.op 5 (.op 6 (.op 7 (.op 8 (.ef 9 [] .nil)))))))))) (by kernel_rfl) (by kernel_rfl) ?_)
    | refine FW_alt ?_ ?_
    | refine KJ_flow ?_ ?_
    | exact Rech.nil
    | fail)
    all_goals refine KJ_doneR (by first | exact Or.inl rfl | exact Or.inr rfl) rfl (by (repeat' (first | exact Rvs.nil | (apply Rvs.tmp; exact rfl))); first | done | fail) (by rfl) (sv) (wv) (fun g q => ?_)
    all_goals exact (xN) g q
  have hd : D.dead = false := by simpa using hd
  have e1 : D.flushE = 0 := by unfold Dsk.flushE; rw [hoff, hd]; rfl
  have e2 : D.flushD = { D.gone with img := layAll D.img D.und, und := [], flushes := w64 (D.flushes + 1) } := by unfold Dsk.flushD; rw [if_neg (by rw [hoff]; simp), if_neg (by rw [hd]; simp)]
  rw [hd] at cg
  have hn1 := hok.n1
  have hn2 := hok.n2
  have hlen := hok.len
  have hund := hok.und
  obtain ⟨G, hG⟩ : ∃ G, G = D.gone := ⟨_, rfl⟩
  have g1 : G.n = D.n := by rw [hG, Dsk.gone_n]
  have g2 : G.img = D.img := by rw [hG, Dsk.gone_img]
  have g3 : G.und = D.und := by rw [hG, Dsk.gone_und]
  have g4 : G.flushes = D.flushes := by rw [hG, Dsk.gone_flushes]
  have hzG : RefF p G (sv, wv) = [cellsP p [sv, wv, .bool G.off, .bool (decide (0 ≤ G.armed)), .int .i64 (max G.armed 0), .int .i64 G.writes, .int .i64 D.flushes, .int .i64 G.life] 97, rowP (sv) 9 1 D.n (secsV D.img D.n), rowP (wv) 192 2 D.und.length (waysV D.und)] := by simp only [RefF, refC, g1, g2, g3, g4]
  rw [e1, e2]
  rw [← hG] at cg ⊢
  rw [hzG] at cg
  have hw1 : IntKind.i64.wrap (D.flushes + 1) = w64 (D.flushes + 1) := w64_wrap _
  show Ct _ _ _ _ [cellsP p [sv, wv, .bool D.off, .bool (decide (0 ≤ D.armed)), .int .i64 (max D.armed 0), .int .i64 D.writes, .int .i64 D.flushes, .int .i64 D.life] 97, rowP (sv) 9 1 D.n (secsV D.img D.n), rowP (wv) 192 2 D.und.length (waysV D.und)] _ _
  rw [hoff]
  refine Ct.enter Tryd.func93 rfl Tryd.ntmps93 (by simp) (fun R => ?_)
  refine KJ.row_shape (v := sv) xS (by omega) (fun gs c e => ?_)
  subst e
  refine KJ.row_slice (v := wv) xS (fun wa wc e => ?_)
  subst e
  repeat' (first 
    | (refine is_call ?_; refine KJ_call xE cg xP rfl (fun _ => ?_))
    | refine xst ?_
    | (refine xsa ?_; intro _)
    | (refine xsb ?_ ?_ <;> intro _ <;> first | (exfalso; omega) | skip)
    | refine xsc ?_
    | (refine KJ_draws (id := 9) (.op 0 (.op 1 (.op 2 (.op 3 (.op 4 (.op 5 (.op 6 (.op 7 (.op 8 (.ef 9 [] .nil)))))))))) (by kernel_rfl) (by kernel_rfl) ?_)
    | refine FW_alt ?_ ?_
    | refine KJ_flow ?_ ?_
    | exact Rech.nil
    | fail)
  refine KJ_loop (fun i : {k : Nat // k ≤ D.und.length} => [(0, .pointer (some ⟨p, 0, none⟩)), (16, .slice wa D.und.length wc), (17, .int .i64 D.und.length), (18, .int .i64 (i.1 : Nat))]) (fun i => [cellsP p [.slice (some ⟨gs, 0, none⟩) D.n c, .slice wa D.und.length wc, .bool G.off, .bool (decide (0 ≤ G.armed)), .int .i64 (max G.armed 0), .int .i64 G.writes, .int .i64 D.flushes, .int .i64 G.life] 97, rowP (.slice (some ⟨gs, 0, none⟩) D.n c) 9 1 D.n (secsV (layAll D.img (D.und.take i.1)) D.n), rowP (.slice wa D.und.length wc) 192 2 D.und.length (waysV D.und)] ++ R) (fun i => D.und.length - i.1) ⟨0, by omega⟩ xB (xN) (fun ⟨k, hk⟩ => ?_)
  dsimp only
  have hli : (layAll D.img (D.und.take k)).length = 256 * D.n := layAll_length _ _ _ hlen (fun x hx => hund x (List.mem_of_mem_take hx))
  by_cases hlt : k < D.und.length
  · obtain ⟨x, b, hx⟩ : ∃ x b, D.und[k]? = some (x, b) := ⟨(D.und[k]).1, (D.und[k]).2, by rw [List.getElem?_eq_getElem hlt]⟩
    have hxb := hund _ (List.mem_of_getElem? hx)
    have hxn : x < D.n := hxb.1
    have hb : b.length = 256 := hxb.2
    have hnx := secsV_lay (b := b) hli hxn (by omega)
    rw [List.drop_of_length_le (by rw [hb, cut_length _ _ _ (by omega)]; omega), List.append_nil, ← layAll_take _ _ _ _ _ hx] at hnx
    have hnx' : lay (secsV (layAll D.img (D.und.take k)) D.n) (0 + (x : Int).toNat * 1) [strV b] = secsV (layAll D.img (D.und.take (k + 1))) D.n := by rw [Int.toNat_natCast, Nat.mul_one, Nat.zero_add]; exact hnx
    have hW : ∀ z v, [Value.int .i64 (x : Nat), strV b][z]? = some v → (waysV D.und)[0 + (k : Int).toNat * 2 + z]? = some v := fun z v hv => by rw [Int.toNat_natCast, Nat.zero_add]; exact waysV_get _ _ _ _ hx z v hv
    refine KJ.row_shape (v := .slice wa D.und.length wc) xS (by omega) (fun gw c' e => ?_)
    obtain ⟨rfl, rfl⟩ : wa = some ⟨gw, 0, none⟩ ∧ wc = c' := by cases e; exact ⟨rfl, rfl⟩
    repeat' (first 
    | (refine is_store ?_; refine KJ_storeRow rfl rfl xS xF (by rfl) xO (by rw [secsV_length]; simp; omega) ?_)
    | (refine ek_load ?_; refine EK_ev (Ev_loadRowAgg rfl xS hW (by rfl)) ?_)
    | (refine ek_add ?_; refine EK_ev (Ev_addI_v (r := ((k + 1 : Nat) : Int)) rfl rfl (by omega) (by omega)) ?_)
    | refine xst ?_
    | (refine xsa ?_; intro _)
    | (refine xsb ?_ ?_ <;> intro _ <;> first | (exfalso; omega) | skip)
    | refine xsc ?_
    | (refine KJ_draws (id := 9) (.op 0 (.op 1 (.op 2 (.op 3 (.op 4 (.op 5 (.op 6 (.op 7 (.op 8 (.ef 9 [] .nil)))))))))) (by kernel_rfl) (by kernel_rfl) ?_)
    | refine FW_alt ?_ ?_
    | refine KJ_flow ?_ ?_
    | exact Rech.nil
    | fail)
    all_goals try rw [hnx']
    all_goals refine KJ_again ⟨k + 1, by omega⟩ (by show D.und.length - (k + 1) < D.und.length - k; omega) xB (xN)
  · have hkl : k = D.und.length := by omega
    subst hkl
    rw [List.take_length]
    repeat' (first 
    | (refine ek_add ?_; refine EK_ev (Ev_addV rfl rfl hw1) ?_)
    | refine xst ?_
    | (refine xsa ?_; intro _)
    | (refine xsb ?_ ?_ <;> intro _ <;> first | (exfalso; omega) | skip)
    | refine xsc ?_
    | (refine KJ_draws (id := 9) (.op 0 (.op 1 (.op 2 (.op 3 (.op 4 (.op 5 (.op 6 (.op 7 (.op 8 (.ef 9 [] .nil)))))))))) (by kernel_rfl) (by kernel_rfl) ?_)
    | refine FW_alt ?_ ?_
    | refine KJ_flow ?_ ?_
    | exact Rech.nil
    | fail)
    all_goals refine KJ_doneR (by first | exact Or.inl rfl | exact Or.inr rfl) rfl (by (repeat' (first | exact Rvs.nil | (apply Rvs.tmp; exact rfl))); first | done | fail) (by rfl) (.slice (some ⟨gs, 0, none⟩) D.n c) (.slice none 0 0) (fun g q => ?_)
    all_goals (have e9 : RefF p ({ G with img := layAll D.img D.und, und := [], flushes := w64 (D.flushes + 1) } : Dsk) (.slice (some ⟨gs, 0, none⟩) D.n c, .slice none 0 0) = [cellsP p [.slice (some ⟨gs, 0, none⟩) D.n c, .slice none 0 0, .bool G.off, .bool (decide (0 ≤ G.armed)), .int .i64 (max G.armed 0), .int .i64 G.writes, .int .i64 (w64 (D.flushes + 1)), .int .i64 G.life] 97, rowP (.slice (some ⟨gs, 0, none⟩) D.n c) 9 1 D.n (secsV (layAll D.img D.und) D.n), rowP (.slice none 0 0) 192 2 0 []] := by simp only [RefF, refC, g1]; rfl)
    all_goals rw [e9]
    all_goals refine starL_nilrow (H := [cellsP p [.slice (some ⟨gs, 0, none⟩) D.n c, .slice none 0 0, .bool G.off, .bool (decide (0 ≤ G.armed)), .int .i64 (max G.armed 0), .int .i64 G.writes, .int .i64 (w64 (D.flushes + 1)), .int .i64 G.life] 97, rowP (.slice (some ⟨gs, 0, none⟩) D.n c) 9 1 D.n (secsV (layAll D.img D.und) D.n)]) g ((xN) g q)
end
end Go.Proofs.YteklldbfdmaafaaDoor
/-
  What a crash may make of a sector, as plain data.
-/
namespace Go.Proofs.YteklldbfdmaafaaDoor
open Go Go.RowKit
theorem done_le (kept : List Bool) (torn bytes : Int) (k : Nat) : done kept torn bytes k ≤ 256 := by
  unfold done
  split
  · omega
  · split <;> omega
end Go.Proofs.YteklldbfdmaafaaDoor
/-
  The document's disk (remitref06): Crash, New, From over plain data.
-/
namespace Go.Proofs.YteklldbfdmaafaaDoor
open Go Go.RowKit
section
variable {P : Program} {W : World} {n b off : Nat} {T t : TypeId} {E : Env} {H R : List SP} {x : Operand}
theorem Ev_load_v {cs : List Value} {v v' : Value} (hx : Env.ev E x = some (.pointer (some ⟨b, off, none⟩))) [hu : ScIs P t] (hs : Sel (cellsP b cs T) H R) (hv : cs[off]? = some v) (h : v = v') : Ev P W n E H (.load t x) v' := by
  subst h; exact Ev_load hx hs hv
end
section
variable {W : World} {p : Nat} {D : Dsk}
set_option maxHeartbeats 2000000 in
set_option maxRecDepth 100000 in
theorem rcrash_ct (hok : D.ok) (hul : D.und.length < 1073741824) {kv : Value} {kept : List Bool} (torn bytes : Int) (hk : BoolsAt W kv kept) : Ct Tryd.prog W 95 [.pointer (some ⟨p, 0, none⟩), .agg #[kv, .int .i64 torn, .int .i64 bytes]] [RefP p D] (fun _ : Unit => .tuple #[]) (fun _ => [RefP p (D.crash kept torn bytes)]) := by
  refine Ct_ref (fun sv wv => ?_)
  obtain ⟨ka, kc, rfl, hkr, -⟩ := hk
  have hn1 := hok.n1
  have hn2 := hok.n2
  have hlen := hok.len
  have hund := hok.und
  have hw1 : IntKind.i64.wrap (D.life + 1) = w64 (D.life + 1) := w64_wrap _
  show Ct _ _ _ _ [cellsP p [sv, wv, .bool D.off, .bool (decide (0 ≤ D.armed)), .int .i64 (max D.armed 0), .int .i64 D.writes, .int .i64 D.flushes, .int .i64 D.life] 97, rowP (sv) 9 1 D.n (secsV D.img D.n), rowP (wv) 192 2 D.und.length (waysV D.und)] _ _
  refine Ct.enter Tryd.func95 rfl Tryd.ntmps95 (by simp) (fun R => ?_)
  refine KJ.row_shape (v := sv) xS (by omega) (fun gs c e => ?_)
  subst e
  refine KJ.row_slice (v := wv) xS (fun wa wc e => ?_)
  subst e
  repeat' (first 
    | (refine is_box ?_; refine KJ_box rfl xF rfl (fun gF => ?_))
    | refine xst ?_
    | (refine xsa ?_; intro _)
    | (refine xsb ?_ ?_ <;> intro _ <;> first | (exfalso; omega) | skip)
    | refine xsc ?_
    | (refine KJ_draws (id := 9) (.op 0 (.op 1 (.op 2 (.op 3 (.op 4 (.op 5 (.op 6 (.op 7 (.op 8 (.op 9 (.op 10 (.op 11 (.op 12 (.op 13 (.op 14 (.op 15 (.op 16 (.op 17 (.op 18 (.op 19 (.op 20 (.op 21 (.ef 22 [] .nil))))))))))))))))))))))) (by kernel_rfl) (by kernel_rfl) ?_)
    | refine FW_alt ?_ ?_
    | refine KJ_flow ?_ ?_
    | exact Rech.nil
    | fail)
  refine KJ_loop (fun i : {k : Nat // k ≤ D.und.length} => [(0, .pointer (some ⟨p, 0, none⟩)), (3, .pointer (some ⟨gF, 0, none⟩)), (10, .slice wa D.und.length wc), (11, .int .i64 D.und.length), (12, .int .i64 (i.1 : Nat))]) (fun i => [cellsP gF [.slice ka kept.length kc, .int .i64 torn, .int .i64 bytes] 25] ++ [cellsP p [.slice (some ⟨gs, 0, none⟩) D.n c, .slice wa D.und.length wc, .bool D.off, .bool (decide (0 ≤ D.armed)), .int .i64 (max D.armed 0), .int .i64 D.writes, .int .i64 D.flushes, .int .i64 D.life] 97, rowP (.slice (some ⟨gs, 0, none⟩) D.n c) 9 1 D.n (secsV (layDone D.img kept torn bytes (D.und.take i.1)) D.n), rowP (.slice wa D.und.length wc) 192 2 D.und.length (waysV D.und)] ++ R) (fun i => D.und.length - i.1) ⟨0, by omega⟩ xB (xN) (fun ⟨k, hkk⟩ => ?_)
  dsimp only
  have hli : (layDone D.img kept torn bytes (D.und.take k)).length = 256 * D.n := layDone_length _ _ _ _ _ _ hlen (fun x hx => hund x (List.mem_of_mem_take hx))
  by_cases hlt : k < D.und.length
  · obtain ⟨x, b, hx⟩ : ∃ x b, D.und[k]? = some (x, b) := ⟨(D.und[k]).1, (D.und[k]).2, by rw [List.getElem?_eq_getElem hlt]⟩
    have hxb := hund _ (List.mem_of_getElem? hx)
    have hxn : x < D.n := hxb.1
    have hb : b.length = 256 := hxb.2
    have hd256 := done_le kept torn bytes k
    have hdd : done kept torn bytes k = if (k : Int) = torn then (min (max bytes 0) 256).toNat else if kept.getD k false then 256 else 0 := rfl
    have hsnx := layDone_take D.img kept torn bytes D.und k x b hx
    obtain ⟨d, hd⟩ : ∃ d, d = done kept torn bytes k := ⟨_, rfl⟩
    rw [← hd] at hd256 hdd hsnx
    have hnx := secsV_lay (b := b.take d) hli hxn (by rw [List.length_take]; omega)
    rw [← hsnx, List.length_take, Nat.min_eq_left (by omega)] at hnx
    obtain ⟨I, hI⟩ : ∃ I, I = layDone D.img kept torn bytes (D.und.take k) := ⟨_, rfl⟩
    rw [← hI] at hnx hli ⊢
    have hnx' : lay (secsV I D.n) (0 + (x : Int).toNat * 1) [strV (b.take ((d : Nat) : Int).toNat ++ (cut I (x * 256) 256).drop ((d : Nat) : Int).toNat)] = secsV (layDone D.img kept torn bytes (D.und.take (k + 1))) D.n := by rw [Int.toNat_natCast, Int.toNat_natCast, Nat.mul_one, Nat.zero_add]; exact hnx
    have hcl : (cut I (x * 256) 256).length = 256 := cut_length _ _ _ (by omega)
    have hS : (secsV I D.n)[0 + (x : Int).toNat * 1]? = some (strV (cut I (x * 256) 256)) := by rw [Int.toNat_natCast, Nat.mul_one, Nat.zero_add, secsV_get _ _ _ hxn]
    have hW : ∀ z v, [Value.int .i64 (x : Nat), strV b][z]? = some v → (waysV D.und)[0 + (k : Int).toNat * 2 + z]? = some v := fun z v hv => by rw [Int.toNat_natCast, Nat.zero_add]; exact waysV_get _ _ _ _ hx z v hv
    refine KJ.row_shape (v := .slice wa D.und.length wc) xS (by omega) (fun gw c' e => ?_)
    obtain ⟨rfl, rfl⟩ : wa = some ⟨gw, 0, none⟩ ∧ wc = c' := by cases e; exact ⟨rfl, rfl⟩
    apply KJ_rest (fun K => ∀ g5 : Nat, KJ W 79 K [(0, .pointer (some ⟨p, 0, none⟩)), (3, .pointer (some ⟨gF, 0, none⟩)), (10, .slice (some ⟨gw, 0, none⟩) D.und.length wc), (11, .int .i64 D.und.length), (5, .pointer (some ⟨g5, 0, none⟩)), (6, .int .i64 (d : Nat)), (12, .int .i64 (k : Nat))] ([cellsP gF [.slice ka kept.length kc, .int .i64 torn, .int .i64 bytes] 25, cellsP g5 [.int .i64 (x : Nat), strV b] 192] ++ [cellsP p [.slice (some ⟨gs, 0, none⟩) D.n c, .slice (some ⟨gw, 0, none⟩) D.und.length wc, .bool D.off, .bool (decide (0 ≤ D.armed)), .int .i64 (max D.armed 0), .int .i64 D.writes, .int .i64 D.flushes, .int .i64 D.life] 97, rowP (.slice (some ⟨gs, 0, none⟩) D.n c) 9 1 D.n (secsV I D.n), rowP (.slice (some ⟨gw, 0, none⟩) D.und.length wc) 192 2 D.und.length (waysV D.und)] ++ R))
    · intro rest
      by_cases hkl : k < kept.length
      · have ql : decide ((k : Int) < (kept.length : Nat)) = true := decide_eq_true (by omega)
        obtain ⟨z, hz⟩ : ∃ z, kept[k]? = some z := ⟨_, List.getElem?_eq_getElem hkl⟩
        have hgd : kept.getD k false = z := by rw [List.getD, hz]; rfl
        rw [hgd] at hdd
        obtain ⟨kb, ko, hka, hkb, hkc⟩ := hkr (by intro e; rw [e] at hkl; simp at hkl)
        have hkv : Value.slice ka kept.length kc = .slice (some ⟨kb, ko, none⟩) kept.length kc := by rw [hka]
        have Hk : W.cell? ⟨kb, ko + (k : Int).toNat * 1, none⟩ = some (.bool z) := by rw [Int.toNat_natCast, Nat.mul_one]; exact hkc k _ (by simp [hz])
        by_cases ht : (k : Int) = torn
        · rw [if_pos ht] at hdd
          have hmin : min (max bytes 0) 256 = ((d : Nat) : Int) := by omega
          cases z with
          | false => repeat' (first 
    | (refine at_region (id := 9) ?_; exact KJ.weak (rest _) xB (xN))
    | (refine ek_load ?_; first | refine EK_ev (Ev_loadOld rfl Hk) ?_ | refine EK_ev (Ev_load_v rfl xS (by rfl) hkv) ?_ | refine EK_ev (Ev_loadRowAgg rfl xS hW (by rfl)) ?_)
    | (refine ek_min ?_; refine EK_ev (Ev_minV rfl rfl hmin) ?_)
    | (refine ek_eql ?_; refine EK_ev (Ev_eqlI_t rfl rfl ht) ?_)
    | (refine ek_lss ?_; refine EK_ev (Ev_lssI_q rfl rfl ql) ?_)
    | refine xst ?_
    | (refine xsa ?_; intro _)
    | (refine xsb ?_ ?_ <;> intro _ <;> first | (exfalso; omega) | skip)
    | refine xsc ?_
    | (refine KJ_draws (id := 9) (.op 0 (.op 1 (.op 2 (.op 3 (.op 4 (.op 5 (.op 6 (.op 7 (.op 8 (.op 9 (.op 10 (.op 11 (.op 12 (.op 13 (.op 14 (.op 15 (.op 16 (.op 17 (.op 18 (.op 19 (.op 20 (.op 21 (.ef 22 [] .nil))))))))))))))))))))))) (by kernel_rfl) (by kernel_rfl) ?_)
    | refine FW_alt ?_ ?_
    | refine KJ_flow ?_ ?_
    | exact Rech.nil
    | fail)
          | true => repeat' (first 
    | (refine at_region (id := 9) ?_; exact KJ.weak (rest _) xB (xN))
    | (refine ek_load ?_; first | refine EK_ev (Ev_loadOld rfl Hk) ?_ | refine EK_ev (Ev_load_v rfl xS (by rfl) hkv) ?_ | refine EK_ev (Ev_loadRowAgg rfl xS hW (by rfl)) ?_)
    | (refine ek_min ?_; refine EK_ev (Ev_minV rfl rfl hmin) ?_)
    | (refine ek_eql ?_; refine EK_ev (Ev_eqlI_t rfl rfl ht) ?_)
    | (refine ek_lss ?_; refine EK_ev (Ev_lssI_q rfl rfl ql) ?_)
    | refine xst ?_
    | (refine xsa ?_; intro _)
    | (refine xsb ?_ ?_ <;> intro _ <;> first | (exfalso; omega) | skip)
    | refine xsc ?_
    | (refine KJ_draws (id := 9) (.op 0 (.op 1 (.op 2 (.op 3 (.op 4 (.op 5 (.op 6 (.op 7 (.op 8 (.op 9 (.op 10 (.op 11 (.op 12 (.op 13 (.op 14 (.op 15 (.op 16 (.op 17 (.op 18 (.op 19 (.op 20 (.op 21 (.ef 22 [] .nil))))))))))))))))))))))) (by kernel_rfl) (by kernel_rfl) ?_)
    | refine FW_alt ?_ ?_
    | refine KJ_flow ?_ ?_
    | exact Rech.nil
    | fail)
        · rw [if_neg ht] at hdd
          cases z with
          | false =>
            have hd0 : d = 0 := hdd
            subst hd0
            repeat' (first 
    | (refine at_region (id := 9) ?_; exact KJ.weak (rest _) xB (xN))
    | (refine ek_load ?_; first | refine EK_ev (Ev_loadOld rfl Hk) ?_ | refine EK_ev (Ev_load_v rfl xS (by rfl) hkv) ?_ | refine EK_ev (Ev_loadRowAgg rfl xS hW (by rfl)) ?_)
    | (refine ek_eql ?_; refine EK_ev (Ev_eqlI_f rfl rfl ht) ?_)
    | (refine ek_lss ?_; refine EK_ev (Ev_lssI_q rfl rfl ql) ?_)
    | refine xst ?_
    | (refine xsa ?_; intro _)
    | (refine xsb ?_ ?_ <;> intro _ <;> first | (exfalso; omega) | skip)
    | refine xsc ?_
    | (refine KJ_draws (id := 9) (.op 0 (.op 1 (.op 2 (.op 3 (.op 4 (.op 5 (.op 6 (.op 7 (.op 8 (.op 9 (.op 10 (.op 11 (.op 12 (.op 13 (.op 14 (.op 15 (.op 16 (.op 17 (.op 18 (.op 19 (.op 20 (.op 21 (.ef 22 [] .nil))))))))))))))))))))))) (by kernel_rfl) (by kernel_rfl) ?_)
    | refine FW_alt ?_ ?_
    | refine KJ_flow ?_ ?_
    | exact Rech.nil
    | fail)
          | true =>
            have hd0 : d = 256 := hdd
            subst hd0
            repeat' (first 
    | (refine at_region (id := 9) ?_; exact KJ.weak (rest _) xB (xN))
    | (refine ek_load ?_; first | refine EK_ev (Ev_loadOld rfl Hk) ?_ | refine EK_ev (Ev_load_v rfl xS (by rfl) hkv) ?_ | refine EK_ev (Ev_loadRowAgg rfl xS hW (by rfl)) ?_)
    | (refine ek_eql ?_; refine EK_ev (Ev_eqlI_f rfl rfl ht) ?_)
    | (refine ek_lss ?_; refine EK_ev (Ev_lssI_q rfl rfl ql) ?_)
    | refine xst ?_
    | (refine xsa ?_; intro _)
    | (refine xsb ?_ ?_ <;> intro _ <;> first | (exfalso; omega) | skip)
    | refine xsc ?_
    | (refine KJ_draws (id := 9) (.op 0 (.op 1 (.op 2 (.op 3 (.op 4 (.op 5 (.op 6 (.op 7 (.op 8 (.op 9 (.op 10 (.op 11 (.op 12 (.op 13 (.op 14 (.op 15 (.op 16 (.op 17 (.op 18 (.op 19 (.op 20 (.op 21 (.ef 22 [] .nil))))))))))))))))))))))) (by kernel_rfl) (by kernel_rfl) ?_)
    | refine FW_alt ?_ ?_
    | refine KJ_flow ?_ ?_
    | exact Rech.nil
    | fail)
      · have ql : decide ((k : Int) < (kept.length : Nat)) = false := decide_eq_false (by omega)
        have hgd : kept.getD k false = false := by rw [List.getD, List.getElem?_eq_none (by omega)]; rfl
        rw [hgd] at hdd
        by_cases ht : (k : Int) = torn
        · rw [if_pos ht] at hdd
          have hmin : min (max bytes 0) 256 = ((d : Nat) : Int) := by omega
          repeat' (first 
    | (refine at_region (id := 9) ?_; exact KJ.weak (rest _) xB (xN))
    | (refine ek_load ?_; refine EK_ev (Ev_loadRowAgg rfl xS hW (by rfl)) ?_)
    | (refine ek_min ?_; refine EK_ev (Ev_minV rfl rfl hmin) ?_)
    | (refine ek_eql ?_; refine EK_ev (Ev_eqlI_t rfl rfl ht) ?_)
    | (refine ek_lss ?_; refine EK_ev (Ev_lssI_q rfl rfl ql) ?_)
    | refine xst ?_
    | (refine xsa ?_; intro _)
    | (refine xsb ?_ ?_ <;> intro _ <;> first | (exfalso; omega) | skip)
    | refine xsc ?_
    | (refine KJ_draws (id := 9) (.op 0 (.op 1 (.op 2 (.op 3 (.op 4 (.op 5 (.op 6 (.op 7 (.op 8 (.op 9 (.op 10 (.op 11 (.op 12 (.op 13 (.op 14 (.op 15 (.op 16 (.op 17 (.op 18 (.op 19 (.op 20 (.op 21 (.ef 22 [] .nil))))))))))))))))))))))) (by kernel_rfl) (by kernel_rfl) ?_)
    | refine FW_alt ?_ ?_
    | refine KJ_flow ?_ ?_
    | exact Rech.nil
    | fail)
        · rw [if_neg ht] at hdd
          have hd0 : d = 0 := hdd
          subst hd0
          repeat' (first 
    | (refine at_region (id := 9) ?_; exact KJ.weak (rest _) xB (xN))
    | (refine ek_load ?_; refine EK_ev (Ev_loadRowAgg rfl xS hW (by rfl)) ?_)
    | (refine ek_eql ?_; refine EK_ev (Ev_eqlI_f rfl rfl ht) ?_)
    | (refine ek_lss ?_; refine EK_ev (Ev_lssI_q rfl rfl ql) ?_)
    | refine xst ?_
    | (refine xsa ?_; intro _)
    | (refine xsb ?_ ?_ <;> intro _ <;> first | (exfalso; omega) | skip)
    | refine xsc ?_
    | (refine KJ_draws (id := 9) (.op 0 (.op 1 (.op 2 (.op 3 (.op 4 (.op 5 (.op 6 (.op 7 (.op 8 (.op 9 (.op 10 (.op 11 (.op 12 (.op 13 (.op 14 (.op 15 (.op 16 (.op 17 (.op 18 (.op 19 (.op 20 (.op 21 (.ef 22 [] .nil))))))))))))))))))))))) (by kernel_rfl) (by kernel_rfl) ?_)
    | refine FW_alt ?_ ?_
    | refine KJ_flow ?_ ?_
    | exact Rech.nil
    | fail)
    intro g5
    repeat' (first 
    | (refine is_store ?_; refine KJ_storeRow rfl rfl xS xF (by rfl) xO (by rw [secsV_length]; simp; omega) ?_)
    | (refine ek_load ?_; refine EK_ev (Ev_loadRow rfl xS hS) ?_)
    | (refine ek_slice ?_; first | refine EK_ev (Ev_sliceStrFrom rfl rfl (by omega)) ?_ | refine EK_ev (Ev_sliceStrTo rfl rfl (by omega)) ?_)
    | (refine ek_add ?_; first | refine EK_ev (Ev_addS rfl rfl (by simp only [List.length_take, List.length_drop]; omega)) ?_ | refine EK_ev (Ev_addI_v (r := ((k + 1 : Nat) : Int)) rfl rfl (by omega) (by omega)) ?_)
    | refine xst ?_
    | (refine xsa ?_; intro _)
    | (refine xsb ?_ ?_ <;> intro _ <;> first | (exfalso; omega) | skip)
    | refine xsc ?_
    | (refine KJ_draws (id := 9) (.op 0 (.op 1 (.op 2 (.op 3 (.op 4 (.op 5 (.op 6 (.op 7 (.op 8 (.op 9 (.op 10 (.op 11 (.op 12 (.op 13 (.op 14 (.op 15 (.op 16 (.op 17 (.op 18 (.op 19 (.op 20 (.op 21 (.ef 22 [] .nil))))))))))))))))))))))) (by kernel_rfl) (by kernel_rfl) ?_)
    | refine FW_alt ?_ ?_
    | refine KJ_flow ?_ ?_
    | exact Rech.nil
    | fail)
    all_goals try rw [hnx']
    all_goals refine KJ_again ⟨k + 1, by omega⟩ (by show D.und.length - (k + 1) < D.und.length - k; omega) xB (xN)
  · have hkl : k = D.und.length := by omega
    subst hkl
    rw [List.take_length]
    repeat' (first 
    | (refine ek_add ?_; refine EK_ev (Ev_addV rfl rfl hw1) ?_)
    | refine xst ?_
    | (refine xsa ?_; intro _)
    | (refine xsb ?_ ?_ <;> intro _ <;> first | (exfalso; omega) | skip)
    | refine xsc ?_
    | (refine KJ_draws (id := 9) (.op 0 (.op 1 (.op 2 (.op 3 (.op 4 (.op 5 (.op 6 (.op 7 (.op 8 (.op 9 (.op 10 (.op 11 (.op 12 (.op 13 (.op 14 (.op 15 (.op 16 (.op 17 (.op 18 (.op 19 (.op 20 (.op 21 (.ef 22 [] .nil))))))))))))))))))))))) (by kernel_rfl) (by kernel_rfl) ?_)
    | refine FW_alt ?_ ?_
    | refine KJ_flow ?_ ?_
    | exact Rech.nil
    | fail)
    all_goals refine KJ_doneR (by first | exact Or.inl rfl | exact Or.inr rfl) rfl (by (repeat' (first | exact Rvs.nil | (apply Rvs.tmp; exact rfl))); first | done | fail) (by rfl) (.slice (some ⟨gs, 0, none⟩) D.n c) (.slice none 0 0) (fun g q => ?_)
    all_goals (have e9 : RefF p (D.crash kept torn bytes) (.slice (some ⟨gs, 0, none⟩) D.n c, .slice none 0 0) = [cellsP p [.slice (some ⟨gs, 0, none⟩) D.n c, .slice none 0 0, .bool false, .bool false, .int .i64 0, .int .i64 D.writes, .int .i64 D.flushes, .int .i64 (w64 (D.life + 1))] 97, rowP (.slice (some ⟨gs, 0, none⟩) D.n c) 9 1 D.n (secsV (layDone D.img kept torn bytes D.und) D.n), rowP (.slice none 0 0) 192 2 0 []] := by rfl)
    all_goals rw [e9]
    all_goals refine starL_nilrow (H := [cellsP p [.slice (some ⟨gs, 0, none⟩) D.n c, .slice none 0 0, .bool false, .bool false, .int .i64 0, .int .i64 D.writes, .int .i64 D.flushes, .int .i64 (w64 (D.life + 1))] 97, rowP (.slice (some ⟨gs, 0, none⟩) D.n c) 9 1 D.n (secsV (layDone D.img kept torn bytes D.und) D.n)]) g ((xN) g q)
end
end Go.Proofs.YteklldbfdmaafaaDoor
/-
  The document's disk (remitref06): New and From.
-/
namespace Go.Proofs.YteklldbfdmaafaaDoor
open Go Go.RowKit
theorem secsV_zs (n : Nat) : secsV (zs (256 * n)) n = List.replicate n (strV (List.replicate 256 0)) := by
  apply List.ext_getElem
  · rw [secsV_length, List.length_replicate]
  · intro i h1 h2
    rw [secsV_length] at h1
    simp only [secsV, List.getElem_map, List.getElem_range, List.getElem_replicate]
    rw [zs_cut _ _ _ (by omega)]
    rfl
section
variable {W : World}
theorem rnew_bad (n : Int) (h : n < 1 ∨ 65536 < n) : Ct Tryd.prog W 34 [.int .i64 n] [] (fun _ : Unit => .tuple #[.pointer none, .int .i64 6]) (fun _ => []) := by
  by_cases h1 : n < 1
  · have q1 : decide (n < 1) = true := decide_eq_true h1
    refine Ct.enter Tryd.func34 rfl Tryd.ntmps34 (by simp) (fun R => ?_)
    repeat' (first 
    | (refine ek_lss ?_; refine EK_ev (Ev_lssI_q rfl rfl q1) ?_)
    | refine xst ?_
    | (refine xsa ?_; intro _)
    | (refine xsb ?_ ?_ <;> intro _ <;> first | (exfalso; omega) | skip)
    | refine xsc ?_
    | (refine KJ_draws (id := 7) (.op 0 (.op 1 (.op 2 (.op 3 (.op 4 (.ef 5 [4, 3, 2, 1, 0] (.op 6 (.ef 7 [4, 3, 2, 1, 0] (.ef 8 [0] (.op 9 (.op 10 (.ef 11 [] .nil)))))))))))) (by kernel_rfl) (by kernel_rfl) ?_)
    | refine FW_alt ?_ ?_
    | refine KJ_flow ?_ ?_
    | exact Rech.nil
    | fail)
    all_goals (exact xdn ())
  · have q1 : decide (n < 1) = false := decide_eq_false h1
    have q2 : decide (65536 < n) = true := decide_eq_true (by omega)
    refine Ct.enter Tryd.func34 rfl Tryd.ntmps34 (by simp) (fun R => ?_)
    repeat' (first 
    | (refine ek_lss ?_; refine EK_ev (Ev_lssI_q rfl rfl q1) ?_)
    | (refine ek_gtr ?_; refine EK_ev (Ev_gtrI_q rfl rfl q2) ?_)
    | refine xst ?_
    | (refine xsa ?_; intro _)
    | (refine xsb ?_ ?_ <;> intro _ <;> first | (exfalso; omega) | skip)
    | refine xsc ?_
    | (refine KJ_draws (id := 7) (.op 0 (.op 1 (.op 2 (.op 3 (.op 4 (.ef 5 [4, 3, 2, 1, 0] (.op 6 (.ef 7 [4, 3, 2, 1, 0] (.ef 8 [0] (.op 9 (.op 10 (.ef 11 [] .nil)))))))))))) (by kernel_rfl) (by kernel_rfl) ?_)
    | refine FW_alt ?_ ?_
    | refine KJ_flow ?_ ?_
    | exact Rech.nil
    | fail)
    all_goals (exact xdn ())
theorem rnew_ct (n : Nat) (h1 : 1 ≤ n) (h2 : n ≤ 65536) : Ct Tryd.prog W 34 [.int .i64 n] [] (fun p : Nat => .tuple #[.pointer (some ⟨p, 0, none⟩), .int .i64 0]) (fun p => [RefP p (Dsk.blank n)]) := by
  have q1 : decide ((n : Int) < 1) = false := decide_eq_false (by omega)
  have q2 : decide ((65536 : Int) < (n : Int)) = false := decide_eq_false (by omega)
  have h256 : (List.replicate 256 (0 : UInt8)).length = 256 := List.length_replicate
  refine Ct.enter Tryd.func34 rfl Tryd.ntmps34 (by simp) (fun R => ?_)
  repeat' (first 
    | (refine is_box ?_; refine KJ_box rfl xF rfl (fun p => ?_))
    | (refine ek_build ?_; refine EK_ev (Ev_build xV xW) ?_)
    | (refine ek_lss ?_; refine EK_ev (Ev_lssI_q rfl rfl q1) ?_)
    | (refine ek_gtr ?_; refine EK_ev (Ev_gtrI_q rfl rfl q2) ?_)
    | refine xst ?_
    | (refine xsa ?_; intro _)
    | (refine xsb ?_ ?_ <;> intro _ <;> first | (exfalso; omega) | skip)
    | refine xsc ?_
    | (refine KJ_draws (id := 7) (.op 0 (.op 1 (.op 2 (.op 3 (.op 4 (.ef 5 [4, 3, 2, 1, 0] (.op 6 (.ef 7 [4, 3, 2, 1, 0] (.ef 8 [0] (.op 9 (.op 10 (.ef 11 [] .nil)))))))))))) (by kernel_rfl) (by kernel_rfl) ?_)
    | refine FW_alt ?_ ?_
    | refine KJ_flow ?_ ?_
    | exact Rech.nil
    | fail)
  refine KJ_loop (fun i : {x : Nat × Value // x.1 ≤ n} => [(0, .int .i64 (n : Nat)), (4, .pointer (some ⟨p, 0, none⟩)), (5, .int .i64 (i.1.1 : Nat))])
    (fun i => [cellsP p [i.1.2, .slice none 0 0, .bool false, .bool false, .int .i64 0, .int .i64 0, .int .i64 0, .int .i64 0] 97] ++ [rowP i.1.2 9 1 i.1.1 (List.replicate i.1.1 (strV (List.replicate 256 0)))] ++ R) (fun i => n - i.1.1) ⟨(0, .slice none 0 0), by omega⟩ xB (fun g q => starL_nilrow (H := [cellsP p [.slice none 0 0, .slice none 0 0, .bool false, .bool false, .int .i64 0, .int .i64 0, .int .i64 0, .int .i64 0] 97]) g ((xN) g q)) (fun ⟨⟨k, sv⟩, hk⟩ => ?_)
  dsimp only at hk ⊢
  by_cases hlt : k < n
  · have hnx : List.replicate k (strV (List.replicate 256 0)) ++ [strV (List.replicate 256 0)] = List.replicate (k + 1) (strV (List.replicate 256 0)) := (List.replicate_succ' (n := k) (a := strV (List.replicate 256 0))).symm
    repeat' (first 
    | (refine is_append ?_; refine KJ_append (a2 := 0) rfl rfl (by rfl) (by omega) xS (Src.cells (i := 1) xS xC) (by rfl) (by omega) xO (by omega) (by omega) rfl rfl (fun gw cw => ?_))
    | (refine is_mkSlice ?_; refine KJ_makeBytes (m := 256) rfl rfl rfl (by omega) rfl (fun g => ?_))
    | (refine is_bslice ?_; refine KJ_bslice1 rfl xF (by rfl) (by omega) rfl (fun _ => ?_))
    | (refine ek_conv ?_; refine EK_ev (Ev_bytesAll rfl xS h256) ?_)
    | refine xst ?_
    | (refine xsa ?_; intro _)
    | (refine xsb ?_ ?_ <;> intro _ <;> first | (exfalso; omega) | skip)
    | refine xsc ?_
    | (refine KJ_draws (id := 7) (.op 0 (.op 1 (.op 2 (.op 3 (.op 4 (.ef 5 [4, 3, 2, 1, 0] (.op 6 (.ef 7 [4, 3, 2, 1, 0] (.ef 8 [0] (.op 9 (.op 10 (.ef 11 [] .nil)))))))))))) (by kernel_rfl) (by kernel_rfl) ?_)
    | refine FW_alt ?_ ?_
    | refine KJ_flow ?_ ?_
    | exact Rech.nil
    | fail)
    all_goals rw [hnx]
    all_goals refine KJ_again ⟨(k + 1, _), by omega⟩ (by show n - (k + 1) < n - k; omega) xB (xN)
  · have hkn : k = n := by omega
    subst hkn
    repeat' (first 
    | refine xst ?_
    | (refine xsa ?_; intro _)
    | (refine xsb ?_ ?_ <;> intro _ <;> first | (exfalso; omega) | skip)
    | refine xsc ?_
    | (refine KJ_draws (id := 7) (.op 0 (.op 1 (.op 2 (.op 3 (.op 4 (.ef 5 [4, 3, 2, 1, 0] (.op 6 (.ef 7 [4, 3, 2, 1, 0] (.ef 8 [0] (.op 9 (.op 10 (.ef 11 [] .nil)))))))))))) (by kernel_rfl) (by kernel_rfl) ?_)
    | refine FW_alt ?_ ?_
    | refine KJ_flow ?_ ?_
    | exact Rech.nil
    | fail)
    all_goals refine KJ_done (by first | exact Or.inl rfl | exact Or.inr rfl) rfl (by (repeat' (first | exact Rvs.nil | (apply Rvs.tmp; exact rfl))); first | done | fail) p (by rfl) (fun g q => pack_star (F := RefF p (Dsk.blank k)) (sv, .slice none 0 0) g ?_)
    all_goals (have e9 : RefF p (Dsk.blank k) (sv, .slice none 0 0) = [cellsP p [sv, .slice none 0 0, .bool false, .bool false, .int .i64 0, .int .i64 0, .int .i64 0, .int .i64 0] 97, rowP sv 9 1 k (List.replicate k (strV (List.replicate 256 0)))] ++ [rowP (.slice none 0 0) 192 2 0 []] := by rw [← secsV_zs]; rfl)
    all_goals rw [e9]
    all_goals exact starL_nilrow g ((xN) g q)
end
end Go.Proofs.YteklldbfdmaafaaDoor
/-
  The check sum bit by bit is the one by nibbles; plain data.
-/
namespace Go.Proofs.YteklldbfdmaafaaDoor
open Go Go.RowKit
theorem u32_of_lt (n : Nat) (h : n < 2 ^ 32) : IntKind.u32.wrap (n : Int) = (n : Int) := by
  have e : IntKind.u32.wrap (n : Int) = (n : Int) % 4294967296 := rfl
  rw [e]; omega
theorem xor32 (x y : Nat) (hx : x < 2 ^ 32) (hy : y < 2 ^ 32) : bits .xor .u32 (x : Int) (y : Int) = ((x ^^^ y : Nat) : Int) := by
  have e : bits .xor .u32 (x : Int) (y : Int) = IntKind.u32.wrap ((BitVec.ofInt 32 (x : Int) ^^^ BitVec.ofInt 32 (y : Int)).toNat : Int) := rfl
  have b1 : (BitVec.ofInt 32 (x : Int)).toNat = x := by rw [BitVec.toNat_ofInt]; omega
  have b2 : (BitVec.ofInt 32 (y : Int)).toNat = y := by rw [BitVec.toNat_ofInt]; omega
  rw [e, BitVec.toNat_xor, b1, b2]
  exact u32_of_lt _ (Nat.xor_lt_two_pow hx hy)
theorem and32_15 (x : Nat) (hx : x < 2 ^ 32) : bits .and .u32 (x : Int) 15 = ((x % 16 : Nat) : Int) := by
  have e : bits .and .u32 (x : Int) 15 = IntKind.u32.wrap ((BitVec.ofInt 32 (x : Int) &&& BitVec.ofInt 32 15).toNat : Int) := rfl
  have b1 : (BitVec.ofInt 32 (x : Int)).toNat = x := by rw [BitVec.toNat_ofInt]; omega
  have b2 : (BitVec.ofInt 32 15).toNat = 2 ^ 4 - 1 := rfl
  rw [e, BitVec.toNat_and, b1, b2, Nat.and_two_pow_sub_one_eq_mod]
  exact u32_of_lt _ (by omega)
def bitN (a : Nat) : Nat := (a / 2) ^^^ (if a % 2 = 1 then 2197175160 else 0)
theorem bitN_lt (a : Nat) (h : a < 2 ^ 32) : bitN a < 2 ^ 32 := by
  unfold bitN
  exact Nat.xor_lt_two_pow (by omega) (by split <;> omega)
theorem xor_half (x y : Nat) : (x ^^^ y) / 2 = x / 2 ^^^ y / 2 := by
  have := Nat.shiftRight_xor_distrib (a := x) (b := y) (i := 1)
  simpa [Nat.shiftRight_eq_div_pow] using this
theorem xor_low (x y : Nat) : (x ^^^ y) % 2 = (x % 2 ^^^ y % 2) := by
  have := Nat.xor_mod_two_pow (a := x) (b := y) (n := 1)
  simpa using this
theorem bitN_lin (x y : Nat) : bitN (x ^^^ y) = bitN x ^^^ bitN y := by
  unfold bitN
  rw [xor_half, xor_low]
  obtain ⟨p, hp⟩ : ∃ p : Nat, p = 2197175160 := ⟨_, rfl⟩
  rw [← hp]
  obtain ⟨u, hu⟩ : ∃ u, u = x / 2 := ⟨_, rfl⟩
  obtain ⟨v, hv⟩ : ∃ v, v = y / 2 := ⟨_, rfl⟩
  rw [← hu, ← hv]
  rcases Nat.mod_two_eq_zero_or_one x with h1 | h1 <;> rcases Nat.mod_two_eq_zero_or_one y with h2 | h2 <;> rw [h1, h2]
  · simp
  · simp [Nat.xor_assoc]
  · have e : u ^^^ v ^^^ p = u ^^^ p ^^^ v := by rw [Nat.xor_assoc, Nat.xor_comm v p, ← Nat.xor_assoc]
    simpa using e
  · have e : (u ^^^ p) ^^^ (v ^^^ p) = u ^^^ v := by
      rw [Nat.xor_assoc, Nat.xor_comm v p, ← Nat.xor_assoc p p v, Nat.xor_self, Nat.zero_xor]
    simp [e]
def bitIt : Nat → Nat → Nat
  | 0, r => r
  | k + 1, r => bitN (bitIt k r)
theorem bitIt_lt (k a : Nat) (h : a < 2 ^ 32) : bitIt k a < 2 ^ 32 := by
  induction k with
  | zero => exact h
  | succ k ih => exact bitN_lt _ ih
theorem bitIt_lin (k x y : Nat) : bitIt k (x ^^^ y) = bitIt k x ^^^ bitIt k y := by
  induction k with
  | zero => rfl
  | succ k ih => show bitN (bitIt k (x ^^^ y)) = _; rw [ih, bitN_lin]; rfl
theorem bitIt_add (j k a : Nat) : bitIt (j + k) a = bitIt j (bitIt k a) := by
  induction j with
  | zero => rw [Nat.zero_add]; rfl
  | succ j ih => rw [Nat.add_right_comm]; show bitN (bitIt (j + k) a) = _; rw [ih]; rfl
theorem bitN_even (m : Nat) : bitN (2 * m) = m := by
  unfold bitN
  have h1 : 2 * m / 2 = m := by omega
  have h2 : ¬ (2 * m % 2 = 1) := by omega
  rw [h1, if_neg h2, Nat.xor_zero]
theorem bit4_high (h : Nat) : bitIt 4 (16 * h) = h := by
  show bitN (bitN (bitN (bitN (16 * h)))) = h
  rw [show 16 * h = 2 * (2 * (2 * (2 * h))) by omega, bitN_even, bitN_even, bitN_even, bitN_even]
theorem bit4_low : ∀ l, l < 16 → nibT.getD l 0 = ((bitIt 4 l : Nat) : Int) := by decide
theorem xor_add (h l : Nat) (hl : l < 16) : (16 * h) ^^^ l = 16 * h + l := by
  apply Nat.eq_of_testBit_eq
  intro j
  rw [Nat.testBit_xor, show 16 * h = 2 ^ 4 * h from rfl, Nat.testBit_two_pow_mul_add h (i := 4) hl, Nat.testBit_two_pow_mul]
  by_cases hj : j < 4
  · simp [hj, show ¬ 4 ≤ j by omega]
  · have : l.testBit j = false := Nat.testBit_lt_two_pow (Nat.lt_of_lt_of_le hl (show 2 ^ 4 ≤ 2 ^ j from Nat.pow_le_pow_right (by omega) (by omega)))
    simp [hj, this]
    omega
theorem nib_bits (a : Nat) (h : a < 2 ^ 32) : nibStep (a : Int) = ((bitIt 4 a : Nat) : Int) := by
  unfold nibStep
  have e1 : (a : Int).fdiv (2 ^ (min (4 : Int).toNat IntKind.u32.bits)) = ((a / 16 : Nat) : Int) := by
    rw [Int.fdiv_eq_ediv_of_nonneg _ (by exact Int.pow_nonneg (by decide))]
    rfl
  rw [e1, and32_15 a h, Int.toNat_natCast, bit4_low _ (Nat.mod_lt _ (by omega)), xor32 _ _ (by omega) (bitIt_lt _ _ (by omega))]
  congr 1
  have e2 : a = (16 * (a / 16)) ^^^ (a % 16) := by rw [xor_add _ _ (Nat.mod_lt _ (by omega))]; omega
  conv => rhs; rw [e2, bitIt_lin, bit4_high]
/-- one byte, bit by bit -/
def byteN (r : Nat) (c : UInt8) : Nat := bitIt 8 (r ^^^ c.toNat)
theorem byteN_lt (r : Nat) (c : UInt8) (h : r < 2 ^ 32) : byteN r c < 2 ^ 32 := by
  have := UInt8.toNat_lt c
  exact bitIt_lt _ _ (Nat.xor_lt_two_pow h (by omega))
theorem crcStep_bits (r : Nat) (c : UInt8) (h : r < 2 ^ 32) : crcStep (r : Int) c = ((byteN r c : Nat) : Int) := by
  have hc := UInt8.toNat_lt c
  have hx : r ^^^ c.toNat < 2 ^ 32 := Nat.xor_lt_two_pow h (by omega)
  unfold crcStep byteN
  rw [u32_of_lt _ (by omega), xor32 _ _ h (by omega), nib_bits _ hx, nib_bits _ (bitIt_lt _ _ hx), ← bitIt_add]
def crcN (r : Nat) (l : List UInt8) : Nat := l.foldl byteN r
theorem crcN_bits (l : List UInt8) : ∀ (r : Nat), r < 2 ^ 32 → crcAll (r : Int) l = ((crcN r l : Nat) : Int) ∧ crcN r l < 2 ^ 32 := by
  unfold crcAll crcN
  induction l with
  | nil => intro r h; exact ⟨rfl, h⟩
  | cons c l ih =>
    intro r h
    simp only [List.foldl_cons]
    rw [crcStep_bits r c h]
    exact ih _ (byteN_lt r c h)
theorem crcN_next (s : Nat) (l : List UInt8) (i : Nat) (c : UInt8) (h : l[i]? = some c) : crcN s (l.take (i + 1)) = byteN (crcN s (l.take i)) c := by
  unfold crcN
  rw [List.take_add_one, h]
  simp
def notN (s : Nat) : Nat := s ^^^ 4294967295
theorem notN_lt (s : Nat) (h : s < 2 ^ 32) : notN s < 2 ^ 32 := Nat.xor_lt_two_pow h (by omega)
theorem crcNot_bits (s : Nat) (h : s < 2 ^ 32) : crcNot (s : Int) = ((notN s : Nat) : Int) := by
  have := xor32 4294967295 s (by omega) h
  unfold crcNot notN
  rw [Nat.xor_comm]
  exact this
theorem crcSum_bits (l : List UInt8) : crcSum l = ((notN (crcN (notN 0) l) : Nat) : Int) := by
  unfold crcSum
  have h0 := crcNot_bits 0 (by omega)
  have h1 := crcN_bits l (notN 0) (notN_lt 0 (by omega))
  rw [show (0 : Int) = ((0 : Nat) : Int) from rfl, h0, h1.1, crcNot_bits _ h1.2]
theorem crcSum_bounds (l : List UInt8) : 0 ≤ crcSum l ∧ crcSum l < 4294967296 := by
  have h1 := crcN_bits l (notN 0) (notN_lt 0 (by omega))
  have h2 := notN_lt _ h1.2
  rw [crcSum_bits]
  omega
end Go.Proofs.YteklldbfdmaafaaDoor
/-
  A sealed sector as the pieces that the document lays one behind the other; plain data.
-/
namespace Go.Proofs.YteklldbfdmaafaaDoor
open Go Go.RowKit
theorem lay_app (a z b : List UInt8) : lay (a ++ z) a.length b = a ++ (b ++ z.drop b.length) := by
  unfold lay
  rw [List.take_left' rfl, List.drop_append, List.drop_of_length_le (by omega), Nat.add_sub_cancel_left, List.nil_append]
def sealHead (v : Int) (s : List UInt8) : List UInt8 := putB v 8 ++ (putB (IntKind.u64.wrap s.length) 2 ++ (s ++ zs (234 - s.length)))
theorem sealHead_length (v : Int) (s : List UInt8) (h : s.length ≤ 234) : (sealHead v s).length = 244 := by
  unfold sealHead
  simp only [List.length_append, putB_length, zs_length]
  omega
theorem zs_drop (n m : Nat) : (zs n).drop m = zs (n - m) := by simp [zs]
theorem seal_concat (v : Int) (s : List UInt8) (h : s.length ≤ 234) : sealB v s = sealHead v s ++ (putB (IntKind.u64.wrap (crcSum (sealHead v s))) 4 ++ putB v 8) := by
  have e1 : sealB1 v = putB v 8 ++ zs 248 := by
    have := lay_app [] (zs 256) (putB v 8)
    rw [putB_length, zs_drop] at this
    exact this
  have e2 : sealB2 v s = putB v 8 ++ (putB (IntKind.u64.wrap s.length) 2 ++ zs 246) := by
    unfold sealB2
    rw [e1]
    have := lay_app (putB v 8) (zs 248) (putB (IntKind.u64.wrap s.length) 2)
    rw [putB_length, putB_length, zs_drop] at this
    exact this
  have e3 : sealB3 v s = sealHead v s ++ zs 12 := by
    unfold sealB3
    rw [e2, ← List.append_assoc]
    have := lay_app (putB v 8 ++ putB (IntKind.u64.wrap s.length) 2) (zs 246) s
    rw [List.length_append, putB_length, putB_length, zs_drop] at this
    rw [this]
    unfold sealHead
    simp only [List.append_assoc]
    congr 3
    have : zs (246 - s.length) = zs (234 - s.length) ++ zs 12 := by
      unfold zs; rw [List.replicate_append_replicate]; congr 1; omega
    rw [this]
  have hl := sealHead_length v s h
  have e3t : (sealB3 v s).take 244 = sealHead v s := by rw [e3, List.take_left' hl]
  have e4 : sealB4 v s = sealHead v s ++ (putB (IntKind.u64.wrap (crcSum (sealHead v s))) 4 ++ zs 8) := by
    unfold sealB4
    rw [e3t, e3]
    have := lay_app (sealHead v s) (zs 12) (putB (IntKind.u64.wrap (crcSum (sealHead v s))) 4)
    rw [hl, putB_length, zs_drop] at this
    exact this
  unfold sealB
  rw [e4, ← List.append_assoc]
  have := lay_app (sealHead v s ++ putB (IntKind.u64.wrap (crcSum (sealHead v s))) 4) (zs 8) (putB v 8)
  rw [List.length_append, hl, putB_length, putB_length, zs_drop] at this
  rw [this]
  simp [zs]
/-- two bytes' number -/
theorem getB_two_val (l : List UInt8) : getB l 2 = (((l.getD 0 0).toNat + 256 * (l.getD 1 0).toNat : Nat) : Int) := by
  have h0 := UInt8.toNat_lt (l.getD 0 0)
  obtain ⟨a, ha⟩ : ∃ a, a = l.getD 0 0 := ⟨_, rfl⟩
  obtain ⟨b, hb⟩ : ∃ b, b = l.getD 1 0 := ⟨_, rfl⟩
  rw [← ha] at h0
  have h1 := getPart_val 0 0 a (by omega) (by omega)
  have h2 := getPart_val (0 + a.toNat * 2 ^ (8 * 0)) 1 b (by omega) (by show 0 + a.toNat * 1 < 256; omega)
  show getPart (getPart 0 0 (l.getD 0 0)) 1 (l.getD 1 0) = _
  rw [← ha, ← hb]
  rw [show (0 : Int) = ((0 : Nat) : Int) from rfl, h1, h2]
  show ((0 + a.toNat * 1 + b.toNat * 256 : Nat) : Int) = _
  omega
theorem openN_val (raw : List UInt8) : openN raw = (raw.getD 8 0).toNat + 256 * (raw.getD 9 0).toNat := by
  unfold openN
  rw [getB_two_val, getD_drop, getD_drop, Int.toNat_natCast]
/-- a byte of a number, by division -/
theorem byteAt_div (v i : Nat) (hi : i < 8) : byteAt (v : Int) i = UInt8.ofNat (v / 256 ^ i % 256) := by
  apply UInt8.toNat_inj.1
  rw [byteAt_val v i hi, UInt8.toNat_ofNat', show (256 : Nat) ^ i = 2 ^ (8 * i) by rw [show (256 : Nat) = 2 ^ 8 from rfl, ← Nat.pow_mul]]
  omega
end Go.Proofs.YteklldbfdmaafaaDoor
/-
  The document's sectors (remitref03's sum, remitref07): contracts over the plain data of the program's own.
-/
namespace Go.Proofs.YteklldbfdmaafaaDoor
open Go Go.RowKit
section
variable {P : Program} {W : World} {n : Nat} {k : KK} {E : Env} {H R : List SP} {x y z : Operand} {t u : TypeId} {kd : IntKind}
theorem Ev_xor_v {i j r : Int} (hx : Env.ev E x = some (.int kd i)) (hy : Env.ev E y = some (.int kd j)) (h : bits .xor kd i j = r) : Ev P W n E H (.binOp .xor t x y u) (.int kd r) := by subst h; exact Ev_xor hx hy
theorem Ev_rem_v {i j r : Int} (hx : Env.ev E x = some (.int kd i)) (hy : Env.ev E y = some (.int kd j)) (hb : 0 ≤ i ∧ 0 < j) (h : i % j = r) : Ev P W n E H (.binOp .rem t x y u) (.int kd r) := by subst h; exact Ev_remI hx hy hb
theorem Ev_quo_v {i j r : Int} (hx : Env.ev E x = some (.int kd i)) (hy : Env.ev E y = some (.int kd j)) (hj : j ≠ 0) (h : kd.wrap (i.tdiv j) = r) : Ev P W n E H (.binOp .quo t x y u) (.int kd r) := by subst h; exact Ev_quo hx hy hj
theorem Ev_mul_v {i j r : Int} (hx : Env.ev E x = some (.int kd i)) (hy : Env.ev E y = some (.int kd j)) (h : kd.wrap (i * j) = r) : Ev P W n E H (.binOp .mul t x y u) (.int kd r) := by subst h; exact Ev_mul hx hy
theorem KJ.row_shape3 {v : Value} {e size m : Nat} {xs : List Value} (hsel : Sel (rowP v e size m xs) H R) (hm : 0 < m) (h : ∀ g c, v = .slice (some ⟨g, 0, none⟩) m c → KJ W n k E H) : KJ W n k E H :=
  ⟨fun a w p s => by
    rcases (s.left.row hsel).2 with ⟨_, q⟩ | ⟨g, c, _, q, _⟩
    · omega
    · exact (h g c q).go a w p s⟩
theorem nilrow3 {e size : Nat} {H R : List SP} : ∀ g, starL (H ++ R) g → starL (H ++ [rowP (.slice none 0 0) e size 0 []] ++ R) g := by
  intro g q
  have q2 : starL (rowP (.slice none 0 0) e size 0 [] :: (H ++ R)) g := ⟨fun _ => none, g, (fun _ _ q => by cases q), (fun _ _ q => by cases q), .rfl, ⟨by simp, .inl ⟨rfl, rfl⟩⟩, q⟩
  refine starL_perm ?_ g q2
  have : (H ++ [rowP (.slice none 0 0) e size 0 []] ++ R) = H ++ rowP (.slice none 0 0) e size 0 [] :: R := by simp
  rw [this]
  exact List.perm_middle.symm
end
theorem u32_tdiv (a : Nat) (h : a < 2 ^ 32) : IntKind.u32.wrap (((a : Nat) : Int).tdiv 2) = ((a / 2 : Nat) : Int) := by
  have : ((a : Nat) : Int).tdiv 2 = ((a / 2 : Nat) : Int) := by rw [Int.tdiv_eq_ediv_of_nonneg (by omega)]; rfl
  rw [this]
  exact u32_of_lt _ (by omega)
theorem u64_tdiv (a : Nat) (h : a < 2 ^ 64) : IntKind.u64.wrap (((a : Nat) : Int).tdiv 256) = ((a / 256 : Nat) : Int) := by
  have : ((a : Nat) : Int).tdiv 256 = ((a / 256 : Nat) : Int) := by rw [Int.tdiv_eq_ediv_of_nonneg (by omega)]; rfl
  rw [this]
  exact u64_of_lt _ (by omega)
theorem u8_wrap (z : Nat) : IntKind.u8.wrap (z : Int) = ((z % 256 : Nat) : Int) := by
  have : IntKind.u8.wrap (z : Int) = (z : Int) % 256 := rfl
  rw [this]; omega

section
variable {W : World}
set_option maxHeartbeats 1000000 in
set_option maxRecDepth 100000 in
theorem rextend_ct (s : Nat) (hs : s < 2 ^ 32) (l : List UInt8) (hl : l.length < 4611686018427387904) : Ct Tryd.prog W 132 [.int .u32 (s : Nat), strV l] [] (fun _ : Unit => .int .u32 ((notN (crcN (notN s) l) : Nat) : Int)) (fun _ => []) := by
  obtain ⟨A, hA⟩ : ∃ A : Nat → Nat, A = fun i => crcN (notN s) (l.take i) := ⟨_, rfl⟩
  have hA0 : notN s = A 0 := by rw [hA]; simp [crcN]
  have hAl : crcN (notN s) l = A l.length := by rw [hA]; simp
  have hAn : ∀ i c, l[i]? = some c → A (i + 1) = byteN (A i) c := fun i c h => by rw [hA]; exact crcN_next _ l i c h
  have hAb : ∀ i, A i < 2 ^ 32 := fun i => by rw [hA]; exact (crcN_bits _ _ (notN_lt s hs)).2
  have hx0 : bits .xor .u32 (s : Nat) 4294967295 = ((A 0 : Nat) : Int) := by rw [← hA0]; exact xor32 s 4294967295 hs (by omega)
  have hxl : bits .xor .u32 ((A l.length : Nat) : Int) 4294967295 = ((notN (A l.length) : Nat) : Int) := xor32 _ 4294967295 (hAb _) (by omega)
  rw [hAl]
  clear hA hAl hA0
  refine Ct.enter Tryd.func132 rfl Tryd.ntmps132 (by simp) (fun R => ?_)
  repeat' (first 
    | (refine ek_xor ?_; refine EK_ev (Ev_xor_v rfl rfl hx0) ?_)
    | refine xst ?_
    | (refine xsa ?_; intro _)
    | (refine xsb ?_ ?_ <;> intro _ <;> first | (exfalso; omega) | skip)
    | refine xsc ?_
    | fail)
  refine KJ_loop (fun i : {k : Nat // k ≤ l.length} => [(1, strV l), (5, .int .u32 ((A i.1 : Nat) : Int)), (6, .int .i64 (i.1 : Nat))]) (fun _ => R) (fun i => l.length - i.1) ⟨0, by omega⟩ xB (fun _ q => q) (fun ⟨i, hi⟩ => ?_)
  dsimp only
  by_cases hlt : i < l.length
  · obtain ⟨c, hc⟩ : ∃ c, l[i]? = some c := ⟨_, List.getElem?_eq_getElem hlt⟩
    have hcb := UInt8.toNat_lt c
    have hnx := hAn i c hc
    have hc' : l[(i : Int).toNat]? = some c := by rw [Int.toNat_natCast]; exact hc
    obtain ⟨r, hr⟩ : ∃ r, r = A i ^^^ c.toNat := ⟨_, rfl⟩
    have hrb : r < 2 ^ 32 := by rw [hr]; exact Nat.xor_lt_two_pow (hAb i) (by omega)
    have hcv : IntKind.u32.wrap ((c.toNat : Nat) : Int) = ((c.toNat : Nat) : Int) := u32_of_lt _ (by omega)
    have hxc : bits .xor .u32 ((A i : Nat) : Int) ((c.toNat : Nat) : Int) = ((bitIt 0 r : Nat) : Int) := by rw [xor32 _ _ (hAb i) (by omega), hr]; rfl
    have hnx : A (i + 1) = bitIt 8 r := by rw [hnx, hr]; rfl
    clear hr
    repeat' (first 
    | (refine ek_conv ?_; refine EK_ev (Ev_convI_v rfl hcv) ?_)
    | (refine ek_index ?_; refine EK_ev (Ev_indexStr rfl rfl (by omega) hc') ?_)
    | (refine ek_xor ?_; refine EK_ev (Ev_xor_v rfl rfl hxc) ?_)
    | refine xst ?_
    | (refine xsa ?_; intro _)
    | (refine xsb ?_ ?_ <;> intro _ <;> first | (exfalso; omega) | skip)
    | refine xsc ?_
    | fail)
    refine KJ_loop (fun k : {k : Nat // k ≤ 8} => [(1, strV l), (5, .int .u32 ((bitIt k.1 r : Nat) : Int)), (6, .int .i64 (i : Nat)), (7, .int .i64 (k.1 : Nat))]) (fun _ => R) (fun k => 8 - k.1) ⟨0, by omega⟩ xB (fun _ q => q) (fun ⟨k, hk⟩ => ?_)
    dsimp only
    by_cases hk8 : k < 8
    · have hab := bitIt_lt k r hrb
      have hst : bitIt (k + 1) r = bitN (bitIt k r) := rfl
      obtain ⟨a, ha⟩ : ∃ a, a = bitIt k r := ⟨_, rfl⟩
      rw [← ha] at hab hst ⊢
      have hrem : ((a : Nat) : Int) % 2 = ((a % 2 : Nat) : Int) := by omega
      have hquo := u32_tdiv a hab
      by_cases hp : a % 2 = 1
      · have hq : ((a % 2 : Nat) : Int) = 1 := by omega
        have hxp : bits .xor .u32 ((a / 2 : Nat) : Int) 2197175160 = ((bitIt (k + 1) r : Nat) : Int) := by rw [hst, bitN, if_pos hp]; exact xor32 (a / 2) 2197175160 (by omega) (by omega)
        repeat' (first 
    | (refine ek_add ?_; refine EK_ev (Ev_addI_v (r := ((k + 1 : Nat) : Int)) rfl rfl (by omega) (by omega)) ?_)
    | (refine ek_quo ?_; refine EK_ev (Ev_quo_v rfl rfl (by omega) hquo) ?_)
    | (refine ek_rem ?_; refine EK_ev (Ev_rem_v rfl rfl (by omega) hrem) ?_)
    | (refine ek_xor ?_; refine EK_ev (Ev_xor_v rfl rfl hxp) ?_)
    | (refine ek_eql ?_; refine EK_ev (Ev_eqlI_t rfl rfl hq) ?_)
    | refine xst ?_
    | (refine xsa ?_; intro _)
    | (refine xsb ?_ ?_ <;> intro _ <;> first | (exfalso; omega) | skip)
    | refine xsc ?_
    | fail)
        all_goals refine KJ_again ⟨k + 1, by omega⟩ (by show 8 - (k + 1) < 8 - k; omega) xB (fun _ q => q)
      · have hq : ((a % 2 : Nat) : Int) ≠ 1 := by omega
        have hsp : bitIt (k + 1) r = a / 2 := by rw [hst, bitN, if_neg hp, Nat.xor_zero]
        repeat' (first 
    | (refine ek_add ?_; refine EK_ev (Ev_addI_v (r := ((k + 1 : Nat) : Int)) rfl rfl (by omega) (by omega)) ?_)
    | (refine ek_quo ?_; refine EK_ev (Ev_quo_v rfl rfl (by omega) hquo) ?_)
    | (refine ek_rem ?_; refine EK_ev (Ev_rem_v rfl rfl (by omega) hrem) ?_)
    | (refine ek_eql ?_; refine EK_ev (Ev_eqlI_f rfl rfl hq) ?_)
    | refine xst ?_
    | (refine xsa ?_; intro _)
    | (refine xsb ?_ ?_ <;> intro _ <;> first | (exfalso; omega) | skip)
    | refine xsc ?_
    | fail)
        all_goals refine KJ_again ⟨k + 1, by omega⟩ (by show 8 - (k + 1) < 8 - k; omega) ?_ (fun _ q => q)
        all_goals rw [hsp]
        all_goals exact xB
    · have hk8 : k = 8 := by omega
      subst hk8
      rw [← hnx]
      repeat' (first 
    | (refine ek_add ?_; refine EK_ev (Ev_addI_v (r := ((i + 1 : Nat) : Int)) rfl rfl (by omega) (by omega)) ?_)
    | refine xst ?_
    | (refine xsa ?_; intro _)
    | (refine xsb ?_ ?_ <;> intro _ <;> first | (exfalso; omega) | skip)
    | refine xsc ?_
    | fail)
      all_goals refine KJ_again ⟨i + 1, by omega⟩ (by show l.length - (i + 1) < l.length - i; omega) xB (fun _ q => q)
  · have hkl : i = l.length := by omega
    subst hkl
    repeat' (first 
    | (refine ek_xor ?_; refine EK_ev (Ev_xor_v rfl rfl hxl) ?_)
    | refine xst ?_
    | (refine xsa ?_; intro _)
    | (refine xsb ?_ ?_ <;> intro _ <;> first | (exfalso; omega) | skip)
    | refine xsc ?_
    | fail)
    all_goals (exact xdn ())
theorem rsum_ct (l : List UInt8) (hl : l.length < 4611686018427387904) : Ct Tryd.prog W 120 [strV l] [] (fun _ : Unit => .int .u32 (crcSum l)) (fun _ => []) := by
  have c1 : Ct Tryd.prog W 132 [.int .u32 0, strV l] [] (fun _ : Unit => .int .u32 (crcSum l)) (fun _ => []) := (rextend_ct 0 (by omega) l hl).val fun _ => by rw [crcSum_bits]
  refine Ct.enter Tryd.func120 rfl Tryd.ntmps120 (by simp) (fun R => ?_)
  repeat' (first 
    | (refine is_call ?_; refine KJ_call xE c1 xP rfl (fun _ => ?_))
    | refine xst ?_
    | (refine xsa ?_; intro _)
    | (refine xsb ?_ ?_ <;> intro _ <;> first | (exfalso; omega) | skip)
    | refine xsc ?_
    | fail)
  all_goals (exact xdn ())
set_option maxRecDepth 100000 in
theorem rlow_ct (x : Nat) (hx : x < 2 ^ 64) (n : Nat) (hn0 : 0 < n) (hn : n ≤ 8) : Ct Tryd.prog W 119 [.int .u64 (x : Nat), .int .i64 (n : Nat)] [] (fun _ : Unit => strV (putB (x : Nat) n)) (fun _ => []) := by
  refine Ct.enter Tryd.func119 rfl Tryd.ntmps119 (by simp) (fun R => ?_)
  repeat' (first 
    | refine xst ?_
    | (refine xsa ?_; intro _)
    | (refine xsb ?_ ?_ <;> intro _ <;> first | (exfalso; omega) | skip)
    | refine xsc ?_
    | fail)
  refine KJ_loop (fun i : {y : Nat × Value // y.1 ≤ n} => [(0, .int .u64 ((x / 256 ^ i.1.1 : Nat) : Int)), (1, .int .i64 (n : Nat)), (5, i.1.2), (6, .int .i64 (i.1.1 : Nat))]) (fun i => [] ++ [rowP i.1.2 5 1 i.1.1 (bvs (putB (x : Nat) i.1.1))] ++ R) (fun i => n - i.1.1) ⟨(0, .slice none 0 0), by omega⟩ ?_ (fun g q => nilrow3 (H := []) g q) (fun ⟨⟨k, v⟩, hk⟩ => ?_)
  · have e : ((x / 256 ^ 0 : Nat) : Int) = (x : Nat) := by simp
    dsimp only
    rw [e]
    exact xB
  dsimp only at hk ⊢
  by_cases hlt : k < n
  · have hxk : x / 256 ^ k < 2 ^ 64 := Nat.lt_of_le_of_lt (Nat.div_le_self _ _) hx
    have hcv : IntKind.u8.wrap ((x / 256 ^ k : Nat) : Int) = (((byteAt (x : Nat) k).toNat : Nat) : Int) := by
      rw [u8_wrap, byteAt_div _ _ (by omega), UInt8.toNat_ofNat']
      congr 1
      omega
    have hq : IntKind.u64.wrap (((x / 256 ^ k : Nat) : Int).tdiv 256) = ((x / 256 ^ (k + 1) : Nat) : Int) := by
      rw [u64_tdiv _ hxk, Nat.div_div_eq_div_mul, Nat.pow_succ]
    have hnx : bvs (putB (x : Nat) k) ++ [.int .u8 ((byteAt (x : Nat) k).toNat : Int)] = bvs (putB (x : Nat) (k + 1)) := by rw [putB_next]; simp [bvs, bv]
    repeat' (first 
    | (refine is_append ?_; refine KJ_append (a2 := 0) rfl rfl (by rfl) (by omega) xS (Src.cells (i := 1) xS xC) (by rfl) (by omega) xO (by omega) (by omega) rfl rfl (fun gw cw => ?_))
    | (refine is_bslice ?_; refine KJ_bslice1 rfl xF (by rfl) (by omega) rfl (fun _ => ?_))
    | (refine ek_conv ?_; refine EK_ev (Ev_convI_v rfl hcv) ?_)
    | (refine ek_add ?_; refine EK_ev (Ev_addI_v (r := ((k + 1 : Nat) : Int)) rfl rfl (by omega) (by omega)) ?_)
    | (refine ek_quo ?_; refine EK_ev (Ev_quo_v rfl rfl (by omega) hq) ?_)
    | refine xst ?_
    | (refine xsa ?_; intro _)
    | (refine xsb ?_ ?_ <;> intro _ <;> first | (exfalso; omega) | skip)
    | refine xsc ?_
    | fail)
    all_goals rw [hnx]
    all_goals refine KJ_again ⟨(k + 1, _), by omega⟩ (by show n - (k + 1) < n - k; omega) xB (xN)
  · have hkn : k = n := by omega
    subst hkn
    refine KJ.row_shape3 (v := v) xS hn0 (fun g c e => ?_)
    subst e
    repeat' (first 
    | (refine ek_conv ?_; refine EK_ev (Ev_bytesRow rfl xS) ?_)
    | refine xst ?_
    | (refine xsa ?_; intro _)
    | (refine xsb ?_ ?_ <;> intro _ <;> first | (exfalso; omega) | skip)
    | refine xsc ?_
    | fail)
    all_goals (exact xdn ())
end
end Go.Proofs.YteklldbfdmaafaaDoor
/-
  The document's sectors (remitref07): Seal, Open, Ends.
-/
namespace Go.Proofs.YteklldbfdmaafaaDoor
open Go Go.RowKit
section
variable {P : Program} {W : World} {n d m : Nat} {k : KK} {E : Env} {H : List SP} {x y z : Operand} {t e : TypeId}
theorem KJ_makeBytesV {C : Int} {l : List UInt8} (hx : Env.ev E x = some (.int .i64 C)) (hy : Env.ev E y = some (.int .i64 C)) [hu : UIs P t (.slice e)] [hs : SzIs P e 1] [hb : ByIs P e 1] [hz : ZcIs P e [.int .u8 0]] (_ : t = t) (hC : C = (m : Int)) (hm : m ≤ 140737488355328) (hl : List.replicate m 0 = l) (hn : Nat.blt d n = true)
    (h : ∀ g, KJ W n k ((d, .slice (some ⟨g, 0, none⟩) m m) :: E) (cellsP g (bvs l) e :: H)) : KJ W n (.oper P (.makeSlice t x y) (some d) k) E H := by
  subst hl; exact KJ_makeBytes hx hy hC hm hn h
theorem Ev_sliceStr_v7 {l r : List UInt8} {i j : Int} {ki kj : IntKind} (hx : Env.ev E x = some (strV l)) (hy : Env.ev E y = some (.int ki i)) (hz : Env.ev E z = some (.int kj j)) [hu : UIs P t .string] (hb : 0 ≤ i ∧ i ≤ j ∧ j ≤ l.length) (h : (l.take j.toNat).drop i.toNat = r) : Ev P W n E H (.slice t x (some y) (some z) none) (strV r) := by
  subst h; exact Ev_sliceStr hx hy hz hb
end
section
variable {W : World}
theorem rseal_zero (pl : List UInt8) : Ct Tryd.prog W 90 [.int .u64 0, strV pl] [] (fun _ : Unit => .tuple #[strV [], .int .i64 6]) (fun _ => []) := by
  refine Ct.enter Tryd.func90 rfl Tryd.ntmps90 (by simp) (fun R => ?_)
  repeat' (first 
    | (refine ek_eql ?_; refine EK_ev (Ev_eqlI_t rfl rfl rfl) ?_)
    | refine xst ?_
    | (refine xsa ?_; intro _)
    | (refine xsb ?_ ?_ <;> intro _ <;> first | (exfalso; omega) | skip)
    | refine xsc ?_
    | (refine KJ_draws (id := 5) (.op 0 (.op 2 (.op 3 (.op 4 (.op 7 (.op 9 (.op 10 (.op 11 (.alt (.ef 1 [11, 10, 9, 7, 4, 3, 2] (.alt (.ef 5 [11, 10, 9, 7] (.op 6 (.op 8 (.ef 12 [8, 6, 7] (.op 13 (.op 14 (.op 15 .nil))))))) (.ef 12 [7, 4, 3, 2] (.op 13 (.ef 5 [13, 7] (.op 6 (.op 8 (.op 14 (.op 15 .nil))))))))) (.ef 12 [7, 4, 3, 2, 0] (.op 13 (.ef 1 [13, 7, 4, 3, 2] (.ef 5 [13, 7] (.op 6 (.op 8 (.op 14 (.op 15 .nil))))))))))))))))) (by kernel_rfl) (by kernel_rfl) ?_)
    | refine FW_alt ?_ ?_
    | refine KJ_flow ?_ ?_
    | exact Rech.nil
    | fail)
  all_goals (exact xdn ())
set_option maxHeartbeats 1000000 in
set_option maxRecDepth 100000 in
theorem rseal_ok (stamp : Nat) (h0 : stamp ≠ 0) (hst : stamp < 2 ^ 64) (pl : List UInt8) (h : pl.length ≤ 234) : Ct Tryd.prog W 90 [.int .u64 (stamp : Nat), strV pl] [] (fun _ : Unit => .tuple #[strV (sealB (stamp : Nat) pl), .int .i64 0]) (fun _ => []) := by
  have q1 : ((stamp : Nat) : Int) ≠ 0 := by omega
  have q2 : decide ((234 : Int) < (pl.length : Nat)) = false := decide_eq_false (by omega)
  have hw : IntKind.u64.wrap (pl.length : Nat) = ((pl.length : Nat) : Int) := u64_of_lt _ (by omega)
  obtain ⟨L8, hL8⟩ : ∃ L, L = putB (stamp : Nat) 8 := ⟨_, rfl⟩
  obtain ⟨L2, hL2⟩ : ∃ L, L = putB ((pl.length : Nat) : Int) 2 := ⟨_, rfl⟩
  obtain ⟨Z, hZ⟩ : ∃ Z : List UInt8, Z = List.replicate (234 - pl.length) 0 := ⟨_, rfl⟩
  have l8 : L8.length = 8 := by rw [hL8, putB_length]
  have l2 : L2.length = 2 := by rw [hL2, putB_length]
  have lz : Z.length = 234 - pl.length := by rw [hZ, List.length_replicate]
  have c8 : Ct Tryd.prog W 119 [.int .u64 (stamp : Nat), .int .i64 8] [] (fun _ : Unit => strV L8) (fun _ => []) := by rw [hL8]; exact rlow_ct stamp hst 8 (by omega) (by omega)
  have c2 : Ct Tryd.prog W 119 [.int .u64 (pl.length : Nat), .int .i64 2] [] (fun _ : Unit => strV L2) (fun _ => []) := by rw [hL2]; exact rlow_ct pl.length (by omega) 2 (by omega) (by omega)
  have hhead : L8 ++ L2 ++ pl ++ Z = sealHead (stamp : Nat) pl := by
    unfold sealHead
    rw [hL8, hL2, hZ, hw]
    simp only [List.append_assoc]
    rfl
  have hsl := sealHead_length ((stamp : Nat) : Int) pl h
  have hcb := crcSum_bounds (sealHead (stamp : Nat) pl)
  obtain ⟨C, hC⟩ : ∃ C : Nat, crcSum (sealHead (stamp : Nat) pl) = (C : Nat) := ⟨(crcSum (sealHead (stamp : Nat) pl)).toNat, by omega⟩
  have hcC : C < 4294967296 := by omega
  have cs : Ct Tryd.prog W 120 [strV (L8 ++ L2 ++ pl ++ Z)] [] (fun _ : Unit => .int .u32 (C : Nat)) (fun _ => []) := by
    rw [hhead, ← hC]; exact rsum_ct _ (by omega)
  have hwc : IntKind.u64.wrap (C : Nat) = ((C : Nat) : Int) := u64_of_lt _ (by omega)
  obtain ⟨L4, hL4⟩ : ∃ L, L = putB (C : Nat) 4 := ⟨_, rfl⟩
  have l4 : L4.length = 4 := by rw [hL4, putB_length]
  have c4 : Ct Tryd.prog W 119 [.int .u64 (C : Nat), .int .i64 4] [] (fun _ : Unit => strV L4) (fun _ => []) := by rw [hL4]; exact rlow_ct C (by omega) 4 (by omega) (by omega)
  have hall : L8 ++ L2 ++ pl ++ Z ++ L4 ++ L8 = sealB (stamp : Nat) pl := by
    rw [seal_concat _ _ h, hhead, hC, hwc, hL4, hL8]
    simp only [List.append_assoc]
  rw [← hall]
  have hZ' : List.replicate (234 - pl.length) (0 : UInt8) = Z := hZ.symm
  clear hall hhead hsl hcb hC hL4 hL8 hL2
  refine Ct.enter Tryd.func90 rfl Tryd.ntmps90 (by simp) (fun R => ?_)
  repeat' (first 
    | (refine is_call ?_; first | (refine KJ_call xE c4 xP rfl (fun _ => ?_)) | (refine KJ_call xE cs xP rfl (fun _ => ?_)) | (refine KJ_call xE c2 xP rfl (fun _ => ?_)) | (refine KJ_call xE c8 xP rfl (fun _ => ?_)))
    | (refine is_mkSlice ?_; refine KJ_makeBytesV (m := 234 - pl.length) rfl rfl rfl (by omega) (by omega) hZ' rfl (fun g => ?_))
    | (refine ek_conv ?_; first | refine EK_ev (Ev_bytesAll rfl xS lz) ?_ | refine EK_ev (Ev_convI_v rfl hwc) ?_ | refine EK_ev (Ev_convI_v rfl hw) ?_)
    | (refine ek_add ?_; refine EK_ev (Ev_addS rfl rfl (by first | omega | (simp only [List.length_append]; omega))) ?_)
    | (refine ek_eql ?_; refine EK_ev (Ev_eqlI_f rfl rfl q1) ?_)
    | (refine ek_gtr ?_; refine EK_ev (Ev_gtrI_q rfl rfl q2) ?_)
    | refine xst ?_
    | (refine xsa ?_; intro _)
    | (refine xsb ?_ ?_ <;> intro _ <;> first | (exfalso; omega) | skip)
    | refine xsc ?_
    | (refine KJ_draws (id := 5) (.op 0 (.op 2 (.op 3 (.op 4 (.op 7 (.op 9 (.op 10 (.op 11 (.alt (.ef 1 [11, 10, 9, 7, 4, 3, 2] (.alt (.ef 5 [11, 10, 9, 7] (.op 6 (.op 8 (.ef 12 [8, 6, 7] (.op 13 (.op 14 (.op 15 .nil))))))) (.ef 12 [7, 4, 3, 2] (.op 13 (.ef 5 [13, 7] (.op 6 (.op 8 (.op 14 (.op 15 .nil))))))))) (.ef 12 [7, 4, 3, 2, 0] (.op 13 (.ef 1 [13, 7, 4, 3, 2] (.ef 5 [13, 7] (.op 6 (.op 8 (.op 14 (.op 15 .nil))))))))))))))))) (by kernel_rfl) (by kernel_rfl) ?_)
    | refine FW_alt ?_ ?_
    | refine KJ_flow ?_ ?_
    | exact Rech.nil
    | fail)
  all_goals (exact xdn ())
theorem ropen_len (stamp : Int) (raw : List UInt8) (h : raw.length ≠ 256) : Ct Tryd.prog W 116 [.int .u64 stamp, strV raw] [] (fun _ : Unit => .tuple #[strV [], .bool false]) (fun _ => []) := by
  have q1 : ((raw.length : Nat) : Int) ≠ 256 := by omega
  refine Ct.enter Tryd.func116 rfl Tryd.ntmps116 (by simp) (fun R => ?_)
  repeat' (first 
    | (refine ek_neq ?_; refine EK_ev (Ev_neqI_t rfl rfl q1) ?_)
    | refine xst ?_
    | (refine xsa ?_; intro _)
    | (refine xsb ?_ ?_ <;> intro _ <;> first | (exfalso; omega) | skip)
    | refine xsc ?_
    | (refine KJ_draws (id := 3) (.op 0 (.op 1 (.op 2 (.op 3 (.op 4 (.op 5 (.op 6 (.op 7 (.op 8 .nil))))))))) (by kernel_rfl) (by kernel_rfl) ?_)
    | refine FW_alt ?_ ?_
    | refine KJ_flow ?_ ?_
    | exact Rech.nil
    | fail)
  all_goals (exact xdn ())
set_option maxHeartbeats 1000000 in
theorem ropen_ct (stamp : Nat) (hst : stamp < 2 ^ 64) (raw : List UInt8) : Ct Tryd.prog W 116 [.int .u64 (stamp : Nat), strV raw] [] (fun _ : Unit => .tuple #[strV ((openS (stamp : Nat) raw).getD []), .bool (openS (stamp : Nat) raw).isSome]) (fun _ => []) := by
  by_cases hl : raw.length ≠ 256
  · have e : openS (stamp : Nat) raw = none := by unfold openS; rw [if_pos hl]; split <;> rfl
    rw [e]; exact ropen_len _ raw hl
  have hl : raw.length = 256 := by omega
  have q1 : ((raw.length : Nat) : Int) = 256 := by omega
  obtain ⟨c8, h8⟩ : ∃ c, raw[8]? = some c := ⟨_, List.getElem?_eq_getElem (by omega)⟩
  obtain ⟨c9, h9⟩ : ∃ c, raw[9]? = some c := ⟨_, List.getElem?_eq_getElem (by omega)⟩
  have hN : openN raw = c8.toNat + 256 * c9.toNat := by rw [openN_val]; simp [List.getD, h8, h9]
  have b8 := UInt8.toNat_lt c8
  have b9 := UInt8.toNat_lt c9
  have hm : (256 : Int) * ((c9.toNat : Nat) : Int) = ((256 * c9.toNat : Nat) : Int) := by omega
  have ha : ((c8.toNat : Nat) : Int) + ((256 * c9.toNat : Nat) : Int) = ((openN raw : Nat) : Int) := by rw [hN]; omega
  have i8 : raw[(8 : Int).toNat]? = some c8 := h8
  have i9 : raw[(9 : Int).toNat]? = some c9 := h9
  have hn : openN raw < 65536 + 256 := by omega
  obtain ⟨n, hnn⟩ : ∃ n, n = openN raw := ⟨_, rfl⟩
  by_cases hbig : 234 < openN raw
  · have q2 : decide ((234 : Int) < ((n : Nat) : Int)) = true := decide_eq_true (by omega)
    have e : openS (stamp : Nat) raw = none := by unfold openS; rw [if_neg (show ¬ raw.length ≠ 256 by omega), if_pos hbig]; split <;> rfl
    rw [e]
    rw [← hnn] at ha hn
    refine Ct.enter Tryd.func116 rfl Tryd.ntmps116 (by simp) (fun R => ?_)
    repeat' (first 
    | (refine ek_index ?_; first | refine EK_ev (Ev_indexStr rfl rfl (by omega) i9) ?_ | refine EK_ev (Ev_indexStr rfl rfl (by omega) i8) ?_)
    | (refine ek_add ?_; refine EK_ev (Ev_addI_v rfl rfl ha (by omega)) ?_)
    | (refine ek_mul ?_; refine EK_ev (Ev_mulI_v rfl rfl hm (by omega)) ?_)
    | (refine ek_neq ?_; refine EK_ev (Ev_neqI_f rfl rfl q1) ?_)
    | (refine ek_gtr ?_; refine EK_ev (Ev_gtrI_q rfl rfl q2) ?_)
    | refine xst ?_
    | (refine xsa ?_; intro _)
    | (refine xsb ?_ ?_ <;> intro _ <;> first | (exfalso; omega) | skip)
    | refine xsc ?_
    | (refine KJ_draws (id := 3) (.op 0 (.op 1 (.op 2 (.op 3 (.op 4 (.op 5 (.op 6 (.op 7 (.op 8 .nil))))))))) (by kernel_rfl) (by kernel_rfl) ?_)
    | refine FW_alt ?_ ?_
    | refine KJ_flow ?_ ?_
    | exact Rech.nil
    | fail)
    all_goals (exact xdn ())
  · have q2 : decide ((234 : Int) < ((n : Nat) : Int)) = false := decide_eq_false (by omega)
    have hP : (raw.take (((10 + n : Nat) : Int)).toNat).drop (10 : Int).toNat = openP raw := by rw [Int.toNat_natCast, hnn]; rfl
    have hPl : (openP raw).length ≤ 234 := by rw [openP_length raw hl (by omega)]; omega
    rw [← hnn] at ha hn
    obtain ⟨pl, hpl⟩ : ∃ pl, pl = openP raw := ⟨_, rfl⟩
    have e : openS (stamp : Nat) raw = if ((stamp : Nat) : Int) = 0 then none else if sealB (stamp : Nat) pl = raw then some pl else none := by
      unfold openS
      rw [if_neg (show ¬ raw.length ≠ 256 by omega), if_neg hbig, hpl]
    rw [← hpl] at hP hPl
    rw [e]
    by_cases h0 : stamp = 0
    · subst h0
      rw [if_pos (by simp)]
      have c1 := rseal_zero (W := W) pl
      refine Ct.enter Tryd.func116 rfl Tryd.ntmps116 (by simp) (fun R => ?_)
      repeat' (first 
    | (refine is_call ?_; refine KJ_call xE c1 xP rfl (fun _ => ?_))
    | (refine ek_index ?_; first | refine EK_ev (Ev_indexStr rfl rfl (by omega) i9) ?_ | refine EK_ev (Ev_indexStr rfl rfl (by omega) i8) ?_)
    | (refine ek_slice ?_; refine EK_ev (Ev_sliceStr_v7 rfl rfl rfl (by omega) hP) ?_)
    | (refine ek_add ?_; first | refine EK_ev (Ev_addI_v (r := ((10 + n : Nat) : Int)) rfl rfl (by omega) (by omega)) ?_ | refine EK_ev (Ev_addI_v rfl rfl ha (by omega)) ?_)
    | (refine ek_mul ?_; refine EK_ev (Ev_mulI_v rfl rfl hm (by omega)) ?_)
    | (refine ek_neq ?_; first | refine EK_ev (Ev_neqI_t rfl rfl (by decide)) ?_ | refine EK_ev (Ev_neqI_f rfl rfl q1) ?_)
    | (refine ek_gtr ?_; refine EK_ev (Ev_gtrI_q rfl rfl q2) ?_)
    | refine xst ?_
    | (refine xsa ?_; intro _)
    | (refine xsb ?_ ?_ <;> intro _ <;> first | (exfalso; omega) | skip)
    | refine xsc ?_
    | (refine KJ_draws (id := 3) (.op 0 (.op 1 (.op 2 (.op 3 (.op 4 (.op 5 (.op 6 (.op 7 (.op 8 .nil))))))))) (by kernel_rfl) (by kernel_rfl) ?_)
    | refine FW_alt ?_ ?_
    | refine KJ_flow ?_ ?_
    | exact Rech.nil
    | fail)
      all_goals (exact xdn ())
    · rw [if_neg (by omega)]
      have c1 := rseal_ok (W := W) stamp h0 hst pl hPl
      by_cases hs : sealB (stamp : Nat) pl = raw
      · rw [if_pos hs]
        refine Ct.enter Tryd.func116 rfl Tryd.ntmps116 (by simp) (fun R => ?_)
        repeat' (first 
    | (refine is_call ?_; refine KJ_call xE c1 xP rfl (fun _ => ?_))
    | (refine ek_index ?_; first | refine EK_ev (Ev_indexStr rfl rfl (by omega) i9) ?_ | refine EK_ev (Ev_indexStr rfl rfl (by omega) i8) ?_)
    | (refine ek_slice ?_; refine EK_ev (Ev_sliceStr_v7 rfl rfl rfl (by omega) hP) ?_)
    | (refine ek_add ?_; first | refine EK_ev (Ev_addI_v (r := ((10 + n : Nat) : Int)) rfl rfl (by omega) (by omega)) ?_ | refine EK_ev (Ev_addI_v rfl rfl ha (by omega)) ?_)
    | (refine ek_mul ?_; refine EK_ev (Ev_mulI_v rfl rfl hm (by omega)) ?_)
    | (refine ek_neq ?_; first | refine EK_ev (Ev_neqS_f rfl rfl hs) ?_ | refine EK_ev (Ev_neqI_f rfl rfl (by rfl)) ?_ | refine EK_ev (Ev_neqI_f rfl rfl q1) ?_)
    | (refine ek_gtr ?_; refine EK_ev (Ev_gtrI_q rfl rfl q2) ?_)
    | refine xst ?_
    | (refine xsa ?_; intro _)
    | (refine xsb ?_ ?_ <;> intro _ <;> first | (exfalso; omega) | skip)
    | refine xsc ?_
    | (refine KJ_draws (id := 3) (.op 0 (.op 1 (.op 2 (.op 3 (.op 4 (.op 5 (.op 6 (.op 7 (.op 8 .nil))))))))) (by kernel_rfl) (by kernel_rfl) ?_)
    | refine FW_alt ?_ ?_
    | refine KJ_flow ?_ ?_
    | exact Rech.nil
    | fail)
        all_goals (exact xdn ())
      · rw [if_neg hs]
        refine Ct.enter Tryd.func116 rfl Tryd.ntmps116 (by simp) (fun R => ?_)
        repeat' (first 
    | (refine is_call ?_; refine KJ_call xE c1 xP rfl (fun _ => ?_))
    | (refine ek_index ?_; first | refine EK_ev (Ev_indexStr rfl rfl (by omega) i9) ?_ | refine EK_ev (Ev_indexStr rfl rfl (by omega) i8) ?_)
    | (refine ek_slice ?_; refine EK_ev (Ev_sliceStr_v7 rfl rfl rfl (by omega) hP) ?_)
    | (refine ek_add ?_; first | refine EK_ev (Ev_addI_v (r := ((10 + n : Nat) : Int)) rfl rfl (by omega) (by omega)) ?_ | refine EK_ev (Ev_addI_v rfl rfl ha (by omega)) ?_)
    | (refine ek_mul ?_; refine EK_ev (Ev_mulI_v rfl rfl hm (by omega)) ?_)
    | (refine ek_neq ?_; first | refine EK_ev (Ev_neqS_t rfl rfl hs) ?_ | refine EK_ev (Ev_neqI_f rfl rfl (by rfl)) ?_ | refine EK_ev (Ev_neqI_f rfl rfl q1) ?_)
    | (refine ek_gtr ?_; refine EK_ev (Ev_gtrI_q rfl rfl q2) ?_)
    | refine xst ?_
    | (refine xsa ?_; intro _)
    | (refine xsb ?_ ?_ <;> intro _ <;> first | (exfalso; omega) | skip)
    | refine xsc ?_
    | (refine KJ_draws (id := 3) (.op 0 (.op 1 (.op 2 (.op 3 (.op 4 (.op 5 (.op 6 (.op 7 (.op 8 .nil))))))))) (by kernel_rfl) (by kernel_rfl) ?_)
    | refine FW_alt ?_ ?_
    | refine KJ_flow ?_ ?_
    | exact Rech.nil
    | fail)
        all_goals (exact xdn ())
end
end Go.Proofs.YteklldbfdmaafaaDoor
/-
  The document's log: its place, its sectors' payloads, a record's pieces; where the program's log may not lie.
-/
namespace Go.Proofs.YteklldbfdmaafaaDoor
open Go Go.RowKit
theorem at_seq_block {P : Program} {W : World} {n : Nat} {E : Env} {H : List SP} {q : QQ} {id : Nat} {c c2 : Code} (h : KJ W n (.code P (Code.seq (Code.block id c) c2) q) E H) : KJ W n (.code P (Code.seq (Code.block id c) c2) q) E H := h
theorem KJ.asv {W : World} {n : Nat} {k : KK} {E : Env} {H : List SP} (t : Nat) {v v' : Value} (q : Env.at E t = some v) (e : v = v') (h : KJ W n k ((t, v') :: E) H) : KJ W n k E H := by subst e; exact KJ.also t q h
theorem log_cases {D : Dsk} {at_ n ver : Int} (h : ¬ logOk D at_ n ver) : at_ < 0 ∨ (0 ≤ at_ ∧ n < 0) ∨ (0 ≤ at_ ∧ 0 ≤ n ∧ (D.n : Int) < at_) ∨ (0 ≤ at_ ∧ 0 ≤ n ∧ at_ ≤ D.n ∧ (D.n : Int) - at_ < n) ∨ (0 ≤ at_ ∧ 0 ≤ n ∧ at_ ≤ D.n ∧ n ≤ (D.n : Int) - at_ ∧ 65536 < n) ∨
    (0 ≤ at_ ∧ 0 ≤ n ∧ at_ ≤ D.n ∧ n ≤ (D.n : Int) - at_ ∧ n ≤ 65536 ∧ ver < 1) ∨ (0 ≤ at_ ∧ 0 ≤ n ∧ at_ ≤ D.n ∧ n ≤ (D.n : Int) - at_ ∧ n ≤ 65536 ∧ 1 ≤ ver ∧ 1099511627776 < ver) := by
  unfold logOk at h; omega
section
variable {W : World} {E : Nat → Addr} {p g : Nat} {D : Dsk}
theorem check_bad0 (_ : D.n ≤ 65536) (e6 : W.cell? ⟨3, 0, none⟩ = some (errV E 6)) (at_ n ver : Int) (h : at_ < 0) : Ct Tryd.prog W 98 [.agg #[.pointer (some ⟨p, 0, none⟩), .int .i64 at_, .int .i64 n, .int .i64 ver]] [DiskP p D] (fun _ : Unit => errV E 6) (fun _ => [DiskP p D]) := by
  have q0 : decide (at_ < 0) = true := decide_eq_true (by omega)
  refine Ct.enter Tryd.func98 rfl Tryd.ntmps98 (by simp) (fun R => ?_)
  repeat' (first 
    | (refine is_box ?_; refine KJ_box rfl xF rfl (fun g1 => ?_))
    | (refine ek_load ?_; refine EK_ev (Ev_loadOld rfl e6) ?_)
    | (refine ek_lss ?_; refine EK_ev (Ev_lssI_q rfl rfl q0) ?_)
    | refine xst ?_
    | (refine xsa ?_; intro _)
    | (refine xsb ?_ ?_ <;> intro _ <;> first | (exfalso; omega) | skip)
    | refine xsc ?_
    | (refine KJ_draws (id := 1) (.op 0 (.op 1 (.op 2 (.op 3 (.op 4 (.op 5 (.op 6 (.op 7 (.op 8 (.op 9 (.op 10 (.op 11 (.op 12 (.op 13 (.op 14 (.op 15 (.op 16 (.op 17 (.op 18 (.op 19 (.op 20 (.op 21 (.op 22 (.op 23 (.op 24 (.op 25 (.op 26 (.op 27 (.op 28 (.op 29 (.op 30 (.op 31 (.op 32 (.op 33 (.op 34 (.op 35 (.op 36 (.op 37 (.op 38 (.op 39 (.op 40 (.op 41 .nil)))))))))))))))))))))))))))))))))))))))))) (by kernel_rfl) (by kernel_rfl) ?_)
    | refine FW_alt ?_ ?_
    | refine KJ_flow ?_ ?_
    | exact Rech.nil
    | fail)
  all_goals (exact xdn ())
theorem check_bad1 (_ : D.n ≤ 65536) (e6 : W.cell? ⟨3, 0, none⟩ = some (errV E 6)) (at_ n ver : Int) (h : 0 ≤ at_ ∧ n < 0) : Ct Tryd.prog W 98 [.agg #[.pointer (some ⟨p, 0, none⟩), .int .i64 at_, .int .i64 n, .int .i64 ver]] [DiskP p D] (fun _ : Unit => errV E 6) (fun _ => [DiskP p D]) := by
  have q0 : decide (at_ < 0) = false := decide_eq_false (by omega)
  have q1 : decide (n < 0) = true := decide_eq_true (by omega)
  refine Ct.enter Tryd.func98 rfl Tryd.ntmps98 (by simp) (fun R => ?_)
  repeat' (first 
    | (refine is_box ?_; refine KJ_box rfl xF rfl (fun g1 => ?_))
    | (refine ek_load ?_; refine EK_ev (Ev_loadOld rfl e6) ?_)
    | (refine ek_lss ?_; first | refine EK_ev (Ev_lssI_q rfl rfl q1) ?_ | refine EK_ev (Ev_lssI_q rfl rfl q0) ?_)
    | refine xst ?_
    | (refine xsa ?_; intro _)
    | (refine xsb ?_ ?_ <;> intro _ <;> first | (exfalso; omega) | skip)
    | refine xsc ?_
    | (refine KJ_draws (id := 1) (.op 0 (.op 1 (.op 2 (.op 3 (.op 4 (.op 5 (.op 6 (.op 7 (.op 8 (.op 9 (.op 10 (.op 11 (.op 12 (.op 13 (.op 14 (.op 15 (.op 16 (.op 17 (.op 18 (.op 19 (.op 20 (.op 21 (.op 22 (.op 23 (.op 24 (.op 25 (.op 26 (.op 27 (.op 28 (.op 29 (.op 30 (.op 31 (.op 32 (.op 33 (.op 34 (.op 35 (.op 36 (.op 37 (.op 38 (.op 39 (.op 40 (.op 41 .nil)))))))))))))))))))))))))))))))))))))))))) (by kernel_rfl) (by kernel_rfl) ?_)
    | refine FW_alt ?_ ?_
    | refine KJ_flow ?_ ?_
    | exact Rech.nil
    | fail)
  all_goals (exact xdn ())
theorem check_bad2 (_ : D.n ≤ 65536) (e6 : W.cell? ⟨3, 0, none⟩ = some (errV E 6)) (at_ n ver : Int) (h : 0 ≤ at_ ∧ 0 ≤ n ∧ (D.n : Int) < at_) : Ct Tryd.prog W 98 [.agg #[.pointer (some ⟨p, 0, none⟩), .int .i64 at_, .int .i64 n, .int .i64 ver]] [DiskP p D] (fun _ : Unit => errV E 6) (fun _ => [DiskP p D]) := by
  have c1 : Ct Tryd.prog W 40 [.pointer (some ⟨p, 0, none⟩)] [DiskP p D] (fun _ : Unit => .int .i64 D.n) (fun _ => [DiskP p D]) := size_ct
  have q0 : decide (at_ < 0) = false := decide_eq_false (by omega)
  have q1 : decide (n < 0) = false := decide_eq_false (by omega)
  have q2 : decide ((D.n : Int) < at_) = true := decide_eq_true (by omega)
  refine Ct.enter Tryd.func98 rfl Tryd.ntmps98 (by simp) (fun R => ?_)
  repeat' (first 
    | (refine is_box ?_; refine KJ_box rfl xF rfl (fun g1 => ?_))
    | (refine ek_load ?_; refine EK_ev (Ev_loadOld rfl e6) ?_)
    | (refine ek_lss ?_; first | refine EK_ev (Ev_lssI_q rfl rfl q1) ?_ | refine EK_ev (Ev_lssI_q rfl rfl q0) ?_)
    | (refine ek_gtr ?_; refine EK_ev (Ev_gtrI_q rfl rfl q2) ?_)
    | (refine is_fo ?_; (refine FO_call (X := Unit) xE c1 xP rfl ?_))
    | (refine is_ro ?_; (refine FO_call (X := Unit) xE c1 xP rfl ?_))
    | (refine is_fo ?_; (refine FO_callg (X := Unit) rfl rfl xE c1 xP rfl ?_))
    | (refine is_ro ?_; (refine FO_callg (X := Unit) rfl rfl xE c1 xP rfl ?_))
    | refine xst ?_
    | (refine xsa ?_; intro _)
    | (refine xsb ?_ ?_ <;> intro _ <;> first | (exfalso; omega) | skip)
    | refine xsc ?_
    | (refine KJ_draws (id := 1) (.op 0 (.op 1 (.op 2 (.op 3 (.op 4 (.op 5 (.op 6 (.op 7 (.op 8 (.op 9 (.op 10 (.op 11 (.op 12 (.op 13 (.op 14 (.op 15 (.op 16 (.op 17 (.op 18 (.op 19 (.op 20 (.op 21 (.op 22 (.op 23 (.op 24 (.op 25 (.op 26 (.op 27 (.op 28 (.op 29 (.op 30 (.op 31 (.op 32 (.op 33 (.op 34 (.op 35 (.op 36 (.op 37 (.op 38 (.op 39 (.op 40 (.op 41 .nil)))))))))))))))))))))))))))))))))))))))))) (by kernel_rfl) (by kernel_rfl) ?_)
    | refine FW_alt ?_ ?_
    | refine KJ_flow ?_ ?_
    | exact Rech.nil
    | fail)
  all_goals (exact xdn ())
theorem check_bad3 (hn : D.n ≤ 65536) (e6 : W.cell? ⟨3, 0, none⟩ = some (errV E 6)) (at_ n ver : Int) (h : 0 ≤ at_ ∧ 0 ≤ n ∧ at_ ≤ D.n ∧ (D.n : Int) - at_ < n) : Ct Tryd.prog W 98 [.agg #[.pointer (some ⟨p, 0, none⟩), .int .i64 at_, .int .i64 n, .int .i64 ver]] [DiskP p D] (fun _ : Unit => errV E 6) (fun _ => [DiskP p D]) := by
  have c1 : Ct Tryd.prog W 40 [.pointer (some ⟨p, 0, none⟩)] [DiskP p D] (fun _ : Unit => .int .i64 D.n) (fun _ => [DiskP p D]) := size_ct
  have q0 : decide (at_ < 0) = false := decide_eq_false (by omega)
  have q1 : decide (n < 0) = false := decide_eq_false (by omega)
  have q2 : decide ((D.n : Int) < at_) = false := decide_eq_false (by omega)
  have q3 : decide ((D.n : Int) - at_ < n) = true := decide_eq_true (by omega)
  refine Ct.enter Tryd.func98 rfl Tryd.ntmps98 (by simp) (fun R => ?_)
  repeat' (first 
    | (refine is_box ?_; refine KJ_box rfl xF rfl (fun g1 => ?_))
    | (refine ek_load ?_; refine EK_ev (Ev_loadOld rfl e6) ?_)
    | (refine ek_lss ?_; first | refine EK_ev (Ev_lssI_q rfl rfl q1) ?_ | refine EK_ev (Ev_lssI_q rfl rfl q0) ?_)
    | (refine ek_gtr ?_; first | refine EK_ev (Ev_gtrI_q rfl rfl q3) ?_ | refine EK_ev (Ev_gtrI_q rfl rfl q2) ?_)
    | (refine is_fo ?_; (refine FO_call (X := Unit) xE c1 xP rfl ?_))
    | (refine is_ro ?_; (refine FO_call (X := Unit) xE c1 xP rfl ?_))
    | (refine is_fo ?_; (refine FO_callg (X := Unit) rfl rfl xE c1 xP rfl ?_))
    | (refine is_ro ?_; (refine FO_callg (X := Unit) rfl rfl xE c1 xP rfl ?_))
    | refine xst ?_
    | (refine xsa ?_; intro _)
    | (refine xsb ?_ ?_ <;> intro _ <;> first | (exfalso; omega) | skip)
    | refine xsc ?_
    | (refine KJ_draws (id := 1) (.op 0 (.op 1 (.op 2 (.op 3 (.op 4 (.op 5 (.op 6 (.op 7 (.op 8 (.op 9 (.op 10 (.op 11 (.op 12 (.op 13 (.op 14 (.op 15 (.op 16 (.op 17 (.op 18 (.op 19 (.op 20 (.op 21 (.op 22 (.op 23 (.op 24 (.op 25 (.op 26 (.op 27 (.op 28 (.op 29 (.op 30 (.op 31 (.op 32 (.op 33 (.op 34 (.op 35 (.op 36 (.op 37 (.op 38 (.op 39 (.op 40 (.op 41 .nil)))))))))))))))))))))))))))))))))))))))))) (by kernel_rfl) (by kernel_rfl) ?_)
    | refine FW_alt ?_ ?_
    | refine KJ_flow ?_ ?_
    | exact Rech.nil
    | fail)
  all_goals (exact xdn ())
theorem check_bad4 (hn : D.n ≤ 65536) (e6 : W.cell? ⟨3, 0, none⟩ = some (errV E 6)) (at_ n ver : Int) (h : 0 ≤ at_ ∧ 0 ≤ n ∧ at_ ≤ D.n ∧ n ≤ (D.n : Int) - at_ ∧ 65536 < n) : Ct Tryd.prog W 98 [.agg #[.pointer (some ⟨p, 0, none⟩), .int .i64 at_, .int .i64 n, .int .i64 ver]] [DiskP p D] (fun _ : Unit => errV E 6) (fun _ => [DiskP p D]) := by
  have c1 : Ct Tryd.prog W 40 [.pointer (some ⟨p, 0, none⟩)] [DiskP p D] (fun _ : Unit => .int .i64 D.n) (fun _ => [DiskP p D]) := size_ct
  have q0 : decide (at_ < 0) = false := decide_eq_false (by omega)
  have q1 : decide (n < 0) = false := decide_eq_false (by omega)
  have q2 : decide ((D.n : Int) < at_) = false := decide_eq_false (by omega)
  have q3 : decide ((D.n : Int) - at_ < n) = false := decide_eq_false (by omega)
  have q4 : decide (65536 < n) = true := decide_eq_true (by omega)
  refine Ct.enter Tryd.func98 rfl Tryd.ntmps98 (by simp) (fun R => ?_)
  repeat' (first 
    | (refine is_box ?_; refine KJ_box rfl xF rfl (fun g1 => ?_))
    | (refine ek_load ?_; refine EK_ev (Ev_loadOld rfl e6) ?_)
    | (refine ek_lss ?_; first | refine EK_ev (Ev_lssI_q rfl rfl q1) ?_ | refine EK_ev (Ev_lssI_q rfl rfl q0) ?_)
    | (refine ek_gtr ?_; first | refine EK_ev (Ev_gtrI_q rfl rfl q4) ?_ | refine EK_ev (Ev_gtrI_q rfl rfl q3) ?_ | refine EK_ev (Ev_gtrI_q rfl rfl q2) ?_)
    | (refine is_fo ?_; (refine FO_call (X := Unit) xE c1 xP rfl ?_))
    | (refine is_ro ?_; (refine FO_call (X := Unit) xE c1 xP rfl ?_))
    | (refine is_fo ?_; (refine FO_callg (X := Unit) rfl rfl xE c1 xP rfl ?_))
    | (refine is_ro ?_; (refine FO_callg (X := Unit) rfl rfl xE c1 xP rfl ?_))
    | refine xst ?_
    | (refine xsa ?_; intro _)
    | (refine xsb ?_ ?_ <;> intro _ <;> first | (exfalso; omega) | skip)
    | refine xsc ?_
    | (refine KJ_draws (id := 1) (.op 0 (.op 1 (.op 2 (.op 3 (.op 4 (.op 5 (.op 6 (.op 7 (.op 8 (.op 9 (.op 10 (.op 11 (.op 12 (.op 13 (.op 14 (.op 15 (.op 16 (.op 17 (.op 18 (.op 19 (.op 20 (.op 21 (.op 22 (.op 23 (.op 24 (.op 25 (.op 26 (.op 27 (.op 28 (.op 29 (.op 30 (.op 31 (.op 32 (.op 33 (.op 34 (.op 35 (.op 36 (.op 37 (.op 38 (.op 39 (.op 40 (.op 41 .nil)))))))))))))))))))))))))))))))))))))))))) (by kernel_rfl) (by kernel_rfl) ?_)
    | refine FW_alt ?_ ?_
    | refine KJ_flow ?_ ?_
    | exact Rech.nil
    | fail)
  all_goals (exact xdn ())
theorem check_bad5 (hn : D.n ≤ 65536) (e6 : W.cell? ⟨3, 0, none⟩ = some (errV E 6)) (at_ n ver : Int) (h : 0 ≤ at_ ∧ 0 ≤ n ∧ at_ ≤ D.n ∧ n ≤ (D.n : Int) - at_ ∧ n ≤ 65536 ∧ ver < 1) : Ct Tryd.prog W 98 [.agg #[.pointer (some ⟨p, 0, none⟩), .int .i64 at_, .int .i64 n, .int .i64 ver]] [DiskP p D] (fun _ : Unit => errV E 6) (fun _ => [DiskP p D]) := by
  have c1 : Ct Tryd.prog W 40 [.pointer (some ⟨p, 0, none⟩)] [DiskP p D] (fun _ : Unit => .int .i64 D.n) (fun _ => [DiskP p D]) := size_ct
  have q0 : decide (at_ < 0) = false := decide_eq_false (by omega)
  have q1 : decide (n < 0) = false := decide_eq_false (by omega)
  have q2 : decide ((D.n : Int) < at_) = false := decide_eq_false (by omega)
  have q3 : decide ((D.n : Int) - at_ < n) = false := decide_eq_false (by omega)
  have q4 : decide (65536 < n) = false := decide_eq_false (by omega)
  have q5 : decide (ver < 1) = true := decide_eq_true (by omega)
  refine Ct.enter Tryd.func98 rfl Tryd.ntmps98 (by simp) (fun R => ?_)
  repeat' (first 
    | (refine is_box ?_; refine KJ_box rfl xF rfl (fun g1 => ?_))
    | (refine ek_load ?_; refine EK_ev (Ev_loadOld rfl e6) ?_)
    | (refine ek_lss ?_; first | refine EK_ev (Ev_lssI_q rfl rfl q5) ?_ | refine EK_ev (Ev_lssI_q rfl rfl q1) ?_ | refine EK_ev (Ev_lssI_q rfl rfl q0) ?_)
    | (refine ek_gtr ?_; first | refine EK_ev (Ev_gtrI_q rfl rfl q4) ?_ | refine EK_ev (Ev_gtrI_q rfl rfl q3) ?_ | refine EK_ev (Ev_gtrI_q rfl rfl q2) ?_)
    | (refine is_fo ?_; (refine FO_call (X := Unit) xE c1 xP rfl ?_))
    | (refine is_ro ?_; (refine FO_call (X := Unit) xE c1 xP rfl ?_))
    | (refine is_fo ?_; (refine FO_callg (X := Unit) rfl rfl xE c1 xP rfl ?_))
    | (refine is_ro ?_; (refine FO_callg (X := Unit) rfl rfl xE c1 xP rfl ?_))
    | refine xst ?_
    | (refine xsa ?_; intro _)
    | (refine xsb ?_ ?_ <;> intro _ <;> first | (exfalso; omega) | skip)
    | refine xsc ?_
    | (refine KJ_draws (id := 1) (.op 0 (.op 1 (.op 2 (.op 3 (.op 4 (.op 5 (.op 6 (.op 7 (.op 8 (.op 9 (.op 10 (.op 11 (.op 12 (.op 13 (.op 14 (.op 15 (.op 16 (.op 17 (.op 18 (.op 19 (.op 20 (.op 21 (.op 22 (.op 23 (.op 24 (.op 25 (.op 26 (.op 27 (.op 28 (.op 29 (.op 30 (.op 31 (.op 32 (.op 33 (.op 34 (.op 35 (.op 36 (.op 37 (.op 38 (.op 39 (.op 40 (.op 41 .nil)))))))))))))))))))))))))))))))))))))))))) (by kernel_rfl) (by kernel_rfl) ?_)
    | refine FW_alt ?_ ?_
    | refine KJ_flow ?_ ?_
    | exact Rech.nil
    | fail)
  all_goals (exact xdn ())
theorem check_bad6 (hn : D.n ≤ 65536) (e6 : W.cell? ⟨3, 0, none⟩ = some (errV E 6)) (at_ n ver : Int) (h : 0 ≤ at_ ∧ 0 ≤ n ∧ at_ ≤ D.n ∧ n ≤ (D.n : Int) - at_ ∧ n ≤ 65536 ∧ 1 ≤ ver ∧ 1099511627776 < ver) : Ct Tryd.prog W 98 [.agg #[.pointer (some ⟨p, 0, none⟩), .int .i64 at_, .int .i64 n, .int .i64 ver]] [DiskP p D] (fun _ : Unit => errV E 6) (fun _ => [DiskP p D]) := by
  have c1 : Ct Tryd.prog W 40 [.pointer (some ⟨p, 0, none⟩)] [DiskP p D] (fun _ : Unit => .int .i64 D.n) (fun _ => [DiskP p D]) := size_ct
  have q0 : decide (at_ < 0) = false := decide_eq_false (by omega)
  have q1 : decide (n < 0) = false := decide_eq_false (by omega)
  have q2 : decide ((D.n : Int) < at_) = false := decide_eq_false (by omega)
  have q3 : decide ((D.n : Int) - at_ < n) = false := decide_eq_false (by omega)
  have q4 : decide (65536 < n) = false := decide_eq_false (by omega)
  have q5 : decide (ver < 1) = false := decide_eq_false (by omega)
  have q6 : decide (1099511627776 < ver) = true := decide_eq_true (by omega)
  refine Ct.enter Tryd.func98 rfl Tryd.ntmps98 (by simp) (fun R => ?_)
  repeat' (first 
    | (refine is_box ?_; refine KJ_box rfl xF rfl (fun g1 => ?_))
    | (refine ek_load ?_; refine EK_ev (Ev_loadOld rfl e6) ?_)
    | (refine ek_lss ?_; first | refine EK_ev (Ev_lssI_q rfl rfl q5) ?_ | refine EK_ev (Ev_lssI_q rfl rfl q1) ?_ | refine EK_ev (Ev_lssI_q rfl rfl q0) ?_)
    | (refine ek_gtr ?_; first | refine EK_ev (Ev_gtrI_q rfl rfl q6) ?_ | refine EK_ev (Ev_gtrI_q rfl rfl q4) ?_ | refine EK_ev (Ev_gtrI_q rfl rfl q3) ?_ | refine EK_ev (Ev_gtrI_q rfl rfl q2) ?_)
    | (refine is_fo ?_; (refine FO_call (X := Unit) xE c1 xP rfl ?_))
    | (refine is_ro ?_; (refine FO_call (X := Unit) xE c1 xP rfl ?_))
    | (refine is_fo ?_; (refine FO_callg (X := Unit) rfl rfl xE c1 xP rfl ?_))
    | (refine is_ro ?_; (refine FO_callg (X := Unit) rfl rfl xE c1 xP rfl ?_))
    | refine xst ?_
    | (refine xsa ?_; intro _)
    | (refine xsb ?_ ?_ <;> intro _ <;> first | (exfalso; omega) | skip)
    | refine xsc ?_
    | (refine KJ_draws (id := 1) (.op 0 (.op 1 (.op 2 (.op 3 (.op 4 (.op 5 (.op 6 (.op 7 (.op 8 (.op 9 (.op 10 (.op 11 (.op 12 (.op 13 (.op 14 (.op 15 (.op 16 (.op 17 (.op 18 (.op 19 (.op 20 (.op 21 (.op 22 (.op 23 (.op 24 (.op 25 (.op 26 (.op 27 (.op 28 (.op 29 (.op 30 (.op 31 (.op 32 (.op 33 (.op 34 (.op 35 (.op 36 (.op 37 (.op 38 (.op 39 (.op 40 (.op 41 .nil)))))))))))))))))))))))))))))))))))))))))) (by kernel_rfl) (by kernel_rfl) ?_)
    | refine FW_alt ?_ ?_
    | refine KJ_flow ?_ ?_
    | exact Rech.nil
    | fail)
  all_goals (exact xdn ())
theorem check_bad (hn : D.n ≤ 65536) (e6 : W.cell? ⟨3, 0, none⟩ = some (errV E 6)) (at_ n ver : Int) (h : ¬ logOk D at_ n ver) : Ct Tryd.prog W 98 [.agg #[.pointer (some ⟨p, 0, none⟩), .int .i64 at_, .int .i64 n, .int .i64 ver]] [DiskP p D] (fun _ : Unit => errV E 6) (fun _ => [DiskP p D]) := by
  rcases log_cases h with h | h | h | h | h | h | h
  · exact check_bad0 hn e6 at_ n ver h
  · exact check_bad1 hn e6 at_ n ver h
  · exact check_bad2 hn e6 at_ n ver h
  · exact check_bad3 hn e6 at_ n ver h
  · exact check_bad4 hn e6 at_ n ver h
  · exact check_bad5 hn e6 at_ n ver h
  · exact check_bad6 hn e6 at_ n ver h
theorem check_down (hn : D.n ≤ 65536) (e12 : W.cell? ⟨2, 0, none⟩ = some (errV E 12)) (ho : D.off = true) (at_ n ver : Int) (h : logOk D at_ n ver) : Ct Tryd.prog W 98 [.agg #[.pointer (some ⟨p, 0, none⟩), .int .i64 at_, .int .i64 n, .int .i64 ver]] [DiskP p D] (fun _ : Unit => errV E 12) (fun _ => [DiskP p D]) := by
  obtain ⟨h1, h2, h3, h4, h5, h6, h7⟩ := h
  have c1 : Ct Tryd.prog W 40 [.pointer (some ⟨p, 0, none⟩)] [DiskP p D] (fun _ : Unit => .int .i64 D.n) (fun _ => [DiskP p D]) := size_ct
  have c2 : Ct Tryd.prog W 30 [.pointer (some ⟨p, 0, none⟩)] [DiskP p D] (fun _ : Unit => .bool true) (fun _ => [DiskP p D]) := by rw [← ho]; exact off_ct
  have q0 : decide (at_ < 0) = false := decide_eq_false (by omega)
  have q1 : decide (n < 0) = false := decide_eq_false (by omega)
  have q2 : decide ((D.n : Int) < at_) = false := decide_eq_false (by omega)
  have q3 : decide ((D.n : Int) - at_ < n) = false := decide_eq_false (by omega)
  have q4 : decide (65536 < n) = false := decide_eq_false (by omega)
  have q5 : decide (ver < 1) = false := decide_eq_false (by omega)
  have q6 : decide (1099511627776 < ver) = false := decide_eq_false (by omega)
  refine Ct.enter Tryd.func98 rfl Tryd.ntmps98 (by simp) (fun R => ?_)
  repeat' (first 
    | (refine is_box ?_; refine KJ_box rfl xF rfl (fun g1 => ?_))
    | (refine is_call ?_; first | (refine KJ_call xE c2 xP rfl (fun _ => ?_)) | (refine KJ_call xE c1 xP rfl (fun _ => ?_)))
    | (refine ek_load ?_; refine EK_ev (Ev_loadOld rfl e12) ?_)
    | (refine ek_lss ?_; first | refine EK_ev (Ev_lssI_q rfl rfl q5) ?_ | refine EK_ev (Ev_lssI_q rfl rfl q1) ?_ | refine EK_ev (Ev_lssI_q rfl rfl q0) ?_)
    | (refine ek_gtr ?_; first | refine EK_ev (Ev_gtrI_q rfl rfl q6) ?_ | refine EK_ev (Ev_gtrI_q rfl rfl q4) ?_ | refine EK_ev (Ev_gtrI_q rfl rfl q3) ?_ | refine EK_ev (Ev_gtrI_q rfl rfl q2) ?_)
    | refine xst ?_
    | (refine xsa ?_; intro _)
    | (refine xsb ?_ ?_ <;> intro _ <;> first | (exfalso; omega) | skip)
    | refine xsc ?_
    | (refine KJ_draws (id := 1) (.op 0 (.op 1 (.op 2 (.op 3 (.op 4 (.op 5 (.op 6 (.op 7 (.op 8 (.op 9 (.op 10 (.op 11 (.op 12 (.ef 13 [10, 9] (.op 14 (.op 15 (.op 16 (.op 17 (.op 18 (.op 19 (.op 20 (.op 22 (.op 23 (.ef 21 [23, 22, 18, 17] (.op 24 (.op 25 (.op 26 (.op 27 (.op 28 (.op 29 (.op 30 (.op 31 (.op 32 (.op 33 (.op 34 (.op 35 (.op 36 (.op 37 (.op 38 (.op 39 (.op 40 (.op 41 .nil)))))))))))))))))))))))))))))))))))))))))) (by kernel_rfl) (by kernel_rfl) ?_)
    | refine FW_alt ?_ ?_
    | refine KJ_flow ?_ ?_
    | exact Rech.nil
    | fail)
  all_goals (exact xdn ())
theorem begin_no (e : Nat) (he : e ≠ 0) (at_ n ver : Int) (c1 : Ct Tryd.prog W 98 [.agg #[.pointer (some ⟨p, 0, none⟩), .int .i64 at_, .int .i64 n, .int .i64 ver]] [DiskP p D] (fun _ : Unit => errV E e) (fun _ => [DiskP p D])) : Ct Tryd.prog W 65 [.pointer (some ⟨p, 0, none⟩), .int .i64 at_, .int .i64 n, .int .i64 ver] [DiskP p D] (fun _ : Unit => .tuple #[.pointer none, errV E e]) (fun _ => [DiskP p D]) := by
  obtain ⟨ea, hea⟩ := errV_ne (E := E) he
  rw [hea] at c1 ⊢
  refine Ct.enter Tryd.func65 rfl Tryd.ntmps65 (by simp) (fun R => ?_)
  repeat' (first 
    | (refine is_call ?_; refine KJ_call xE c1 xP rfl (fun _ => ?_))
    | (refine ek_build ?_; refine EK_ev (Ev_build xV xW) ?_)
    | refine xst ?_
    | (refine xsa ?_; intro _)
    | (refine xsb ?_ ?_ <;> intro _ <;> first | (exfalso; omega) | skip)
    | refine xsc ?_
    | (refine KJ_draws (id := 5) (.op 0 (.op 1 (.ef 2 [0] (.op 3 (.ef 4 [] (.op 5 (.op 6 .nil))))))) (by kernel_rfl) (by kernel_rfl) ?_)
    | refine FW_alt ?_ ?_
    | refine KJ_flow ?_ ?_
    | exact Rech.nil
    | fail)
  all_goals (exact xdn ())
theorem replay_no (e : Nat) (he : e ≠ 0) (at_ n ver : Int) (c1 : Ct Tryd.prog W 98 [.agg #[.pointer (some ⟨p, 0, none⟩), .int .i64 at_, .int .i64 n, .int .i64 ver]] [DiskP p D] (fun _ : Unit => errV E e) (fun _ => [DiskP p D])) : Ct Tryd.prog W 70 [.pointer (some ⟨p, 0, none⟩), .int .i64 at_, .int .i64 n, .int .i64 ver] [DiskP p D] (fun _ : Unit => .tuple #[.slice none 0 0, errV E e]) (fun _ => [DiskP p D]) := by
  obtain ⟨ea, hea⟩ := errV_ne (E := E) he
  rw [hea] at c1 ⊢
  refine Ct.enter Tryd.func70 rfl Tryd.ntmps70 (by simp) (fun R => ?_)
  repeat' (first 
    | (refine is_call ?_; refine KJ_call xE c1 xP rfl (fun _ => ?_))
    | (refine ek_build ?_; refine EK_ev (Ev_build xV xW) ?_)
    | refine xst ?_
    | (refine xsa ?_; intro _)
    | (refine xsb ?_ ?_ <;> intro _ <;> first | (exfalso; omega) | skip)
    | refine xsc ?_
    | fail)
  all_goals (exact xdn ())
theorem may_yes (at_ n ver : Int) (hn : D.n ≤ 65536) (h : logOk D at_ n ver) : Ct Tryd.prog W 124 [.pointer (some ⟨p, 0, none⟩), .int .i64 at_, .int .i64 n, .int .i64 ver] [RefP p D] (fun _ : Unit => .bool true) (fun _ => [RefP p D]) := by
  obtain ⟨h1, h2, h3, h4, h5, h6, h7⟩ := h
  have q0 : decide (0 ≤ at_) = true := decide_eq_true (by omega)
  have q1 : decide (0 ≤ n) = true := decide_eq_true (by omega)
  have q2 : decide (at_ ≤ (D.n : Int)) = true := decide_eq_true (by omega)
  have q3 : decide (n ≤ (D.n : Int) - at_) = true := decide_eq_true (by omega)
  have q4 : decide (n ≤ 65536) = true := decide_eq_true (by omega)
  have q5 : decide (1 ≤ ver) = true := decide_eq_true (by omega)
  have q6 : decide (ver ≤ 1099511627776) = true := decide_eq_true (by omega)
  refine Ct_ref fun sv wv => ?_
  rw [RefF_eq]
  refine Ct.enter Tryd.func124 rfl Tryd.ntmps124 (by simp) (fun R => ?_)
  refine KJ.row_slice xS (fun sa sc e => ?_)
  subst e
  repeat' (first 
    | (refine ek_leq ?_; first | refine EK_ev (Ev_leqI_q rfl rfl q6) ?_ | refine EK_ev (Ev_leqI_q rfl rfl q4) ?_ | refine EK_ev (Ev_leqI_q rfl rfl q3) ?_ | refine EK_ev (Ev_leqI_q rfl rfl q2) ?_)
    | (refine ek_geq ?_; first | refine EK_ev (Ev_geqI_q rfl rfl q5) ?_ | refine EK_ev (Ev_geqI_q rfl rfl q1) ?_ | refine EK_ev (Ev_geqI_q rfl rfl q0) ?_)
    | refine xst ?_
    | (refine xsa ?_; intro _)
    | (refine xsb ?_ ?_ <;> intro _ <;> first | (exfalso; omega) | skip)
    | refine xsc ?_
    | fail)
  (refine is_ex ?_; exact KJ_doneR (by first | exact Or.inl rfl | exact Or.inr rfl) rfl (by (repeat' (first | exact Rvs.nil | (apply Rvs.tmp; exact rfl))); first | done | fail) (by rfl) _ _ (by rw [RefF_eq]; exact (xN)))
theorem may_no0 (at_ n ver : Int) (_ : D.n ≤ 65536) (h : at_ < 0) : Ct Tryd.prog W 124 [.pointer (some ⟨p, 0, none⟩), .int .i64 at_, .int .i64 n, .int .i64 ver] [RefP p D] (fun _ : Unit => .bool false) (fun _ => [RefP p D]) := by
  have q0 : decide (0 ≤ at_) = false := decide_eq_false (by omega)
  refine Ct_ref fun sv wv => ?_
  rw [RefF_eq]
  refine Ct.enter Tryd.func124 rfl Tryd.ntmps124 (by simp) (fun R => ?_)
  refine KJ.row_slice xS (fun sa sc e => ?_)
  subst e
  repeat' (first 
    | (refine ek_geq ?_; refine EK_ev (Ev_geqI_q rfl rfl q0) ?_)
    | refine xst ?_
    | (refine xsa ?_; intro _)
    | (refine xsb ?_ ?_ <;> intro _ <;> first | (exfalso; omega) | skip)
    | refine xsc ?_
    | fail)
  (refine is_ex ?_; exact KJ_doneR (by first | exact Or.inl rfl | exact Or.inr rfl) rfl (by (repeat' (first | exact Rvs.nil | (apply Rvs.tmp; exact rfl))); first | done | fail) (by rfl) _ _ (by rw [RefF_eq]; exact (xN)))
theorem may_no1 (at_ n ver : Int) (_ : D.n ≤ 65536) (h : 0 ≤ at_ ∧ n < 0) : Ct Tryd.prog W 124 [.pointer (some ⟨p, 0, none⟩), .int .i64 at_, .int .i64 n, .int .i64 ver] [RefP p D] (fun _ : Unit => .bool false) (fun _ => [RefP p D]) := by
  have q0 : decide (0 ≤ at_) = true := decide_eq_true (by omega)
  have q1 : decide (0 ≤ n) = false := decide_eq_false (by omega)
  refine Ct_ref fun sv wv => ?_
  rw [RefF_eq]
  refine Ct.enter Tryd.func124 rfl Tryd.ntmps124 (by simp) (fun R => ?_)
  refine KJ.row_slice xS (fun sa sc e => ?_)
  subst e
  repeat' (first 
    | (refine ek_geq ?_; first | refine EK_ev (Ev_geqI_q rfl rfl q1) ?_ | refine EK_ev (Ev_geqI_q rfl rfl q0) ?_)
    | refine xst ?_
    | (refine xsa ?_; intro _)
    | (refine xsb ?_ ?_ <;> intro _ <;> first | (exfalso; omega) | skip)
    | refine xsc ?_
    | fail)
  (refine is_ex ?_; exact KJ_doneR (by first | exact Or.inl rfl | exact Or.inr rfl) rfl (by (repeat' (first | exact Rvs.nil | (apply Rvs.tmp; exact rfl))); first | done | fail) (by rfl) _ _ (by rw [RefF_eq]; exact (xN)))
theorem may_no2 (at_ n ver : Int) (_ : D.n ≤ 65536) (h : 0 ≤ at_ ∧ 0 ≤ n ∧ (D.n : Int) < at_) : Ct Tryd.prog W 124 [.pointer (some ⟨p, 0, none⟩), .int .i64 at_, .int .i64 n, .int .i64 ver] [RefP p D] (fun _ : Unit => .bool false) (fun _ => [RefP p D]) := by
  have q0 : decide (0 ≤ at_) = true := decide_eq_true (by omega)
  have q1 : decide (0 ≤ n) = true := decide_eq_true (by omega)
  have q2 : decide (at_ ≤ (D.n : Int)) = false := decide_eq_false (by omega)
  refine Ct_ref fun sv wv => ?_
  rw [RefF_eq]
  refine Ct.enter Tryd.func124 rfl Tryd.ntmps124 (by simp) (fun R => ?_)
  refine KJ.row_slice xS (fun sa sc e => ?_)
  subst e
  repeat' (first 
    | (refine ek_leq ?_; refine EK_ev (Ev_leqI_q rfl rfl q2) ?_)
    | (refine ek_geq ?_; first | refine EK_ev (Ev_geqI_q rfl rfl q1) ?_ | refine EK_ev (Ev_geqI_q rfl rfl q0) ?_)
    | refine xst ?_
    | (refine xsa ?_; intro _)
    | (refine xsb ?_ ?_ <;> intro _ <;> first | (exfalso; omega) | skip)
    | refine xsc ?_
    | fail)
  (refine is_ex ?_; exact KJ_doneR (by first | exact Or.inl rfl | exact Or.inr rfl) rfl (by (repeat' (first | exact Rvs.nil | (apply Rvs.tmp; exact rfl))); first | done | fail) (by rfl) _ _ (by rw [RefF_eq]; exact (xN)))
theorem may_no3 (at_ n ver : Int) (hn : D.n ≤ 65536) (h : 0 ≤ at_ ∧ 0 ≤ n ∧ at_ ≤ D.n ∧ (D.n : Int) - at_ < n) : Ct Tryd.prog W 124 [.pointer (some ⟨p, 0, none⟩), .int .i64 at_, .int .i64 n, .int .i64 ver] [RefP p D] (fun _ : Unit => .bool false) (fun _ => [RefP p D]) := by
  have q0 : decide (0 ≤ at_) = true := decide_eq_true (by omega)
  have q1 : decide (0 ≤ n) = true := decide_eq_true (by omega)
  have q2 : decide (at_ ≤ (D.n : Int)) = true := decide_eq_true (by omega)
  have q3 : decide (n ≤ (D.n : Int) - at_) = false := decide_eq_false (by omega)
  refine Ct_ref fun sv wv => ?_
  rw [RefF_eq]
  refine Ct.enter Tryd.func124 rfl Tryd.ntmps124 (by simp) (fun R => ?_)
  refine KJ.row_slice xS (fun sa sc e => ?_)
  subst e
  repeat' (first 
    | (refine ek_leq ?_; first | refine EK_ev (Ev_leqI_q rfl rfl q3) ?_ | refine EK_ev (Ev_leqI_q rfl rfl q2) ?_)
    | (refine ek_geq ?_; first | refine EK_ev (Ev_geqI_q rfl rfl q1) ?_ | refine EK_ev (Ev_geqI_q rfl rfl q0) ?_)
    | refine xst ?_
    | (refine xsa ?_; intro _)
    | (refine xsb ?_ ?_ <;> intro _ <;> first | (exfalso; omega) | skip)
    | refine xsc ?_
    | fail)
  (refine is_ex ?_; exact KJ_doneR (by first | exact Or.inl rfl | exact Or.inr rfl) rfl (by (repeat' (first | exact Rvs.nil | (apply Rvs.tmp; exact rfl))); first | done | fail) (by rfl) _ _ (by rw [RefF_eq]; exact (xN)))
theorem may_no4 (at_ n ver : Int) (hn : D.n ≤ 65536) (h : 0 ≤ at_ ∧ 0 ≤ n ∧ at_ ≤ D.n ∧ n ≤ (D.n : Int) - at_ ∧ 65536 < n) : Ct Tryd.prog W 124 [.pointer (some ⟨p, 0, none⟩), .int .i64 at_, .int .i64 n, .int .i64 ver] [RefP p D] (fun _ : Unit => .bool false) (fun _ => [RefP p D]) := by
  have q0 : decide (0 ≤ at_) = true := decide_eq_true (by omega)
  have q1 : decide (0 ≤ n) = true := decide_eq_true (by omega)
  have q2 : decide (at_ ≤ (D.n : Int)) = true := decide_eq_true (by omega)
  have q3 : decide (n ≤ (D.n : Int) - at_) = true := decide_eq_true (by omega)
  have q4 : decide (n ≤ 65536) = false := decide_eq_false (by omega)
  refine Ct_ref fun sv wv => ?_
  rw [RefF_eq]
  refine Ct.enter Tryd.func124 rfl Tryd.ntmps124 (by simp) (fun R => ?_)
  refine KJ.row_slice xS (fun sa sc e => ?_)
  subst e
  repeat' (first 
    | (refine ek_leq ?_; first | refine EK_ev (Ev_leqI_q rfl rfl q4) ?_ | refine EK_ev (Ev_leqI_q rfl rfl q3) ?_ | refine EK_ev (Ev_leqI_q rfl rfl q2) ?_)
    | (refine ek_geq ?_; first | refine EK_ev (Ev_geqI_q rfl rfl q1) ?_ | refine EK_ev (Ev_geqI_q rfl rfl q0) ?_)
    | refine xst ?_
    | (refine xsa ?_; intro _)
    | (refine xsb ?_ ?_ <;> intro _ <;> first | (exfalso; omega) | skip)
    | refine xsc ?_
    | fail)
  (refine is_ex ?_; exact KJ_doneR (by first | exact Or.inl rfl | exact Or.inr rfl) rfl (by (repeat' (first | exact Rvs.nil | (apply Rvs.tmp; exact rfl))); first | done | fail) (by rfl) _ _ (by rw [RefF_eq]; exact (xN)))
theorem may_no5 (at_ n ver : Int) (hn : D.n ≤ 65536) (h : 0 ≤ at_ ∧ 0 ≤ n ∧ at_ ≤ D.n ∧ n ≤ (D.n : Int) - at_ ∧ n ≤ 65536 ∧ ver < 1) : Ct Tryd.prog W 124 [.pointer (some ⟨p, 0, none⟩), .int .i64 at_, .int .i64 n, .int .i64 ver] [RefP p D] (fun _ : Unit => .bool false) (fun _ => [RefP p D]) := by
  have q0 : decide (0 ≤ at_) = true := decide_eq_true (by omega)
  have q1 : decide (0 ≤ n) = true := decide_eq_true (by omega)
  have q2 : decide (at_ ≤ (D.n : Int)) = true := decide_eq_true (by omega)
  have q3 : decide (n ≤ (D.n : Int) - at_) = true := decide_eq_true (by omega)
  have q4 : decide (n ≤ 65536) = true := decide_eq_true (by omega)
  have q5 : decide (1 ≤ ver) = false := decide_eq_false (by omega)
  refine Ct_ref fun sv wv => ?_
  rw [RefF_eq]
  refine Ct.enter Tryd.func124 rfl Tryd.ntmps124 (by simp) (fun R => ?_)
  refine KJ.row_slice xS (fun sa sc e => ?_)
  subst e
  repeat' (first 
    | (refine ek_leq ?_; first | refine EK_ev (Ev_leqI_q rfl rfl q4) ?_ | refine EK_ev (Ev_leqI_q rfl rfl q3) ?_ | refine EK_ev (Ev_leqI_q rfl rfl q2) ?_)
    | (refine ek_geq ?_; first | refine EK_ev (Ev_geqI_q rfl rfl q5) ?_ | refine EK_ev (Ev_geqI_q rfl rfl q1) ?_ | refine EK_ev (Ev_geqI_q rfl rfl q0) ?_)
    | refine xst ?_
    | (refine xsa ?_; intro _)
    | (refine xsb ?_ ?_ <;> intro _ <;> first | (exfalso; omega) | skip)
    | refine xsc ?_
    | fail)
  (refine is_ex ?_; exact KJ_doneR (by first | exact Or.inl rfl | exact Or.inr rfl) rfl (by (repeat' (first | exact Rvs.nil | (apply Rvs.tmp; exact rfl))); first | done | fail) (by rfl) _ _ (by rw [RefF_eq]; exact (xN)))
theorem may_no6 (at_ n ver : Int) (hn : D.n ≤ 65536) (h : 0 ≤ at_ ∧ 0 ≤ n ∧ at_ ≤ D.n ∧ n ≤ (D.n : Int) - at_ ∧ n ≤ 65536 ∧ 1 ≤ ver ∧ 1099511627776 < ver) : Ct Tryd.prog W 124 [.pointer (some ⟨p, 0, none⟩), .int .i64 at_, .int .i64 n, .int .i64 ver] [RefP p D] (fun _ : Unit => .bool false) (fun _ => [RefP p D]) := by
  have q0 : decide (0 ≤ at_) = true := decide_eq_true (by omega)
  have q1 : decide (0 ≤ n) = true := decide_eq_true (by omega)
  have q2 : decide (at_ ≤ (D.n : Int)) = true := decide_eq_true (by omega)
  have q3 : decide (n ≤ (D.n : Int) - at_) = true := decide_eq_true (by omega)
  have q4 : decide (n ≤ 65536) = true := decide_eq_true (by omega)
  have q5 : decide (1 ≤ ver) = true := decide_eq_true (by omega)
  have q6 : decide (ver ≤ 1099511627776) = false := decide_eq_false (by omega)
  refine Ct_ref fun sv wv => ?_
  rw [RefF_eq]
  refine Ct.enter Tryd.func124 rfl Tryd.ntmps124 (by simp) (fun R => ?_)
  refine KJ.row_slice xS (fun sa sc e => ?_)
  subst e
  repeat' (first 
    | (refine ek_leq ?_; first | refine EK_ev (Ev_leqI_q rfl rfl q6) ?_ | refine EK_ev (Ev_leqI_q rfl rfl q4) ?_ | refine EK_ev (Ev_leqI_q rfl rfl q3) ?_ | refine EK_ev (Ev_leqI_q rfl rfl q2) ?_)
    | (refine ek_geq ?_; first | refine EK_ev (Ev_geqI_q rfl rfl q5) ?_ | refine EK_ev (Ev_geqI_q rfl rfl q1) ?_ | refine EK_ev (Ev_geqI_q rfl rfl q0) ?_)
    | refine xst ?_
    | (refine xsa ?_; intro _)
    | (refine xsb ?_ ?_ <;> intro _ <;> first | (exfalso; omega) | skip)
    | refine xsc ?_
    | fail)
  (refine is_ex ?_; exact KJ_doneR (by first | exact Or.inl rfl | exact Or.inr rfl) rfl (by (repeat' (first | exact Rvs.nil | (apply Rvs.tmp; exact rfl))); first | done | fail) (by rfl) _ _ (by rw [RefF_eq]; exact (xN)))
theorem may_no (at_ n ver : Int) (hn : D.n ≤ 65536) (h : ¬ logOk D at_ n ver) : Ct Tryd.prog W 124 [.pointer (some ⟨p, 0, none⟩), .int .i64 at_, .int .i64 n, .int .i64 ver] [RefP p D] (fun _ : Unit => .bool false) (fun _ => [RefP p D]) := by
  rcases log_cases h with h | h | h | h | h | h | h
  · exact may_no0 at_ n ver hn h
  · exact may_no1 at_ n ver hn h
  · exact may_no2 at_ n ver hn h
  · exact may_no3 at_ n ver hn h
  · exact may_no4 at_ n ver hn h
  · exact may_no5 at_ n ver hn h
  · exact may_no6 at_ n ver hn h
set_option maxRecDepth 100000 in
theorem rlog_ct (v i : Nat) (hv : 1 ≤ v ∧ v ≤ 1099511627776) (hi : i < 65536) : Ct Tryd.prog W 128 [.int .i64 (v : Nat), .int .i64 (i : Nat)] [] (fun _ : Unit => .tuple #[.int .u64 (stampN v i : Nat), .int .i64 0]) (fun _ => []) := by
  have q1 : decide ((v : Int) < 1) = false := decide_eq_false (by omega)
  have q2 : decide ((1099511627776 : Int) < (v : Int)) = false := decide_eq_false (by omega)
  have q3 : decide ((i : Int) < 0) = false := decide_eq_false (by omega)
  have q4 : decide ((65536 : Int) ≤ (i : Int)) = false := decide_eq_false (by omega)
  have c1 : IntKind.u64.wrap (v : Int) = (v : Int) := u64_of_lt v (by omega)
  have c2 : IntKind.u64.wrap (i : Int) = (i : Int) := u64_of_lt i (by omega)
  have c3 : IntKind.u64.wrap ((v : Int) * 1048576) = ((v * 1048576 : Nat) : Int) := by
    rw [show (v : Int) * 1048576 = ((v * 1048576 : Nat) : Int) by omega]
    exact u64_of_lt _ (by omega)
  have c4 : IntKind.u64.wrap (((v * 1048576 : Nat) : Int) + (i : Int)) = ((v * 1048576 + i : Nat) : Int) := u64_of_lt (v * 1048576 + i) (by omega)
  have c5 : IntKind.u64.wrap (((v * 1048576 + i : Nat) : Int) + 1) = ((stampN v i : Nat) : Int) := u64_of_lt (v * 1048576 + i + 1) (by omega)
  obtain ⟨a2, ha2⟩ : ∃ a2, a2 = v * 1048576 + i := ⟨_, rfl⟩
  obtain ⟨a1, ha1⟩ : ∃ a1, a1 = v * 1048576 := ⟨_, rfl⟩
  obtain ⟨a3, ha3⟩ : ∃ a3, a3 = stampN v i := ⟨_, rfl⟩
  rw [← ha2] at c4 c5
  rw [← ha1] at c3 c4
  rw [← ha3] at c5 ⊢
  clear ha1 ha2 ha3
  refine Ct.enter Tryd.func128 rfl Tryd.ntmps128 (by simp) (fun R => ?_)
  repeat' (first 
    | (refine ek_conv ?_; first | refine EK_ev (Ev_convI_v rfl c2) ?_ | refine EK_ev (Ev_convI_v rfl c1) ?_)
    | (refine ek_add ?_; first | refine EK_ev (Ev_add_w rfl rfl c5) ?_ | refine EK_ev (Ev_add_w rfl rfl c4) ?_)
    | (refine ek_mul ?_; refine EK_ev (Ev_mul_v rfl rfl c3) ?_)
    | (refine ek_lss ?_; first | refine EK_ev (Ev_lssI_q rfl rfl q3) ?_ | refine EK_ev (Ev_lssI_q rfl rfl q1) ?_)
    | (refine ek_gtr ?_; refine EK_ev (Ev_gtrI_q rfl rfl q2) ?_)
    | (refine ek_geq ?_; refine EK_ev (Ev_geqI_q rfl rfl q4) ?_)
    | refine xst ?_
    | (refine xsa ?_; intro _)
    | (refine xsb ?_ ?_ <;> intro _ <;> first | (exfalso; omega) | skip)
    | refine xsc ?_
    | fail)
  all_goals (exact xdn ())
/-- the payload of the document's sector i -/
theorem ropenJ_ct (hok : D.ok) (hul : D.und.length < 1073741824) (at_ n : Int) (ver i : Nat) (hn : D.n ≤ 65536) (ho : D.off = false) (h : logOk D at_ n (ver : Nat)) (hi : (i : Int) < n) : Ct Tryd.prog W 133 [.pointer (some ⟨p, 0, none⟩), .int .i64 at_, .int .i64 (i : Nat), .int .i64 (ver : Nat)] [RefP p D] (fun _ : Unit => .tuple #[strV ((payO D at_ n ver i).getD []), .bool (payO D at_ n ver i).isSome]) (fun _ => [RefP p D]) := by
  obtain ⟨h1, h2, h3, h4, h5, h6, h7⟩ := h
  have c1 := rread_ct (W := W) (p := p) hok (at_ + (i : Nat)) hul
  have c2 := rlog_ct (W := W) ver i (by omega) (by omega)
  have c3 := ropen_ct (W := W) (stampN ver i) (stamp_lt (by omega) (by omega)) (D.readS (at_ + (i : Nat)))
  have hE : D.readE (at_ + (i : Nat)) = 0 := by
    unfold Dsk.readE Dsk.has
    rw [ho, decide_eq_true (show (0 : Int) ≤ at_ + (i : Nat) ∧ at_ + (i : Nat) < D.n by omega)]; rfl
  have hp : payO D at_ n ver i = openS (stampN ver i : Nat) (D.readS (at_ + (i : Nat))) := by unfold payO; rw [if_neg (by omega), hE, if_neg (fun q => q rfl)]
  rw [hE] at c1
  rw [hp]
  obtain ⟨o, hoo⟩ : ∃ o, o = openS (stampN ver i : Nat) (D.readS (at_ + (i : Nat))) := ⟨_, rfl⟩
  rw [← hoo] at c3 ⊢
  obtain ⟨a, ha⟩ : ∃ a, at_ + ((i : Nat) : Int) = a := ⟨_, rfl⟩
  rw [ha] at c1 c3
  refine Ct.enter Tryd.func133 rfl Tryd.ntmps133 (by simp) (fun R => ?_)
  repeat' (first 
    | (refine is_call ?_; first | (refine KJ_call xE c3 xP rfl (fun _ => ?_)) | (refine KJ_call xE c2 xP rfl (fun _ => ?_)) | (refine KJ_call xE c1 xP rfl (fun _ => ?_)))
    | (refine ek_add ?_; refine EK_ev (Ev_addI_v rfl rfl ha (by omega)) ?_)
    | (refine ek_neq ?_; refine EK_ev (Ev_neqI_f rfl rfl rfl) ?_)
    | refine xst ?_
    | (refine xsa ?_; intro _)
    | (refine xsb ?_ ?_ <;> intro _ <;> first | (exfalso; omega) | skip)
    | refine xsc ?_
    | fail)
  all_goals (exact xdn ())
set_option maxHeartbeats 1000000 in
set_option maxRecDepth 100000 in
theorem rpieces_ct (r : List UInt8) (hl : r.length ≤ 16777216) : Ct Tryd.prog W 127 [strV r] [] (fun x : Nat × Nat => .slice (some ⟨x.1, 0, none⟩) (pcsJ r).length x.2) (fun x => [rowP (.slice (some ⟨x.1, 0, none⟩) (pcsJ r).length x.2) 9 1 (pcsJ r).length ((pcsJ r).map strV)]) := by
  obtain ⟨res, hres⟩ : ∃ res, res = pcsJ r := ⟨_, rfl⟩
  rw [← hres]
  have b0 := byte_val0 r.length
  have b1 := byte_val r.length 256
  have b2 := byte_val r.length 65536
  have b3 := byte_val r.length 16777216
  have s1 : ((r.length : Nat) : Int).fdiv (2 ^ (min (8 : Int).toNat IntKind.i64.bits)) = ((r.length / 256 : Nat) : Int) := shr_val r.length 8 (by omega)
  have s2 : ((r.length : Nat) : Int).fdiv (2 ^ (min (16 : Int).toNat IntKind.i64.bits)) = ((r.length / 65536 : Nat) : Int) := shr_val r.length 16 (by omega)
  have s3 : ((r.length : Nat) : Int).fdiv (2 ^ (min (24 : Int).toNat IntKind.i64.bits)) = ((r.length / 16777216 : Nat) : Int) := shr_val r.length 24 (by omega)
  obtain ⟨c0, hc0⟩ : ∃ c, c = UInt8.ofNat (r.length % 256) := ⟨_, rfl⟩
  obtain ⟨c1, hc1⟩ : ∃ c, c = UInt8.ofNat (r.length / 256 % 256) := ⟨_, rfl⟩
  obtain ⟨c2, hc2⟩ : ∃ c, c = UInt8.ofNat (r.length / 65536 % 256) := ⟨_, rfl⟩
  obtain ⟨c3, hc3⟩ : ∃ c, c = UInt8.ofNat (r.length / 16777216 % 256) := ⟨_, rfl⟩
  have hhead : headJ r.length = [1, c0, c1, c2, c3] := by rw [hc0, hc1, hc2, hc3]; rfl
  rw [← hc0] at b0
  rw [← hc1] at b1
  rw [← hc2] at b2
  rw [← hc3] at b3
  obtain ⟨n1, hn1⟩ : ∃ m, m = r.length / 256 := ⟨_, rfl⟩
  obtain ⟨n2, hn2⟩ : ∃ m, m = r.length / 65536 := ⟨_, rfl⟩
  obtain ⟨n3, hn3⟩ : ∃ m, m = r.length / 16777216 := ⟨_, rfl⟩
  rw [← hn1] at s1 b1
  rw [← hn2] at s2 b2
  rw [← hn3] at s3 b3
  obtain ⟨ct, hct⟩ : ∃ m, m = min r.length 229 := ⟨_, rfl⟩
  obtain ⟨r1, hr1⟩ : ∃ x, x = r.take ct := ⟨_, rfl⟩
  have hr1l : r1.length ≤ 229 := by rw [hr1, List.length_take]; omega
  have ht : r.take 229 = r1 := by rw [hr1, hct]; exact List.take_eq_take_iff.2 (by omega)
  have hd : r.drop ct = r.drop 229 := by
    rw [hct]
    by_cases hh : r.length ≤ 229
    · rw [List.drop_of_length_le (by omega), List.drop_of_length_le (by omega)]
    · rw [show min r.length 229 = 229 by omega]
  have hall : [[1, c0, c1, c2, c3] ++ r1] ++ chunksJ r.length (r.drop ct) = res := by rw [hres, hd, ← ht, ← hhead]; rfl
  clear hc0 hc1 hc2 hc3 hn1 hn2 hn3 hhead hres hd
  have hctl : ct ≤ r.length := by omega
  refine Ct.enter Tryd.func127 rfl Tryd.ntmps127 (by simp) (fun R => ?_)
  apply KJ_rest (fun K => ∀ g2, KJ W 52 K [(0, strV r), (3, .int .i64 (r.length : Nat)), (5, .int .i64 (ct : Nat)), (6, .slice (some ⟨g2, 0, none⟩) 1 1)] ([rowP (.slice (some ⟨g2, 0, none⟩) 1 1) 9 1 1 [strV ([1, c0, c1, c2, c3] ++ r1)]] ++ R))
  · intro rest
    by_cases hk : 229 ≤ r.length
    · have qk : decide (((r.length : Nat) : Int) < 229) = false := decide_eq_false (by omega)
      have h5 : Value.int .i64 229 = .int .i64 ((ct : Nat) : Int) := by rw [show ct = 229 by omega]; rfl
      have ht' : r.take ((229 : Int)).toNat = r1 := ht
      repeat' (first 
    | (refine at_seq_block (id := 0) ?_; refine KJ.asv 5 rfl h5 ?_; refine KJ.toRow (e := 9) (m := 1) (size := 1) xS (by rfl) (by unfold maxLen; omega) ?_; exact KJ.weak (rest _) xB (xN))
    | (refine is_bslice ?_; first | (refine KJ_bslice1 rfl xF (by rfl) (by omega) rfl (fun g2 => ?_)) | (refine KJ_bytes5 (v0 := 1) (v1 := c0) (v2 := c1) (v3 := c2) (v4 := c3) rfl rfl rfl rfl rfl rfl (fun g1 => ?_)))
    | (refine ek_conv ?_; first | refine EK_ev (Ev_bytesAll (l := [1, c0, c1, c2, c3]) rfl xS rfl) ?_ | refine EK_ev (Ev_convI_v rfl b3) ?_ | refine EK_ev (Ev_convI_v rfl b2) ?_ | refine EK_ev (Ev_convI_v rfl b1) ?_ | refine EK_ev (Ev_convI_v rfl b0) ?_)
    | (refine ek_slice ?_; refine EK_ev (Ev_sliceStrTo_v rfl rfl (by omega) ht') ?_)
    | (refine ek_add ?_; refine EK_ev (Ev_addSL rfl rfl) ?_)
    | (refine ek_shr ?_; first | refine EK_ev (Ev_shr_w rfl rfl (by omega) s3) ?_ | refine EK_ev (Ev_shr_w rfl rfl (by omega) s2) ?_ | refine EK_ev (Ev_shr_w rfl rfl (by omega) s1) ?_)
    | (refine ek_gtr ?_; refine EK_ev (Ev_gtrI_q rfl rfl qk) ?_)
    | refine xst ?_
    | (refine xsa ?_; intro _)
    | (refine xsb ?_ ?_ <;> intro _ <;> first | (exfalso; omega) | skip)
    | refine xsc ?_
    | fail)
    · have qk : decide (((r.length : Nat) : Int) < 229) = true := decide_eq_true (by omega)
      have h5 : Value.int .i64 (r.length : Nat) = .int .i64 ((ct : Nat) : Int) := by rw [show ct = r.length by omega]
      have ht' : r.take ((r.length : Nat) : Int).toNat = r1 := by rw [hr1, Int.toNat_natCast]; exact List.take_eq_take_iff.2 (by omega)
      repeat' (first 
    | (refine at_seq_block (id := 0) ?_; refine KJ.asv 5 rfl h5 ?_; refine KJ.toRow (e := 9) (m := 1) (size := 1) xS (by rfl) (by unfold maxLen; omega) ?_; exact KJ.weak (rest _) xB (xN))
    | (refine is_bslice ?_; first | (refine KJ_bslice1 rfl xF (by rfl) (by omega) rfl (fun g2 => ?_)) | (refine KJ_bytes5 (v0 := 1) (v1 := c0) (v2 := c1) (v3 := c2) (v4 := c3) rfl rfl rfl rfl rfl rfl (fun g1 => ?_)))
    | (refine ek_conv ?_; first | refine EK_ev (Ev_bytesAll (l := [1, c0, c1, c2, c3]) rfl xS rfl) ?_ | refine EK_ev (Ev_convI_v rfl b3) ?_ | refine EK_ev (Ev_convI_v rfl b2) ?_ | refine EK_ev (Ev_convI_v rfl b1) ?_ | refine EK_ev (Ev_convI_v rfl b0) ?_)
    | (refine ek_slice ?_; refine EK_ev (Ev_sliceStrTo_v rfl rfl (by omega) ht') ?_)
    | (refine ek_add ?_; refine EK_ev (Ev_addSL rfl rfl) ?_)
    | (refine ek_shr ?_; first | refine EK_ev (Ev_shr_w rfl rfl (by omega) s3) ?_ | refine EK_ev (Ev_shr_w rfl rfl (by omega) s2) ?_ | refine EK_ev (Ev_shr_w rfl rfl (by omega) s1) ?_)
    | (refine ek_gtr ?_; refine EK_ev (Ev_gtrI_q rfl rfl qk) ?_)
    | refine xst ?_
    | (refine xsa ?_; intro _)
    | (refine xsb ?_ ?_ <;> intro _ <;> first | (exfalso; omega) | skip)
    | refine xsc ?_
    | fail)
  intro g2
  refine KJ_stp (by first | constructor | fail) ?_
  refine KJ_stp (by first | constructor | fail) ?_
  refine KJ_loop (fun i : {s : Nat × Nat × List (List UInt8) × Nat × Nat // s.2.2.1 ++ chunksJ s.1 (r.drop s.2.1) = res ∧ s.2.1 ≤ r.length ∧ r.length - s.2.1 ≤ 233 * s.1 ∧ s.2.2.1.length + s.1 ≤ 16777217} => [(0, strV r), (3, .int .i64 (r.length : Nat)), (5, .int .i64 (i.1.2.1 : Nat)), (6, .slice (some ⟨i.1.2.2.2.1, 0, none⟩) i.1.2.2.1.length i.1.2.2.2.2)])
    (fun i => [rowP (.slice (some ⟨i.1.2.2.2.1, 0, none⟩) i.1.2.2.1.length i.1.2.2.2.2) 9 1 i.1.2.2.1.length (i.1.2.2.1.map strV)] ++ R) (fun i => i.1.1) ⟨(r.length, ct, [[1, c0, c1, c2, c3] ++ r1], g2, 1), hall, hctl, by dsimp only; omega, by dsimp only [List.length]; omega⟩ xB (xN) (fun ⟨(f, k, acc, ga, ca), hr, hkn, hf, hal⟩ => ?_)
  dsimp only at hr hkn hf hal ⊢
  by_cases hlt : k < r.length
  rotate_left
  · have ql : decide (((k : Nat) : Int) < (r.length : Nat)) = false := decide_eq_false (by omega)
    rw [List.drop_of_length_le (by omega), chunksJ_nil, List.append_nil] at hr
    subst hr
    repeat' (first 
    | (refine ek_lss ?_; refine EK_ev (Ev_lssI_q rfl rfl ql) ?_)
    | refine xst ?_
    | (refine xsa ?_; intro _)
    | (refine xsb ?_ ?_ <;> intro _ <;> first | (exfalso; omega) | skip)
    | refine xsc ?_
    | fail)
    all_goals (exact xdn (ga, ca))
  have ql : decide (((k : Nat) : Int) < (r.length : Nat)) = true := decide_eq_true (by omega)
  obtain ⟨f', rfl⟩ : ∃ f', f = f' + 1 := ⟨f - 1, by omega⟩
  have hne : r.drop k ≠ [] := fun e => by
    have := congrArg List.length e
    rw [List.length_drop, List.length_nil] at this
    omega
  rw [chunksJ_cons _ _ hne, List.drop_drop] at hr
  obtain ⟨m, hm⟩ : ∃ m, m = min (k + 233) r.length := ⟨_, rfl⟩
  obtain ⟨q1, hq1⟩ : ∃ x, x = (r.drop k).take 233 := ⟨_, rfl⟩
  have hq1l : q1.length ≤ 233 := by rw [hq1, List.length_take]; omega
  have hsl : (r.take m).drop k = q1 := by
    rw [hq1, List.take_drop, hm]
    congr 1
    exact List.take_eq_take_iff.2 (by omega)
  have hdm : r.drop (k + 233) = r.drop m := by
    by_cases hh : k + 233 ≤ r.length
    · rw [show m = k + 233 by omega]
    · rw [List.drop_of_length_le (by omega), List.drop_of_length_le (by omega)]
  rw [← hq1, hdm] at hr
  clear hq1 hdm
  have em : acc.map strV ++ [strV (0 :: q1)] = (acc ++ [0 :: q1]).map strV := by simp
  have hsl' : (r.take ((m : Nat) : Int).toNat).drop ((k : Nat) : Int).toNat = q1 := by rw [Int.toNat_natCast, Int.toNat_natCast]; exact hsl
  have hz : ∀ x : List UInt8, ([0] : List UInt8) ++ x = 0 :: x := fun _ => rfl
  by_cases hg : k + 233 ≤ r.length
  · have qg : decide (((r.length : Nat) : Int) < ((k + 233 : Nat) : Int)) = false := decide_eq_false (by omega)
    obtain rfl : m = k + 233 := by omega
    repeat' (first 
    | (refine is_append ?_; refine KJ_append (a2 := 0) rfl rfl (by rfl) (by omega) xS (Src.cells (i := 1) xS xC) (by rfl) (by omega) xO (by omega) (by omega) rfl rfl (fun g5 c5 => ?_))
    | (refine is_bslice ?_; refine KJ_bslice1 rfl xF (by rfl) (by omega) rfl (fun g3 => ?_))
    | (refine ek_slice ?_; refine EK_ev (Ev_sliceStr_v7 rfl rfl rfl (by omega) hsl') ?_)
    | (refine ek_add ?_; first | refine EK_ev (Ev_addSL rfl rfl) ?_ | refine EK_ev (Ev_addI_v (r := ((k + 233 : Nat) : Int)) rfl rfl (by omega) (by omega)) ?_)
    | (refine ek_lss ?_; refine EK_ev (Ev_lssI_q rfl rfl ql) ?_)
    | (refine ek_gtr ?_; refine EK_ev (Ev_gtrI_q rfl rfl qg) ?_)
    | refine xst ?_
    | (refine xsa ?_; intro _)
    | (refine xsb ?_ ?_ <;> intro _ <;> first | (exfalso; omega) | skip)
    | refine xsc ?_
    | fail)
    refine KJ_again ⟨(f', k + 233, acc ++ [0 :: q1], g5, c5), by dsimp only; rw [List.append_assoc]; exact hr, by dsimp only; omega, by dsimp only; omega, by dsimp only; rw [List.length_append]; show acc.length + 1 + f' ≤ _; omega⟩ (by show f' < f' + 1; omega) ?_ ?_
    · dsimp only
      rw [List.length_append]
      exact xB
    · dsimp only
      rw [← em, List.length_append]
      exact (xN)
  · have qg : decide (((r.length : Nat) : Int) < ((k + 233 : Nat) : Int)) = true := decide_eq_true (by omega)
    obtain rfl : m = r.length := by omega
    repeat' (first 
    | (refine is_append ?_; refine KJ_append (a2 := 0) rfl rfl (by rfl) (by omega) xS (Src.cells (i := 1) xS xC) (by rfl) (by omega) xO (by omega) (by omega) rfl rfl (fun g5 c5 => ?_))
    | (refine is_bslice ?_; refine KJ_bslice1 rfl xF (by rfl) (by omega) rfl (fun g3 => ?_))
    | (refine ek_slice ?_; refine EK_ev (Ev_sliceStr_v7 rfl rfl rfl (by omega) hsl') ?_)
    | (refine ek_add ?_; first | refine EK_ev (Ev_addSL rfl rfl) ?_ | refine EK_ev (Ev_addI_v (r := ((k + 233 : Nat) : Int)) rfl rfl (by omega) (by omega)) ?_)
    | (refine ek_lss ?_; refine EK_ev (Ev_lssI_q rfl rfl ql) ?_)
    | (refine ek_gtr ?_; refine EK_ev (Ev_gtrI_q rfl rfl qg) ?_)
    | refine xst ?_
    | (refine xsa ?_; intro _)
    | (refine xsb ?_ ?_ <;> intro _ <;> first | (exfalso; omega) | skip)
    | refine xsc ?_
    | fail)
    refine KJ_again ⟨(f', r.length, acc ++ [0 :: q1], g5, c5), by dsimp only; rw [List.append_assoc]; exact hr, by dsimp only; omega, by dsimp only; omega, by dsimp only; rw [List.length_append]; show acc.length + 1 + f' ≤ _; omega⟩ (by show f' < f' + 1; omega) ?_ ?_
    · dsimp only
      rw [List.length_append]
      exact xB
    · dsimp only
      rw [← em, List.length_append]
      exact (xN)
end
end Go.Proofs.YteklldbfdmaafaaDoor
/-
  The document's log read: a record, Replay.
-/
namespace Go.Proofs.YteklldbfdmaafaaDoor
open Go Go.RowKit
def recRV (o : Option (List UInt8 × Int)) (i : Nat) : Value := match o with
  | none => .tuple #[strV [], .int .i64 0, .bool false]
  | some (s, u) => .tuple #[strV s, .int .i64 ((i : Int) + u), .bool true]
/-- a shift to the left, by a number that is known -/
structure ShF (kd : IntKind) (i s y : Int) : Prop where
  h0 : 0 ≤ s
  h : kd.wrap (i * 2 ^ (min s.toNat kd.bits)) = y
theorem Ev_shl_s {P : Program} {W : World} {n : Nat} {E : Env} {H : List SP} {t u : TypeId} {x y : Operand} {kd yk : IntKind} {i j r : Int} (hx : Env.ev E x = some (.int kd i)) (hy : Env.ev E y = some (.int yk j)) (h : ShF kd i j r) : Ev P W n E H (.binOp .shl t x y u) (.int kd r) := Ev_shl_w hx hy h.h0 h.h
theorem openS_le {st : Int} {raw q : List UInt8} (h : openS st raw = some q) : q.length ≤ 234 := by
  unfold openS at h
  split at h
  · cases h
  split at h
  · cases h
  rename_i hl
  split at h
  · cases h
  rename_i h2
  split at h
  · cases h
    rw [openP_length raw (by omega) (by omega)]; omega
  · cases h
theorem payO_le {D : Dsk} {at_ n : Int} {ver i : Nat} {q : List UInt8} (h : payO D at_ n ver i = some q) : q.length ≤ 234 := by
  unfold payO at h
  split at h
  · cases h
  split at h
  · cases h
  exact openS_le h
section
variable {W : World} {E : Nat → Addr} {p g : Nat} {D : Dsk}
set_option maxHeartbeats 4000000 in
set_option maxRecDepth 100000 in
theorem rrecord_ct (hok : D.ok) (hul : D.und.length < 1073741824) (at_ n : Int) (ver i : Nat) (hn : D.n ≤ 65536) (ho : D.off = false) (h : logOk D at_ n (ver : Nat)) (hi : (i : Int) < n) : Ct Tryd.prog W 125 [.pointer (some ⟨p, 0, none⟩), .int .i64 at_, .int .i64 n, .int .i64 (ver : Nat), .int .i64 (i : Nat)] [RefP p D] (fun _ : Unit => recRV (recO D at_ n ver i) i) (fun _ => [RefP p D]) := by
  have co := fun k (hk : ((i + k : Nat) : Int) < n) => ropenJ_ct (W := W) (p := p) hok hul at_ n ver (i + k) hn ho h hk
  have hple : ∀ k q, payO D at_ n ver (i + k) = some q → q.length ≤ 234 := fun k q h => payO_le h
  obtain ⟨h1, h2, h3, h4, h5, h6, h7⟩ := h
  obtain ⟨res, hres⟩ : ∃ res, recRV (recO D at_ n ver i) i = res := ⟨_, rfl⟩
  rw [hres]
  have hno : recO D at_ n ver i = none → res = .tuple #[strV [], .int .i64 0, .bool false] := fun e => by rw [← hres, e]; rfl
  refine Ct.enter Tryd.func125 rfl Tryd.ntmps125 (by simp) (fun R => ?_)
  have c1 := co 0 (by simpa using hi)
  rw [Nat.add_zero] at c1
  cases hq : payO D at_ n ver i with
  | none =>
    rw [hq] at c1
    have c1' : Ct Tryd.prog W 133 [.pointer (some ⟨p, 0, none⟩), .int .i64 at_, .int .i64 (i : Nat), .int .i64 (ver : Nat)] [RefP p D] (fun _ : Unit => .tuple #[strV [], .bool false]) (fun _ => [RefP p D]) := c1
    rw [hno (recO_none hq)]
    repeat' (first 
    | (refine is_call ?_; refine KJ_call xE c1' xP rfl (fun _ => ?_))
    | refine xst ?_
    | (refine xsa ?_; intro _)
    | (refine xsb ?_ ?_ <;> intro _ <;> first | (exfalso; omega) | skip)
    | refine xsc ?_
    | (refine KJ_draws (id := 4) (.op 0 (.op 1 (.op 2 (.op 3 (.op 4 (.op 5 (.op 6 (.op 7 (.op 8 (.op 9 (.op 10 (.op 11 (.op 12 (.op 13 (.op 14 (.op 15 (.op 16 (.op 17 (.op 18 .nil))))))))))))))))))) (by kernel_rfl) (by kernel_rfl) ?_)
    | refine FW_alt ?_ ?_
    | refine KJ_flow ?_ ?_
    | exact Rech.nil
    | fail)
    all_goals (exact xdn ())
  | some q =>
  rw [hq] at c1
  have c1' : Ct Tryd.prog W 133 [.pointer (some ⟨p, 0, none⟩), .int .i64 at_, .int .i64 (i : Nat), .int .i64 (ver : Nat)] [RefP p D] (fun _ : Unit => .tuple #[strV q, .bool true]) (fun _ => [RefP p D]) := c1
  have hql := hple 0 q hq
  by_cases l5 : q.length < 5
  · have q5 : decide ((q.length : Int) < 5) = true := decide_eq_true (by omega)
    rw [hno (recO_short hq l5)]
    repeat' (first 
    | (refine is_call ?_; refine KJ_call xE c1' xP rfl (fun _ => ?_))
    | (refine ek_lss ?_; refine EK_ev (Ev_lssI_q rfl rfl q5) ?_)
    | refine xst ?_
    | (refine xsa ?_; intro _)
    | (refine xsb ?_ ?_ <;> intro _ <;> first | (exfalso; omega) | skip)
    | refine xsc ?_
    | (refine KJ_draws (id := 4) (.op 0 (.op 1 (.op 2 (.op 3 (.op 4 (.op 5 (.op 6 (.op 7 (.op 8 (.op 9 (.op 10 (.op 11 (.op 12 (.op 13 (.op 14 (.op 15 (.op 16 (.op 17 (.op 18 .nil))))))))))))))))))) (by kernel_rfl) (by kernel_rfl) ?_)
    | refine FW_alt ?_ ?_
    | refine KJ_flow ?_ ?_
    | exact Rech.nil
    | fail)
    all_goals (exact xdn ())
  have q5 : decide ((q.length : Int) < 5) = false := decide_eq_false (by omega)
  obtain ⟨c0, hc0⟩ : ∃ c, q[(0 : Int).toNat]? = some c := ⟨_, List.getElem?_eq_getElem (by show 0 < q.length; omega)⟩
  obtain ⟨b1, hb1⟩ : ∃ c, q[(1 : Int).toNat]? = some c := ⟨_, List.getElem?_eq_getElem (by show 1 < q.length; omega)⟩
  obtain ⟨b2, hb2⟩ : ∃ c, q[(2 : Int).toNat]? = some c := ⟨_, List.getElem?_eq_getElem (by show 2 < q.length; omega)⟩
  obtain ⟨b3, hb3⟩ : ∃ c, q[(3 : Int).toNat]? = some c := ⟨_, List.getElem?_eq_getElem (by show 3 < q.length; omega)⟩
  obtain ⟨b4, hb4⟩ : ∃ c, q[(4 : Int).toNat]? = some c := ⟨_, List.getElem?_eq_getElem (by show 4 < q.length; omega)⟩
  have hgd : q.getD 0 0 = c0 := by rw [List.getD]; rw [show q[0]? = some c0 from hc0]; rfl
  by_cases hh : c0 = 1
  rotate_left
  · have h6' : ((c0.toNat : Nat) : Int) ≠ 1 := by
      intro e
      apply hh
      apply UInt8.toNat_inj.1
      show c0.toNat = 1
      omega
    rw [hno (recO_head hq (by rw [hgd]; exact hh))]
    repeat' (first 
    | (refine is_call ?_; refine KJ_call xE c1' xP rfl (fun _ => ?_))
    | (refine ek_index ?_; refine EK_ev (Ev_indexStr rfl rfl (by omega) hc0) ?_)
    | (refine ek_neq ?_; refine EK_ev (Ev_neqI_t rfl rfl h6') ?_)
    | (refine ek_lss ?_; refine EK_ev (Ev_lssI_q rfl rfl q5) ?_)
    | refine xst ?_
    | (refine xsa ?_; intro _)
    | (refine xsb ?_ ?_ <;> intro _ <;> first | (exfalso; omega) | skip)
    | refine xsc ?_
    | (refine KJ_draws (id := 4) (.op 0 (.op 1 (.op 2 (.op 3 (.op 4 (.op 5 (.op 6 (.op 7 (.op 8 (.op 9 (.op 10 (.op 11 (.op 12 (.op 13 (.op 14 (.op 15 (.op 16 (.op 17 (.op 18 .nil))))))))))))))))))) (by kernel_rfl) (by kernel_rfl) ?_)
    | refine FW_alt ?_ ?_
    | refine KJ_flow ?_ ?_
    | exact Rech.nil
    | fail)
    all_goals (exact xdn ())
  have h6' : ((c0.toNat : Nat) : Int) = 1 := by rw [hh]; rfl
  have hZ : sizeN q = b1.toNat + b2.toNat * 256 + b3.toNat * 65536 + b4.toNat * 16777216 := by
    unfold sizeN
    rw [List.getD, List.getD, List.getD, List.getD, show q[1]? = some b1 from hb1, show q[2]? = some b2 from hb2, show q[3]? = some b3 from hb3, show q[4]? = some b4 from hb4]
    rfl
  have u1 := UInt8.toNat_lt b1
  have u2 := UInt8.toNat_lt b2
  have u3 := UInt8.toNat_lt b3
  have u4 := UInt8.toNat_lt b4
  obtain ⟨y2, hy2⟩ : ∃ y, y = b2.toNat * 256 := ⟨_, rfl⟩
  obtain ⟨y3, hy3⟩ : ∃ y, y = b3.toNat * 65536 := ⟨_, rfl⟩
  obtain ⟨y4, hy4⟩ : ∃ y, y = b4.toNat * 16777216 := ⟨_, rfl⟩
  have s2 : ShF .i64 (b2.toNat : Int) 8 ((y2 : Nat) : Int) := by
    refine ⟨by decide, ?_⟩
    rw [show (b2.toNat : Int) * 2 ^ (min (8 : Int).toNat IntKind.i64.bits) = (b2.toNat : Int) * 256 from rfl, i64_wrap _ (by omega)]; omega
  have s3 : ShF .i64 (b3.toNat : Int) 16 ((y3 : Nat) : Int) := by
    refine ⟨by decide, ?_⟩
    rw [show (b3.toNat : Int) * 2 ^ (min (16 : Int).toNat IntKind.i64.bits) = (b3.toNat : Int) * 65536 from rfl, i64_wrap _ (by omega)]; omega
  have s4 : ShF .i64 (b4.toNat : Int) 24 ((y4 : Nat) : Int) := by
    refine ⟨by decide, ?_⟩
    rw [show (b4.toNat : Int) * 2 ^ (min (24 : Int).toNat IntKind.i64.bits) = (b4.toNat : Int) * 16777216 from rfl, i64_wrap _ (by omega)]; omega
  have hg4 := fun (h : n - (i : Int) < costI (sizeN q : Nat)) => recO_cost hq h
  have hgap := fun k (hk : ((k : Nat) : Int) < costI (sizeN q : Nat)) => recO_gap (k := k) hq hk
  have hall := fun (P : List (List UInt8)) => recO_all (D := D) (at_ := at_) (n := n) (ver := ver) (i := i) (P := P) hq
  obtain ⟨Z, hZZ⟩ : ∃ Z, Z = sizeN q := ⟨_, rfl⟩
  rw [← hZZ] at hZ hg4 hgap hall
  obtain ⟨z2, hz2⟩ : ∃ z, z = b1.toNat + y2 := ⟨_, rfl⟩
  obtain ⟨z3, hz3⟩ : ∃ z, z = z2 + y3 := ⟨_, rfl⟩
  have hz4 : Z = z3 + y4 := by omega
  have hZb : Z ≤ 4294967296 := by omega
  have cc := costr_ct (W := W) (Z : Nat) (by omega)
  have hcost : costI (Z : Nat) = if ((Z : Nat) : Int) < 0 then 0 else if ((Z : Nat) : Int) ≤ 229 then 1 else 2 + (((Z : Nat) : Int) - 230) / 233 := rfl
  rw [if_neg (by omega)] at hcost
  obtain ⟨need, hneed⟩ : ∃ m, m = costI (Z : Nat) := ⟨_, rfl⟩
  rw [← hneed] at cc hg4 hgap hall hcost
  have hpl := fun (T : List UInt8) (hT : T.length = Z) => (pcsJ_length T).trans (show costI T.length = need by rw [hneed, hT])
  clear hneed hZ hZZ
  have hn1 : 1 ≤ need := by split at hcost <;> omega
  by_cases h8 : n - (i : Int) < need
  · have q8 : decide (n - (i : Int) < need) = true := decide_eq_true h8
    rw [hno (hg4 h8)]
    repeat' (first 
    | (refine is_call ?_; first | (refine KJ_call xE cc xP rfl (fun _ => ?_)) | (refine KJ_call xE c1' xP rfl (fun _ => ?_)))
    | (refine ek_conv ?_; refine EK_ev (Ev_convI64 rfl (by omega)) ?_)
    | (refine ek_index ?_; first | refine EK_ev (Ev_indexStr rfl rfl (by omega) hb4) ?_ | refine EK_ev (Ev_indexStr rfl rfl (by omega) hb3) ?_ | refine EK_ev (Ev_indexStr rfl rfl (by omega) hb2) ?_ | refine EK_ev (Ev_indexStr rfl rfl (by omega) hb1) ?_ | refine EK_ev (Ev_indexStr rfl rfl (by omega) hc0) ?_)
    | (refine ek_add ?_; first | refine EK_ev (Ev_addI_v (r := ((Z : Nat) : Int)) rfl rfl (by omega) (by omega)) ?_ | refine EK_ev (Ev_addI_v (r := ((z3 : Nat) : Int)) rfl rfl (by omega) (by omega)) ?_ | refine EK_ev (Ev_addI_v (r := ((z2 : Nat) : Int)) rfl rfl (by omega) (by omega)) ?_)
    | (refine ek_shl ?_; first | refine EK_ev (Ev_shl_s rfl rfl s4) ?_ | refine EK_ev (Ev_shl_s rfl rfl s3) ?_ | refine EK_ev (Ev_shl_s rfl rfl s2) ?_)
    | (refine ek_neq ?_; refine EK_ev (Ev_neqI_f rfl rfl h6') ?_)
    | (refine ek_lss ?_; refine EK_ev (Ev_lssI_q rfl rfl q5) ?_)
    | (refine ek_gtr ?_; refine EK_ev (Ev_gtrI_q rfl rfl q8) ?_)
    | refine xst ?_
    | (refine xsa ?_; intro _)
    | (refine xsb ?_ ?_ <;> intro _ <;> first | (exfalso; omega) | skip)
    | refine xsc ?_
    | (refine KJ_draws (id := 4) (.op 0 (.op 1 (.op 2 (.op 3 (.op 4 (.op 5 (.op 6 (.op 7 (.op 8 (.op 9 (.op 10 (.op 11 (.op 12 (.op 13 (.op 14 (.op 15 (.op 16 (.op 17 (.op 18 .nil))))))))))))))))))) (by kernel_rfl) (by kernel_rfl) ?_)
    | refine FW_alt ?_ ?_
    | refine KJ_flow ?_ ?_
    | exact Rech.nil
    | fail)
    all_goals (exact xdn ())
  have q8 : decide (n - (i : Int) < need) = false := decide_eq_false h8
  obtain ⟨q5', hq5⟩ : ∃ x, q.drop (5 : Int).toNat = x := ⟨_, rfl⟩
  have hq5l : q5'.length = q.length - 5 := by rw [← hq5]; exact List.length_drop
  have htx1 : txt [q] = q5' := by rw [← hq5]; simp [txt]
  have hZ2 : Z ≤ 15300000 := by split at hcost <;> omega
  repeat' (first 
    | (refine is_call ?_; first | (refine KJ_call xE cc xP rfl (fun _ => ?_)) | (refine KJ_call xE c1' xP rfl (fun _ => ?_)))
    | (refine is_econv ?_; refine KJ_bufOf rfl rfl (fun g3 c3 => ?_))
    | (refine ek_conv ?_; refine EK_ev (Ev_convI64 rfl (by omega)) ?_)
    | (refine ek_index ?_; first | refine EK_ev (Ev_indexStr rfl rfl (by omega) hb4) ?_ | refine EK_ev (Ev_indexStr rfl rfl (by omega) hb3) ?_ | refine EK_ev (Ev_indexStr rfl rfl (by omega) hb2) ?_ | refine EK_ev (Ev_indexStr rfl rfl (by omega) hb1) ?_ | refine EK_ev (Ev_indexStr rfl rfl (by omega) hc0) ?_)
    | (refine ek_slice ?_; refine EK_ev (Ev_sliceStrFrom_v rfl rfl (by omega) hq5) ?_)
    | (refine ek_add ?_; first | refine EK_ev (Ev_addI_v (r := ((Z : Nat) : Int)) rfl rfl (by omega) (by omega)) ?_ | refine EK_ev (Ev_addI_v (r := ((z3 : Nat) : Int)) rfl rfl (by omega) (by omega)) ?_ | refine EK_ev (Ev_addI_v (r := ((z2 : Nat) : Int)) rfl rfl (by omega) (by omega)) ?_)
    | (refine ek_shl ?_; first | refine EK_ev (Ev_shl_s rfl rfl s4) ?_ | refine EK_ev (Ev_shl_s rfl rfl s3) ?_ | refine EK_ev (Ev_shl_s rfl rfl s2) ?_)
    | (refine ek_neq ?_; refine EK_ev (Ev_neqI_f rfl rfl h6') ?_)
    | (refine ek_lss ?_; refine EK_ev (Ev_lssI_q rfl rfl q5) ?_)
    | (refine ek_gtr ?_; refine EK_ev (Ev_gtrI_q rfl rfl q8) ?_)
    | refine xst ?_
    | (refine xsa ?_; intro _)
    | (refine xsb ?_ ?_ <;> intro _ <;> first | (exfalso; omega) | skip)
    | refine xsc ?_
    | (refine KJ_draws (id := 4) (.op 0 (.op 1 (.op 2 (.op 3 (.op 4 (.op 5 (.op 6 (.op 7 (.op 8 (.op 9 (.op 10 (.op 11 (.op 12 (.op 13 (.op 14 (.op 15 (.op 16 (.op 17 (.op 18 .nil))))))))))))))))))) (by kernel_rfl) (by kernel_rfl) ?_)
    | refine FW_alt ?_ ?_
    | refine KJ_flow ?_ ?_
    | exact Rech.nil
    | fail)
  clear s2 s3 s4 hb1 hb2 hb3 hb4 hc0 h6' hg4 cc c1 c1' hz2 hz3 hz4 hy2 hy3 hy4 u1 u2 u3 u4 hgd q5 l5
  refine KJ_loop (fun k : {s : List (List UInt8) × List UInt8 × Nat × Nat // (∀ j p, s.1[j]? = some p → payO D at_ n ver (i + j) = some p) ∧ txt s.1 = s.2.1 ∧ 1 ≤ s.1.length ∧ (s.1.length : Int) ≤ need ∧ s.2.1.length ≤ 240 * s.1.length} => [(0, .pointer (some ⟨p, 0, none⟩)), (1, .int .i64 at_), (2, .int .i64 n), (3, .int .i64 (ver : Nat)), (4, .int .i64 (i : Nat)), (15, .int .i64 (Z : Nat)), (16, .int .i64 need), (17, .slice (some ⟨k.1.2.2.1, 0, none⟩) k.1.2.1.length k.1.2.2.2), (18, .int .i64 (k.1.1.length : Nat))])
    (fun k => [RefP p D, bufP k.1.2.2.1 k.1.2.1.length k.1.2.2.2 k.1.2.1 5] ++ R) (fun k => need.toNat - k.1.1.length) ⟨([q], q5', g3, c3), fun j p hj => by
      cases j with
      | zero => cases hj; exact hq
      | succ j => simp at hj, htx1, Nat.le_refl _, by dsimp only [List.length]; omega, by dsimp only [List.length]; omega⟩ xB (xN) (fun ⟨(P, T, g4, c4), hP, hT, hP1, hPn, hTl⟩ => ?_)
  dsimp only at hP hT hP1 hPn hTl ⊢
  have hPne : P ≠ [] := by intro e; rw [e] at hP1; simp at hP1
  by_cases hlt : (P.length : Int) < need
  · have ql : decide ((P.length : Int) < need) = true := decide_eq_true hlt
    have c6 := co P.length (by omega)
    have hgp := hgap P.length hlt
    have hp6 := hple P.length
    have hnx := fun q2 (h : payO D at_ n ver (i + P.length) = some q2) => fun j p (hj : (P ++ [q2])[j]? = some p) => show payO D at_ n ver (i + j) = some p from (by
      rw [List.getElem?_append] at hj
      split at hj
      · exact hP j p hj
      · rename_i hge
        have hl := (List.getElem?_eq_some_iff.1 hj).1
        have : j = P.length := by simp at hl; omega
        subst this
        simp at hj
        rw [← hj]; exact h)
    obtain ⟨o2, ho2⟩ : ∃ o, payO D at_ n ver (i + P.length) = o := ⟨_, rfl⟩
    rw [ho2] at c6
    cases o2 with
    | none =>
      rw [hno (hgp (fun p hp => by rw [ho2] at hp; cases hp))]
      have c6' : Ct Tryd.prog W 133 [.pointer (some ⟨p, 0, none⟩), .int .i64 at_, .int .i64 ((i + P.length : Nat) : Int), .int .i64 (ver : Nat)] [RefP p D] (fun _ : Unit => .tuple #[strV [], .bool false]) (fun _ => [RefP p D]) := c6
      repeat' (first 
    | (refine is_call ?_; refine KJ_call xE c6' xP rfl (fun _ => ?_))
    | (refine ek_add ?_; refine EK_ev (Ev_addI_v (r := ((i + P.length : Nat) : Int)) rfl rfl (by omega) (by omega)) ?_)
    | (refine ek_lss ?_; refine EK_ev (Ev_lssI_q rfl rfl ql) ?_)
    | refine xst ?_
    | (refine xsa ?_; intro _)
    | (refine xsb ?_ ?_ <;> intro _ <;> first | (exfalso; omega) | skip)
    | refine xsc ?_
    | (refine KJ_draws (id := 4) (.op 0 (.op 1 (.op 2 (.op 3 (.op 4 (.op 5 (.op 6 (.op 7 (.op 8 (.op 9 (.op 10 (.op 11 (.op 12 (.op 13 (.op 14 (.op 15 (.op 16 (.op 17 (.op 18 .nil))))))))))))))))))) (by kernel_rfl) (by kernel_rfl) ?_)
    | refine FW_alt ?_ ?_
    | refine KJ_flow ?_ ?_
    | exact Rech.nil
    | fail)
      all_goals (exact xdn ())
    | some q2 =>
      have c6' : Ct Tryd.prog W 133 [.pointer (some ⟨p, 0, none⟩), .int .i64 at_, .int .i64 ((i + P.length : Nat) : Int), .int .i64 (ver : Nat)] [RefP p D] (fun _ : Unit => .tuple #[strV q2, .bool true]) (fun _ => [RefP p D]) := c6
      by_cases h9 : q2.length < 1
      · have q9 : decide ((q2.length : Int) < 1) = true := decide_eq_true (by omega)
        rw [hno (hgp (fun p hp => by rw [ho2] at hp; cases hp; exact h9))]
        repeat' (first 
    | (refine is_call ?_; refine KJ_call xE c6' xP rfl (fun _ => ?_))
    | (refine ek_add ?_; refine EK_ev (Ev_addI_v (r := ((i + P.length : Nat) : Int)) rfl rfl (by omega) (by omega)) ?_)
    | (refine ek_lss ?_; first | refine EK_ev (Ev_lssI_q rfl rfl q9) ?_ | refine EK_ev (Ev_lssI_q rfl rfl ql) ?_)
    | refine xst ?_
    | (refine xsa ?_; intro _)
    | (refine xsb ?_ ?_ <;> intro _ <;> first | (exfalso; omega) | skip)
    | refine xsc ?_
    | (refine KJ_draws (id := 4) (.op 0 (.op 1 (.op 2 (.op 3 (.op 4 (.op 5 (.op 6 (.op 7 (.op 8 (.op 9 (.op 10 (.op 11 (.op 12 (.op 13 (.op 14 (.op 15 (.op 16 (.op 17 (.op 18 .nil))))))))))))))))))) (by kernel_rfl) (by kernel_rfl) ?_)
    | refine FW_alt ?_ ?_
    | refine KJ_flow ?_ ?_
    | exact Rech.nil
    | fail)
        all_goals (exact xdn ())
      have q9 : decide ((q2.length : Int) < 1) = false := decide_eq_false (by omega)
      have hq2l := hp6 q2 ho2
      have hnx2 := hnx q2 ho2
      obtain ⟨q3, hq3⟩ : ∃ x, q2.drop (1 : Int).toNat = x := ⟨_, rfl⟩
      have hq3l : q3.length = q2.length - 1 := by rw [← hq3]; exact List.length_drop
      have hT2 : txt (P ++ [q2]) = T ++ q3 := by rw [txt_snoc P hPne, hT, ← hq3]; rfl
      repeat' (first 
    | (refine is_call ?_; refine KJ_call xE c6' xP rfl (fun _ => ?_))
    | (refine is_append ?_; refine KJ_appendBuf rfl rfl xS (by omega) rfl (fun g5 c5 => ?_))
    | (refine ek_slice ?_; refine EK_ev (Ev_sliceStrFrom_v rfl rfl (by omega) hq3) ?_)
    | (refine ek_add ?_; first | refine EK_ev (Ev_addI_v (r := ((P.length + 1 : Nat) : Int)) rfl rfl (by omega) (by omega)) ?_ | refine EK_ev (Ev_addI_v (r := ((i + P.length : Nat) : Int)) rfl rfl (by omega) (by omega)) ?_)
    | (refine ek_lss ?_; first | refine EK_ev (Ev_lssI_q rfl rfl q9) ?_ | refine EK_ev (Ev_lssI_q rfl rfl ql) ?_)
    | refine xst ?_
    | (refine xsa ?_; intro _)
    | (refine xsb ?_ ?_ <;> intro _ <;> first | (exfalso; omega) | skip)
    | refine xsc ?_
    | (refine KJ_draws (id := 4) (.op 0 (.op 1 (.op 2 (.op 3 (.op 4 (.op 5 (.op 6 (.op 7 (.op 8 (.op 9 (.op 10 (.op 11 (.op 12 (.op 13 (.op 14 (.op 15 (.op 16 (.op 17 (.op 18 .nil))))))))))))))))))) (by kernel_rfl) (by kernel_rfl) ?_)
    | refine FW_alt ?_ ?_
    | refine KJ_flow ?_ ?_
    | exact Rech.nil
    | fail)
      refine KJ_again ⟨(P ++ [q2], T ++ q3, g5, c5), hnx2, hT2, by dsimp only; rw [List.length_append]; omega, by dsimp only; rw [List.length_append]; show ((P.length + 1 : Nat) : Int) ≤ need; omega, by dsimp only; rw [List.length_append, List.length_append]; show _ ≤ 240 * (P.length + 1); omega⟩ (by show need.toNat - (P ++ [q2]).length < need.toNat - P.length; rw [List.length_append]; show need.toNat - (P.length + 1) < _; omega) ?_ ?_
      · dsimp only
        rw [List.length_append, List.length_append]
        exact xB
      · dsimp only
        rw [List.length_append]
        exact (xN)
  have ql : decide ((P.length : Int) < need) = false := decide_eq_false hlt
  have hPe : (P.length : Int) = need := by omega
  have hal := fun s u => @hall P hP hPe s u
  by_cases h10 : (T.length : Int) = (Z : Nat)
  rotate_left
  · rw [hno (recO_not fun s u hr => by
      obtain ⟨-, e2, e3⟩ := hal s u hr
      rw [hT] at e2
      rw [e2, e3] at h10
      exact h10 rfl)]
    repeat' (first 
    | (refine ek_neq ?_; refine EK_ev (Ev_neqI_t rfl rfl h10) ?_)
    | (refine ek_lss ?_; refine EK_ev (Ev_lssI_q rfl rfl ql) ?_)
    | refine xst ?_
    | (refine xsa ?_; intro _)
    | (refine xsb ?_ ?_ <;> intro _ <;> first | (exfalso; omega) | skip)
    | refine xsc ?_
    | (refine KJ_draws (id := 4) (.op 0 (.op 1 (.op 2 (.op 3 (.op 4 (.op 5 (.op 6 (.op 7 (.op 8 (.op 9 (.op 10 (.op 11 (.op 12 (.op 13 (.op 14 (.op 15 (.op 16 (.op 17 (.op 18 .nil))))))))))))))))))) (by kernel_rfl) (by kernel_rfl) ?_)
    | refine FW_alt ?_ ?_
    | refine KJ_flow ?_ ?_
    | exact Rech.nil
    | fail)
    all_goals (exact xdn ())
  have hTZ : T.length = Z := by omega
  have cp := rpieces_ct (W := W) T (by omega)
  have hpn := hpl T hTZ
  have hyes := fun (hp : ∀ j p, (pcsJ T)[j]? = some p → payO D at_ n ver (i + j) = some p) => recO_yes (D := D) (at_ := at_) (n := n) (ver := ver) (i := i) (s := T) (by omega) hp (by omega)
  have hbad := fun (hne : P ≠ pcsJ T) => hno (recO_not fun s u hr => by
      obtain ⟨e1, e2, -⟩ := hal s u hr
      rw [hT] at e2
      rw [e2] at hne
      exact hne e1)
  obtain ⟨Q, hQ⟩ : ∃ Q, Q = pcsJ T := ⟨_, rfl⟩
  rw [← hQ] at cp hpn hyes hbad
  clear hal hall hgap hQ
  repeat' (first 
    | (refine is_call ?_; refine KJ_call xE cp xP rfl (fun x => ?_))
    | (refine ek_conv ?_; refine EK_ev (Ev_bytesBuf rfl xS) ?_)
    | (refine ek_neq ?_; refine EK_ev (Ev_neqI_f rfl rfl h10) ?_)
    | (refine ek_lss ?_; refine EK_ev (Ev_lssI_q rfl rfl ql) ?_)
    | refine xst ?_
    | (refine xsa ?_; intro _)
    | (refine xsb ?_ ?_ <;> intro _ <;> first | (exfalso; omega) | skip)
    | refine xsc ?_
    | (refine KJ_draws (id := 4) (.op 0 (.op 1 (.op 2 (.op 3 (.op 4 (.op 5 (.op 6 (.op 7 (.op 8 (.op 9 (.op 10 (.op 11 (.op 12 (.op 13 (.op 14 (.op 15 (.op 16 (.op 17 (.op 18 .nil))))))))))))))))))) (by kernel_rfl) (by kernel_rfl) ?_)
    | refine FW_alt ?_ ?_
    | refine KJ_flow ?_ ?_
    | exact Rech.nil
    | fail)
  rename_i x
  obtain ⟨gw, cw⟩ := x
  dsimp only
  refine KJ_loop (fun k : {k : Nat // (k : Int) ≤ need ∧ ∀ j, j < k → P[j]? = Q[j]?} => [(0, .pointer (some ⟨p, 0, none⟩)), (1, .int .i64 at_), (2, .int .i64 n), (3, .int .i64 (ver : Nat)), (4, .int .i64 (i : Nat)), (16, .int .i64 need), (17, .slice (some ⟨g4, 0, none⟩) T.length c4), (21, .slice (some ⟨gw, 0, none⟩) Q.length cw), (22, .int .i64 (k.1 : Nat))])
    (fun _ => [RefP p D, bufP g4 T.length c4 T 5, rowP (.slice (some ⟨gw, 0, none⟩) Q.length cw) 9 1 Q.length (Q.map strV)] ++ R) (fun k => need.toNat - k.1) ⟨0, by omega, fun j hj => by omega⟩ xB (xN) (fun ⟨k, hk, hkq⟩ => ?_)
  dsimp only at hk hkq ⊢
  by_cases hlt2 : (k : Int) < need
  rotate_left
  · have ql2 : decide ((k : Int) < need) = false := decide_eq_false hlt2
    have hPQ : P = Q := by
      apply List.ext_getElem?
      intro j
      by_cases hj : j < k
      · exact hkq j hj
      · rw [List.getElem?_eq_none (by omega), List.getElem?_eq_none (by omega)]
    have hr := hyes (fun j p hj => hP j p (by rw [hPQ]; exact hj))
    rw [hpn] at hr
    have hres2 : res = .tuple #[strV T, .int .i64 ((i : Int) + need), .bool true] := by rw [← hres, hr]; rfl
    rw [hres2]
    repeat' (first 
    | (refine ek_conv ?_; refine EK_ev (Ev_bytesBuf rfl xS) ?_)
    | (refine ek_add ?_; refine EK_ev (Ev_addI_v (r := (i : Int) + need) rfl rfl rfl (by omega)) ?_)
    | (refine ek_lss ?_; refine EK_ev (Ev_lssI_q rfl rfl ql2) ?_)
    | refine xst ?_
    | (refine xsa ?_; intro _)
    | (refine xsb ?_ ?_ <;> intro _ <;> first | (exfalso; omega) | skip)
    | refine xsc ?_
    | (refine KJ_draws (id := 4) (.op 0 (.op 1 (.op 2 (.op 3 (.op 4 (.op 5 (.op 6 (.op 7 (.op 8 (.op 9 (.op 10 (.op 11 (.op 12 (.op 13 (.op 14 (.op 15 (.op 16 (.op 17 (.op 18 .nil))))))))))))))))))) (by kernel_rfl) (by kernel_rfl) ?_)
    | refine FW_alt ?_ ?_
    | refine KJ_flow ?_ ?_
    | exact Rech.nil
    | fail)
    all_goals (exact xdn ())
  have ql2 : decide ((k : Int) < need) = true := decide_eq_true hlt2
  have hkP : k < P.length := by omega
  obtain ⟨pk, hpk⟩ : ∃ q, P[k]? = some q := ⟨_, List.getElem?_eq_getElem hkP⟩
  obtain ⟨qk, hqk⟩ : ∃ q, Q[k]? = some q := ⟨_, List.getElem?_eq_getElem (by omega)⟩
  have c7 := co k (by omega)
  rw [hP k pk hpk] at c7
  have c7' : Ct Tryd.prog W 133 [.pointer (some ⟨p, 0, none⟩), .int .i64 at_, .int .i64 ((i + k : Nat) : Int), .int .i64 (ver : Nat)] [RefP p D] (fun _ : Unit => .tuple #[strV pk, .bool true]) (fun _ => [RefP p D]) := c7
  have hget : (Q.map strV)[0 + ((k : Nat) : Int).toNat * 1]? = some (strV qk) := by rw [Int.toNat_natCast, Nat.mul_one, Nat.zero_add, List.getElem?_map, hqk]; rfl
  by_cases he : pk = qk
  · subst he
    repeat' (first 
    | (refine is_call ?_; refine KJ_call xE c7' xP rfl (fun _ => ?_))
    | (refine ek_load ?_; refine EK_ev (Ev_loadRow rfl xS hget) ?_)
    | (refine ek_add ?_; first | refine EK_ev (Ev_addI_v (r := ((k + 1 : Nat) : Int)) rfl rfl (by omega) (by omega)) ?_ | refine EK_ev (Ev_addI_v (r := ((i + k : Nat) : Int)) rfl rfl (by omega) (by omega)) ?_)
    | (refine ek_neq ?_; refine EK_ev (Ev_neqS_f rfl rfl rfl) ?_)
    | (refine ek_lss ?_; refine EK_ev (Ev_lssI_q rfl rfl ql2) ?_)
    | refine xst ?_
    | (refine xsa ?_; intro _)
    | (refine xsb ?_ ?_ <;> intro _ <;> first | (exfalso; omega) | skip)
    | refine xsc ?_
    | (refine KJ_draws (id := 4) (.op 0 (.op 1 (.op 2 (.op 3 (.op 4 (.op 5 (.op 6 (.op 7 (.op 8 (.op 9 (.op 10 (.op 11 (.op 12 (.op 13 (.op 14 (.op 15 (.op 16 (.op 17 (.op 18 .nil))))))))))))))))))) (by kernel_rfl) (by kernel_rfl) ?_)
    | refine FW_alt ?_ ?_
    | refine KJ_flow ?_ ?_
    | exact Rech.nil
    | fail)
    all_goals exact KJ_again ⟨k + 1, by omega, fun j hj => by
      by_cases h : j < k
      · exact hkq j h
      · obtain rfl : j = k := by omega
        rw [hpk, hqk]⟩ (by show need.toNat - (k + 1) < need.toNat - k; omega) xB (xN)
  · rw [hbad (fun e => by rw [e, hqk] at hpk; cases hpk; exact he rfl)]
    repeat' (first 
    | (refine is_call ?_; refine KJ_call xE c7' xP rfl (fun _ => ?_))
    | (refine ek_load ?_; refine EK_ev (Ev_loadRow rfl xS hget) ?_)
    | (refine ek_add ?_; refine EK_ev (Ev_addI_v (r := ((i + k : Nat) : Int)) rfl rfl (by omega) (by omega)) ?_)
    | (refine ek_neq ?_; refine EK_ev (Ev_neqS_t rfl rfl he) ?_)
    | (refine ek_lss ?_; refine EK_ev (Ev_lssI_q rfl rfl ql2) ?_)
    | refine xst ?_
    | (refine xsa ?_; intro _)
    | (refine xsb ?_ ?_ <;> intro _ <;> first | (exfalso; omega) | skip)
    | refine xsc ?_
    | (refine KJ_draws (id := 4) (.op 0 (.op 1 (.op 2 (.op 3 (.op 4 (.op 5 (.op 6 (.op 7 (.op 8 (.op 9 (.op 10 (.op 11 (.op 12 (.op 13 (.op 14 (.op 15 (.op 16 (.op 17 (.op 18 .nil))))))))))))))))))) (by kernel_rfl) (by kernel_rfl) ?_)
    | refine FW_alt ?_ ?_
    | refine KJ_flow ?_ ?_
    | exact Rech.nil
    | fail)
    all_goals (exact xdn ())
set_option maxHeartbeats 1000000 in
set_option maxRecDepth 100000 in
theorem rreplay_ct (hok : D.ok) (hul : D.und.length < 1073741824) (at_ n : Int) (ver : Nat) (hn : D.n ≤ 65536) (ho : D.off = false) (h : logOk D at_ n (ver : Nat)) : Ct Tryd.prog W 104 [.pointer (some ⟨p, 0, none⟩), .int .i64 at_, .int .i64 n, .int .i64 (ver : Nat)] [RefP p D]
    (fun v : Value => .tuple #[v, .int .i64 0]) (fun v => [RefP p D, rowP v 9 1 (rpGo D at_ n ver (n.toNat + 1) 0 []).length ((rpGo D at_ n ver (n.toNat + 1) 0 []).map strV)]) := by
  have cm := may_yes (W := W) (p := p) at_ n (ver : Nat) hn h
  have cr := fun i (hi : ((i : Nat) : Int) < n) => rrecord_ct (W := W) (p := p) hok hul at_ n ver i hn ho h hi
  obtain ⟨h1, h2, h3, h4, h5, h6, h7⟩ := h
  obtain ⟨res, hres⟩ : ∃ res, res = rpGo D at_ n ver (n.toNat + 1) 0 [] := ⟨_, rfl⟩
  rw [← hres]
  refine Ct.enter Tryd.func104 rfl Tryd.ntmps104 (by simp) (fun R => ?_)
  apply KJ_rest (fun K => KJ W 47 K [(0, .pointer (some ⟨p, 0, none⟩)), (1, .int .i64 at_), (2, .int .i64 n), (3, .int .i64 (ver : Nat))] ([RefP p D] ++ R))
  · intro rest
    repeat' (first 
    | (refine at_seq_region (id := 3) ?_; exact KJ.weak rest xB (xN))
    | (refine is_call ?_; refine KJ_call xE cm xP rfl (fun _ => ?_))
    | refine xst ?_
    | (refine xsa ?_; intro _)
    | (refine xsb ?_ ?_ <;> intro _ <;> first | (exfalso; omega) | skip)
    | refine xsc ?_
    | fail)
  apply KJ_rest (fun K => KJ W 47 K [(0, .pointer (some ⟨p, 0, none⟩)), (1, .int .i64 at_), (2, .int .i64 n), (3, .int .i64 (ver : Nat))] ([RefP p D] ++ R))
  · intro rest
    refine KJ.unpack_at (F := RefF p D) xS (fun x => ?_)
    obtain ⟨sv, wv⟩ := x
    rw [RefF_eq, ho]
    repeat' (first 
    | (refine at_seq_region (id := 5) ?_; exact KJ.weak rest xB (fun g q => pack_star (F := RefF p D) (sv, wv) g (by rw [RefF_eq, ho]; exact q)))
    | refine xst ?_
    | (refine xsa ?_; intro _)
    | (refine xsb ?_ ?_ <;> intro _ <;> first | (exfalso; omega) | skip)
    | refine xsc ?_
    | fail)
  refine KJ_stp (by first | constructor | fail) ?_
  repeat' (first 
    | (refine at_seq_block (id := 0) ?_; fail)
    | refine xst ?_
    | (refine xsa ?_; intro _)
    | (refine xsb ?_ ?_ <;> intro _ <;> first | (exfalso; omega) | skip)
    | refine xsc ?_
    | fail)
  all_goals skip
  refine KJ.row0 (e := 9) (sz := 1) ?_
  refine KJ_loop (fun k : {s : Nat × Nat × List (List UInt8) × Value // rpGo D at_ n ver s.1 s.2.1 s.2.2.1 = res ∧ (s.2.1 : Int) ≤ n ∧ n + 1 ≤ (s.1 : Int) + s.2.1 ∧ s.2.2.1.length ≤ s.2.1} => [(0, .pointer (some ⟨p, 0, none⟩)), (1, .int .i64 at_), (2, .int .i64 n), (3, .int .i64 (ver : Nat)), (10, k.1.2.2.2), (11, .int .i64 (k.1.2.1 : Nat))])
    (fun k => [RefP p D, rowP k.1.2.2.2 9 1 k.1.2.2.1.length (k.1.2.2.1.map strV)] ++ R) (fun k => k.1.1) ⟨(n.toNat + 1, 0, [], .slice none 0 0), hres.symm, by dsimp only; omega, by dsimp only; omega, Nat.le_refl _⟩ xB (xN) (fun ⟨(f, i, acc, v), hr, hin, hfi, hal⟩ => ?_)
  dsimp only at hr hin hfi hal ⊢
  obtain ⟨f', rfl⟩ : ∃ f', f = f' + 1 := ⟨f - 1, by omega⟩
  have hunf : rpGo D at_ n ver (f' + 1) i acc = match recO D at_ n ver i with
    | none => acc
    | some (s, u) => rpGo D at_ n ver f' (i + u.toNat) (acc ++ [s]) := rfl
  rw [hunf] at hr
  clear hunf
  by_cases hlt : (i : Int) < n
  rotate_left
  · have ql : decide ((i : Int) < n) = false := decide_eq_false hlt
    rw [recO_none (by unfold payO; rw [if_pos (by omega)])] at hr
    have hr2 : acc = res := hr
    subst hr2
    repeat' (first 
    | (refine ek_lss ?_; refine EK_ev (Ev_lssI_q rfl rfl ql) ?_)
    | refine xst ?_
    | (refine xsa ?_; intro _)
    | (refine xsb ?_ ?_ <;> intro _ <;> first | (exfalso; omega) | skip)
    | refine xsc ?_
    | fail)
    all_goals (exact xdn v)
  have ql : decide ((i : Int) < n) = true := decide_eq_true hlt
  have c2 := cr i hlt
  have hrs := fun s u => recO_some (D := D) (at_ := at_) (n := n) (ver := ver) (i := i) (s := s) (u := u)
  obtain ⟨o, ho⟩ : ∃ o, o = recO D at_ n ver i := ⟨_, rfl⟩
  rw [← ho] at c2 hr
  simp only [← ho] at hrs
  clear ho
  cases o with
  | none =>
    have hr2 : acc = res := hr
    subst hr2
    have c2' : Ct Tryd.prog W 125 [.pointer (some ⟨p, 0, none⟩), .int .i64 at_, .int .i64 n, .int .i64 (ver : Nat), .int .i64 (i : Nat)] [RefP p D] (fun _ : Unit => .tuple #[strV [], .int .i64 0, .bool false]) (fun _ => [RefP p D]) := c2
    repeat' (first 
    | (refine is_call ?_; refine KJ_call xE c2' xP rfl (fun _ => ?_))
    | (refine ek_lss ?_; refine EK_ev (Ev_lssI_q rfl rfl ql) ?_)
    | refine xst ?_
    | (refine xsa ?_; intro _)
    | (refine xsb ?_ ?_ <;> intro _ <;> first | (exfalso; omega) | skip)
    | refine xsc ?_
    | fail)
    all_goals (exact xdn v)
  | some su =>
    obtain ⟨s, u⟩ := su
    dsimp only at hr
    obtain ⟨hu1, hu2⟩ := hrs s u rfl
    obtain ⟨un, rfl⟩ : ∃ un : Nat, u = (un : Int) := ⟨u.toNat, by omega⟩
    rw [Int.toNat_natCast] at hr
    have c2' : Ct Tryd.prog W 125 [.pointer (some ⟨p, 0, none⟩), .int .i64 at_, .int .i64 n, .int .i64 (ver : Nat), .int .i64 (i : Nat)] [RefP p D] (fun _ : Unit => .tuple #[strV s, .int .i64 ((i + un : Nat) : Int), .bool true]) (fun _ => [RefP p D]) := c2
    repeat' (first 
    | (refine is_call ?_; refine KJ_call xE c2' xP rfl (fun _ => ?_))
    | (refine is_append ?_; refine KJ_append (a2 := 0) rfl rfl (by rfl) (by omega) xS (Src.cells (i := 1) xS xC) (by rfl) (by omega) xO (by omega) (by omega) rfl rfl (fun g5 c5 => ?_))
    | (refine is_bslice ?_; refine KJ_bslice1 rfl xF (by rfl) (by omega) rfl (fun g3 => ?_))
    | (refine ek_lss ?_; refine EK_ev (Ev_lssI_q rfl rfl ql) ?_)
    | refine xst ?_
    | (refine xsa ?_; intro _)
    | (refine xsb ?_ ?_ <;> intro _ <;> first | (exfalso; omega) | skip)
    | refine xsc ?_
    | fail)
    refine KJ_again ⟨(f', i + un, acc ++ [s], .slice (some ⟨g5, 0, none⟩) (acc.length + 1) c5), hr, by dsimp only; omega, by dsimp only; omega, by dsimp only; rw [List.length_append]; show acc.length + 1 ≤ _; omega⟩ (by show f' < f' + 1; omega) xB ?_
    have em : acc.map strV ++ [strV s] = (acc ++ [s]).map strV := by simp
    dsimp only
    rw [← em, List.length_append]
    exact (xN)
theorem rreplay_range (at_ n ver : Int) (hn : D.n ≤ 65536) (h : ¬ logOk D at_ n ver) : Ct Tryd.prog W 104 [.pointer (some ⟨p, 0, none⟩), .int .i64 at_, .int .i64 n, .int .i64 ver] [RefP p D] (fun _ : Unit => .tuple #[.slice none 0 0, .int .i64 6]) (fun _ => [RefP p D]) := by
  have cm := may_no (W := W) (p := p) at_ n ver hn h
  refine Ct.enter Tryd.func104 rfl Tryd.ntmps104 (by simp) (fun R => ?_)
  repeat' (first 
    | (refine is_call ?_; refine KJ_call xE cm xP rfl (fun _ => ?_))
    | refine xst ?_
    | (refine xsa ?_; intro _)
    | (refine xsb ?_ ?_ <;> intro _ <;> first | (exfalso; omega) | skip)
    | refine xsc ?_
    | fail)
  all_goals (exact xdn ())
theorem rreplay_down (at_ n ver : Int) (hn : D.n ≤ 65536) (ho : D.off = true) (h : logOk D at_ n ver) : Ct Tryd.prog W 104 [.pointer (some ⟨p, 0, none⟩), .int .i64 at_, .int .i64 n, .int .i64 ver] [RefP p D] (fun _ : Unit => .tuple #[.slice none 0 0, .int .i64 12]) (fun _ => [RefP p D]) := by
  have cm := may_yes (W := W) (p := p) at_ n ver hn h
  refine Ct.enter Tryd.func104 rfl Tryd.ntmps104 (by simp) (fun R => ?_)
  apply KJ_rest (fun K => KJ W 47 K [(0, .pointer (some ⟨p, 0, none⟩))] ([RefP p D] ++ R))
  · intro rest
    repeat' (first 
    | (refine at_seq_region (id := 3) ?_; exact KJ.weak rest xB (xN))
    | (refine is_call ?_; refine KJ_call xE cm xP rfl (fun _ => ?_))
    | refine xst ?_
    | (refine xsa ?_; intro _)
    | (refine xsb ?_ ?_ <;> intro _ <;> first | (exfalso; omega) | skip)
    | refine xsc ?_
    | fail)
  refine KJ.unpack_at (F := RefF p D) xS (fun x => ?_)
  obtain ⟨sv, wv⟩ := x
  rw [RefF_eq, ho]
  repeat' (first 
    | refine xst ?_
    | (refine xsa ?_; intro _)
    | (refine xsb ?_ ?_ <;> intro _ <;> first | (exfalso; omega) | skip)
    | refine xsc ?_
    | fail)
  (refine is_ex ?_; exact KJ_doneR (by first | exact Or.inl rfl | exact Or.inr rfl) rfl (by (repeat' (first | exact Rvs.nil | (apply Rvs.tmp; exact rfl))); first | done | fail) (by rfl) sv wv (by rw [RefF_eq, ho]; exact (xN)))
end
end Go.Proofs.YteklldbfdmaafaaDoor
/-
  The law's each and replayed; JournalReads.
-/
namespace Go.Proofs.YteklldbfdmaafaaDoor
open Go Go.RowKit
section
variable {P : Program} {W : World} {n : Nat} {k : KK} {E : Env} {H R : List SP}
theorem KJ.pack {α : Type} {tag key : Nat} {F : α → List SP} (a : α) (p : Pick (F a) H R) (h : KJ W n k E (packP tag key F :: R)) : KJ W n k E H :=
  ⟨fun ac w q s => h.go ac w q ((s.perm (p.perm.append_right _)).mono (star_app (fun g hg => pack_star a g hg) _))⟩
theorem Ct.rowSlz {f : FuncId} {args : List Value} {Hpre : List SP} {A : SP} {e size m : Nat} {xs : List Value} {z : Value} (h : Ct P W f args Hpre (fun v : Value => .tuple #[v, z]) (fun v => [A, rowP v e size m xs])) :
    Ct P W f args Hpre (fun x : Option Addr × Nat => .tuple #[.slice x.1 m x.2, z]) (fun x => [A, rowP (.slice x.1 m x.2) e size m xs]) :=
  ⟨fun R w s => (h.go R w s).mono fun en w' ⟨v, he, st⟩ => by
    have hrow := St.row (v := v) (e := e) (size := size) (n := m) (xs := xs) st (.there .here)
    rcases hrow.2 with ⟨hv, q⟩ | ⟨g, cap, cur, hv, _⟩
    · subst hv
      subst q
      exact ⟨(none, 0), he, st⟩
    · subst hv
      exact ⟨(some ⟨g, 0, none⟩, cap), he, st⟩⟩
/-- a nil slice, and its row -/
theorem Ct.nilSl {f : FuncId} {args : List Value} {Hpre : List SP} {A : SP} {e size : Nat} {z : Value} (h : Ct P W f args Hpre (fun _ : Unit => .tuple #[.slice none 0 0, z]) (fun _ => [A])) :
    Ct P W f args Hpre (fun x : Option Addr × Nat => .tuple #[.slice x.1 0 x.2, z]) (fun x => [A, rowP (.slice x.1 0 x.2) e size 0 []]) :=
  ⟨fun R w s => (h.go R w s).mono fun en w' ⟨_, he, st⟩ => ⟨(none, 0), he, by
    have := St.mono st (starL_nilrow (e := e) (size := size) (H := [A]) (R := R))
    simpa using this⟩⟩
end
section
variable {W : World} {E : Nat → Addr} {p g r : Nat} {D : Dsk}
set_option maxHeartbeats 1000000 in
set_option maxRecDepth 100000 in
theorem eachL_ct (L : List (List UInt8)) (e : Value) (at_ n ver : Int) (hL : L.length ≤ 65536) (hr : Ct Tryd.prog W 70 [.pointer (some ⟨p, 0, none⟩), .int .i64 at_, .int .i64 n, .int .i64 ver] [DiskP p D] (fun x : Option Addr × Nat => .tuple #[.slice x.1 L.length x.2, e]) (fun x => [DiskP p D, rowP (.slice x.1 L.length x.2) 9 1 L.length (L.map strV)])) :
    Ct Tryd.prog W 105 [.pointer (some ⟨p, 0, none⟩), .int .i64 at_, .int .i64 n, .int .i64 ver] [DiskP p D] (fun x : Option Addr × Nat => .tuple #[.slice x.1 L.length x.2, .bool true]) (fun x => [DiskP p D, rowP (.slice x.1 L.length x.2) 9 1 L.length (L.map strV)]) := by
  have c1 := each_ct (W := W) (p := p) (D := D) L e at_ n ver hr
  refine Ct.enter Tryd.func105 rfl Tryd.ntmps105 (by simp) (fun R => ?_)
  repeat' (first 
    | (refine is_alloc ?_; refine KJ_alloc rfl (fun ga => ?_))
    | (refine is_call ?_; refine KJ_call xE c1 xP rfl (fun x => ?_))
    | (refine ek_eql ?_; refine EK_ev (Ev_eqlFn rfl rfl) ?_)
    | refine xst ?_
    | (refine xsa ?_; intro _)
    | (refine xsb ?_ ?_ <;> intro _ <;> first | (exfalso; omega) | skip)
    | refine xsc ?_
    | fail)
  rename_i g8 g9
  obtain ⟨g11, hg11⟩ : ∃ g, g = ga := ⟨_, rfl⟩
  rw [← hg11]
  clear hg11
  obtain ⟨gl, a, c⟩ := x
  dsimp only
  obtain ⟨F, hF⟩ : ∃ F : Nat → Option Addr × Nat → List SP, F = fun i x => [cellsP g11 [.slice x.1 i x.2] 47, rowP (.slice x.1 i x.2) 9 1 i ((L.take i).map strV)] := ⟨_, rfl⟩
  have hFi : ∀ i x, F i x = [cellsP g11 [.slice x.1 i x.2] 47, rowP (.slice x.1 i x.2) 9 1 i ((L.take i).map strV)] := fun i x => by rw [hF]
  clear hF
  refine KJ.row0 (e := 9) (sz := 1) ?_
  refine KJ.pack (tag := 31) (key := g11) (F := F 0) (none, 0) (by rw [hFi]; exact xP) ?_
  refine KJ_rangeEach (g := gl) (L := L) (a := a) (c := c) rfl rfl (by omega) rfl (by decide) (fun i => [packP 31 g11 (F i), cellsP g8 [.slice none 0 0] 47, cellsP g9 [.bool false] 4]) (fun i => [factP False]) .ret xP (fun l i s hs R' => ?_) ?_ (fun i hi => ?_)
  · have hlt := (List.getElem?_eq_some_iff.1 hs).1
    dsimp only [Env.ofPs]
    refine KJ.unpack_at (F := F i) xS (fun x => ?_)
    rw [hFi]
    have qg : decide ((70000 : Int) < ((i : Nat) : Int)) = false := decide_eq_false (by omega)
    have em : (L.take i).map strV ++ [strV s] = (L.take (i + 1)).map strV := by rw [List.take_add_one, hs]; simp
    repeat' (first 
    | (refine is_begin ?_; refine KJ_begin xS ?_)
    | (refine is_append ?_; refine KJ_append (a2 := 0) rfl rfl (by rfl) (by omega) xS (Src.cells (i := 1) xS xC) (by rfl) (by omega) xO (by omega) (by omega) rfl rfl (fun g5 c5 => ?_))
    | (refine is_bslice ?_; refine KJ_bslice1 rfl xF (by rfl) (by omega) rfl (fun g3 => ?_))
    | (refine ek_neq ?_; refine EK_ev (Ev_neqI_f rfl rfl rfl) ?_)
    | (refine ek_gtr ?_; refine EK_ev (Ev_gtrI_q rfl rfl qg) ?_)
    | refine xst ?_
    | (refine xsa ?_; intro _)
    | (refine xsb ?_ ?_ <;> intro _ <;> first | (exfalso; omega) | skip)
    | refine xsc ?_
    | fail)
    rw [em]
    refine KJ.pack (tag := 31) (key := g11) (F := F (i + 1)) (some ⟨g5, 0, none⟩, c5) (by rw [hFi]; exact xP) ?_
    exact KJ_round_t xS (xN)
  · refine KJ.unpack_at (F := F L.length) xS (fun x => ?_)
    rw [hFi, List.take_length]
    repeat' (first 
    | refine xst ?_
    | (refine xsa ?_; intro _)
    | (refine xsb ?_ ?_ <;> intro _ <;> first | (exfalso; omega) | skip)
    | refine xsc ?_
    | fail)
    (refine is_ex ?_; exact KJ_done (by first | exact Or.inl rfl | exact Or.inr rfl) rfl (Rvs.cell (T := 47) rfl inferInstance xS rfl (Rvs.cell (T := 4) rfl inferInstance xS rfl Rvs.nil)) x (by rfl) (xN))
  · exact KJ_absurd xS
set_option maxHeartbeats 1000000 in
theorem replayed_ct (L : List (List UInt8)) (e : Nat) (at_ n ver : Int) (hL : L.length ≤ 65536) (hr : Ct Tryd.prog W 70 [.pointer (some ⟨p, 0, none⟩), .int .i64 at_, .int .i64 n, .int .i64 ver] [DiskP p D] (fun x : Option Addr × Nat => .tuple #[.slice x.1 L.length x.2, errV E e]) (fun x => [DiskP p D, rowP (.slice x.1 L.length x.2) 9 1 L.length (L.map strV)]))
    (hf : Ct Tryd.prog W 104 [.pointer (some ⟨r, 0, none⟩), .int .i64 at_, .int .i64 n, .int .i64 ver] [RefP r D] (fun x : Option Addr × Nat => .tuple #[.slice x.1 L.length x.2, .int .i64 (e : Nat)]) (fun x => [RefP r D, rowP (.slice x.1 L.length x.2) 9 1 L.length (L.map strV)])) (hn : Ct Tryd.prog W 35 [errV E e] [] (fun _ : Unit => .int .i64 (e : Nat)) (fun _ => [])) :
    Ct Tryd.prog W 73 [.pointer (some ⟨p, 0, none⟩), .pointer (some ⟨r, 0, none⟩), .int .i64 at_, .int .i64 n, .int .i64 ver] [DiskP p D, RefP r D] (fun _ : Unit => .bool true) (fun _ => [DiskP p D, RefP r D]) := by
  have he := eachL_ct L (errV E e) at_ n ver hL hr
  have cs := fun a1 a2 c1 c2 => same_ct (W := W) L L a1 a2 c1 c2 (Nat.le_refl _) List.take_length (by omega)
  obtain ⟨ev, hev⟩ : ∃ ev, ev = errV E e := ⟨_, rfl⟩
  rw [← hev] at hr hn
  refine Ct.enter Tryd.func73 rfl Tryd.ntmps73 (by simp) (fun R => ?_)
  repeat' (first 
    | (refine is_call ?_; first | (refine KJ_call xE (cs _ _ _ _) xP rfl (fun _ => ?_)) | (refine KJ_call xE hn xP rfl (fun _ => ?_)) | (refine KJ_call xE he xP rfl (fun z => ?_)) | (refine KJ_call xE hf xP rfl (fun y => ?_)) | (refine KJ_call xE hr xP rfl (fun x => ?_)))
    | (refine ek_eql ?_; refine EK_ev (Ev_eqlI_t rfl rfl rfl) ?_)
    | refine xst ?_
    | (refine xsa ?_; intro _)
    | (refine xsb ?_ ?_ <;> intro _ <;> first | (exfalso; omega) | skip)
    | refine xsc ?_
    | fail)
  all_goals (exact xdn ())
theorem rpGo_count {at_ n : Int} {ver : Nat} : ∀ (f i : Nat) (acc : List (List UInt8)), (i : Int) ≤ n → acc.length ≤ i → ((rpGo D at_ n ver f i acc).length : Int) ≤ n := by
  intro f
  induction f with
  | zero => intro i acc h1 h2; show (acc.length : Int) ≤ n; omega
  | succ f ih =>
    intro i acc h1 h2
    have hunf : rpGo D at_ n ver (f + 1) i acc = match recO D at_ n ver i with
      | none => acc
      | some (s, u) => rpGo D at_ n ver f (i + u.toNat) (acc ++ [s]) := rfl
    rw [hunf]
    cases ho : recO D at_ n ver i with
    | none => show (acc.length : Int) ≤ n; omega
    | some su =>
      obtain ⟨s, u⟩ := su
      obtain ⟨a, b⟩ := recO_some ho
      exact ih _ _ (by omega) (by rw [List.length_append]; show acc.length + 1 ≤ _; omega)
/-- Replay, Each and the document's Replay, wherever -/
theorem replayed_all (hE : ErrsAt W E) (hN : NibAt W) (hg : gB ≤ W.heap.size) (hok : D.ok) (hul : D.und.length < 1073741824) (at_ n ver : Int) :
    Ct Tryd.prog W 73 [.pointer (some ⟨p, 0, none⟩), .pointer (some ⟨r, 0, none⟩), .int .i64 at_, .int .i64 n, .int .i64 ver] [DiskP p D, RefP r D] (fun _ : Unit => .bool true) (fun _ => [DiskP p D, RefP r D]) := by
  have e6 : W.cell? ⟨3, 0, none⟩ = some (errV E 6) := hE.all.at_ 6 (by decide)
  have e12 : W.cell? ⟨2, 0, none⟩ = some (errV E 12) := hE.all.at_ 12 (by decide)
  by_cases h : logOk D at_ n ver
  rotate_left
  · have c1 := replay_no (W := W) (p := p) (D := D) 6 (by decide) at_ n ver (check_bad hok.n2 e6 at_ n ver h)
    have c2 := rreplay_range (W := W) (p := r) at_ n ver hok.n2 h
    exact replayed_ct [] 6 at_ n ver (by simp) (Ct.nilSl c1) (Ct.nilSl c2) (num_ct hE hg 6 (by omega))
  by_cases ho : D.off = true
  · have c1 := replay_no (W := W) (p := p) (D := D) 12 (by decide) at_ n ver (check_down hok.n2 e12 ho at_ n ver h)
    have c2 := rreplay_down (W := W) (p := r) at_ n ver hok.n2 ho h
    exact replayed_ct [] 12 at_ n ver (by simp) (Ct.nilSl c1) (Ct.nilSl c2) (num_ct hE hg 12 (by omega))
  have ho : D.off = false := by simpa using ho
  obtain ⟨vn, rfl⟩ : ∃ v : Nat, ver = (v : Int) := ⟨ver.toNat, by obtain ⟨-, -, -, -, -, h6, -⟩ := h; omega⟩
  have h5 : 0 ≤ n ∧ n ≤ 65536 := ⟨h.2.1, h.2.2.2.2.1⟩
  have c1 := replay_ct (W := W) (p := p) (D := D) hE.on hN at_ n vn hok.n2 ho h
  have c2 := rreplay_ct (W := W) (p := r) hok hul at_ n vn hok.n2 ho h
  have hc := rpGo_count (D := D) (at_ := at_) (n := n) (ver := vn) (n.toNat + 1) 0 [] (by omega) (by simp)
  exact replayed_ct _ 0 at_ n vn (by omega) (Ct.rowSlz c1) (Ct.rowSlz c2) (num_ct hE hg 0 (by omega))
end
end Go.Proofs.YteklldbfdmaafaaDoor
