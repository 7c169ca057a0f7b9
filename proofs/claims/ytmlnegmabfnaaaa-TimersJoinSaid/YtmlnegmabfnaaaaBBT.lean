/-
  TmW5.
-/
import Derived.Test.YtmlnegmabfnaaaaBBR
import Derived.Test.YtmlnegmabfnaaaaBBS
import Derived.Deep.QuietTactic
/-
  The package timers: All, its iterator; the law's all and same.
-/
namespace Go.Proofs.Ytmlnegmabfnaaaa
open Go Go.RowKit Go.Shelf Go.Lib Go.Sort
noncomputable def dueT : TypeInfo := (Try.prog.info? 26).get (by kernel_rfl)
noncomputable def dueE : TypeInfo := (Try.prog.info? 37).get (by kernel_rfl)
instance fn_tall1 : FnIs Try.prog 16 := ⟨by kernel_rfl⟩
instance fn_tall2 : FnIs Try.prog 18 := ⟨by kernel_rfl⟩
/-- a function is not nil -/
theorem Ev_eqlFnT {P : Program} {W : World} {n : Nat} {E : Env} {H : List SP} {t u : TypeId} {x y : Operand} {f : Fn} {us vs : Array Value} {ps rs : Array TypeId} {vr : Bool} (hx : Env.ev E x = some (.func f us vs)) (hy : Env.ev E y = some .nilFunc) [hu : UIs P t (.func ps rs vr)] : Ev P W n E H (.binOp .eql t x y u) (.bool false) := by
  refine Ev_bin hx hy (fun w => ?_) (fun w => ?_)
  · cases x <;> cases y <;> simp [eqGuard]
  · have e : (Op.equal t (.func f us vs) .nilFunc).run P w = .ok false w := by
      unfold Op.equal Op.maxDepth
      have key : ∀ m, (Op.equalIn (m + 1) t (.func f us vs) .nilFunc).run P w = .ok false w := by
        intro m
        simp [Op.equalIn, run_underlying hu.h]
      exact key 9999
    simp [binOp, e, Result.andThen]
theorem Ev_neqFnT {P : Program} {W : World} {n : Nat} {E : Env} {H : List SP} {t u : TypeId} {x y : Operand} {f : Fn} {us vs : Array Value} {ps rs : Array TypeId} {vr : Bool} (hx : Env.ev E x = some (.func f us vs)) (hy : Env.ev E y = some .nilFunc) [hu : UIs P t (.func ps rs vr)] : Ev P W n E H (.binOp .neq t x y u) (.bool true) := by
  refine Ev_bin hx hy (fun w => ?_) (fun w => ?_)
  · cases x <;> cases y <;> simp [eqGuard]
  · have e : (Op.equal t (.func f us vs) .nilFunc).run P w = .ok false w := by
      unfold Op.equal Op.maxDepth
      have key : ∀ m, (Op.equalIn (m + 1) t (.func f us vs) .nilFunc).run P w = .ok false w := by
        intro m
        simp [Op.equalIn, run_underlying hu.h]
      exact key 9999
    simp [binOp, e, Result.andThen]
theorem KJ.factT {W : World} {n : Nat} {k : KK} {E : Env} {H R : List SP} {p : Prop} (hs : Sel (factP p) H R) (h : p → KJ W n k E H) : KJ W n k E H := ⟨fun a w q s => (h (s.left.fact hs)).go a w q s⟩
theorem fact_star {p : Prop} (hp : p) {H : List SP} : ∀ g, starL H g → starL (factP p :: H) g := fun g q => ⟨fun _ => none, g, (fun _ _ q => by cases q), (fun _ _ q => by cases q), .rfl, hp, q⟩
theorem KJ.factIn {W : World} {n : Nat} {k : KK} {E : Env} {H : List SP} {p : Prop} (hp : p) (h : KJ W n k E (factP p :: H)) : KJ W n k E H := ⟨fun a w q s => h.go a w q (s.mono (fact_star hp))⟩
theorem Ct.post_eqT {P : Program} {W : World} {f : FuncId} {args : List Value} {Hpre : List SP} {X : Type} {r : X → Value} {H' H'' : X → List SP} (h : Ct P W f args Hpre r H') (e : ∀ x, H' x = H'' x) : Ct P W f args Hpre r H'' := by
  have : H' = H'' := funext e
  subst this; exact h
section
variable {W : World} {t h mb l : Nat} {v : Value} {s : Tms}
set_option maxHeartbeats 2000000 in
theorem less_due (bs T gg cp n : Nat) (d : Array Due) (hd : d.size = n) (i j : Nat) (hi : i < n) (hj : j < n) (hn : n < 4611686018427387904) : Ct Try.prog W 16 [.int .i64 (i : Nat), .int .i64 (j : Nat), .pointer (some ⟨bs, 0, none⟩)] [cellsP bs [.slice (some ⟨gg, 0, none⟩) n cp] T, rowP (.slice (some ⟨gg, 0, none⟩) n cp) 37 2 n (d.toList.flatMap dueC)]
    (fun _ : Unit => .bool (aheadD d[i]! d[j]!)) (fun _ => [cellsP bs [.slice (some ⟨gg, 0, none⟩) n cp] T, rowP (.slice (some ⟨gg, 0, none⟩) n cp) 37 2 n (d.toList.flatMap dueC)]) := by
  subst hd
  have e1 : d.toList[i]? = some d[i]! := by rw [List.getElem?_eq_getElem (by simpa using hi), getElem!_pos d i hi]; simp
  have e2 : d.toList[j]? = some d[j]! := by rw [List.getElem?_eq_getElem (by simpa using hj), getElem!_pos d j hj]; simp
  have ca := ahead_ct (W := W) d[i]! d[j]!
  obtain ⟨L, hL⟩ : ∃ L, L = d.toList := ⟨_, rfl⟩
  have hn2 : d.size = L.length := by rw [hL]; simp
  rw [← hL] at e1 e2 ⊢
  rw [hn2] at hi hj hn ⊢
  obtain ⟨x, hx⟩ : ∃ x, x = d[i]! := ⟨_, rfl⟩
  obtain ⟨y, hy⟩ : ∃ y, y = d[j]! := ⟨_, rfl⟩
  rw [← hx] at e1 ca ⊢
  rw [← hy] at e2 ca ⊢
  clear hx hy hn2 hL
  have o1 : 0 + Int.toNat (i : Int) * 2 = i * 2 := by simp
  have o2 : 0 + Int.toNat (j : Int) * 2 = j * 2 := by simp
  refine Ct.enter Try.func16 rfl Try.ntmps16 (by simp) (fun R => ?_)
  repeat' (first 
    | (refine is_call ?_; refine KJ_call xE ca xP rfl (fun _ => ?_))
    | (refine ek_load ?_; first | refine EK_ev (Ev_loadLs enc_due rfl xS rfl o2 e2) ?_ | refine EK_ev (Ev_loadLs enc_due rfl xS rfl o1 e1) ?_)
    | (refine ek_indexAddr ?_; refine EK_ev (Ev_indexSlice rfl rfl (by omega)) ?_)
    | refine xst ?_
    | (refine xsa ?_; intro _)
    | (refine xsb ?_ ?_ <;> intro _ <;> first | (exfalso; omega) | skip)
    | refine xsc ?_
    | (refine KJ_draws (id := 1) (.op 0 (.op 1 (.op 2 (.op 3 (.op 4 (.op 5 (.op 6 (.op 7 (.ef 8 [] (.op 9 .nil)))))))))) (by kernel_rfl) (by kernel_rfl) ?_)
    | refine FW_alt ?_ ?_
    | refine FW_efn rfl rfl rfl rfl rfl ?_ ?_
    | refine KJ_flow ?_ ?_
    | exact Rech.nil
    | fail)
  all_goals (exact xdn ())
theorem sort_due (bs T : Nat) (l : List Due) (hl : l.length < 4611686018427387904) (v : Value) :
    Ct Try.prog W 15 [.iface 26 v, .func (.func 16) #[] #[.pointer (some ⟨bs, 0, none⟩)]] [cellsP bs [v] T, lsP dueC 37 2 v l] (fun _ : Unit => .tuple #[]) (fun _ => [cellsP bs [v] T, lsP dueC 37 2 v (sortD aheadD l)]) := by
  have h := slice_ct (W := W) 26 37 dueT dueE (by kernel_rfl) (by kernel_rfl) (by kernel_rfl) (by kernel_rfl) 25 (fun _ => by kernel_rfl) dueC 2 (fun _ => rfl) (by kernel_rfl) (fun _ => by kernel_rfl)
    (fun x v hv => by simp [dueC] at hv; rcases hv with rfl | rfl <;> rfl) aheadD 16
    (swaps_of (a := 24) (b := 25) (f := 32) (k := 9) (gS := false) (by kernel_rfl) (by kernel_rfl) (by kernel_rfl) (by kernel_rfl)
      (fun args W => run_callFunc_extern Try.func32 (by kernel_rfl) (by kernel_rfl) (by kernel_rfl) (e := Extern.ReflectliteSwapper.swap false) (by kernel_rfl) args W))
    bs T l hl (fun gg cp d hd i j hi hj => less_due bs T gg cp _ d hd i j hi hj hl) v
  unfold lsP
  rw [sortD_len]
  exact h
/-- a slot that holds a list of timers -/
abbrev dlP (g : Nat) (a : Option Addr) (c : Nat) (L : List Due) : List SP := [cellsP g [.slice a L.length c] 26, lsP dueC 37 2 (.slice a L.length c) L]
theorem tall_ct (hl : s.1.length * 16 ≤ 140737488355328) : Ct Try.prog W 11 [.pointer (some ⟨t, 0, none⟩)] (TmL t h mb v s) (fun x : Nat × Option Addr × Nat => .func (.func 18) #[] #[.pointer (some ⟨x.1, 0, none⟩)]) (fun x => dlP x.1 x.2.1 x.2.2 (sortD aheadD s.1) ++ TmL t h mb v s) := by
  have c1 := hlist_ct (W := W) (h := h) (v := v) (l := s.1) hl
  have c2 := fun bs v => sort_due (W := W) bs 26 s.1 (by omega) v
  have hs := sortD_len aheadD s.1
  obtain ⟨L, hL⟩ : ∃ L, L = sortD aheadD s.1 := ⟨_, rfl⟩
  rw [← hL] at hs ⊢
  simp only [← hL] at c2
  simp only [← hs] at c1
  refine Ct.enter Try.func11 rfl Try.ntmps11 (by simp) (fun R => ?_)
  repeat' (first 
    | (refine is_alloc ?_; refine KJ_alloc rfl (fun g3 => ?_))
    | (refine is_call ?_; refine KJ_call xE (c2 _ _) xP rfl (fun _ => ?_))
    | (refine is_callM ?_; refine KJ_callM (t := 50) rfl xE c1 xP rfl (fun x => ?_))
    | (refine ek_mkFunc ?_; refine EK_ev (Ev_mkFunc (us := []) (vs := [.pointer (some ⟨g3, 0, none⟩)]) xE xE rfl) ?_)
    | refine xst ?_
    | (refine xsa ?_; intro _)
    | (refine xsb ?_ ?_ <;> intro _ <;> first | (exfalso; omega) | skip)
    | refine xsc ?_
    | fail)
  all_goals (exact xdn (g3, x.1, x.2))
set_option maxHeartbeats 2000000 in
theorem tall2_ct {g : Nat} (L : List Due) (a : Option Addr) (c : Nat) (J S : Nat → List SP) (hL : L.length < 4611686018427387904)
    (hy : ∀ i x, L[i]? = some x → Yt Try.prog W l [dueV x] (J i) (fun b : Bool => b) (fun b => if b then J (i + 1) else S i)) :
    Ct Try.prog W 18 [yv l, .pointer (some ⟨g, 0, none⟩)] (J 0 ++ dlP g a c L) (fun _ : Option {i // i < L.length} => .tuple #[]) (fun x => (match x with | none => J L.length | some i => S i.1) ++ dlP g a c L) := by
  refine Ct.enter Try.func18 rfl Try.ntmps18 (by simp) (fun R => ?_)
  refine KJ.perm (H' := dlP g a c L ++ (J 0 ++ R)) ?_ (by rw [List.append_assoc]; exact List.perm_append_comm_assoc _ _ _)
  repeat' (first 
    | refine xst ?_
    | (refine xsa ?_; intro _)
    | (refine xsb ?_ ?_ <;> intro _ <;> first | (exfalso; omega) | skip)
    | refine xsc ?_
    | fail)
  refine KJ_loop (fun i : {k : Nat // k ≤ L.length} => [(0, yv l), (5, .slice a L.length c), (6, .int .i64 (L.length : Nat)), (7, .int .i64 (i.1 : Nat))]) (fun i => dlP g a c L ++ (J i.1 ++ R)) (fun i => L.length - i.1) ⟨0, by omega⟩ xB (fun _ q => q) (fun ⟨k, hk⟩ => ?_)
  dsimp only
  by_cases hlt : k < L.length
  rotate_left
  · have hkl : k = L.length := by omega
    subst hkl
    have ql : decide ((L.length : Int) < (L.length : Int)) = false := decide_eq_false (by omega)
    repeat' (first 
    | (refine ek_lss ?_; refine EK_ev (Ev_lssI_q rfl rfl ql) ?_)
    | refine xst ?_
    | (refine xsa ?_; intro _)
    | (refine xsb ?_ ?_ <;> intro _ <;> first | (exfalso; omega) | skip)
    | refine xsc ?_
    | fail)
    (refine is_ex ?_; exact KJ_done (by first | exact Or.inl rfl | exact Or.inr rfl) rfl Rvs.nil none (by rfl) (fun gg q => by
      have q2 := starL_perm (List.perm_append_comm_assoc _ _ _) gg q
      show starL ((J L.length ++ _) ++ R) gg
      rw [List.append_assoc]
      exact q2))
  have ql : decide ((k : Int) < (L.length : Int)) = true := decide_eq_true (by omega)
  obtain ⟨x, hx⟩ : ∃ s, L[k]? = some s := ⟨_, List.getElem?_eq_getElem hlt⟩
  refine KJ.lsSome (l := L) (R := cellsP g [.slice a L.length c] 26 :: (J k ++ R)) xS (by omega) (fun g1 e1 => ?_)
  subst e1
  have ho : 0 + Int.toNat (k : Int) * 2 = k * 2 := by simp
  refine KJ.perm (H' := dlP g (some ⟨g1, 0, none⟩) c L ++ (J k ++ R)) ?_ (List.Perm.refl _)
  apply KJ_rest (fun K => ∀ g4 : Nat, KJ W 16 K [(0, yv l), (5, .slice (some ⟨g1, 0, none⟩) L.length c), (6, .int .i64 (L.length : Nat)), (7, .int .i64 (k : Nat)), (4, .pointer (some ⟨g4, 0, none⟩))] (cellsP g4 (dueC x) 37 :: (dlP g (some ⟨g1, 0, none⟩) c L ++ (J k ++ R))))
  · intro rest
    repeat' (first 
    | (refine at_seq_region (id := 3) ?_; refine KJ.weak (rest g4) xB ?_)
    | (refine is_alloc ?_; refine KJ_alloc rfl (fun g4 => ?_))
    | (refine ek_load ?_; refine EK_ev (Ev_loadLs enc_due rfl xS rfl ho hx) ?_)
    | (refine ek_indexAddr ?_; refine EK_ev (Ev_indexSlice rfl rfl (by omega)) ?_)
    | (refine ek_lss ?_; refine EK_ev (Ev_lssI_q rfl rfl ql) ?_)
    | refine xst ?_
    | (refine xsa ?_; intro _)
    | (refine xsb ?_ ?_ <;> intro _ <;> first | (exfalso; omega) | skip)
    | refine xsc ?_
    | fail)
    all_goals exact fun _ q => q
  intro g4
  have hyk : Yt Try.prog W l [dueV x] (J k ++ (cellsP g4 (dueC x) 37 :: (dlP g (some ⟨g1, 0, none⟩) c L ++ R))) (fun b : Bool => b) (fun b => (if b then J (k + 1) else S k) ++ (cellsP g4 (dueC x) 37 :: (dlP g (some ⟨g1, 0, none⟩) c L ++ R))) := (hy k x hx).frame _
  have hpk : (cellsP g4 (dueC x) 37 :: (dlP g (some ⟨g1, 0, none⟩) c L ++ (J k ++ R))).Perm (J k ++ (cellsP g4 (dueC x) 37 :: (dlP g (some ⟨g1, 0, none⟩) c L ++ R))) :=
    (List.Perm.cons _ (List.perm_append_comm_assoc _ _ _)).trans List.perm_middle.symm
  repeat' (first 
    | (refine KJ_yield_all (l := l) rfl xE hyk hpk rfl (fun b => ?_))
    | (refine KJ_cond_b rfl (fun q => ?_) (fun q => ?_))
    | (refine ek_add ?_; refine EK_ev (Ev_addI_v (r := ((k + 1 : Nat) : Int)) rfl rfl (by omega) (by omega)) ?_)
    | refine xst ?_
    | (refine xsa ?_; intro _)
    | (refine xsb ?_ ?_ <;> intro _ <;> first | (exfalso; omega) | skip)
    | refine xsc ?_
    | fail)
  · have hb : b = false := by cases b <;> simp_all
    subst hb
    refine is_ex ?_
    exact KJ_done (by first | exact Or.inl rfl | exact Or.inr rfl) rfl Rvs.nil (some ⟨k, hlt⟩) (by rfl) (fun gg q => by
      show starL ((S k ++ _) ++ R) gg
      rw [List.append_assoc]
      have q1 := starL_perm (List.perm_middle (l₁ := S k)) gg q
      obtain ⟨h1, h2, _, _, le, _, s2⟩ := q1
      exact starL_le le s2)
  · have hb : b = true := by cases b <;> simp_all
    subst hb
    refine KJ_again ⟨k + 1, hlt⟩ (by show L.length - (k + 1) < L.length - k; omega) (by refine Subs.cons rfl (Subs.cons rfl (Subs.cons rfl (Subs.cons rfl Subs.nil)))) (fun gg q => ?_)
    have q1 := starL_perm (List.perm_middle (l₁ := J (k + 1))) gg q
    obtain ⟨h1, h2, _, _, le, _, s2⟩ := q1
    exact starL_perm (List.perm_append_comm_assoc _ _ _) gg (starL_le le s2)
/-- a range over what All has made; jump: how a round leaves -/
theorem KJ_rangeDue {n : Nat} {q : QQ} {gop : Operand} {En : Env} {H R : List SP} {psl : List Tmp} {asg bd : Code} {g : Nat} {L : List Due} {a : Option Addr} {c : Nat} (hro : q.ro = none) (hg : Env.ev En gop = some (.func (.func 18) #[] #[.pointer (some ⟨g, 0, none⟩)])) (hL : L.length < 4611686018427387904) (hpl : psl.length = 1) (hpn : ∀ p ∈ psl, p < n)
    (J S : Nat → List SP) (jump : Code) (hp : Pick (J 0 ++ dlP g a c L) H R)
    (hb : ∀ l i x, L[i]? = some x → ∀ R, KJ W n (.code Try.prog asg (asgQ Try.prog l bd (roundPost Try.prog l (RPost W (fun b : Bool => b) (fun b => if b then recP l .ready none n En psl.toArray asg bd :: J (i + 1) else recP l .done (some jump) n En psl.toArray asg bd :: S i) R)))) (Env.ofPs psl [dueV x] En) (recP l .ready none n En psl.toArray asg bd :: J i ++ R))
    (h0 : KJ W n (.ex q .normal) En ((J L.length ++ dlP g a c L) ++ R)) (h1 : ∀ i, i < L.length → KJ W n (.code Try.prog jump q) En ((S i ++ dlP g a c L) ++ R)) : KJ W n (.code Try.prog (Code.rangeFunc gop psl.toArray asg bd) q) En H := by
  refine KJ_range (X := Option {i // i < L.length}) (lb := [.pointer (some ⟨g, 0, none⟩)]) (pe := fun x => match x with | none => none | some _ => some jump) (Hp := fun x => (match x with | none => J L.length | some i => S i.1) ++ dlP g a c L) (v := fun _ => .tuple #[]) hro hg (fun l => ?_) hp (fun x hx => ?_) (fun x cc hx => ?_)
  · refine Ct.post_eqT (tall2_ct (l := l) (g := g) L a c (fun i => recP l .ready none n En psl.toArray asg bd :: J i) (fun i => recP l .done (some jump) n En psl.toArray asg bd :: S i) hL (fun i x hx => ?_)) (fun x => by cases x <;> rfl)
    exact Yt.of (n := n) (by rw [hpl]; rfl) hpn (fun R => hb l i x hx R)
  · cases x with
    | none => exact h0
    | some i => cases hx
  · cases x with
    | none => cases hx
    | some i =>
      cases hx
      exact h1 i.1 i.2
end
end Go.Proofs.Ytmlnegmabfnaaaa
