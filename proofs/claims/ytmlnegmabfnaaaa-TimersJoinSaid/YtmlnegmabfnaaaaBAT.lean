/-
  SoA.
-/
import Derived.Test.YtmlnegmabfnaaaaBAR
import Derived.Test.YtmlnegmabfnaaaaBAS
/-
  sort.Slice whose closure may lay blocks: the rules for the swap (a function value without a body), and what is asked of less and swap. No program's name in sight.
-/
namespace Go.Proofs.Ytmlnegmabfnaaaa
open Go Go.RowKit Go.Shelf Go.Lib Go.Sort
/-- some claims as one -/
def alP (key : Nat) (L : List SP) : SP := ⟨52, key, fun h => starL L h⟩
theorem al_open {L H : List SP} {key : Nat} {g : Hl} (q : starL (alP key L :: H) g) : starL (L ++ H) g := by
  obtain ⟨h1, h2, d, l1, l2, s1, s2⟩ := q
  exact (starL_append g).2 ⟨h1, h2, d, l1, l2, s1, s2⟩
theorem al_shut {L H : List SP} {key : Nat} {g : Hl} (q : starL (L ++ H) g) : starL (alP key L :: H) g := by
  obtain ⟨h1, h2, d, l1, l2, s1, s2⟩ := (starL_append g).1 q
  exact ⟨h1, h2, d, l1, l2, s1, s2⟩
section
variable {P : Program} {W : World} {n d : Nat} {E : Env} {H R : List SP} {k : KK} {dd : Option Tmp} {X : Type}
/-- a call of a function's value, whatever the function is -/
theorem run_callX {o : Oper} {f : FuncId} {x : Operand} {xs : List Operand} {ts : Array TypeId} {vs : List Value} {fs cs : Array Value} (ho : o.op = .call { callee := .value x, args := xs.toArray, argTypes := ts }) (h0 : Env.ev E x = some (.func (.func f) fs cs)) (hx : Evs E xs vs) {a : Act} (p : Hd n E a) (w : World) : (execOp a.eval o).run P w = (callFunc f (fs ++ vs.toArray ++ cs)).run P w := by
  have e : a.eval x = .func (.func f) fs cs := p.ev h0
  have hv := p.evs hx
  simp [execOp, ho, resolve, e, Deferred.ofValue, invoke, hv]
/-- the contract of a function without a body -/
structure Cx (P : Program) (W : World) (f : FuncId) (args : List Value) (Hpre : List SP) (r : Value) (Hp : List SP) : Prop where
  go : ∀ M w, St W (Hpre ++ M) w → ∃ w', (callFunc f args.toArray).run P w = .ok (.value r) w' ∧ St W (Hp ++ M) w'
theorem KJ_callX' {f : FuncId} {x : Operand} {xs : List Operand} {ts : Array TypeId} {vs us : List Value} {fs cs : Array Value} {Hpre Hp : List SP} {r : Value} (h0 : Env.ev E x = some (.func (.func f) fs cs)) (hx : Evs E xs vs) (hu : us = fs.toList ++ vs ++ cs.toList)
    (hc : Cx P W f us Hpre r Hp) (hp : Pick Hpre H R) (hn : dstOk n dd = true) (h : KJ W n k (Env.put E dd r) (Hp ++ R)) : KJ W n (.oper P (.call { callee := .value x, args := xs.toArray, argTypes := ts }) dd k) E H := by
  refine ⟨fun a w p s o ho hd => ?_⟩
  subst hd
  show uponP P o a _ ((execOp a.eval o).run P w)
  rw [run_callX ho h0 hx p w]
  have e : fs ++ vs.toArray ++ cs = us.toArray := by rw [hu]; apply Array.ext'; simp
  rw [e]
  obtain ⟨w', e1, s1⟩ := hc.go (R ++ dm a.defers) w (s.perm ((hp.perm.append_right _).trans (by rw [List.append_assoc])))
  rw [e1]
  refine h.go _ w' (p.put hn _) ?_
  show St W (_ ++ dm (a.put o.dst _).defers) w'
  rw [put_defers, List.append_assoc]; exact s1
theorem KJ_callX {f : FuncId} {x : Operand} {xs : List Operand} {ts : Array TypeId} {vs us : List Value} {fs cs : Array Value} {Hpre Hp : List SP} {r : Value} (h0 : Env.ev E x = some (.func (.func f) fs cs)) (hx : Evs E xs vs) (hu : us = fs.toList ++ vs ++ cs.toList)
    (hc : Cx P W f us Hpre r Hp) (hp : Pick Hpre H R) (hn : Nat.blt d n = true) (h : KJ W n k ((d, r) :: E) (Hp ++ R)) : KJ W n (.oper P (.call { callee := .value x, args := xs.toArray, argTypes := ts }) (some d) k) E H :=
  KJ_callX' h0 hx hu hc hp hn h
theorem evs_two {y z : Operand} {u v : Value} (hy : Env.ev E y = some u) (hz : Env.ev E z = some v) : Evs E [y, z] [u, v] := Evs.cons hy (Evs.cons hz Evs.nil)
/-- less and swap are called -/
theorem KJ_less {f : FuncId} {x y z : Operand} {ts : Array TypeId} {u v : Value} {lb : List Value} {Hpre : List SP} {r : X → Value} {Hp : X → List SP} (h0 : Env.ev E x = some (.func (.func f) #[] lb.toArray)) (hy : Env.ev E y = some u) (hz : Env.ev E z = some v) [hf : FnIs P f]
    (hc : Ct P W f (u :: v :: lb) Hpre r Hp) (hp : Pick Hpre H R) (hn : Nat.blt d n = true) (h : ∀ c, KJ W n k ((d, r c) :: E) (Hp c ++ R)) : KJ W n (.oper P (.call { callee := .value x, args := #[y, z], argTypes := ts }) (some d) k) E H :=
  KJ_callV (xs := [y, z]) (vs := [u, v]) (us := u :: v :: lb) h0 (evs_two hy hz) (by simp) hc hp hn h
theorem KJ_swap {f : FuncId} {x y z : Operand} {ts : Array TypeId} {u v : Value} {lb : List Value} {Hpre Hp : List SP} {r : Value} (h0 : Env.ev E x = some (.func (.func f) #[] lb.toArray)) (hy : Env.ev E y = some u) (hz : Env.ev E z = some v)
    (hc : Cx P W f (u :: v :: lb) Hpre r Hp) (hp : Pick Hpre H R) (hn : Nat.blt d n = true) (h : KJ W n k ((d, r) :: E) (Hp ++ R)) : KJ W n (.oper P (.call { callee := .value x, args := #[y, z], argTypes := ts }) (some d) k) E H :=
  KJ_callX (xs := [y, z]) (vs := [u, v]) (us := u :: v :: lb) h0 (evs_two hy hz) (by simp) hc hp hn h
theorem Cx.all {f : FuncId} {us : List Value} {L L' : List SP} {r : Value} (key : Nat) (h : Cx P W f us L r L') : Cx P W f us [alP key L] r [alP key L'] := by
  refine ⟨fun M w s => ?_⟩
  obtain ⟨w', e, s'⟩ := h.go M w (s.mono fun _ q => al_open q)
  exact ⟨w', e, s'.mono fun _ q => al_shut q⟩
theorem Ct.all {f : FuncId} {us : List Value} {L : List SP} {r : X → Value} {L' : X → List SP} (key : Nat) (h : Ct P W f us L r L') : Ct P W f us [alP key L] r (fun x => [alP key (L' x)]) := by
  refine ⟨fun M w s => (h.go M w (s.mono fun _ q => al_open q)).mono ?_⟩
  rintro e w' ⟨c, he, s'⟩
  exact ⟨c, he, s'.mono fun _ q => al_shut q⟩
end
section
variable {P : Program} {W : World} {α : Type} [Inhabited α]
/-- what the sort asks of less and swap, over the row d as D d -/
structure SoOk (P : Program) (W : World) (g sf : FuncId) (lb sb : List Value) (lt : α → α → Bool) (n : Nat) (D : Array α → SP) : Prop where
  less : ∀ d : Array α, d.size = n → ∀ i j : Nat, i < n → j < n → Ct P W g (.int .i64 (i : Nat) :: .int .i64 (j : Nat) :: lb) [D d] (fun _ : Unit => .bool (lt d[i]! d[j]!)) (fun _ => [D d])
  swap : ∀ d : Array α, d.size = n → ∀ i j : Nat, i < n → j < n → Cx P W sf (.int .i64 (i : Nat) :: .int .i64 (j : Nat) :: sb) [D d] (.tuple #[]) [D (swp d i j)]
  small : n < 4611686018427387904
theorem St.holdsK {w : World} {H R : List SP} {g0 n cap k e : Nat} {l : List α} {enc : α → List Value} (hk : ∀ x, (enc x).length = k) (s : St W H w) (hsel : Sel (rowP (.slice (some ⟨g0, 0, none⟩) n cap) e k n (l.flatMap enc)) H R) (hl : l.length = n) :
    HoldsK enc k w g0 0 l.toArray ∧ g0 < w.heap.size := by
  obtain ⟨hxl, hr⟩ := s.row hsel
  rcases hr with ⟨hv, _⟩ | ⟨gg, cp, cur, hv, hbg, hg, hnc, hcm, hcs, hx⟩
  · cases hv
  cases hv
  refine ⟨fun j hj => ?_, (Array.getElem?_eq_some_iff.1 hg).1⟩
  rw [size_flatK] at hj
  have hj : j < n * k := by rw [← hl]; simpa using hj
  have hjc : j < cur.size := by rw [hcs]; exact Nat.lt_of_lt_of_le hj (Nat.mul_le_mul_right k hnc)
  rw [Nat.zero_add]
  have hfl := flatK_list hk l.toArray
  refine ⟨?_, by simp [World.frozen?, hg]⟩
  rw [cell_of_row w g0 j _ _ _ hg]
  have h3 : (cur.toList.take (n * k))[j]? = cur[j]? := by rw [List.getElem?_take_of_lt hj]; simp
  rw [← h3, hx, ← (show l.toArray.toList = l from rfl), ← hfl, List.getElem?_eq_getElem (by simpa [hl] using hj), getElem!_pos _ j (by simpa [hl] using hj)]
  simp
/-- the swap that Swapper hands back, over a row of one's own -/
theorem swap_cx {f : FuncId} {gS : Bool} (hf : ∀ args W, (callFunc f args).run P W = ((Extern.ReflectliteSwapper.swap gS args).run P W).andThen fun v w' => .ok (.value v) w')
    {e : TypeId} {ie : TypeInfo} (hie : P.info? e = some ie) {enc : α → List Value} {k : Nat} (hk : ∀ x, (enc x).length = k) (hs : ie.size = k) (hagg : ∀ w, (isAgg e).run P w = .ok true w) (h1 : ∀ x, ∀ v ∈ enc x, v.oneCell' = true) {g0 n cap : Nat}
    (d : Array α) (hd : d.size = n) (i j : Nat) (hi : i < n) (hj : j < n) :
    Cx P W f [.int .i64 (i : Nat), .int .i64 (j : Nat), .slice (some ⟨g0, 0, none⟩) n cap, typeHandle P e] [rowP (.slice (some ⟨g0, 0, none⟩) n cap) e k n (d.toList.flatMap enc)] (.tuple #[]) [rowP (.slice (some ⟨g0, 0, none⟩) n cap) e k n ((swp d i j).toList.flatMap enc)] := by
  refine ⟨fun M w s => ?_⟩
  have hsel : Sel (rowP (.slice (some ⟨g0, 0, none⟩) n cap) e k n (d.toList.flatMap enc)) ([rowP (.slice (some ⟨g0, 0, none⟩) n cap) e k n (d.toList.flatMap enc)] ++ M) M := .here
  obtain ⟨hH, hg⟩ := St.holdsK (l := d.toList) hk s hsel (by simpa using hd)
  have hH : HoldsK enc k w g0 0 d := hH
  subst hs
  have cc : ∀ x, x < d.size → ∀ u v, (enc d[x]!)[u]? = some v → w.cell? ⟨g0, 0 + x * ie.size + u, none⟩ = some v := fun x hx u v h => by
    have hu : u < ie.size := by rw [← hk d[x]!]; exact (List.getElem?_eq_some_iff.mp h).1
    rw [(hH.cell hx hu).1]; simp [h]
  have hrun := run_swap_cells (P := P) gS e ie hie hagg g0 0 n cap i j hi hj (enc d[i]!) (enc d[j]!) (hk _) (hk _) (h1 _) (h1 _) w (cc i (by omega)) (cc j (by omega))
    (fun u hu => (hH.cell (by omega) hu).2) (fun u hu => (hH.cell (by omega) hu).2)
  refine ⟨_, by rw [hf]; show ((Extern.ReflectliteSwapper.swap gS #[.int .i64 (i : Int), .int .i64 (j : Int), .slice (some ⟨g0, 0, none⟩) n cap, typeHandle P e]).run P w).andThen _ = _; rw [hrun]; rfl, ?_⟩
  have e1 : (w.setCells g0 (0 + i * ie.size) (enc d[j]!)).setCells g0 (0 + j * ie.size) (enc d[i]!) = grow (putRowK enc ie.size (Sort.ahead w 0) g0 0 (swp d i j)) #[] := by
    have h2 := putRowK_swp (enc := enc) (k := ie.size) hk w g0 0 d i j (by omega) (by omega)
    rw [putRowK_self enc ie.size w g0 0 d hH] at h2
    rw [h2]
    show _ = grow (putRowK enc ie.size w g0 0 (swp d i j)) #[]
    simp [grow]
  rw [e1]
  exact St.sorted (m := 0) hk s hsel (swp d i j) (by rw [size_swp, hd]) #[]
end
end Go.Proofs.Ytmlnegmabfnaaaa
