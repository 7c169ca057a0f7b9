/-
  BaE.
-/
import Derived.Test.YtehheokalgmbgaaDoorFBD
/-
  Chapter 12 (batch) as plain data: the bytes of a batch, written and read.
-/
namespace Go.Proofs.YtehheokalgmbgaaDoor
open Go Go.RowKit
def encOp (o : BOp) : List UInt8 := if o.del then 1 :: tx o.key else 0 :: (tx o.key ++ tx o.val)
def encOps (ops : List BOp) : List UInt8 := ops.flatMap encOp
def encAll (ops : List BOp) : List UInt8 := vu ops.length ++ encOps ops
/-- do the keys rise? -/
def risesB : List BOp → Bool
  | [] => true
  | [_] => true
  | a :: b :: r => Op.bytesLess a.key b.key && risesB (b :: r)
/-- a delete has no value -/
def formB (o : BOp) : Bool := !o.del || decide (o.val = [])
/-- the bytes, the error's number -/
def encode (ops : List BOp) : List UInt8 × Nat := if risesB ops = false then ([], 4) else if ops.all formB = false then ([], 7) else (encAll ops, 0)
theorem risesB_iff : ∀ {l : List BOp}, risesB l = true ↔ Rising BOp.key l
  | [] => ⟨fun _ => List.Pairwise.nil, fun _ => rfl⟩
  | [a] => ⟨fun _ => List.pairwise_cons.2 ⟨fun _ h => absurd h (by simp), List.Pairwise.nil⟩, fun _ => rfl⟩
  | a :: b :: r => by
    unfold risesB
    rw [Bool.and_eq_true, risesB_iff (l := b :: r)]
    constructor
    · rintro ⟨h1, h2⟩
      refine List.pairwise_cons.2 ⟨fun y hy => ?_, h2⟩
      rcases List.mem_cons.1 hy with e | e
      · rw [e]; exact h1
      · exact tl_tr h1 ((List.pairwise_cons.1 h2).1 y e)
    · intro h
      obtain ⟨h1, h2⟩ := List.pairwise_cons.1 h
      exact ⟨h1 b (List.mem_cons_self ..), h2⟩
theorem formB_iff {o : BOp} : formB o = true ↔ o.nrm = o := by
  obtain ⟨d, k, v⟩ := o
  unfold formB BOp.nrm
  cases d
  · simp
  · simp [eq_comm]
/-- one op read, behind the key before -/
def rdOp (first : Bool) (last : List UInt8) : List UInt8 → Rd BOp
  | [] => .bad 1
  | b :: t => if 1 < b.toNat then .bad 7 else match rtx 2147483647 t with
    | .bad e => .bad e
    | .ok k t => if first = false ∧ Op.bytesLess last k = false then .bad 4 else if b.toNat = 1 then .ok ⟨true, k, []⟩ t else match rtx 2147483647 t with
      | .bad e => .bad e
      | .ok v t => .ok ⟨false, k, v⟩ t
def rdOps : Nat → Bool → List UInt8 → List UInt8 → Rd (List BOp)
  | 0, _, _, l => .ok [] l
  | n + 1, first, last, l => match rdOp first last l with
    | .bad e => .bad e
    | .ok o t => match rdOps n false o.key t with
      | .bad e => .bad e
      | .ok os t => .ok (o :: os) t
/-- the batch of bytes, the error's number -/
def decode (s : List UInt8) : List BOp × Nat := match ru s with
  | .bad e => ([], e)
  | .ok n t => match rdOps n true [] t with
    | .bad e => ([], e)
    | .ok os t => if t = [] then (os, 0) else ([], 5)
theorem ruG_more : ∀ (l : List UInt8) (i acc : Nat) (x : Nat) (t m : List UInt8), ruG l i acc = .ok x t → ruG (l ++ m) i acc = .ok x (t ++ m)
  | [], _, _, _, _, _, h => by cases h
  | b :: l, i, acc, x, t, m, h => by
    rw [List.cons_append]
    unfold ruG at h ⊢
    split
    · rename_i c; rw [if_pos c] at h; cases h
    · rename_i c
      rw [if_neg c] at h
      split
      · rename_i c2
        rw [if_pos c2] at h
        split
        · rename_i c3; rw [if_pos c3] at h; cases h
        · rename_i c3; rw [if_neg c3] at h; cases h; rfl
      · rename_i c2
        rw [if_neg c2] at h
        exact ruG_more l _ _ _ _ _ h
theorem ru_more {l t : List UInt8} {x : Nat} (m : List UInt8) (h : ru l = .ok x t) : ru (l ++ m) = .ok x (t ++ m) := ruG_more l 0 0 x t m h
theorem rtx_more {most : Nat} {l s t : List UInt8} (m : List UInt8) (h : rtx most l = .ok s t) : rtx most (l ++ m) = .ok s (t ++ m) := by
  unfold rtx at h ⊢
  cases hr : ru l with
  | bad e => rw [hr] at h; cases h
  | ok n t' =>
    rw [hr] at h
    rw [ru_more m hr]
    dsimp only at h ⊢
    split at h
    · cases h
    · rename_i c
      rw [if_neg c]
      split at h
      · cases h
      · rename_i c2
        rw [if_neg (by rw [List.length_append]; omega)]
        cases h
        rw [List.take_append_of_le_length (by omega), List.drop_append_of_le_length (by omega)]
theorem rdOp_more {f : Bool} {last l t : List UInt8} {o : BOp} (m : List UInt8) (h : rdOp f last l = .ok o t) : rdOp f last (l ++ m) = .ok o (t ++ m) := by
  cases l with
  | nil => cases h
  | cons b l =>
    rw [List.cons_append]
    unfold rdOp at h ⊢
    dsimp only at h ⊢
    split
    · rename_i c; rw [if_pos c] at h; cases h
    · rename_i c
      rw [if_neg c] at h
      cases hk : rtx 2147483647 l with
      | bad e => rw [hk] at h; cases h
      | ok k t1 =>
        rw [hk] at h
        rw [rtx_more m hk]
        dsimp only at h ⊢
        split
        · rename_i c2; rw [if_pos c2] at h; cases h
        · rename_i c2
          rw [if_neg c2] at h
          split
          · rename_i c3; rw [if_pos c3] at h; cases h; rfl
          · rename_i c3
            rw [if_neg c3] at h
            cases hv : rtx 2147483647 t1 with
            | bad e => rw [hv] at h; cases h
            | ok v t2 =>
              rw [hv] at h
              rw [rtx_more m hv]
              cases h; rfl
theorem rdOps_more : ∀ (n : Nat) {f : Bool} {last l t : List UInt8} {os : List BOp} (m : List UInt8), rdOps n f last l = .ok os t → rdOps n f last (l ++ m) = .ok os (t ++ m)
  | 0, _, _, _, _, _, _, h => by cases h; rfl
  | n + 1, f, last, l, t, os, m, h => by
    unfold rdOps at h ⊢
    cases ho : rdOp f last l with
    | bad e => rw [ho] at h; cases h
    | ok o t1 =>
      rw [ho] at h
      rw [rdOp_more m ho]
      dsimp only at h ⊢
      cases hr : rdOps n false o.key t1 with
      | bad e => rw [hr] at h; cases h
      | ok os' t2 =>
        rw [hr] at h
        rw [rdOps_more n m hr]
        cases h; rfl
def Fit (o : BOp) : Prop := o.key.length ≤ 2147483647 ∧ o.val.length ≤ 2147483647
theorem rdOp_enc {f : Bool} {last t : List UInt8} {o : BOp} (ho : o.nrm = o) (hf : Fit o) (hl : f = false → Op.bytesLess last o.key = true) : rdOp f last (encOp o ++ t) = .ok o t := by
  obtain ⟨d, k, v⟩ := o
  have hlt : ¬ (f = false ∧ Op.bytesLess last k = false) := fun ⟨a, b⟩ => by rw [hl a] at b; cases b
  cases d with
  | true =>
    have hv : v = [] := by unfold BOp.nrm at ho; exact (BOp.mk.inj ho).2.2.symm
    subst hv
    show rdOp f last ((1 :: tx k) ++ t) = _
    rw [List.cons_append]
    unfold rdOp
    dsimp only
    rw [if_neg (by decide), rtx_tx _ _ _ hf.1 (Nat.lt_of_le_of_lt hf.1 (by decide))]
    dsimp only
    rw [if_neg hlt, if_pos (by decide)]
  | false =>
    show rdOp f last ((0 :: (tx k ++ tx v)) ++ t) = _
    rw [List.cons_append, List.append_assoc]
    unfold rdOp
    dsimp only
    rw [if_neg (by decide), rtx_tx _ _ _ hf.1 (Nat.lt_of_le_of_lt hf.1 (by decide))]
    dsimp only
    rw [if_neg hlt, if_neg (by decide), rtx_tx _ _ _ hf.2 (Nat.lt_of_le_of_lt hf.2 (by decide))]
theorem rdOps_enc : ∀ (os : List BOp) (f : Bool) (last t : List UInt8), Rising BOp.key os → (∀ o ∈ os, o.nrm = o ∧ Fit o) → (f = false → ∀ o ∈ os, Op.bytesLess last o.key = true) → rdOps os.length f last (encOps os ++ t) = .ok os t
  | [], _, _, _, _, _, _ => rfl
  | o :: os, f, last, t, hr, hn, hl => by
    obtain ⟨h1, h2⟩ := List.pairwise_cons.1 hr
    have e : encOps (o :: os) ++ t = encOp o ++ (encOps os ++ t) := by unfold encOps; rw [List.flatMap_cons, List.append_assoc]
    rw [e]
    show rdOps (os.length + 1) f last _ = _
    unfold rdOps
    obtain ⟨hn1, hn2⟩ := hn o (List.mem_cons_self ..)
    rw [rdOp_enc hn1 hn2 fun q => hl q o (List.mem_cons_self ..)]
    dsimp only
    rw [rdOps_enc os false o.key t h2 (fun p hp => hn p (List.mem_cons_of_mem _ hp)) fun _ p hp => h1 p hp]
theorem decode_enc {os : List BOp} (t : List UInt8) (hr : Rising BOp.key os) (hn : ∀ o ∈ os, o.nrm = o ∧ Fit o) (hl : os.length < 2 ^ 64) : decode (encAll os ++ t) = if t = [] then (os, 0) else ([], 5) := by
  unfold decode encAll
  rw [List.append_assoc, ru_vu _ hl]
  dsimp only
  rw [rdOps_enc os true [] t hr hn fun q => by cases q]
/-- the errors of reads are never 0 -/
theorem ruG_bad : ∀ (l : List UInt8) (i acc e : Nat), ruG l i acc = .bad e → e ≠ 0
  | [], _, _, _, h => by cases h; decide
  | b :: l, i, acc, e, h => by
    unfold ruG at h
    split at h
    · cases h; decide
    split at h
    · split at h
      · cases h; decide
      · cases h
    · exact ruG_bad l _ _ _ h
theorem rtx_bad {most : Nat} {l : List UInt8} {e : Nat} (h : rtx most l = .bad e) : e ≠ 0 := by
  unfold rtx at h
  cases hr : ru l with
  | bad e' => rw [hr] at h; cases h; exact ruG_bad l 0 0 _ hr
  | ok n t =>
    rw [hr] at h
    dsimp only at h
    split at h
    · cases h; decide
    split at h
    · cases h; decide
    · cases h
theorem rdOp_bad {f : Bool} {last l : List UInt8} {e : Nat} (h : rdOp f last l = .bad e) : e ≠ 0 := by
  cases l with
  | nil => cases h; decide
  | cons b l =>
    unfold rdOp at h
    dsimp only at h
    split at h
    · cases h; decide
    · cases hk : rtx 2147483647 l with
      | bad e' => rw [hk] at h; cases h; exact rtx_bad hk
      | ok k t =>
        rw [hk] at h
        dsimp only at h
        split at h
        · cases h; decide
        split at h
        · cases h
        · cases hv : rtx 2147483647 t with
          | bad e' => rw [hv] at h; cases h; exact rtx_bad hv
          | ok v t => rw [hv] at h; cases h
theorem rdOps_bad : ∀ (n : Nat) {f : Bool} {last l : List UInt8} {e : Nat}, rdOps n f last l = .bad e → e ≠ 0
  | 0, _, _, _, _, h => by cases h
  | n + 1, f, last, l, e, h => by
    unfold rdOps at h
    cases ho : rdOp f last l with
    | bad e' => rw [ho] at h; cases h; exact rdOp_bad ho
    | ok o t =>
      rw [ho] at h
      dsimp only at h
      cases hr : rdOps n false o.key t with
      | bad e' => rw [hr] at h; cases h; exact rdOps_bad n hr
      | ok os t2 => rw [hr] at h; cases h
/-- what is refused has no ops -/
theorem decode_cases (s : List UInt8) : ((decode s).2 ≠ 0 ∧ (decode s).1 = []) ∨ ∃ n t os, ru s = .ok n t ∧ rdOps n true [] t = .ok os [] ∧ decode s = (os, 0) := by
  unfold decode
  cases hr : ru s with
  | bad e => exact .inl ⟨ruG_bad s 0 0 _ hr, rfl⟩
  | ok n t =>
    dsimp only
    cases ho : rdOps n true [] t with
    | bad e => exact .inl ⟨rdOps_bad n ho, rfl⟩
    | ok os t2 =>
      dsimp only
      split
      · rename_i e; subst e; exact .inr ⟨n, t, os, rfl, ho, rfl⟩
      · exact .inl ⟨by decide, rfl⟩
/-- a beginning of what is read to its end is refused -/
theorem decode_cut {s : List UInt8} {os : List BOp} (h : decode s = (os, 0)) {c : Nat} (hc : c < s.length) : (decode (s.take c)).2 ≠ 0 ∧ (decode (s.take c)).1 = [] := by
  rcases decode_cases (s.take c) with q | ⟨n, t, os', h1, h2, h3⟩
  · exact q
  · have e : s.take c ++ s.drop c = s := List.take_append_drop c s
    have hd : s.drop c ≠ [] := fun q => by have := congrArg List.length q; rw [List.length_drop] at this; simp at this; omega
    have := ru_more (s.drop c) h1
    rw [e] at this
    have h5 := rdOps_more n (s.drop c) h2
    unfold decode at h
    rw [this] at h
    dsimp only at h
    rw [h5] at h
    dsimp only at h
    rw [if_neg (by rw [List.nil_append]; exact hd)] at h
    cases h
theorem rdOp_back {f : Bool} {last l t : List UInt8} {o : BOp} (h : rdOp f last l = .ok o t) : l = encOp o ++ t ∧ o.nrm = o ∧ (f = false → Op.bytesLess last o.key = true) := by
  cases l with
  | nil => cases h
  | cons b l =>
    unfold rdOp at h
    dsimp only at h
    split at h
    · cases h
    · rename_i c
      cases hk : rtx 2147483647 l with
      | bad e' => rw [hk] at h; cases h
      | ok k t1 =>
        rw [hk] at h
        dsimp only at h
        split at h
        · cases h
        · rename_i c2
          have hlt : f = false → Op.bytesLess last k = true := fun q => by
            cases e : Op.bytesLess last k with
            | true => rfl
            | false => exact absurd ⟨q, e⟩ c2
          obtain ⟨k1, -⟩ := tx_rtx hk
          split at h
          · rename_i c3
            cases h
            refine ⟨?_, rfl, hlt⟩
            show _ = (1 :: tx k) ++ t
            rw [List.cons_append, ← k1]
            congr 1
            exact UInt8.toNat.inj c3
          · rename_i c3
            cases hv : rtx 2147483647 t1 with
            | bad e' => rw [hv] at h; cases h
            | ok v t2 =>
              rw [hv] at h
              cases h
              obtain ⟨v1, -⟩ := tx_rtx hv
              refine ⟨?_, rfl, hlt⟩
              show _ = (0 :: (tx k ++ tx v)) ++ t
              rw [List.cons_append, List.append_assoc, ← v1, ← k1]
              congr 1
              exact UInt8.toNat.inj (show b.toNat = (0 : UInt8).toNat by show b.toNat = 0; omega)
theorem rdOps_back : ∀ (n : Nat) {f : Bool} {last l t : List UInt8} {os : List BOp}, rdOps n f last l = .ok os t → l = encOps os ++ t ∧ os.length = n ∧ Rising BOp.key os ∧ (∀ o ∈ os, o.nrm = o) ∧ (f = false → ∀ o ∈ os, Op.bytesLess last o.key = true)
  | 0, _, _, _, _, _, h => by cases h; exact ⟨rfl, rfl, List.Pairwise.nil, fun _ q => absurd q (by simp), fun _ _ q => absurd q (by simp)⟩
  | n + 1, f, last, l, t, os, h => by
    unfold rdOps at h
    cases ho : rdOp f last l with
    | bad e' => rw [ho] at h; cases h
    | ok o t1 =>
      rw [ho] at h
      dsimp only at h
      cases hr : rdOps n false o.key t1 with
      | bad e' => rw [hr] at h; cases h
      | ok os' t2 =>
        rw [hr] at h
        cases h
        obtain ⟨a1, a2, a3⟩ := rdOp_back ho
        obtain ⟨b1, b2, b3, b4, b5⟩ := rdOps_back n hr
        refine ⟨?_, by rw [List.length_cons, b2], List.pairwise_cons.2 ⟨b5 rfl, b3⟩, fun p hp => ?_, fun q p hp => ?_⟩
        · unfold encOps; rw [List.flatMap_cons, List.append_assoc, a1, b1]; rfl
        · rcases List.mem_cons.1 hp with e | e
          · rw [e]; exact a2
          · exact b4 p e
        · rcases List.mem_cons.1 hp with e | e
          · rw [e]; exact a3 q
          · exact tl_tr (a3 q) (b5 rfl p e)
theorem decode_back {s : List UInt8} {os : List BOp} (h : decode s = (os, 0)) : encode os = (s, 0) := by
  rcases decode_cases s with q | ⟨n, t, os', h1, h2, h3⟩
  · rw [h] at q; exact absurd rfl q.1
  · rw [h] at h3
    cases h3
    obtain ⟨b1, b2, b3, b4, -⟩ := rdOps_back n h2
    obtain ⟨v1, -⟩ := vu_ru h1
    unfold encode
    rw [if_neg (by rw [risesB_iff.2 b3]; decide), if_neg (by rw [List.all_eq_true.2 fun o ho => formB_iff.2 (b4 o ho)]; decide)]
    unfold encAll
    rw [b2, v1, b1, List.append_nil]
end Go.Proofs.YtehheokalgmbgaaDoor
