/-
  RlQ.
-/
import Derived.Test.YtehheokalgmbgaaBAW
import Derived.Test.YtehheokalgmbgaaBAX
/-
  Chapter 24 (rail), plain laws: the table by rising token is the one list; answers of a token.
-/
namespace Go.Proofs.Ytehheokalgmbgaa
open Go Go.RowKit
abbrev RH := List (RMsg × Int)
/-- put into a list that rises, if its token is not there -/
def ins (l : List REff) (x : REff) : List REff := match l with
  | [] => [x]
  | y :: r => if Op.bytesLess y.token x.token = true then y :: ins r x else if y.token = x.token then y :: r else x :: y :: r
/-- how many come ahead -/
def insAt (l : List REff) (t : List UInt8) : Nat := match l with
  | [] => 0
  | y :: r => if Op.bytesLess y.token t = true then insAt r t + 1 else 0
theorem insAt_le (l : List REff) (t : List UInt8) : insAt l t ≤ l.length := by
  induction l with
  | nil => exact Nat.le_refl _
  | cons y r ih => unfold insAt; split <;> simp [ih]
theorem insAt_less (l : List REff) (t : List UInt8) : ∀ (i : Nat) (y : REff), i < insAt l t → l[i]? = some y → Op.bytesLess y.token t = true := by
  induction l with
  | nil => intro i y _ h; simp at h
  | cons z r ih =>
    intro i y hi h
    unfold insAt at hi
    split at hi
    · rename_i hz
      cases i with
      | zero => cases h; exact hz
      | succ i => exact ih i y (by omega) h
    · omega
theorem insAt_stop (l : List REff) (t : List UInt8) {y : REff} (h : l[insAt l t]? = some y) : Op.bytesLess y.token t = false := by
  induction l with
  | nil => simp [insAt] at h
  | cons z r ih =>
    unfold insAt at h
    split at h
    · exact ih h
    · rename_i hz; cases h; simpa using hz
theorem ins_here {l : List REff} {x y : REff} (h : l[insAt l x.token]? = some y) (e : y.token = x.token) : ins l x = l := by
  induction l with
  | nil => simp at h
  | cons z r ih =>
    unfold insAt at h
    unfold ins
    split at h
    · rename_i hz; rw [if_pos hz, ih h]
    · rename_i hz; cases h; rw [if_neg hz, if_pos e]
theorem ins_at {l : List REff} {x : REff} (h : ∀ y, l[insAt l x.token]? = some y → y.token ≠ x.token) : ins l x = l.take (insAt l x.token) ++ [x] ++ l.drop (insAt l x.token) := by
  induction l with
  | nil => rfl
  | cons z r ih =>
    unfold insAt at h ⊢
    unfold ins
    split at h
    · rename_i hz; rw [if_pos hz, ih h, if_pos hz]; rfl
    · rename_i hz; rw [if_neg hz, if_neg (h z rfl), if_neg hz]; rfl
theorem ins_mem {l : List REff} {x y : REff} (hx : ∀ z ∈ l, z.token = x.token → z = x) : y ∈ ins l x ↔ y ∈ l ∨ y = x := by
  induction l with
  | nil => simp [ins]
  | cons z r ih =>
    unfold ins
    split
    · rw [List.mem_cons, ih fun w hw => hx w (List.mem_cons_of_mem _ hw), List.mem_cons, or_assoc]
    · split
      · rename_i e
        have hz := hx z (List.mem_cons_self ..) e
        constructor
        · exact fun h => .inl h
        · rintro (h | h)
          · exact h
          · rw [h, ← hz]; exact List.mem_cons_self ..
      · simp only [List.mem_cons]
        constructor
        · rintro (h | h)
          · exact .inr h
          · exact .inl h
        · rintro (h | h)
          · exact .inr h
          · exact .inl h
theorem ins_rising {l : List REff} {x : REff} (h : Rising REff.token l) (hx : ∀ z ∈ l, z.token = x.token → z = x) : Rising REff.token (ins l x) := by
  induction l with
  | nil => exact List.pairwise_cons.2 ⟨fun _ h => absurd h (by simp), List.Pairwise.nil⟩
  | cons z r ih =>
    obtain ⟨h1, h2⟩ := List.pairwise_cons.1 h
    unfold ins
    split
    · rename_i hz
      refine List.pairwise_cons.2 ⟨fun y hy => ?_, ih h2 fun w hw => hx w (List.mem_cons_of_mem _ hw)⟩
      rcases (ins_mem fun w hw => hx w (List.mem_cons_of_mem _ hw)).1 hy with hy | hy
      · exact h1 y hy
      · rw [hy]; exact hz
    · rename_i hz
      split
      · exact h
      · rename_i e
        have hxz : Op.bytesLess x.token z.token = true := tl_not (by simpa using hz) e
        refine List.pairwise_cons.2 ⟨fun y hy => ?_, h⟩
        rcases List.mem_cons.1 hy with hy | hy
        · rw [hy]; exact hxz
        · exact tl_tr hxz (h1 y hy)
/-- the document's list after some of what it has heard -/
def effsUp (hs : RH) : RH → List REff → List REff
  | [], l => l
  | h :: r, l => effsUp hs r (match effect hs h.1.token with | none => l | some x => ins l x)
def effs (hs : RH) : List REff := effsUp hs hs []
theorem effsUp_keep {hs : RH} : ∀ {r : RH} {l : List REff}, Rising REff.token l → (∀ x ∈ l, effect hs x.token = some x) →
    Rising REff.token (effsUp hs r l) ∧ (∀ x ∈ effsUp hs r l, effect hs x.token = some x) ∧ (∀ x ∈ l, x ∈ effsUp hs r l) ∧ (∀ h ∈ r, ∀ x, effect hs h.1.token = some x → x ∈ effsUp hs r l)
  | [], l, h1, h2 => ⟨h1, h2, fun _ q => q, fun _ q => absurd q (by simp)⟩
  | h :: r, l, h1, h2 => by
    unfold effsUp
    split
    · rename_i he
      obtain ⟨a, b, c, d⟩ := effsUp_keep (r := r) h1 h2
      refine ⟨a, b, c, fun g hg x hx => ?_⟩
      rcases List.mem_cons.1 hg with e | e
      · subst e; rw [he] at hx; cases hx
      · exact d g e x hx
    · rename_i y he
      have hy : y.token = h.1.token := (effect_some he).1
      have hu : ∀ z ∈ l, z.token = y.token → z = y := fun z hz e => by
        have := h2 z hz
        rw [e, hy, he] at this
        cases this; rfl
      obtain ⟨a, b, c, d⟩ := effsUp_keep (r := r) (ins_rising h1 hu) fun x hx => by
        rcases (ins_mem hu).1 hx with q | q
        · exact h2 x q
        · rw [q, hy]; exact he
      refine ⟨a, b, fun x hx => c x ((ins_mem hu).2 (.inl hx)), fun g hg x hx => ?_⟩
      rcases List.mem_cons.1 hg with e | e
      · subst e
        rw [he] at hx
        cases hx
        exact c _ ((ins_mem hu).2 (.inr rfl))
      · exact d g e x hx
theorem effs_rising (hs : RH) : Rising REff.token (effs hs) := (effsUp_keep List.Pairwise.nil (fun _ q => absurd q (by simp))).1
theorem effs_mem (hs : RH) (x : REff) : x ∈ effs hs ↔ effect hs x.token = some x := by
  obtain ⟨_, b, _, d⟩ := effsUp_keep (hs := hs) (r := hs) (l := []) List.Pairwise.nil (fun _ q => absurd q (by simp))
  refine ⟨b x, fun h => ?_⟩
  have h' := h
  unfold effect at h'
  obtain ⟨g, hg, h'⟩ := List.exists_of_findSome?_eq_some h'
  split at h'
  · rename_i e
    exact d g hg x (by rw [e]; exact h)
  · cases h'
/-- a table's values in order are the document's list -/
theorem tab_effs {hs : RH} {tab : List (List UInt8 × REff)} {l : List REff} (h : TabOk hs tab) (hp : l.Perm (tab.map (·.2))) (hs' : l.Pairwise fun x y => Op.bytesLess y.token x.token = false) : l = effs hs := by
  have hm : ∀ x, x ∈ l ↔ effect hs x.token = some x := fun x => by
    rw [hp.mem_iff, List.mem_map]
    constructor
    · rintro ⟨p, hp, rfl⟩
      have q := lk_of h.1 hp
      rw [h.2] at q
      rw [(effect_some q).1]; exact q
    · intro q
      have := h.2 x.token
      rw [q] at this
      exact ⟨_, lk_mem this, rfl⟩
  have hn : (l.map REff.token).Nodup := by
    refine ((hp.map REff.token).nodup_iff).2 ?_
    have e : (tab.map (·.2)).map REff.token = tab.map (·.1) := by
      rw [List.map_map]
      refine List.map_congr_left fun p hp => ?_
      have q := lk_of h.1 hp
      rw [h.2] at q
      exact (effect_some q).1
    rw [e]; exact h.1
  refine rising_eq ?_ (effs_rising hs) fun x => (hm x).trans (effs_mem hs x).symm
  have hn' : l.Pairwise fun x y => x.token ≠ y.token := List.pairwise_map.1 hn
  exact (hs'.and hn').imp fun ⟨a, b⟩ => tl_not a fun e => b e.symm
/-- what is heard of one token -/
def only (tok : List UInt8) (hs : RH) : RH := hs.filter fun h => decide (h.1.token = tok)
theorem effect_only (tok : List UInt8) (hs : RH) : effect (only tok hs) tok = effect hs tok := by
  unfold effect only
  induction hs with
  | nil => rfl
  | cons h r ih =>
    rw [List.filter_cons]
    by_cases e : h.1.token = tok
    · rw [if_pos (by simpa using e), List.findSome?_cons, List.findSome?_cons, ih]
    · rw [if_neg (by simpa using e), List.findSome?_cons, if_neg e, ih]
theorem only_append (tok : List UInt8) (hs : RH) (m : RMsg) (v : Int) : only tok (hs ++ [(m, v)]) = if m.token = tok then only tok hs ++ [(m, v)] else only tok hs := by
  unfold only
  rw [List.filter_append]
  by_cases e : m.token = tok
  · simp [e]
  · simp [e]
theorem answer_only (N : Int) (tok : List UInt8) (hs : RH) (m : RMsg) (v : Int) (e : m.token = tok) : answer N (only tok hs) m v = answer N hs m v := by
  unfold answer
  have : effect (only tok hs ++ [(m, v)]) m.token = effect (hs ++ [(m, v)]) m.token := by
    rw [e, effect_append, effect_append, effect_only]
  rw [this]
theorem effs_only (tok : List UInt8) (hs : RH) : effs (only tok hs) = (effect hs tok).toList := by
  have hr : Rising REff.token (effect hs tok).toList := by
    cases effect hs tok with
    | none => exact List.Pairwise.nil
    | some x => exact List.pairwise_cons.2 ⟨fun _ h => absurd h (by simp), List.Pairwise.nil⟩
  refine rising_eq (effs_rising _) hr fun x => ?_
  rw [effs_mem]
  constructor
  · intro h
    have ht : x.token = tok := by
      have h' := h
      unfold effect at h'
      obtain ⟨g, hg, h'⟩ := List.exists_of_findSome?_eq_some h'
      split at h'
      · rename_i e
        have := (List.mem_filter.1 hg).2
        rw [← e]; simpa using this
      · cases h'
    rw [ht, effect_only] at h
    rw [h]; simp
  · intro h
    cases he : effect hs tok with
    | none => rw [he] at h; simp at h
    | some y =>
      rw [he] at h
      have : x = y := by simpa using h
      subst this
      rw [(effect_some he).1, effect_only]; exact he
/-- once an effect is told, it stays -/
theorem effect_stays {hs : RH} {tok : List UInt8} {x : REff} (h : effect hs tok = some x) (m : RMsg) (v : Int) : effect (hs ++ [(m, v)]) tok = some x := by
  rw [effect_append, h]; rfl
def finalK (k : Int) : Bool := decide (k = 4) || decide (k = 5) || decide (k = 6)
theorem final_effect {hs : RH} {tok : List UInt8} {x : REff} (h : effect hs tok = some x) : finalK x.kind = true := by
  rcases (effect_some h).2 with e | e | e <;> rw [e] <;> rfl
theorem effect_nz {hs : RH} {tok : List UInt8} {x : REff} (h : effect hs tok = some x) : x.kind ≠ 0 := by
  rcases (effect_some h).2 with e | e | e <;> rw [e] <;> decide
variable {N : Int} {hs : RH} {m : RMsg} {v : Int}
theorem hear_yes (h : handled N m = true) : hear N hs m v = hs ++ [(m, v)] := by unfold hear; rw [if_pos h]
theorem hear_no (h : handled N m = false) : hear N hs m v = hs := by unfold hear; rw [h]; rfl
theorem hear_stays {tok : List UInt8} {x : REff} (h : effect hs tok = some x) : effect (hear N hs m v) tok = some x := by
  cases e : handled N m with
  | false => rw [hear_no e]; exact h
  | true => rw [hear_yes e]; exact effect_stays h m v
theorem answer_no (h : handled N m = false) : answer N hs m v = 0 := by unfold answer; rw [if_pos h]
theorem answer_yes (h : handled N m = true) : answer N hs m v = match effect (hs ++ [(m, v)]) m.token with
    | some x => x.kind
    | none => if m.kind = 2 then 7 else if v = 2 then 8 else 0 := by unfold answer; rw [if_neg (by rw [h]; decide)]; generalize effect (hs ++ [(m, v)]) m.token = o; cases o <;> rfl
theorem answer_had {x : REff} (h : handled N m = true) (hx : effect hs m.token = some x) : answer N hs m v = x.kind := by
  rw [answer_yes h, effect_stays hx]
theorem answer_some {x : REff} (h : handled N m = true) (hx : effect (hear N hs m v) m.token = some x) : answer N hs m v = x.kind := by
  rw [hear_yes h] at hx
  rw [answer_yes h, hx]
theorem answer_final (h : answer N hs m v ≠ 0) : finalK (answer N hs m v) = (effect (hear N hs m v) m.token).isSome := by
  cases e : handled N m with
  | false => exact absurd (answer_no e) h
  | true =>
    cases hx : effect (hear N hs m v) m.token with
    | some x => rw [answer_some e hx]; exact final_effect hx
    | none =>
      rw [answer_yes e]
      rw [hear_yes e] at hx
      rw [hx]
      dsimp only
      split
      · rfl
      split
      · rfl
      · rfl
theorem asked_hear : asked (hear N hs m v) m.token m.kind = asked hs m.token m.kind + if handled N m = true then 1 else 0 := by
  cases e : handled N m with
  | false => rw [hear_no e]; rfl
  | true => rw [hear_yes e, asked_append, if_pos ⟨rfl, rfl⟩]; rfl
end Go.Proofs.Ytehheokalgmbgaa
