/-
  Sec, Sec2, Sec3, Sec4, Slo, Slo2, Slo3, Rt, Errq, Calm8, Keep, Liv08, Apart, Open8.
-/
import Derived.Lib.LaidTab
import Derived.Test.YteklldbfdmaafaaDoorGD
/-
  The package checks' sum and the package sector, as plain data, and their contracts.
-/
namespace Go.Proofs.YteklldbfdmaafaaDoor
open Go Go.RowKit

/-! ### the check sum -/
def nibT : List Int := [0, 274646895, 549293790, 820201905, 1098587580, 1361435347, 1640403810, 1905808397, 2197175160, 2460548119, 2722870694, 2987750089, 3280807620, 3553878443, 3811616794, 4084100981]
/-- the table lies in its variable -/
def NibAt (W : World) : Prop := ∀ i, i < 16 → W.cell? ⟨37, i, none⟩ = some (.int .u32 (nibT.getD i 0))
def nibStep (a : Int) : Int := bits .xor .u32 (a.fdiv (2 ^ (min (4 : Int).toNat IntKind.u32.bits))) (nibT.getD (bits .and .u32 a 15).toNat 0)
def crcStep (s : Int) (c : UInt8) : Int := nibStep (nibStep (bits .xor .u32 s (IntKind.u32.wrap c.toNat)))
def crcAll (s : Int) (l : List UInt8) : Int := l.foldl crcStep s
def crcNot (s : Int) : Int := bits .xor .u32 (if IntKind.u32.signed then -1 else IntKind.u32.max) s
def crcSum (l : List UInt8) : Int := crcNot (crcAll (crcNot 0) l)
theorem and15 (a : Int) : 0 ≤ bits .and .u32 a 15 ∧ bits .and .u32 a 15 < ((16 : Nat) : Int) := by
  have h : (BitVec.ofInt 32 a &&& BitVec.ofInt 32 15).toNat ≤ 15 := by
    rw [BitVec.toNat_and]
    exact Nat.and_le_right
  have e : bits .and .u32 a 15 = IntKind.u32.wrap ((BitVec.ofInt 32 a &&& BitVec.ofInt 32 15).toNat) := rfl
  have e2 : IntKind.u32.wrap ((BitVec.ofInt 32 a &&& BitVec.ofInt 32 15).toNat) = ((BitVec.ofInt 32 a &&& BitVec.ofInt 32 15).toNat : Int) % 4294967296 := rfl
  rw [e, e2]
  omega
theorem NibAt.at_ {W : World} (h : NibAt W) (a : Int) : W.cell? ⟨37, 0 + (bits .and .u32 a 15).toNat * 1, none⟩ = some (.int .u32 (nibT.getD (bits .and .u32 a 15).toNat 0)) := by
  have := and15 a
  rw [Nat.zero_add, Nat.mul_one]
  exact h _ (by omega)
theorem crcAll_next (s : Int) (l : List UInt8) (i : Nat) (c : UInt8) (h : l[i]? = some c) : crcAll s (l.take (i + 1)) = crcStep (crcAll s (l.take i)) c := by
  unfold crcAll
  rw [List.take_add_one, h]
  simp

section
variable {P : Program} {W : World} {n : Nat} {E : Env} {H : List SP} {t : TypeId} {x : Operand}
theorem Ev_crcNot {i : Int} (hx : Env.ev E x = some (.int .u32 i)) : Ev P W n E H (.unOp .xor t x) (.int .u32 (crcNot i)) := Ev_compl hx
end
set_option maxHeartbeats 400000 in
set_option maxRecDepth 100000 in
theorem extend_ct {W : World} (hN : NibAt W) (s : Int) (l : List UInt8) (hl : l.length < 4611686018427387904) : Ct Tryd.prog W 129 [.int .u32 s, strV l] [] (fun _ : Unit => .int .u32 (crcNot (crcAll (crcNot s) l))) (fun _ => []) := by
  obtain ⟨A, hA⟩ : ∃ A : Nat → Int, A = fun i => crcAll (crcNot s) (l.take i) := ⟨_, rfl⟩
  have hA0 : crcNot s = A 0 := by rw [hA]; simp [crcAll]
  have hAl : crcAll (crcNot s) l = A l.length := by rw [hA]; simp
  have hAn : ∀ i c, l[i]? = some c → A (i + 1) = crcStep (A i) c := fun i c h => by rw [hA]; exact crcAll_next _ l i c h
  rw [hAl]
  clear hA hAl
  refine Ct.enter Tryd.func129 rfl Tryd.ntmps129 (by simp) (fun R => ?_)
  repeat' (first 
    | (refine is_list ?_; first | (refine KJ_plain ?_) | (refine KJ_nil ?_) | (refine KJ_guard_dec_t rfl rfl rfl (fun _ => ?_) (fun _ => ?_) <;> first | (exfalso; omega) | skip) | (refine KJ_guard_dec_f rfl rfl rfl (fun _ => ?_) (fun _ => ?_) <;> first | (exfalso; omega) | skip) | (refine KJ_guard_yes rfl rfl ?_) | (refine KJ_guard_no rfl rfl rfl rfl ?_))
    | (refine is_oper ?_; first | (refine KJ_ek rfl ?_) | (refine KJ_ek0 ?_))
    | (refine is_ek ?_; first | (refine ek_move ?_; first | (refine EK_ev (Ev_move rfl) ?_)) | (refine ek_assign ?_; first | (refine EK_ev (Ev_assign rfl) ?_)) | (refine ek_load ?_; first | (refine EK_ev (Ev_load rfl (by (repeat' (first | exact Sel.here | apply Sel.there)); first | done | fail) (by rfl)) ?_) | (refine EK_ev (Ev_loadOld rfl (by assumption)) ?_) | (refine EK_ev (Ev_loadAgg rfl (by (repeat' (first | exact Sel.here | apply Sel.there)); first | done | fail) (by (repeat' (first | exact Cut.nil | apply Cut.cons | apply Cut.skip)); first | done | fail)) ?_)) | (refine ek_un ?_; first | (refine EK_ev (Ev_crcNot rfl) ?_) | (refine EK_ev (Ev_notD rfl) ?_) | (refine EK_ev (Ev_not rfl) ?_) | (refine EK_ev (Ev_neg rfl) ?_)) | (refine ek_conv ?_; first | (refine EK_ev (Ev_convI64 rfl (by omega)) ?_) | (refine EK_ev (Ev_convI rfl) ?_) | (refine EK_ev (Ev_convS rfl) ?_)) | (refine ek_indexAddr ?_; first | (refine EK_ev (Ev_indexSlice rfl rfl (by omega)) ?_) | (refine EK_ev (Ev_indexArr rfl rfl (by omega)) ?_)) | (refine ek_len ?_; first | (refine EK_ev (Ev_len_str rfl) ?_) | (refine EK_ev (Ev_len_slice rfl) ?_) | (refine EK_ev (Ev_len_arr rfl) ?_) | (refine EK_ev (Ev_len_map rfl (by (repeat' (first | exact Sel.here | apply Sel.there)); first | done | fail)) ?_)) | (refine ek_add ?_; first | (refine EK_ev (Ev_addI rfl rfl (by omega)) ?_) | (refine EK_ev (Ev_addS rfl rfl (by simp <;> omega)) ?_) | (refine EK_ev (Ev_add rfl rfl) ?_)) | (refine ek_shr ?_; first | (refine EK_ev (Ev_shr rfl rfl (by omega)) ?_)) | (refine ek_lss ?_; first | (refine EK_ev (Ev_lssI rfl rfl) ?_) | (refine EK_ev (Ev_lssS rfl rfl) ?_)))
    | (refine is_ex ?_; first | (refine KJ_seq_normal ?_) | (refine KJ_seq_ret ?_) | (refine KJ_seq_exit ?_) | (refine KJ_thn_normal ?_) | (refine KJ_thn_ret ?_) | (refine KJ_thn_exit ?_) | (refine KJ_blk_normal ?_) | (refine KJ_blk_ret ?_) | (refine KJ_blk_exit ?_) | (refine KJ_blk_exit' rfl ?_))
    | (refine is_code ?_; first | (refine KJ_seq ?_) | (refine KJ_region ?_) | (refine KJ_cond_dec rfl (fun _ => ?_) (fun _ => ?_) <;> first | (exfalso; omega) | skip) | (refine KJ_cond_t rfl ?_) | (refine KJ_cond_f rfl ?_) | (refine KJ_skip ?_) | (refine KJ_ret ?_) | (refine KJ_exit ?_) | (refine KJ_block ?_)))
  rw [hA0]
  refine KJ_loop (fun i : {k : Nat // k ≤ l.length} => [(0, .int .u32 (A i.1)), (1, strV l), (5, .int .i64 (i.1 : Nat))]) (fun _ => R) (fun i => l.length - i.1) ⟨0, by omega⟩ (by (repeat' (first | exact Subs.nil | refine Subs.cons rfl ?_)); first | done | fail) (fun _ q => q) (fun ⟨k, hk⟩ => ?_)
  dsimp only
  by_cases hlt : k < l.length
  · obtain ⟨c, hc⟩ : ∃ c, l[k]? = some c := ⟨_, List.getElem?_eq_getElem hlt⟩
    have hnx := hAn k c hc
    have hc' : l[(k : Int).toNat]? = some c := by rw [Int.toNat_natCast]; exact hc
    repeat' (first 
    | (refine is_list ?_; first | (refine KJ_plain ?_) | (refine KJ_nil ?_) | (refine KJ_guard_dec_t rfl rfl rfl (fun _ => ?_) (fun _ => ?_) <;> first | (exfalso; omega) | skip) | (refine KJ_guard_dec_f rfl rfl rfl (fun _ => ?_) (fun _ => ?_) <;> first | (exfalso; omega) | skip) | (refine KJ_guard_yes rfl rfl ?_) | (refine KJ_guard_no rfl rfl rfl rfl ?_))
    | (refine is_oper ?_; first | (refine KJ_ek rfl ?_) | (refine KJ_ek0 ?_))
    | (refine is_ek ?_; first | (refine ek_move ?_; first | (refine EK_ev (Ev_move rfl) ?_)) | (refine ek_assign ?_; first | (refine EK_ev (Ev_assign rfl) ?_)) | (refine ek_load ?_; first | (refine EK_ev (Ev_loadOld rfl (hN.at_ _)) ?_) | (refine EK_ev (Ev_load rfl (by (repeat' (first | exact Sel.here | apply Sel.there)); first | done | fail) (by rfl)) ?_) | (refine EK_ev (Ev_loadOld rfl (by assumption)) ?_) | (refine EK_ev (Ev_loadAgg rfl (by (repeat' (first | exact Sel.here | apply Sel.there)); first | done | fail) (by (repeat' (first | exact Cut.nil | apply Cut.cons | apply Cut.skip)); first | done | fail)) ?_)) | (refine ek_un ?_; first | (refine EK_ev (Ev_notD rfl) ?_) | (refine EK_ev (Ev_not rfl) ?_) | (refine EK_ev (Ev_neg rfl) ?_)) | (refine ek_conv ?_; first | (refine EK_ev (Ev_convI rfl) ?_) | (refine EK_ev (Ev_convI64 rfl (by omega)) ?_) | (refine EK_ev (Ev_convI rfl) ?_) | (refine EK_ev (Ev_convS rfl) ?_)) | (refine ek_indexAddr ?_; first | (refine EK_ev (Ev_indexArr rfl rfl (and15 _)) ?_) | (refine EK_ev (Ev_indexSlice rfl rfl (by omega)) ?_) | (refine EK_ev (Ev_indexArr rfl rfl (by omega)) ?_)) | (refine ek_index ?_; first | (refine EK_ev (Ev_indexStr rfl rfl (by omega) hc') ?_)) | (refine ek_len ?_; first | (refine EK_ev (Ev_len_str rfl) ?_) | (refine EK_ev (Ev_len_slice rfl) ?_) | (refine EK_ev (Ev_len_arr rfl) ?_) | (refine EK_ev (Ev_len_map rfl (by (repeat' (first | exact Sel.here | apply Sel.there)); first | done | fail)) ?_)) | (refine ek_add ?_; first | (refine EK_ev (Ev_addI rfl rfl (by omega)) ?_) | (refine EK_ev (Ev_addS rfl rfl (by simp <;> omega)) ?_) | (refine EK_ev (Ev_add rfl rfl) ?_)) | (refine ek_and ?_; first | (refine EK_ev (Ev_and rfl rfl) ?_)) | (refine ek_xor ?_; first | (refine EK_ev (Ev_xor rfl rfl) ?_)) | (refine ek_shr ?_; first | (refine EK_ev (Ev_shr rfl rfl (by omega)) ?_)) | (refine ek_lss ?_; first | (refine EK_ev (Ev_lssI rfl rfl) ?_) | (refine EK_ev (Ev_lssS rfl rfl) ?_)))
    | (refine is_ex ?_; first | (refine KJ_seq_normal ?_) | (refine KJ_seq_ret ?_) | (refine KJ_seq_exit ?_) | (refine KJ_thn_normal ?_) | (refine KJ_thn_ret ?_) | (refine KJ_thn_exit ?_) | (refine KJ_blk_normal ?_) | (refine KJ_blk_ret ?_) | (refine KJ_blk_exit ?_) | (refine KJ_blk_exit' rfl ?_))
    | (refine is_code ?_; first | (refine KJ_seq ?_) | (refine KJ_region ?_) | (refine KJ_cond_dec rfl (fun _ => ?_) (fun _ => ?_) <;> first | (exfalso; omega) | skip) | (refine KJ_cond_t rfl ?_) | (refine KJ_cond_f rfl ?_) | (refine KJ_skip ?_) | (refine KJ_ret ?_) | (refine KJ_exit ?_) | (refine KJ_block ?_)))
    refine KJ_again ⟨k + 1, by omega⟩ (by show l.length - (k + 1) < l.length - k; omega) ?_ (fun _ q => q)
    rw [hnx]
    exact (by (repeat' (first | exact Subs.nil | refine Subs.cons rfl ?_)); first | done | fail)
  · have hkl : k = l.length := by omega
    subst hkl
    repeat' (first 
    | (refine is_list ?_; first | (refine KJ_plain ?_) | (refine KJ_nil ?_) | (refine KJ_guard_dec_t rfl rfl rfl (fun _ => ?_) (fun _ => ?_) <;> first | (exfalso; omega) | skip) | (refine KJ_guard_dec_f rfl rfl rfl (fun _ => ?_) (fun _ => ?_) <;> first | (exfalso; omega) | skip) | (refine KJ_guard_yes rfl rfl ?_) | (refine KJ_guard_no rfl rfl rfl rfl ?_))
    | (refine is_oper ?_; first | (refine KJ_ek rfl ?_) | (refine KJ_ek0 ?_))
    | (refine is_ek ?_; first | (refine ek_move ?_; first | (refine EK_ev (Ev_move rfl) ?_)) | (refine ek_assign ?_; first | (refine EK_ev (Ev_assign rfl) ?_)) | (refine ek_load ?_; first | (refine EK_ev (Ev_load rfl (by (repeat' (first | exact Sel.here | apply Sel.there)); first | done | fail) (by rfl)) ?_) | (refine EK_ev (Ev_loadOld rfl (by assumption)) ?_) | (refine EK_ev (Ev_loadAgg rfl (by (repeat' (first | exact Sel.here | apply Sel.there)); first | done | fail) (by (repeat' (first | exact Cut.nil | apply Cut.cons | apply Cut.skip)); first | done | fail)) ?_)) | (refine ek_un ?_; first | (refine EK_ev (Ev_crcNot rfl) ?_) | (refine EK_ev (Ev_notD rfl) ?_) | (refine EK_ev (Ev_not rfl) ?_) | (refine EK_ev (Ev_neg rfl) ?_)) | (refine ek_conv ?_; first | (refine EK_ev (Ev_convI64 rfl (by omega)) ?_) | (refine EK_ev (Ev_convI rfl) ?_) | (refine EK_ev (Ev_convS rfl) ?_)) | (refine ek_indexAddr ?_; first | (refine EK_ev (Ev_indexSlice rfl rfl (by omega)) ?_) | (refine EK_ev (Ev_indexArr rfl rfl (by omega)) ?_)) | (refine ek_len ?_; first | (refine EK_ev (Ev_len_str rfl) ?_) | (refine EK_ev (Ev_len_slice rfl) ?_) | (refine EK_ev (Ev_len_arr rfl) ?_) | (refine EK_ev (Ev_len_map rfl (by (repeat' (first | exact Sel.here | apply Sel.there)); first | done | fail)) ?_)) | (refine ek_add ?_; first | (refine EK_ev (Ev_addI rfl rfl (by omega)) ?_) | (refine EK_ev (Ev_addS rfl rfl (by simp <;> omega)) ?_) | (refine EK_ev (Ev_add rfl rfl) ?_)) | (refine ek_shr ?_; first | (refine EK_ev (Ev_shr rfl rfl (by omega)) ?_)) | (refine ek_lss ?_; first | (refine EK_ev (Ev_lssI rfl rfl) ?_) | (refine EK_ev (Ev_lssS rfl rfl) ?_)))
    | (refine is_ex ?_; first | (refine KJ_seq_normal ?_) | (refine KJ_seq_ret ?_) | (refine KJ_seq_exit ?_) | (refine KJ_thn_normal ?_) | (refine KJ_thn_ret ?_) | (refine KJ_thn_exit ?_) | (refine KJ_blk_normal ?_) | (refine KJ_blk_ret ?_) | (refine KJ_blk_exit ?_) | (refine KJ_blk_exit' rfl ?_))
    | (refine is_code ?_; first | (refine KJ_seq ?_) | (refine KJ_region ?_) | (refine KJ_cond_dec rfl (fun _ => ?_) (fun _ => ?_) <;> first | (exfalso; omega) | skip) | (refine KJ_cond_t rfl ?_) | (refine KJ_cond_f rfl ?_) | (refine KJ_skip ?_) | (refine KJ_ret ?_) | (refine KJ_exit ?_) | (refine KJ_block ?_)))
    all_goals (refine is_ex ?_; exact KJ_done (by first | exact Or.inl rfl | exact Or.inr rfl) rfl (by (repeat' (first | exact Rvs.nil | (apply Rvs.tmp; exact rfl))); first | done | fail) () (by rfl) (Ent.of (by (repeat' (first | exact Pick.nil | apply Pick.cons | exact Sel.here | apply Sel.there)); first | done | fail) (by (repeat' (first | exact DropTo.refl | apply DropTo.there)); first | done | fail)))
theorem sum_ct {W : World} (hN : NibAt W) (l : List UInt8) (hl : l.length < 4611686018427387904) : Ct Tryd.prog W 113 [strV l] [] (fun _ : Unit => .int .u32 (crcSum l)) (fun _ => []) := by
  have c1 : Ct Tryd.prog W 129 [.int .u32 0, strV l] [] (fun _ : Unit => .int .u32 (crcSum l)) (fun _ => []) := extend_ct hN 0 l hl
  refine Ct.enter Tryd.func113 rfl Tryd.ntmps113 (by simp) (fun R => ?_)
  repeat' (first 
    | (refine is_list ?_; first | (refine KJ_plain ?_) | (refine KJ_nil ?_) | (refine KJ_guard_dec_t rfl rfl rfl (fun _ => ?_) (fun _ => ?_) <;> first | (exfalso; omega) | skip) | (refine KJ_guard_dec_f rfl rfl rfl (fun _ => ?_) (fun _ => ?_) <;> first | (exfalso; omega) | skip) | (refine KJ_guard_yes rfl rfl ?_) | (refine KJ_guard_no rfl rfl rfl rfl ?_))
    | (refine is_oper ?_; first | (refine is_call ?_; first | (refine KJ_call (by (repeat' (first | exact Evs.nil | refine Evs.cons rfl ?_)); first | done | fail) c1 (by (repeat' (first | exact Pick.nil | apply Pick.cons | exact Sel.here | apply Sel.there)); first | done | fail) rfl (fun _ => ?_))) | (refine KJ_ek rfl ?_) | (refine KJ_ek0 ?_))
    | (refine is_ek ?_; first | (refine ek_move ?_; first | (refine EK_ev (Ev_move rfl) ?_)) | (refine ek_assign ?_; first | (refine EK_ev (Ev_assign rfl) ?_)))
    | (refine is_ex ?_; first | (refine KJ_seq_normal ?_) | (refine KJ_seq_ret ?_) | (refine KJ_seq_exit ?_) | (refine KJ_thn_normal ?_) | (refine KJ_thn_ret ?_) | (refine KJ_thn_exit ?_) | (refine KJ_blk_normal ?_) | (refine KJ_blk_ret ?_) | (refine KJ_blk_exit ?_) | (refine KJ_blk_exit' rfl ?_))
    | (refine is_code ?_; first | (refine KJ_seq ?_) | (refine KJ_region ?_) | (refine KJ_cond_dec rfl (fun _ => ?_) (fun _ => ?_) <;> first | (exfalso; omega) | skip) | (refine KJ_cond_t rfl ?_) | (refine KJ_cond_f rfl ?_) | (refine KJ_skip ?_) | (refine KJ_ret ?_) | (refine KJ_exit ?_) | (refine KJ_block ?_)))
  all_goals (refine is_ex ?_; exact KJ_done (by first | exact Or.inl rfl | exact Or.inr rfl) rfl (by (repeat' (first | exact Rvs.nil | (apply Rvs.tmp; exact rfl))); first | done | fail) () (by rfl) (Ent.of (by (repeat' (first | exact Pick.nil | apply Pick.cons | exact Sel.here | apply Sel.there)); first | done | fail) (by (repeat' (first | exact DropTo.refl | apply DropTo.there)); first | done | fail)))

/-! ### whole numbers as bytes -/
def byteI (x : Int) (i : Nat) : Int := IntKind.u8.wrap (x.fdiv (2 ^ (min (8 * (i : Int)).toNat IntKind.u64.bits)))
def byteAt (x : Int) (i : Nat) : UInt8 := UInt8.ofNat (byteI x i).toNat
theorem byteAt_bv (x : Int) (i : Nat) : Value.int .u8 (byteI x i) = bv (byteAt x i) := by
  have e : byteI x i = (x.fdiv (2 ^ (min (8 * (i : Int)).toNat IntKind.u64.bits))) % 256 := rfl
  have h : 0 ≤ byteI x i ∧ byteI x i < 256 := by rw [e]; omega
  unfold bv byteAt
  rw [UInt8.toNat_ofNat']
  congr 1
  omega
def putB (x : Int) (n : Nat) : List UInt8 := (List.range n).map (byteAt x)
theorem putB_length (x : Int) (n : Nat) : (putB x n).length = n := by simp [putB]
theorem putB_next (x : Int) (n : Nat) : putB x (n + 1) = putB x n ++ [byteAt x n] := by simp [putB, List.range_succ]
theorem lay_snoc (l : List UInt8) (o : Nat) (b : List UInt8) (c : UInt8) (h : o + b.length < l.length) : lay (lay l o b) (o + b.length) [c] = lay l o (b ++ [c]) := by
  unfold lay
  have e1 : (l.take o ++ (b ++ l.drop (o + b.length))).take (o + b.length) = l.take o ++ b := by
    rw [← List.append_assoc, List.take_left' (by simp; omega)]
  have e2 : (l.take o ++ (b ++ l.drop (o + b.length))).drop (o + b.length + [c].length) = l.drop (o + (b ++ [c]).length) := by
    rw [← List.append_assoc, List.drop_append, List.drop_of_length_le (by simp; omega)]
    simp only [List.nil_append, List.drop_drop]
    congr 1
    simp
    omega
  rw [e1, e2]
  simp
theorem lay_next (l : List UInt8) (o : Nat) (b : List UInt8) (c : UInt8) (h : o + b.length < l.length) : lay (bvs (lay l o b)) (o + b.length) [bv c] = bvs (lay l o (b ++ [c])) := by
  rw [show [bv c] = bvs [c] from rfl, bvs_lay, lay_snoc l o b c h]

set_option maxHeartbeats 200000 in
set_option maxRecDepth 100000 in
theorem put_ct {W : World} (g off m c : Nat) (l : List UInt8) (x : Int) (n : Nat) (h1 : n ≤ m) (h2 : off + m ≤ l.length) (h3 : m ≤ 1048576) (T : TypeId) :
    Ct Tryd.prog W 112 [.slice (some ⟨g, off, none⟩) m c, .int .u64 x, .int .i64 (n : Nat)] [cellsP g (bvs l) T] (fun _ : Unit => .tuple #[]) (fun _ => [cellsP g (bvs (lay l off (putB x n))) T]) := by
  refine Ct.enter Tryd.func112 rfl Tryd.ntmps112 (by simp) (fun R => ?_)
  repeat' (first 
    | (refine is_list ?_; first | (refine KJ_plain ?_) | (refine KJ_nil ?_) | (refine KJ_guard_dec_t rfl rfl rfl (fun _ => ?_) (fun _ => ?_) <;> first | (exfalso; omega) | skip) | (refine KJ_guard_dec_f rfl rfl rfl (fun _ => ?_) (fun _ => ?_) <;> first | (exfalso; omega) | skip) | (refine KJ_guard_yes rfl rfl ?_) | (refine KJ_guard_no rfl rfl rfl rfl ?_))
    | (refine is_oper ?_; first | (refine is_store ?_; first | (refine KJ_store rfl rfl (by (repeat' (first | exact Sel.here | apply Sel.there)); first | done | fail) (by first | exact CellsOf.agg | exact CellsOf.one rfl) (by rfl) (by (repeat' (first | exact Ones.nil | exact Ones_bvs _ | refine Ones.cons rfl ?_)); first | done | fail) (by (repeat' (first | exact Laid.nil | apply Laid.cons | apply Laid.skip)); first | done | fail) (by (repeat' (first | exact Rep.here | apply Rep.there)); first | done | fail) ?_)) | (refine KJ_ek rfl ?_) | (refine KJ_ek0 ?_))
    | (refine is_ek ?_; first | (refine ek_move ?_; first | (refine EK_ev (Ev_move rfl) ?_)) | (refine ek_assign ?_; first | (refine EK_ev (Ev_assign rfl) ?_)) | (refine ek_conv ?_; first | (refine EK_ev (Ev_convI64 rfl (by omega)) ?_) | (refine EK_ev (Ev_convI rfl) ?_) | (refine EK_ev (Ev_convS rfl) ?_)) | (refine ek_indexAddr ?_; first | (refine EK_ev (Ev_indexSlice rfl rfl (by omega)) ?_) | (refine EK_ev (Ev_indexArr rfl rfl (by omega)) ?_)) | (refine ek_add ?_; first | (refine EK_ev (Ev_addI rfl rfl (by omega)) ?_) | (refine EK_ev (Ev_addS rfl rfl (by simp <;> omega)) ?_) | (refine EK_ev (Ev_add rfl rfl) ?_)) | (refine ek_mul ?_; first | (refine EK_ev (Ev_mulI rfl rfl (by omega)) ?_) | (refine EK_ev (Ev_mul rfl rfl) ?_)) | (refine ek_shr ?_; first | (refine EK_ev (Ev_shr rfl rfl (by omega)) ?_)) | (refine ek_lss ?_; first | (refine EK_ev (Ev_lssI rfl rfl) ?_) | (refine EK_ev (Ev_lssS rfl rfl) ?_)))
    | (refine is_ex ?_; first | (refine KJ_seq_normal ?_) | (refine KJ_seq_ret ?_) | (refine KJ_seq_exit ?_) | (refine KJ_thn_normal ?_) | (refine KJ_thn_ret ?_) | (refine KJ_thn_exit ?_) | (refine KJ_blk_normal ?_) | (refine KJ_blk_ret ?_) | (refine KJ_blk_exit ?_) | (refine KJ_blk_exit' rfl ?_))
    | (refine is_code ?_; first | (refine KJ_seq ?_) | (refine KJ_region ?_) | (refine KJ_cond_dec rfl (fun _ => ?_) (fun _ => ?_) <;> first | (exfalso; omega) | skip) | (refine KJ_cond_t rfl ?_) | (refine KJ_cond_f rfl ?_) | (refine KJ_skip ?_) | (refine KJ_ret ?_) | (refine KJ_exit ?_) | (refine KJ_block ?_)))
  have h0 : lay l off (putB x 0) = l := lay_nil l off
  refine KJ_loop (fun i : {k : Nat // k ≤ n} => [(0, .slice (some ⟨g, off, none⟩) m c), (1, .int .u64 x), (7, .int .i64 (n : Nat)), (8, .int .i64 (i.1 : Nat))]) (fun i => [cellsP g (bvs (lay l off (putB x i.1))) T] ++ R) (fun i => n - i.1) ⟨0, by omega⟩ (by (repeat' (first | exact Subs.nil | refine Subs.cons rfl ?_)); first | done | fail)
    (by show ∀ h, starL ([cellsP g (bvs l) T] ++ R) h → starL ([cellsP g (bvs (lay l off (putB x 0))) T] ++ R) h; rw [h0]; exact fun _ q => q) (fun ⟨k, hk⟩ => ?_)
  dsimp only
  by_cases hlt : k < n
  · have hlen : (lay l off (putB x k)).length = l.length := lay_length _ _ _ (by rw [putB_length]; omega)
    have hfit : off + (k : Int).toNat * 1 + [Value.int IntKind.u8 (byteI x k)].length ≤ (bvs (lay l off (putB x k))).length := by rw [bvs_length', hlen]; simp; omega
    repeat' (first 
    | (refine is_list ?_; first | (refine KJ_plain ?_) | (refine KJ_nil ?_) | (refine KJ_guard_dec_t rfl rfl rfl (fun _ => ?_) (fun _ => ?_) <;> first | (exfalso; omega) | skip) | (refine KJ_guard_dec_f rfl rfl rfl (fun _ => ?_) (fun _ => ?_) <;> first | (exfalso; omega) | skip) | (refine KJ_guard_yes rfl rfl ?_) | (refine KJ_guard_no rfl rfl rfl rfl ?_))
    | (refine is_oper ?_; first | (refine is_store ?_; first | (refine KJ_store (v := .int .u8 (byteI x k)) rfl rfl (by (repeat' (first | exact Sel.here | apply Sel.there)); first | done | fail) (by first | exact CellsOf.agg | exact CellsOf.one rfl) (by rfl) (by (repeat' (first | exact Ones.nil | exact Ones_bvs _ | refine Ones.cons rfl ?_)); first | done | fail) (Laid.of hfit) (by (repeat' (first | exact Rep.here | apply Rep.there)); first | done | fail) ?_) | (refine KJ_store rfl rfl (by (repeat' (first | exact Sel.here | apply Sel.there)); first | done | fail) (by first | exact CellsOf.agg | exact CellsOf.one rfl) (by rfl) (by (repeat' (first | exact Ones.nil | exact Ones_bvs _ | refine Ones.cons rfl ?_)); first | done | fail) (by (repeat' (first | exact Laid.nil | apply Laid.cons | apply Laid.skip)); first | done | fail) (by (repeat' (first | exact Rep.here | apply Rep.there)); first | done | fail) ?_)) | (refine KJ_ek rfl ?_) | (refine KJ_ek0 ?_))
    | (refine is_ek ?_; first | (refine ek_move ?_; first | (refine EK_ev (Ev_move rfl) ?_)) | (refine ek_assign ?_; first | (refine EK_ev (Ev_assign rfl) ?_)) | (refine ek_conv ?_; first | (refine EK_ev (Ev_convI rfl) ?_) | (refine EK_ev (Ev_convI64 rfl (by omega)) ?_) | (refine EK_ev (Ev_convI rfl) ?_) | (refine EK_ev (Ev_convS rfl) ?_)) | (refine ek_indexAddr ?_; first | (refine EK_ev (Ev_indexSlice rfl rfl (by omega)) ?_) | (refine EK_ev (Ev_indexArr rfl rfl (by omega)) ?_)) | (refine ek_add ?_; first | (refine EK_ev (Ev_addI rfl rfl (by omega)) ?_) | (refine EK_ev (Ev_addS rfl rfl (by simp <;> omega)) ?_) | (refine EK_ev (Ev_add rfl rfl) ?_)) | (refine ek_mul ?_; first | (refine EK_ev (Ev_mulI rfl rfl (by omega)) ?_) | (refine EK_ev (Ev_mul rfl rfl) ?_)) | (refine ek_shr ?_; first | (refine EK_ev (Ev_shr rfl rfl (by omega)) ?_)) | (refine ek_lss ?_; first | (refine EK_ev (Ev_lssI rfl rfl) ?_) | (refine EK_ev (Ev_lssS rfl rfl) ?_)))
    | (refine is_ex ?_; first | (refine KJ_seq_normal ?_) | (refine KJ_seq_ret ?_) | (refine KJ_seq_exit ?_) | (refine KJ_thn_normal ?_) | (refine KJ_thn_ret ?_) | (refine KJ_thn_exit ?_) | (refine KJ_blk_normal ?_) | (refine KJ_blk_ret ?_) | (refine KJ_blk_exit ?_) | (refine KJ_blk_exit' rfl ?_))
    | (refine is_code ?_; first | (refine KJ_seq ?_) | (refine KJ_region ?_) | (refine KJ_cond_dec rfl (fun _ => ?_) (fun _ => ?_) <;> first | (exfalso; omega) | skip) | (refine KJ_cond_t rfl ?_) | (refine KJ_cond_f rfl ?_) | (refine KJ_skip ?_) | (refine KJ_ret ?_) | (refine KJ_exit ?_) | (refine KJ_block ?_)))
    refine KJ_again ⟨k + 1, by omega⟩ (by show n - (k + 1) < n - k; omega) (by (repeat' (first | exact Subs.nil | refine Subs.cons rfl ?_)); first | done | fail) ?_
    have e := lay_next l off (putB x k) (byteAt x k) (by rw [putB_length]; omega)
    rw [putB_length, ← putB_next, ← byteAt_bv] at e
    have e3 : off + (k : Int).toNat * 1 = off + k := by simp
    rw [e3, e]
    exact (Ent.of (by (repeat' (first | exact Pick.nil | apply Pick.cons | exact Sel.here | apply Sel.there)); first | done | fail) (by (repeat' (first | exact DropTo.refl | apply DropTo.there)); first | done | fail))
  · have hkn : k = n := by omega
    subst hkn
    repeat' (first 
    | (refine is_list ?_; first | (refine KJ_plain ?_) | (refine KJ_nil ?_) | (refine KJ_guard_dec_t rfl rfl rfl (fun _ => ?_) (fun _ => ?_) <;> first | (exfalso; omega) | skip) | (refine KJ_guard_dec_f rfl rfl rfl (fun _ => ?_) (fun _ => ?_) <;> first | (exfalso; omega) | skip) | (refine KJ_guard_yes rfl rfl ?_) | (refine KJ_guard_no rfl rfl rfl rfl ?_))
    | (refine is_oper ?_; first | (refine is_store ?_; first | (refine KJ_store rfl rfl (by (repeat' (first | exact Sel.here | apply Sel.there)); first | done | fail) (by first | exact CellsOf.agg | exact CellsOf.one rfl) (by rfl) (by (repeat' (first | exact Ones.nil | exact Ones_bvs _ | refine Ones.cons rfl ?_)); first | done | fail) (by (repeat' (first | exact Laid.nil | apply Laid.cons | apply Laid.skip)); first | done | fail) (by (repeat' (first | exact Rep.here | apply Rep.there)); first | done | fail) ?_)) | (refine KJ_ek rfl ?_) | (refine KJ_ek0 ?_))
    | (refine is_ek ?_; first | (refine ek_move ?_; first | (refine EK_ev (Ev_move rfl) ?_)) | (refine ek_assign ?_; first | (refine EK_ev (Ev_assign rfl) ?_)) | (refine ek_conv ?_; first | (refine EK_ev (Ev_convI64 rfl (by omega)) ?_) | (refine EK_ev (Ev_convI rfl) ?_) | (refine EK_ev (Ev_convS rfl) ?_)) | (refine ek_indexAddr ?_; first | (refine EK_ev (Ev_indexSlice rfl rfl (by omega)) ?_) | (refine EK_ev (Ev_indexArr rfl rfl (by omega)) ?_)) | (refine ek_add ?_; first | (refine EK_ev (Ev_addI rfl rfl (by omega)) ?_) | (refine EK_ev (Ev_addS rfl rfl (by simp <;> omega)) ?_) | (refine EK_ev (Ev_add rfl rfl) ?_)) | (refine ek_mul ?_; first | (refine EK_ev (Ev_mulI rfl rfl (by omega)) ?_) | (refine EK_ev (Ev_mul rfl rfl) ?_)) | (refine ek_shr ?_; first | (refine EK_ev (Ev_shr rfl rfl (by omega)) ?_)) | (refine ek_lss ?_; first | (refine EK_ev (Ev_lssI rfl rfl) ?_) | (refine EK_ev (Ev_lssS rfl rfl) ?_)))
    | (refine is_ex ?_; first | (refine KJ_seq_normal ?_) | (refine KJ_seq_ret ?_) | (refine KJ_seq_exit ?_) | (refine KJ_thn_normal ?_) | (refine KJ_thn_ret ?_) | (refine KJ_thn_exit ?_) | (refine KJ_blk_normal ?_) | (refine KJ_blk_ret ?_) | (refine KJ_blk_exit ?_) | (refine KJ_blk_exit' rfl ?_))
    | (refine is_code ?_; first | (refine KJ_seq ?_) | (refine KJ_region ?_) | (refine KJ_cond_dec rfl (fun _ => ?_) (fun _ => ?_) <;> first | (exfalso; omega) | skip) | (refine KJ_cond_t rfl ?_) | (refine KJ_cond_f rfl ?_) | (refine KJ_skip ?_) | (refine KJ_ret ?_) | (refine KJ_exit ?_) | (refine KJ_block ?_)))
    all_goals (refine is_ex ?_; exact KJ_done (by first | exact Or.inl rfl | exact Or.inr rfl) rfl (by (repeat' (first | exact Rvs.nil | (apply Rvs.tmp; exact rfl))); first | done | fail) () (by rfl) (Ent.of (by (repeat' (first | exact Pick.nil | apply Pick.cons | exact Sel.here | apply Sel.there)); first | done | fail) (by (repeat' (first | exact DropTo.refl | apply DropTo.there)); first | done | fail)))
end Go.Proofs.YteklldbfdmaafaaDoor
/-
  The package sector: get, Seal, Ends, Open, as plain data, and their contracts.
-/
namespace Go.Proofs.YteklldbfdmaafaaDoor
open Go Go.RowKit

/-! ### bytes as whole numbers -/
def getPart (x : Int) (i : Nat) (c : UInt8) : Int := bits .or .u64 x (IntKind.u64.wrap (IntKind.u64.wrap c.toNat * 2 ^ (min (8 * (i : Int)).toNat IntKind.u64.bits)))
def getB (l : List UInt8) : Nat → Int
  | 0 => 0
  | n + 1 => getPart (getB l n) n (l.getD n 0)
theorem bits_lt (op : BinOp) (hop : op = .and ∨ op = .or ∨ op = .xor) (x y : Int) (m : Nat) (hm : m ≤ 64) (hx : 0 ≤ x ∧ x < 2 ^ m) (hy : 0 ≤ y ∧ y < 2 ^ m) : 0 ≤ bits op .u64 x y ∧ bits op .u64 x y < 2 ^ m := by
  have hp : (2 : Int) ^ m ≤ 18446744073709551616 := by
    have : (2 : Nat) ^ m ≤ 2 ^ 64 := Nat.pow_le_pow_right (by omega) hm
    have h2 : ((2 ^ m : Nat) : Int) ≤ ((2 ^ 64 : Nat) : Int) := by exact_mod_cast this
    simpa using h2
  have b1 : (BitVec.ofInt 64 x).toNat = x.toNat := by
    rw [BitVec.toNat_ofInt]; omega
  have b2 : (BitVec.ofInt 64 y).toNat = y.toNat := by
    rw [BitVec.toNat_ofInt]; omega
  have hpc : ((2 ^ m : Nat) : Int) = 2 ^ m := by simp
  have hx' : x.toNat < 2 ^ m := by omega
  have hy' : y.toNat < 2 ^ m := by omega
  have key : ∀ r : Nat, r < 2 ^ m → 0 ≤ IntKind.u64.wrap (r : Int) ∧ IntKind.u64.wrap (r : Int) < 2 ^ m := fun r hr => by
    have e : IntKind.u64.wrap (r : Int) = (r : Int) % 18446744073709551616 := rfl
    rw [e]
    omega
  rcases hop with rfl | rfl | rfl
  · refine key _ ?_
    show (BitVec.ofInt 64 x &&& BitVec.ofInt 64 y).toNat < _
    rw [BitVec.toNat_and, b1, b2]
    exact Nat.and_lt_two_pow _ hy'
  · refine key _ ?_
    show (BitVec.ofInt 64 x ||| BitVec.ofInt 64 y).toNat < _
    rw [BitVec.toNat_or, b1, b2]
    exact Nat.or_lt_two_pow hx' hy'
  · refine key _ ?_
    show (BitVec.ofInt 64 x ^^^ BitVec.ofInt 64 y).toNat < _
    rw [BitVec.toNat_xor, b1, b2]
    exact Nat.xor_lt_two_pow hx' hy'
theorem part0 (c : UInt8) : IntKind.u64.wrap (IntKind.u64.wrap c.toNat * 2 ^ (min (8 * ((0 : Nat) : Int)).toNat IntKind.u64.bits)) = (c.toNat : Int) := by
  have h0 := UInt8.toNat_lt c
  have e : ∀ z, IntKind.u64.wrap z = z % 18446744073709551616 := fun _ => rfl
  have e2 : (min (8 * ((0 : Nat) : Int)).toNat IntKind.u64.bits) = 0 := rfl
  rw [e, e, e2]
  omega
theorem part1 (c : UInt8) : IntKind.u64.wrap (IntKind.u64.wrap c.toNat * 2 ^ (min (8 * ((1 : Nat) : Int)).toNat IntKind.u64.bits)) = (c.toNat : Int) * 256 := by
  have h0 := UInt8.toNat_lt c
  have e : ∀ z, IntKind.u64.wrap z = z % 18446744073709551616 := fun _ => rfl
  have e2 : (min (8 * ((1 : Nat) : Int)).toNat IntKind.u64.bits) = 8 := rfl
  rw [e, e, e2]
  omega
theorem getB_two (l : List UInt8) : 0 ≤ getB l 2 ∧ getB l 2 < 65536 := by
  have e3 : getB l 2 = bits .or .u64 (bits .or .u64 0 ((l.getD 0 0).toNat : Int)) (((l.getD 1 0).toNat : Int) * 256) := by
    show getPart (getPart 0 0 (l.getD 0 0)) 1 (l.getD 1 0) = _
    unfold getPart
    rw [part0, part1]
  rw [e3]
  obtain ⟨c0, hc0⟩ : ∃ c, c = l.getD 0 0 := ⟨_, rfl⟩
  obtain ⟨c1, hc1⟩ : ∃ c, c = l.getD 1 0 := ⟨_, rfl⟩
  rw [← hc0, ← hc1]
  have h0 := UInt8.toNat_lt c0
  have h1 := UInt8.toNat_lt c1
  have a1 := bits_lt .or (.inr (.inl rfl)) 0 (c0.toNat : Int) 16 (by omega) (by omega) (by omega)
  have a2 := bits_lt .or (.inr (.inl rfl)) (bits .or .u64 0 (c0.toNat : Int)) ((c1.toNat : Int) * 256) 16 (by omega) a1 (by omega)
  exact a2

set_option maxHeartbeats 400000 in
set_option maxRecDepth 100000 in
theorem get_ct {W : World} (l : List UInt8) (n : Nat) (h1 : n ≤ l.length) (h2 : n ≤ 1048576) : Ct Tryd.prog W 117 [strV l, .int .i64 (n : Nat)] [] (fun _ : Unit => .int .u64 (getB l n)) (fun _ => []) := by
  obtain ⟨A, hA⟩ : ∃ A : Nat → Int, A = getB l := ⟨_, rfl⟩
  have hA0 : A 0 = 0 := by rw [hA]; rfl
  have hAn : ∀ i, A (i + 1) = getPart (A i) i (l.getD i 0) := fun i => by rw [hA]; rfl
  rw [← hA]
  clear hA
  refine Ct.enter Tryd.func117 rfl Tryd.ntmps117 (by simp) (fun R => ?_)
  repeat' (first 
    | (refine is_list ?_; first | (refine KJ_plain ?_) | (refine KJ_nil ?_) | (refine KJ_guard_dec_t rfl rfl rfl (fun _ => ?_) (fun _ => ?_) <;> first | (exfalso; omega) | skip) | (refine KJ_guard_dec_f rfl rfl rfl (fun _ => ?_) (fun _ => ?_) <;> first | (exfalso; omega) | skip) | (refine KJ_guard_yes rfl rfl ?_) | (refine KJ_guard_no rfl rfl rfl rfl ?_))
    | (refine is_oper ?_; first | (refine KJ_ek rfl ?_) | (refine KJ_ek0 ?_))
    | (refine is_ek ?_; first | (refine ek_move ?_; first | (refine EK_ev (Ev_move rfl) ?_)) | (refine ek_assign ?_; first | (refine EK_ev (Ev_assign rfl) ?_)) | (refine ek_conv ?_; first | (refine EK_ev (Ev_convI64 rfl (by omega)) ?_) | (refine EK_ev (Ev_convI rfl) ?_) | (refine EK_ev (Ev_convS rfl) ?_)) | (refine ek_add ?_; first | (refine EK_ev (Ev_addI rfl rfl (by omega)) ?_) | (refine EK_ev (Ev_addS rfl rfl (by simp <;> omega)) ?_) | (refine EK_ev (Ev_add rfl rfl) ?_)) | (refine ek_mul ?_; first | (refine EK_ev (Ev_mulI rfl rfl (by omega)) ?_) | (refine EK_ev (Ev_mul rfl rfl) ?_)) | (refine ek_shl ?_; first | (refine EK_ev (Ev_shl rfl rfl (by omega)) ?_)) | (refine ek_lss ?_; first | (refine EK_ev (Ev_lssI rfl rfl) ?_) | (refine EK_ev (Ev_lssS rfl rfl) ?_)))
    | (refine is_ex ?_; first | (refine KJ_seq_normal ?_) | (refine KJ_seq_ret ?_) | (refine KJ_seq_exit ?_) | (refine KJ_thn_normal ?_) | (refine KJ_thn_ret ?_) | (refine KJ_thn_exit ?_) | (refine KJ_blk_normal ?_) | (refine KJ_blk_ret ?_) | (refine KJ_blk_exit ?_) | (refine KJ_blk_exit' rfl ?_))
    | (refine is_code ?_; first | (refine KJ_seq ?_) | (refine KJ_region ?_) | (refine KJ_cond_dec rfl (fun _ => ?_) (fun _ => ?_) <;> first | (exfalso; omega) | skip) | (refine KJ_cond_t rfl ?_) | (refine KJ_cond_f rfl ?_) | (refine KJ_skip ?_) | (refine KJ_ret ?_) | (refine KJ_exit ?_) | (refine KJ_block ?_)))
  refine KJ_loop (fun i : {k : Nat // k ≤ n} => [(0, strV l), (5, .int .u64 (A i.1)), (7, .int .i64 (n : Nat)), (8, .int .i64 (i.1 : Nat))]) (fun _ => R) (fun i => n - i.1) ⟨0, by omega⟩ ?_ (fun _ q => q) (fun ⟨k, hk⟩ => ?_)
  · exact Subs.cons rfl (Subs.cons (show _ = some (Value.int .u64 (A 0)) from by rw [hA0]; rfl) (by (repeat' (first | exact Subs.nil | refine Subs.cons rfl ?_)); first | done | fail))
  dsimp only
  by_cases hlt : k < n
  · obtain ⟨c, hc⟩ : ∃ c, l[k]? = some c := ⟨_, List.getElem?_eq_getElem (by omega)⟩
    have hnx := hAn k
    have hcd : l.getD k 0 = c := by rw [List.getD, hc]; rfl
    rw [hcd] at hnx
    have hc' : l[(k : Int).toNat]? = some c := by rw [Int.toNat_natCast]; exact hc
    repeat' (first 
    | (refine is_list ?_; first | (refine KJ_plain ?_) | (refine KJ_nil ?_) | (refine KJ_guard_dec_t rfl rfl rfl (fun _ => ?_) (fun _ => ?_) <;> first | (exfalso; omega) | skip) | (refine KJ_guard_dec_f rfl rfl rfl (fun _ => ?_) (fun _ => ?_) <;> first | (exfalso; omega) | skip) | (refine KJ_guard_yes rfl rfl ?_) | (refine KJ_guard_no rfl rfl rfl rfl ?_))
    | (refine is_oper ?_; first | (refine KJ_ek rfl ?_) | (refine KJ_ek0 ?_))
    | (refine is_ek ?_; first | (refine ek_move ?_; first | (refine EK_ev (Ev_move rfl) ?_)) | (refine ek_assign ?_; first | (refine EK_ev (Ev_assign rfl) ?_)) | (refine ek_conv ?_; first | (refine EK_ev (Ev_convI rfl) ?_) | (refine EK_ev (Ev_convI64 rfl (by omega)) ?_) | (refine EK_ev (Ev_convI rfl) ?_) | (refine EK_ev (Ev_convS rfl) ?_)) | (refine ek_index ?_; first | (refine EK_ev (Ev_indexStr rfl rfl (by omega) hc') ?_)) | (refine ek_add ?_; first | (refine EK_ev (Ev_addI rfl rfl (by omega)) ?_) | (refine EK_ev (Ev_addS rfl rfl (by simp <;> omega)) ?_) | (refine EK_ev (Ev_add rfl rfl) ?_)) | (refine ek_mul ?_; first | (refine EK_ev (Ev_mulI rfl rfl (by omega)) ?_) | (refine EK_ev (Ev_mul rfl rfl) ?_)) | (refine ek_or ?_; first | (refine EK_ev (Ev_or rfl rfl) ?_)) | (refine ek_shl ?_; first | (refine EK_ev (Ev_shl rfl rfl (by omega)) ?_)) | (refine ek_lss ?_; first | (refine EK_ev (Ev_lssI rfl rfl) ?_) | (refine EK_ev (Ev_lssS rfl rfl) ?_)))
    | (refine is_ex ?_; first | (refine KJ_seq_normal ?_) | (refine KJ_seq_ret ?_) | (refine KJ_seq_exit ?_) | (refine KJ_thn_normal ?_) | (refine KJ_thn_ret ?_) | (refine KJ_thn_exit ?_) | (refine KJ_blk_normal ?_) | (refine KJ_blk_ret ?_) | (refine KJ_blk_exit ?_) | (refine KJ_blk_exit' rfl ?_))
    | (refine is_code ?_; first | (refine KJ_seq ?_) | (refine KJ_region ?_) | (refine KJ_cond_dec rfl (fun _ => ?_) (fun _ => ?_) <;> first | (exfalso; omega) | skip) | (refine KJ_cond_t rfl ?_) | (refine KJ_cond_f rfl ?_) | (refine KJ_skip ?_) | (refine KJ_ret ?_) | (refine KJ_exit ?_) | (refine KJ_block ?_)))
    refine KJ_again ⟨k + 1, by omega⟩ (by show n - (k + 1) < n - k; omega) ?_ (fun _ q => q)
    rw [hnx]
    exact (by (repeat' (first | exact Subs.nil | refine Subs.cons rfl ?_)); first | done | fail)
  · have hkn : k = n := by omega
    subst hkn
    repeat' (first 
    | (refine is_list ?_; first | (refine KJ_plain ?_) | (refine KJ_nil ?_) | (refine KJ_guard_dec_t rfl rfl rfl (fun _ => ?_) (fun _ => ?_) <;> first | (exfalso; omega) | skip) | (refine KJ_guard_dec_f rfl rfl rfl (fun _ => ?_) (fun _ => ?_) <;> first | (exfalso; omega) | skip) | (refine KJ_guard_yes rfl rfl ?_) | (refine KJ_guard_no rfl rfl rfl rfl ?_))
    | (refine is_oper ?_; first | (refine KJ_ek rfl ?_) | (refine KJ_ek0 ?_))
    | (refine is_ek ?_; first | (refine ek_move ?_; first | (refine EK_ev (Ev_move rfl) ?_)) | (refine ek_assign ?_; first | (refine EK_ev (Ev_assign rfl) ?_)) | (refine ek_conv ?_; first | (refine EK_ev (Ev_convI64 rfl (by omega)) ?_) | (refine EK_ev (Ev_convI rfl) ?_) | (refine EK_ev (Ev_convS rfl) ?_)) | (refine ek_add ?_; first | (refine EK_ev (Ev_addI rfl rfl (by omega)) ?_) | (refine EK_ev (Ev_addS rfl rfl (by simp <;> omega)) ?_) | (refine EK_ev (Ev_add rfl rfl) ?_)) | (refine ek_mul ?_; first | (refine EK_ev (Ev_mulI rfl rfl (by omega)) ?_) | (refine EK_ev (Ev_mul rfl rfl) ?_)) | (refine ek_shl ?_; first | (refine EK_ev (Ev_shl rfl rfl (by omega)) ?_)) | (refine ek_lss ?_; first | (refine EK_ev (Ev_lssI rfl rfl) ?_) | (refine EK_ev (Ev_lssS rfl rfl) ?_)))
    | (refine is_ex ?_; first | (refine KJ_seq_normal ?_) | (refine KJ_seq_ret ?_) | (refine KJ_seq_exit ?_) | (refine KJ_thn_normal ?_) | (refine KJ_thn_ret ?_) | (refine KJ_thn_exit ?_) | (refine KJ_blk_normal ?_) | (refine KJ_blk_ret ?_) | (refine KJ_blk_exit ?_) | (refine KJ_blk_exit' rfl ?_))
    | (refine is_code ?_; first | (refine KJ_seq ?_) | (refine KJ_region ?_) | (refine KJ_cond_dec rfl (fun _ => ?_) (fun _ => ?_) <;> first | (exfalso; omega) | skip) | (refine KJ_cond_t rfl ?_) | (refine KJ_cond_f rfl ?_) | (refine KJ_skip ?_) | (refine KJ_ret ?_) | (refine KJ_exit ?_) | (refine KJ_block ?_)))
    all_goals (refine is_ex ?_; exact KJ_done (by first | exact Or.inl rfl | exact Or.inr rfl) rfl (by (repeat' (first | exact Rvs.nil | (apply Rvs.tmp; exact rfl))); first | done | fail) () (by rfl) (Ent.of (by (repeat' (first | exact Pick.nil | apply Pick.cons | exact Sel.here | apply Sel.there)); first | done | fail) (by (repeat' (first | exact DropTo.refl | apply DropTo.there)); first | done | fail)))

/-! ### Ends -/
def endsE (raw : List UInt8) : Nat := if raw.length = 256 then 0 else 7
def endsH (raw : List UInt8) : Int := if raw.length = 256 then getB raw 8 else 0
def endsT (raw : List UInt8) : Int := if raw.length = 256 then getB (raw.drop 248) 8 else 0
theorem ends_bad {W : World} {E : Nat → Addr} (hE : ErrsOn L8 W E) (raw : List UInt8) (h : raw.length ≠ 256) : Ct Tryd.prog W 114 [strV raw] [] (fun _ : Unit => .tuple #[.int .u64 0, .int .u64 0, errV E 7]) (fun _ => []) := by
  have e7 : W.cell? ⟨4, 0, none⟩ = some (errV E 7) := hE.at_ 7 (by decide)
  have hne : (raw.length : Int) ≠ 256 := by omega
  refine Ct.enter Tryd.func114 rfl Tryd.ntmps114 (by simp) (fun R => ?_)
  repeat' (first 
    | (refine is_list ?_; first | (refine KJ_plain ?_) | (refine KJ_nil ?_) | (refine KJ_guard_dec_t rfl rfl rfl (fun _ => ?_) (fun _ => ?_) <;> first | (exfalso; omega) | skip) | (refine KJ_guard_dec_f rfl rfl rfl (fun _ => ?_) (fun _ => ?_) <;> first | (exfalso; omega) | skip) | (refine KJ_guard_yes rfl rfl ?_) | (refine KJ_guard_no rfl rfl rfl rfl ?_))
    | (refine is_oper ?_; first | (refine KJ_ek rfl ?_) | (refine KJ_ek0 ?_))
    | (refine is_ek ?_; first | (refine ek_move ?_; first | (refine EK_ev (Ev_move rfl) ?_)) | (refine ek_assign ?_; first | (refine EK_ev (Ev_assign rfl) ?_)) | (refine ek_load ?_; first | (refine EK_ev (Ev_loadOld rfl e7) ?_) | (refine EK_ev (Ev_load rfl (by (repeat' (first | exact Sel.here | apply Sel.there)); first | done | fail) (by rfl)) ?_) | (refine EK_ev (Ev_loadOld rfl (by assumption)) ?_) | (refine EK_ev (Ev_loadAgg rfl (by (repeat' (first | exact Sel.here | apply Sel.there)); first | done | fail) (by (repeat' (first | exact Cut.nil | apply Cut.cons | apply Cut.skip)); first | done | fail)) ?_)) | (refine ek_len ?_; first | (refine EK_ev (Ev_len_str rfl) ?_) | (refine EK_ev (Ev_len_slice rfl) ?_) | (refine EK_ev (Ev_len_arr rfl) ?_) | (refine EK_ev (Ev_len_map rfl (by (repeat' (first | exact Sel.here | apply Sel.there)); first | done | fail)) ?_)) | (refine ek_neq ?_; first | (refine EK_ev (Ev_neqI_t rfl rfl hne) ?_) | (refine EK_ev (Ev_neqI rfl rfl) ?_) | (refine EK_ev (Ev_neqS rfl rfl) ?_) | (refine EK_ev (Ev_neqNil rfl rfl) ?_) | (refine EK_ev (Ev_neqB rfl rfl) ?_) | (refine EK_ev (Ev_neqO rfl rfl rfl (fun _ => rfl)) ?_)))
    | (refine is_ex ?_; first | (refine KJ_seq_normal ?_) | (refine KJ_seq_ret ?_) | (refine KJ_seq_exit ?_) | (refine KJ_thn_normal ?_) | (refine KJ_thn_ret ?_) | (refine KJ_thn_exit ?_) | (refine KJ_blk_normal ?_) | (refine KJ_blk_ret ?_) | (refine KJ_blk_exit ?_) | (refine KJ_blk_exit' rfl ?_))
    | (refine is_code ?_; first | (refine KJ_seq ?_) | (refine KJ_region ?_) | (refine KJ_cond_dec rfl (fun _ => ?_) (fun _ => ?_) <;> first | (exfalso; omega) | skip) | (refine KJ_cond_t rfl ?_) | (refine KJ_cond_f rfl ?_) | (refine KJ_skip ?_) | (refine KJ_ret ?_) | (refine KJ_exit ?_) | (refine KJ_block ?_) | (refine KJ_draws (id := 2) (.op 0 (.op 1 (.op 2 (.op 3 .nil)))) (by kernel_rfl) (by kernel_rfl) ?_) | (refine KJ_draws (id := 3) (.op 0 (.op 2 (.op 3 (.ef 1 [3, 2] (.ef 4 [] (.op 5 (.op 6 (.op 7 .nil)))))))) (by kernel_rfl) (by kernel_rfl) ?_))
    | (refine is_fw ?_; first | (refine FW_open rfl ?_) | (refine FW_nil ?_) | (refine FW_ef rfl ?_) | (refine FW_efg rfl rfl rfl ?_) | (refine FW_alt ?_ ?_))
    | (refine is_fo ?_; first | (refine FO_dec_t rfl rfl (fun _ => ?_) (fun _ => ?_) <;> first | (exfalso; omega) | skip) | (refine FO_dec_f rfl rfl (fun _ => ?_) (fun _ => ?_) <;> first | (exfalso; omega) | skip) | (refine FO_no rfl rfl rfl rfl ?_) | (refine FO_ekg rfl rfl rfl ?_) | (refine FO_ek rfl ?_))
    | (refine is_ro ?_; first | (refine RO_no rfl rfl rfl rfl ?_) | (refine RO_ekg rfl rfl ?_) | (refine RO_ek ?_))
    | (refine is_raw ?_; first | (refine KJ_flow ?_ ?_))
    | (refine AtR_mk rfl ?_)
    | exact Rech.nil
    | (refine Rech_open rfl ?_))
  all_goals (refine is_ex ?_; exact KJ_done (by first | exact Or.inl rfl | exact Or.inr rfl) rfl (by (repeat' (first | exact Rvs.nil | (apply Rvs.tmp; exact rfl))); first | done | fail) () (by rfl) (Ent.of (by (repeat' (first | exact Pick.nil | apply Pick.cons | exact Sel.here | apply Sel.there)); first | done | fail) (by (repeat' (first | exact DropTo.refl | apply DropTo.there)); first | done | fail)))
theorem ends_ok {W : World} (raw : List UInt8) (h : raw.length = 256) : Ct Tryd.prog W 114 [strV raw] [] (fun _ : Unit => .tuple #[.int .u64 (getB raw 8), .int .u64 (getB (raw.drop 248) 8), .nilIface]) (fun _ => []) := by
  have hq : (raw.length : Int) = 256 := by omega
  have c1 : Ct Tryd.prog W 117 [strV raw, .int .i64 8] [] (fun _ : Unit => .int .u64 (getB raw 8)) (fun _ => []) := get_ct raw 8 (by omega) (by omega)
  have c2 : Ct Tryd.prog W 117 [strV (raw.drop (248 : Int).toNat), .int .i64 8] [] (fun _ : Unit => .int .u64 (getB (raw.drop 248) 8)) (fun _ => []) := get_ct (raw.drop 248) 8 (by simp; omega) (by omega)
  refine Ct.enter Tryd.func114 rfl Tryd.ntmps114 (by simp) (fun R => ?_)
  repeat' (first 
    | (refine is_list ?_; first | (refine KJ_plain ?_) | (refine KJ_nil ?_) | (refine KJ_guard_dec_t rfl rfl rfl (fun _ => ?_) (fun _ => ?_) <;> first | (exfalso; omega) | skip) | (refine KJ_guard_dec_f rfl rfl rfl (fun _ => ?_) (fun _ => ?_) <;> first | (exfalso; omega) | skip) | (refine KJ_guard_yes rfl rfl ?_) | (refine KJ_guard_no rfl rfl rfl rfl ?_))
    | (refine is_oper ?_; first | (refine is_call ?_; first | (refine KJ_call (by (repeat' (first | exact Evs.nil | refine Evs.cons rfl ?_)); first | done | fail) c2 (by (repeat' (first | exact Pick.nil | apply Pick.cons | exact Sel.here | apply Sel.there)); first | done | fail) rfl (fun _ => ?_)) | (refine KJ_call (by (repeat' (first | exact Evs.nil | refine Evs.cons rfl ?_)); first | done | fail) c1 (by (repeat' (first | exact Pick.nil | apply Pick.cons | exact Sel.here | apply Sel.there)); first | done | fail) rfl (fun _ => ?_))) | (refine KJ_ek rfl ?_) | (refine KJ_ek0 ?_))
    | (refine is_ek ?_; first | (refine ek_move ?_; first | (refine EK_ev (Ev_move rfl) ?_)) | (refine ek_assign ?_; first | (refine EK_ev (Ev_assign rfl) ?_)) | (refine ek_load ?_; first | (refine EK_ev (Ev_load rfl (by (repeat' (first | exact Sel.here | apply Sel.there)); first | done | fail) (by rfl)) ?_) | (refine EK_ev (Ev_loadOld rfl (by assumption)) ?_) | (refine EK_ev (Ev_loadAgg rfl (by (repeat' (first | exact Sel.here | apply Sel.there)); first | done | fail) (by (repeat' (first | exact Cut.nil | apply Cut.cons | apply Cut.skip)); first | done | fail)) ?_)) | (refine ek_slice ?_; first | (refine EK_ev (Ev_sliceStrFrom rfl rfl (by omega)) ?_)) | (refine ek_len ?_; first | (refine EK_ev (Ev_len_str rfl) ?_) | (refine EK_ev (Ev_len_slice rfl) ?_) | (refine EK_ev (Ev_len_arr rfl) ?_) | (refine EK_ev (Ev_len_map rfl (by (repeat' (first | exact Sel.here | apply Sel.there)); first | done | fail)) ?_)) | (refine ek_neq ?_; first | (refine EK_ev (Ev_neqI_f rfl rfl hq) ?_) | (refine EK_ev (Ev_neqI rfl rfl) ?_) | (refine EK_ev (Ev_neqS rfl rfl) ?_) | (refine EK_ev (Ev_neqNil rfl rfl) ?_) | (refine EK_ev (Ev_neqB rfl rfl) ?_) | (refine EK_ev (Ev_neqO rfl rfl rfl (fun _ => rfl)) ?_)))
    | (refine is_ex ?_; first | (refine KJ_seq_normal ?_) | (refine KJ_seq_ret ?_) | (refine KJ_seq_exit ?_) | (refine KJ_thn_normal ?_) | (refine KJ_thn_ret ?_) | (refine KJ_thn_exit ?_) | (refine KJ_blk_normal ?_) | (refine KJ_blk_ret ?_) | (refine KJ_blk_exit ?_) | (refine KJ_blk_exit' rfl ?_))
    | (refine is_code ?_; first | (refine KJ_seq ?_) | (refine KJ_region ?_) | (refine KJ_cond_dec rfl (fun _ => ?_) (fun _ => ?_) <;> first | (exfalso; omega) | skip) | (refine KJ_cond_t rfl ?_) | (refine KJ_cond_f rfl ?_) | (refine KJ_skip ?_) | (refine KJ_ret ?_) | (refine KJ_exit ?_) | (refine KJ_block ?_) | (refine KJ_draws (id := 2) (.op 0 (.op 1 (.op 2 (.op 3 .nil)))) (by kernel_rfl) (by kernel_rfl) ?_) | (refine KJ_draws (id := 3) (.op 0 (.op 2 (.op 3 (.ef 1 [3, 2] (.ef 4 [] (.op 5 (.op 6 (.op 7 .nil)))))))) (by kernel_rfl) (by kernel_rfl) ?_))
    | (refine is_fw ?_; first | (refine FW_open rfl ?_) | (refine FW_nil ?_) | (refine FW_ef rfl ?_) | (refine FW_efg rfl rfl rfl ?_) | (refine FW_alt ?_ ?_))
    | (refine is_fo ?_; first | (refine FO_dec_t rfl rfl (fun _ => ?_) (fun _ => ?_) <;> first | (exfalso; omega) | skip) | (refine FO_dec_f rfl rfl (fun _ => ?_) (fun _ => ?_) <;> first | (exfalso; omega) | skip) | (refine FO_no rfl rfl rfl rfl ?_) | (refine FO_ekg rfl rfl rfl ?_) | (refine FO_ek rfl ?_))
    | (refine is_ro ?_; first | (refine RO_no rfl rfl rfl rfl ?_) | (refine RO_ekg rfl rfl ?_) | (refine RO_ek ?_))
    | (refine is_raw ?_; first | (refine KJ_flow ?_ ?_))
    | (refine AtR_mk rfl ?_)
    | exact Rech.nil
    | (refine Rech_open rfl ?_))
  all_goals (refine is_ex ?_; exact KJ_done (by first | exact Or.inl rfl | exact Or.inr rfl) rfl (by (repeat' (first | exact Rvs.nil | (apply Rvs.tmp; exact rfl))); first | done | fail) () (by rfl) (Ent.of (by (repeat' (first | exact Pick.nil | apply Pick.cons | exact Sel.here | apply Sel.there)); first | done | fail) (by (repeat' (first | exact DropTo.refl | apply DropTo.there)); first | done | fail)))
end Go.Proofs.YteklldbfdmaafaaDoor
/-
  The package sector: Seal and Open, as plain data, and their contracts.
-/
namespace Go.Proofs.YteklldbfdmaafaaDoor
open Go Go.RowKit


def sealB1 (stamp : Int) : List UInt8 := lay (List.replicate 256 0) 0 (putB stamp 8)
def sealB2 (stamp : Int) (pl : List UInt8) : List UInt8 := lay (sealB1 stamp) 8 (putB (IntKind.u64.wrap pl.length) 2)
def sealB3 (stamp : Int) (pl : List UInt8) : List UInt8 := lay (sealB2 stamp pl) 10 pl
def sealB4 (stamp : Int) (pl : List UInt8) : List UInt8 := lay (sealB3 stamp pl) 244 (putB (IntKind.u64.wrap (crcSum ((sealB3 stamp pl).take 244))) 4)
/-- the sector that Seal makes -/
def sealB (stamp : Int) (pl : List UInt8) : List UInt8 := lay (sealB4 stamp pl) 248 (putB stamp 8)
theorem sealB1_length (stamp : Int) : (sealB1 stamp).length = 256 := by
  unfold sealB1; rw [lay_length _ _ _ (by rw [putB_length, List.length_replicate]; omega), List.length_replicate]
theorem sealB2_length (stamp : Int) (pl : List UInt8) : (sealB2 stamp pl).length = 256 := by
  unfold sealB2; rw [lay_length _ _ _ (by rw [putB_length, sealB1_length]; omega), sealB1_length]
theorem sealB3_length (stamp : Int) (pl : List UInt8) (h : pl.length ≤ 234) : (sealB3 stamp pl).length = 256 := by
  unfold sealB3; rw [lay_length _ _ _ (by rw [sealB2_length]; omega), sealB2_length]
theorem sealB4_length (stamp : Int) (pl : List UInt8) (h : pl.length ≤ 234) : (sealB4 stamp pl).length = 256 := by
  unfold sealB4; rw [lay_length _ _ _ (by rw [putB_length, sealB3_length _ _ h]; omega), sealB3_length _ _ h]
theorem sealB_length (stamp : Int) (pl : List UInt8) (h : pl.length ≤ 234) : (sealB stamp pl).length = 256 := by
  unfold sealB; rw [lay_length _ _ _ (by rw [putB_length, sealB4_length _ _ h]; omega), sealB4_length _ _ h]

def sealE (stamp : Int) (pl : List UInt8) : Nat := if stamp = 0 then 6 else if 234 < pl.length then 3 else 0
def sealS (stamp : Int) (pl : List UInt8) : List UInt8 := if stamp = 0 then [] else if 234 < pl.length then [] else sealB stamp pl

set_option maxHeartbeats 100000 in
set_option maxRecDepth 100000 in
theorem seal_ok {W : World} (hN : NibAt W) (stamp : Int) (pl : List UInt8) (h0 : stamp ≠ 0) (hl : pl.length ≤ 234) :
    Ct Tryd.prog W 83 [.int .u64 stamp, strV pl] [] (fun _ : Unit => .tuple #[strV (sealB stamp pl), .nilIface]) (fun _ => []) := by
  have l1 := sealB1_length stamp
  have l2 := sealB2_length stamp pl
  have l3 := sealB3_length stamp pl hl
  have l4 := sealB4_length stamp pl hl
  have l5 := sealB_length stamp pl hl
  have c1 : ∀ g, Ct Tryd.prog W 112 [.slice (some ⟨g, 0, none⟩) 256 256, .int .u64 stamp, .int .i64 8] [cellsP g (bvs (List.replicate 256 0)) 5] (fun _ : Unit => .tuple #[]) (fun _ => [cellsP g (bvs (sealB1 stamp)) 5]) := fun g => put_ct g 0 256 256 _ stamp 8 (by omega) (by rw [List.length_replicate]; omega) (by omega) _
  have c2 : ∀ g, Ct Tryd.prog W 112 [.slice (some ⟨g, 8, none⟩) 248 248, .int .u64 (IntKind.u64.wrap pl.length), .int .i64 2] [cellsP g (bvs (sealB1 stamp)) 5] (fun _ : Unit => .tuple #[]) (fun _ => [cellsP g (bvs (sealB2 stamp pl)) 5]) := fun g => put_ct g 8 248 248 _ _ 2 (by omega) (by omega) (by omega) _
  have c3 : Ct Tryd.prog W 113 [strV ((sealB3 stamp pl).take 244)] [] (fun _ : Unit => .int .u32 (crcSum ((sealB3 stamp pl).take 244))) (fun _ => []) := sum_ct hN _ (by rw [List.length_take]; omega)
  have c4 : ∀ g c, Ct Tryd.prog W 112 [.slice (some ⟨g, 244, none⟩) 12 c, .int .u64 (IntKind.u64.wrap (crcSum ((sealB3 stamp pl).take 244))), .int .i64 4] [cellsP g (bvs (sealB3 stamp pl)) 5] (fun _ : Unit => .tuple #[]) (fun _ => [cellsP g (bvs (sealB4 stamp pl)) 5]) := fun g c => put_ct g 244 12 c _ _ 4 (by omega) (by omega) (by omega) _
  have c5 : ∀ g c, Ct Tryd.prog W 112 [.slice (some ⟨g, 248, none⟩) 8 c, .int .u64 stamp, .int .i64 8] [cellsP g (bvs (sealB4 stamp pl)) 5] (fun _ : Unit => .tuple #[]) (fun _ => [cellsP g (bvs (sealB stamp pl)) 5]) := fun g c => put_ct g 248 8 c _ _ 8 (by omega) (by omega) (by omega) _
  have e3 : lay (sealB2 stamp pl) 10 pl = sealB3 stamp pl := rfl
  obtain ⟨B1, hB1⟩ : ∃ B, B = sealB1 stamp := ⟨_, rfl⟩
  obtain ⟨B2, hB2⟩ : ∃ B, B = sealB2 stamp pl := ⟨_, rfl⟩
  obtain ⟨B3, hB3⟩ : ∃ B, B = sealB3 stamp pl := ⟨_, rfl⟩
  obtain ⟨B4, hB4⟩ : ∃ B, B = sealB4 stamp pl := ⟨_, rfl⟩
  obtain ⟨B5, hB5⟩ : ∃ B, B = sealB stamp pl := ⟨_, rfl⟩
  rw [← hB5]
  simp only [← hB1, ← hB2, ← hB3, ← hB4, ← hB5] at l1 l2 l3 l4 l5 c1 c2 c3 c4 c5 e3
  clear hB1 hB2 hB3 hB4 hB5
  refine Ct.enter Tryd.func83 rfl Tryd.ntmps83 (by simp) (fun R => ?_)
  repeat' (first 
    | (refine is_list ?_; first | (refine KJ_plain ?_) | (refine KJ_nil ?_) | (refine KJ_guard_dec_t rfl rfl rfl (fun _ => ?_) (fun _ => ?_) <;> first | (exfalso; omega) | skip) | (refine KJ_guard_dec_f rfl rfl rfl (fun _ => ?_) (fun _ => ?_) <;> first | (exfalso; omega) | skip) | (refine KJ_guard_yes rfl rfl ?_) | (refine KJ_guard_no rfl rfl rfl rfl ?_))
    | (refine is_oper ?_; first | (refine is_call ?_; first | (refine KJ_call (by (repeat' (first | exact Evs.nil | refine Evs.cons rfl ?_)); first | done | fail) (c5 _ _) (by (repeat' (first | exact Pick.nil | apply Pick.cons | exact Sel.here | apply Sel.there)); first | done | fail) rfl (fun _ => ?_)) | (refine KJ_call (by (repeat' (first | exact Evs.nil | refine Evs.cons rfl ?_)); first | done | fail) (c4 _ _) (by (repeat' (first | exact Pick.nil | apply Pick.cons | exact Sel.here | apply Sel.there)); first | done | fail) rfl (fun _ => ?_)) | (refine KJ_call (by (repeat' (first | exact Evs.nil | refine Evs.cons rfl ?_)); first | done | fail) c3 (by (repeat' (first | exact Pick.nil | apply Pick.cons | exact Sel.here | apply Sel.there)); first | done | fail) rfl (fun _ => ?_)) | (refine KJ_call (by (repeat' (first | exact Evs.nil | refine Evs.cons rfl ?_)); first | done | fail) (c2 _) (by (repeat' (first | exact Pick.nil | apply Pick.cons | exact Sel.here | apply Sel.there)); first | done | fail) rfl (fun _ => ?_)) | (refine KJ_call (by (repeat' (first | exact Evs.nil | refine Evs.cons rfl ?_)); first | done | fail) (c1 _) (by (repeat' (first | exact Pick.nil | apply Pick.cons | exact Sel.here | apply Sel.there)); first | done | fail) rfl (fun _ => ?_))) | (refine is_copy ?_; first | (refine KJ_copyStrB (l' := B3) rfl rfl (by (repeat' (first | exact Sel.here | apply Sel.there)); first | done | fail) (by show pl.length ≤ 256 - 10; omega) (by show 10 + pl.length ≤ B2.length; omega) e3 (by (repeat' (first | exact Rep.here | apply Rep.there)); first | done | fail) rfl ?_)) | (refine is_mkSlice ?_; first | (refine KJ_makeBytes (m := 256) rfl rfl rfl (by omega) rfl (fun g => ?_))) | (refine KJ_ek rfl ?_) | (refine KJ_ek0 ?_))
    | (refine is_ek ?_; first | (refine ek_move ?_; first | (refine EK_ev (Ev_move rfl) ?_)) | (refine ek_assign ?_; first | (refine EK_ev (Ev_assign rfl) ?_)) | (refine ek_load ?_; first | (refine EK_ev (Ev_load rfl (by (repeat' (first | exact Sel.here | apply Sel.there)); first | done | fail) (by rfl)) ?_) | (refine EK_ev (Ev_loadOld rfl (by assumption)) ?_) | (refine EK_ev (Ev_loadAgg rfl (by (repeat' (first | exact Sel.here | apply Sel.there)); first | done | fail) (by (repeat' (first | exact Cut.nil | apply Cut.cons | apply Cut.skip)); first | done | fail)) ?_)) | (refine ek_conv ?_; first | (refine EK_ev (Ev_bytesTake rfl (by (repeat' (first | exact Sel.here | apply Sel.there)); first | done | fail) (by show 244 ≤ B3.length; omega)) ?_) | (refine EK_ev (Ev_bytesAll rfl (by (repeat' (first | exact Sel.here | apply Sel.there)); first | done | fail) l5) ?_) | (refine EK_ev (Ev_convI rfl) ?_) | (refine EK_ev (Ev_convI64 rfl (by omega)) ?_) | (refine EK_ev (Ev_convI rfl) ?_) | (refine EK_ev (Ev_convS rfl) ?_)) | (refine ek_slice ?_; first | (refine EK_ev (Ev_sliceTo rfl rfl (by omega)) ?_) | (refine EK_ev (Ev_sliceFrom rfl rfl (by omega)) ?_)) | (refine ek_len ?_; first | (refine EK_ev (Ev_len_str rfl) ?_) | (refine EK_ev (Ev_len_slice rfl) ?_) | (refine EK_ev (Ev_len_arr rfl) ?_) | (refine EK_ev (Ev_len_map rfl (by (repeat' (first | exact Sel.here | apply Sel.there)); first | done | fail)) ?_)) | (refine ek_eql ?_; first | (refine EK_ev (Ev_eqlI_f rfl rfl h0) ?_) | (refine EK_ev (Ev_eqlI rfl rfl) ?_) | (refine EK_ev (Ev_eqlS rfl rfl) ?_) | (refine EK_ev (Ev_eqlNil rfl rfl) ?_) | (refine EK_ev (Ev_eqlB rfl rfl) ?_) | (refine EK_ev (Ev_eqlO rfl rfl rfl (fun _ => rfl)) ?_)) | (refine ek_gtr ?_; first | (refine EK_ev (Ev_gtrI rfl rfl) ?_) | (refine EK_ev (Ev_gtrS rfl rfl) ?_)))
    | (refine is_ex ?_; first | (refine KJ_seq_normal ?_) | (refine KJ_seq_ret ?_) | (refine KJ_seq_exit ?_) | (refine KJ_thn_normal ?_) | (refine KJ_thn_ret ?_) | (refine KJ_thn_exit ?_) | (refine KJ_blk_normal ?_) | (refine KJ_blk_ret ?_) | (refine KJ_blk_exit ?_) | (refine KJ_blk_exit' rfl ?_))
    | (refine is_code ?_; first | (refine KJ_seq ?_) | (refine KJ_region ?_) | (refine KJ_cond_dec rfl (fun _ => ?_) (fun _ => ?_) <;> first | (exfalso; omega) | skip) | (refine KJ_cond_t rfl ?_) | (refine KJ_cond_f rfl ?_) | (refine KJ_skip ?_) | (refine KJ_ret ?_) | (refine KJ_exit ?_) | (refine KJ_block ?_) | (refine KJ_draws (id := 2) (.op 0 (.op 1 (.op 2 .nil))) (by kernel_rfl) (by kernel_rfl) ?_) | (refine KJ_draws (id := 4) (.op 0 (.op 1 (.op 2 .nil))) (by kernel_rfl) (by kernel_rfl) ?_) | (refine KJ_draws (id := 9) (.op 0 (.op 1 (.op 2 (.op 3 (.op 4 (.ef 5 [1, 0] (.op 6 (.ef 7 [] .nil)))))))) (by kernel_rfl) (by kernel_rfl) ?_))
    | (refine is_fw ?_; first | (refine FW_open rfl ?_) | (refine FW_nil ?_) | (refine FW_ef rfl ?_) | (refine FW_efg rfl rfl rfl ?_) | (refine FW_alt ?_ ?_))
    | (refine is_fo ?_; first | (refine FO_dec_t rfl rfl (fun _ => ?_) (fun _ => ?_) <;> first | (exfalso; omega) | skip) | (refine FO_dec_f rfl rfl (fun _ => ?_) (fun _ => ?_) <;> first | (exfalso; omega) | skip) | (refine FO_no rfl rfl rfl rfl ?_) | (refine FO_ekg rfl rfl rfl ?_) | (refine FO_ek rfl ?_))
    | (refine is_ro ?_; first | (refine RO_no rfl rfl rfl rfl ?_) | (refine RO_ekg rfl rfl ?_) | (refine RO_ek ?_))
    | (refine is_raw ?_; first | (refine KJ_flow ?_ ?_))
    | (refine AtR_mk rfl ?_)
    | exact Rech.nil
    | (refine Rech_open rfl ?_))
  all_goals (refine is_ex ?_; exact KJ_done (by first | exact Or.inl rfl | exact Or.inr rfl) rfl (by (repeat' (first | exact Rvs.nil | (apply Rvs.tmp; exact rfl))); first | done | fail) () (by rfl) (Ent.of (by (repeat' (first | exact Pick.nil | apply Pick.cons | exact Sel.here | apply Sel.there)); first | done | fail) (by (repeat' (first | exact DropTo.refl | apply DropTo.there)); first | done | fail)))
theorem seal_zero {W : World} {E : Nat → Addr} (hE : ErrsOn L8 W E) (pl : List UInt8) : Ct Tryd.prog W 83 [.int .u64 0, strV pl] [] (fun _ : Unit => .tuple #[strV [], errV E 6]) (fun _ => []) := by
  have e6 : W.cell? ⟨3, 0, none⟩ = some (errV E 6) := hE.at_ 6 (by decide)
  refine Ct.enter Tryd.func83 rfl Tryd.ntmps83 (by simp) (fun R => ?_)
  repeat' (first 
    | (refine is_list ?_; first | (refine KJ_plain ?_) | (refine KJ_nil ?_) | (refine KJ_guard_dec_t rfl rfl rfl (fun _ => ?_) (fun _ => ?_) <;> first | (exfalso; omega) | skip) | (refine KJ_guard_dec_f rfl rfl rfl (fun _ => ?_) (fun _ => ?_) <;> first | (exfalso; omega) | skip) | (refine KJ_guard_yes rfl rfl ?_) | (refine KJ_guard_no rfl rfl rfl rfl ?_))
    | (refine is_oper ?_; first | (refine KJ_ek rfl ?_) | (refine KJ_ek0 ?_))
    | (refine is_ek ?_; first | (refine ek_move ?_; first | (refine EK_ev (Ev_move rfl) ?_)) | (refine ek_assign ?_; first | (refine EK_ev (Ev_assign rfl) ?_)) | (refine ek_load ?_; first | (refine EK_ev (Ev_loadOld rfl e6) ?_) | (refine EK_ev (Ev_load rfl (by (repeat' (first | exact Sel.here | apply Sel.there)); first | done | fail) (by rfl)) ?_) | (refine EK_ev (Ev_loadOld rfl (by assumption)) ?_) | (refine EK_ev (Ev_loadAgg rfl (by (repeat' (first | exact Sel.here | apply Sel.there)); first | done | fail) (by (repeat' (first | exact Cut.nil | apply Cut.cons | apply Cut.skip)); first | done | fail)) ?_)) | (refine ek_conv ?_; first | (refine EK_ev (Ev_convI64 rfl (by omega)) ?_) | (refine EK_ev (Ev_convI rfl) ?_) | (refine EK_ev (Ev_convS rfl) ?_)) | (refine ek_len ?_; first | (refine EK_ev (Ev_len_str rfl) ?_) | (refine EK_ev (Ev_len_slice rfl) ?_) | (refine EK_ev (Ev_len_arr rfl) ?_) | (refine EK_ev (Ev_len_map rfl (by (repeat' (first | exact Sel.here | apply Sel.there)); first | done | fail)) ?_)) | (refine ek_eql ?_; first | (refine EK_ev (Ev_eqlI_t rfl rfl rfl) ?_) | (refine EK_ev (Ev_eqlI rfl rfl) ?_) | (refine EK_ev (Ev_eqlS rfl rfl) ?_) | (refine EK_ev (Ev_eqlNil rfl rfl) ?_) | (refine EK_ev (Ev_eqlB rfl rfl) ?_) | (refine EK_ev (Ev_eqlO rfl rfl rfl (fun _ => rfl)) ?_)) | (refine ek_gtr ?_; first | (refine EK_ev (Ev_gtrI rfl rfl) ?_) | (refine EK_ev (Ev_gtrS rfl rfl) ?_)))
    | (refine is_ex ?_; first | (refine KJ_seq_normal ?_) | (refine KJ_seq_ret ?_) | (refine KJ_seq_exit ?_) | (refine KJ_thn_normal ?_) | (refine KJ_thn_ret ?_) | (refine KJ_thn_exit ?_) | (refine KJ_blk_normal ?_) | (refine KJ_blk_ret ?_) | (refine KJ_blk_exit ?_) | (refine KJ_blk_exit' rfl ?_))
    | (refine is_code ?_; first | (refine KJ_seq ?_) | (refine KJ_region ?_) | (refine KJ_cond_dec rfl (fun _ => ?_) (fun _ => ?_) <;> first | (exfalso; omega) | skip) | (refine KJ_cond_t rfl ?_) | (refine KJ_cond_f rfl ?_) | (refine KJ_skip ?_) | (refine KJ_ret ?_) | (refine KJ_exit ?_) | (refine KJ_block ?_) | (refine KJ_draws (id := 2) (.op 0 (.op 1 (.op 2 .nil))) (by kernel_rfl) (by kernel_rfl) ?_) | (refine KJ_draws (id := 4) (.op 0 (.op 1 (.op 2 .nil))) (by kernel_rfl) (by kernel_rfl) ?_) | (refine KJ_draws (id := 9) (.op 0 (.op 1 (.op 2 (.op 3 (.op 4 (.ef 5 [1, 0] (.op 6 (.ef 7 [] .nil)))))))) (by kernel_rfl) (by kernel_rfl) ?_))
    | (refine is_fw ?_; first | (refine FW_open rfl ?_) | (refine FW_nil ?_) | (refine FW_ef rfl ?_) | (refine FW_efg rfl rfl rfl ?_) | (refine FW_alt ?_ ?_))
    | (refine is_fo ?_; first | (refine FO_dec_t rfl rfl (fun _ => ?_) (fun _ => ?_) <;> first | (exfalso; omega) | skip) | (refine FO_dec_f rfl rfl (fun _ => ?_) (fun _ => ?_) <;> first | (exfalso; omega) | skip) | (refine FO_no rfl rfl rfl rfl ?_) | (refine FO_ekg rfl rfl rfl ?_) | (refine FO_ek rfl ?_))
    | (refine is_ro ?_; first | (refine RO_no rfl rfl rfl rfl ?_) | (refine RO_ekg rfl rfl ?_) | (refine RO_ek ?_))
    | (refine is_raw ?_; first | (refine KJ_flow ?_ ?_))
    | (refine AtR_mk rfl ?_)
    | exact Rech.nil
    | (refine Rech_open rfl ?_))
  all_goals (refine is_ex ?_; exact KJ_done (by first | exact Or.inl rfl | exact Or.inr rfl) rfl (by (repeat' (first | exact Rvs.nil | (apply Rvs.tmp; exact rfl))); first | done | fail) () (by rfl) (Ent.of (by (repeat' (first | exact Pick.nil | apply Pick.cons | exact Sel.here | apply Sel.there)); first | done | fail) (by (repeat' (first | exact DropTo.refl | apply DropTo.there)); first | done | fail)))
theorem seal_long {W : World} {E : Nat → Addr} (hE : ErrsOn L8 W E) (stamp : Int) (pl : List UInt8) (h0 : stamp ≠ 0) (hl : 234 < pl.length) : Ct Tryd.prog W 83 [.int .u64 stamp, strV pl] [] (fun _ : Unit => .tuple #[strV [], errV E 3]) (fun _ => []) := by
  have e3 : W.cell? ⟨0, 0, none⟩ = some (errV E 3) := hE.at_ 3 (by decide)
  refine Ct.enter Tryd.func83 rfl Tryd.ntmps83 (by simp) (fun R => ?_)
  repeat' (first 
    | (refine is_list ?_; first | (refine KJ_plain ?_) | (refine KJ_nil ?_) | (refine KJ_guard_dec_t rfl rfl rfl (fun _ => ?_) (fun _ => ?_) <;> first | (exfalso; omega) | skip) | (refine KJ_guard_dec_f rfl rfl rfl (fun _ => ?_) (fun _ => ?_) <;> first | (exfalso; omega) | skip) | (refine KJ_guard_yes rfl rfl ?_) | (refine KJ_guard_no rfl rfl rfl rfl ?_))
    | (refine is_oper ?_; first | (refine KJ_ek rfl ?_) | (refine KJ_ek0 ?_))
    | (refine is_ek ?_; first | (refine ek_move ?_; first | (refine EK_ev (Ev_move rfl) ?_)) | (refine ek_assign ?_; first | (refine EK_ev (Ev_assign rfl) ?_)) | (refine ek_load ?_; first | (refine EK_ev (Ev_loadOld rfl e3) ?_) | (refine EK_ev (Ev_load rfl (by (repeat' (first | exact Sel.here | apply Sel.there)); first | done | fail) (by rfl)) ?_) | (refine EK_ev (Ev_loadOld rfl (by assumption)) ?_) | (refine EK_ev (Ev_loadAgg rfl (by (repeat' (first | exact Sel.here | apply Sel.there)); first | done | fail) (by (repeat' (first | exact Cut.nil | apply Cut.cons | apply Cut.skip)); first | done | fail)) ?_)) | (refine ek_conv ?_; first | (refine EK_ev (Ev_convI64 rfl (by omega)) ?_) | (refine EK_ev (Ev_convI rfl) ?_) | (refine EK_ev (Ev_convS rfl) ?_)) | (refine ek_len ?_; first | (refine EK_ev (Ev_len_str rfl) ?_) | (refine EK_ev (Ev_len_slice rfl) ?_) | (refine EK_ev (Ev_len_arr rfl) ?_) | (refine EK_ev (Ev_len_map rfl (by (repeat' (first | exact Sel.here | apply Sel.there)); first | done | fail)) ?_)) | (refine ek_eql ?_; first | (refine EK_ev (Ev_eqlI_f rfl rfl h0) ?_) | (refine EK_ev (Ev_eqlI rfl rfl) ?_) | (refine EK_ev (Ev_eqlS rfl rfl) ?_) | (refine EK_ev (Ev_eqlNil rfl rfl) ?_) | (refine EK_ev (Ev_eqlB rfl rfl) ?_) | (refine EK_ev (Ev_eqlO rfl rfl rfl (fun _ => rfl)) ?_)) | (refine ek_gtr ?_; first | (refine EK_ev (Ev_gtrI rfl rfl) ?_) | (refine EK_ev (Ev_gtrS rfl rfl) ?_)))
    | (refine is_ex ?_; first | (refine KJ_seq_normal ?_) | (refine KJ_seq_ret ?_) | (refine KJ_seq_exit ?_) | (refine KJ_thn_normal ?_) | (refine KJ_thn_ret ?_) | (refine KJ_thn_exit ?_) | (refine KJ_blk_normal ?_) | (refine KJ_blk_ret ?_) | (refine KJ_blk_exit ?_) | (refine KJ_blk_exit' rfl ?_))
    | (refine is_code ?_; first | (refine KJ_seq ?_) | (refine KJ_region ?_) | (refine KJ_cond_dec rfl (fun _ => ?_) (fun _ => ?_) <;> first | (exfalso; omega) | skip) | (refine KJ_cond_t rfl ?_) | (refine KJ_cond_f rfl ?_) | (refine KJ_skip ?_) | (refine KJ_ret ?_) | (refine KJ_exit ?_) | (refine KJ_block ?_) | (refine KJ_draws (id := 2) (.op 0 (.op 1 (.op 2 .nil))) (by kernel_rfl) (by kernel_rfl) ?_) | (refine KJ_draws (id := 4) (.op 0 (.op 1 (.op 2 .nil))) (by kernel_rfl) (by kernel_rfl) ?_) | (refine KJ_draws (id := 9) (.op 0 (.op 1 (.op 2 (.op 3 (.op 4 (.ef 5 [1, 0] (.op 6 (.ef 7 [] .nil)))))))) (by kernel_rfl) (by kernel_rfl) ?_))
    | (refine is_fw ?_; first | (refine FW_open rfl ?_) | (refine FW_nil ?_) | (refine FW_ef rfl ?_) | (refine FW_efg rfl rfl rfl ?_) | (refine FW_alt ?_ ?_))
    | (refine is_fo ?_; first | (refine FO_dec_t rfl rfl (fun _ => ?_) (fun _ => ?_) <;> first | (exfalso; omega) | skip) | (refine FO_dec_f rfl rfl (fun _ => ?_) (fun _ => ?_) <;> first | (exfalso; omega) | skip) | (refine FO_no rfl rfl rfl rfl ?_) | (refine FO_ekg rfl rfl rfl ?_) | (refine FO_ek rfl ?_))
    | (refine is_ro ?_; first | (refine RO_no rfl rfl rfl rfl ?_) | (refine RO_ekg rfl rfl ?_) | (refine RO_ek ?_))
    | (refine is_raw ?_; first | (refine KJ_flow ?_ ?_))
    | (refine AtR_mk rfl ?_)
    | exact Rech.nil
    | (refine Rech_open rfl ?_))
  all_goals (refine is_ex ?_; exact KJ_done (by first | exact Or.inl rfl | exact Or.inr rfl) rfl (by (repeat' (first | exact Rvs.nil | (apply Rvs.tmp; exact rfl))); first | done | fail) () (by rfl) (Ent.of (by (repeat' (first | exact Pick.nil | apply Pick.cons | exact Sel.here | apply Sel.there)); first | done | fail) (by (repeat' (first | exact DropTo.refl | apply DropTo.there)); first | done | fail)))
theorem seal_ct {W : World} {E : Nat → Addr} (hE : ErrsOn L8 W E) (hN : NibAt W) (stamp : Int) (pl : List UInt8) : Ct Tryd.prog W 83 [.int .u64 stamp, strV pl] [] (fun _ : Unit => .tuple #[strV (sealS stamp pl), errV E (sealE stamp pl)]) (fun _ => []) := by
  by_cases h0 : stamp = 0
  · subst h0
    exact (seal_zero hE pl).val fun _ => by simp [sealS, sealE]
  by_cases hl : 234 < pl.length
  · exact (seal_long hE stamp pl h0 hl).val fun _ => by simp [sealS, sealE, h0, hl]
  · exact (seal_ok hN stamp pl h0 (by omega)).val fun _ => by simp [sealS, sealE, h0, hl, errV]
end Go.Proofs.YteklldbfdmaafaaDoor
/-
  The package sector: Open, as plain data, and its contract.
-/
namespace Go.Proofs.YteklldbfdmaafaaDoor
open Go Go.RowKit

def openN (raw : List UInt8) : Nat := (getB (raw.drop 8) 2).toNat
def openP (raw : List UInt8) : List UInt8 := (raw.take (10 + openN raw)).drop 10
/-- what Open tells -/
def openS (stamp : Int) (raw : List UInt8) : Option (List UInt8) :=
  if stamp = 0 then none else if raw.length ≠ 256 then none else if 234 < openN raw then none else if sealB stamp (openP raw) = raw then some (openP raw) else none

theorem open_zero {W : World} (raw : List UInt8) : Ct Tryd.prog W 87 [.int .u64 0, strV raw] [] (fun _ : Unit => .tuple #[strV [], .bool false]) (fun _ => []) := by
  refine Ct.enter Tryd.func87 rfl Tryd.ntmps87 (by simp) (fun R => ?_)
  repeat' (first 
    | (refine is_list ?_; first | (refine KJ_plain ?_) | (refine KJ_nil ?_) | (refine KJ_guard_dec_t rfl rfl rfl (fun _ => ?_) (fun _ => ?_) <;> first | (exfalso; omega) | skip) | (refine KJ_guard_dec_f rfl rfl rfl (fun _ => ?_) (fun _ => ?_) <;> first | (exfalso; omega) | skip) | (refine KJ_guard_yes rfl rfl ?_) | (refine KJ_guard_no rfl rfl rfl rfl ?_))
    | (refine is_oper ?_; first | (refine KJ_ek rfl ?_) | (refine KJ_ek0 ?_))
    | (refine is_ek ?_; first | (refine ek_move ?_; first | (refine EK_ev (Ev_move rfl) ?_)) | (refine ek_assign ?_; first | (refine EK_ev (Ev_assign rfl) ?_)) | (refine ek_pick ?_; first | (refine EK_ev (Ev_pick_t rfl rfl) ?_) | (refine EK_ev (Ev_pick_f rfl rfl) ?_)) | (refine ek_conv ?_; first | (refine EK_ev (Ev_convI64 rfl (by omega)) ?_) | (refine EK_ev (Ev_convI rfl) ?_) | (refine EK_ev (Ev_convS rfl) ?_)) | (refine ek_extract ?_; first | (refine EK_ev (Ev_extract rfl rfl) ?_)) | (refine ek_len ?_; first | (refine EK_ev (Ev_len_str rfl) ?_) | (refine EK_ev (Ev_len_slice rfl) ?_) | (refine EK_ev (Ev_len_arr rfl) ?_) | (refine EK_ev (Ev_len_map rfl (by (repeat' (first | exact Sel.here | apply Sel.there)); first | done | fail)) ?_)) | (refine ek_add ?_; first | (refine EK_ev (Ev_addI rfl rfl (by omega)) ?_) | (refine EK_ev (Ev_addS rfl rfl (by simp <;> omega)) ?_) | (refine EK_ev (Ev_add rfl rfl) ?_)) | (refine ek_eql ?_; first | (refine EK_ev (Ev_eqlI_t rfl rfl rfl) ?_) | (refine EK_ev (Ev_eqlI rfl rfl) ?_) | (refine EK_ev (Ev_eqlS rfl rfl) ?_) | (refine EK_ev (Ev_eqlNil rfl rfl) ?_) | (refine EK_ev (Ev_eqlB rfl rfl) ?_) | (refine EK_ev (Ev_eqlO rfl rfl rfl (fun _ => rfl)) ?_)) | (refine ek_neq ?_; first | (refine EK_ev (Ev_neqI rfl rfl) ?_) | (refine EK_ev (Ev_neqS rfl rfl) ?_) | (refine EK_ev (Ev_neqNil rfl rfl) ?_) | (refine EK_ev (Ev_neqB rfl rfl) ?_) | (refine EK_ev (Ev_neqO rfl rfl rfl (fun _ => rfl)) ?_)) | (refine ek_gtr ?_; first | (refine EK_ev (Ev_gtrI rfl rfl) ?_) | (refine EK_ev (Ev_gtrS rfl rfl) ?_)))
    | (refine is_ex ?_; first | (refine KJ_seq_normal ?_) | (refine KJ_seq_ret ?_) | (refine KJ_seq_exit ?_) | (refine KJ_thn_normal ?_) | (refine KJ_thn_ret ?_) | (refine KJ_thn_exit ?_) | (refine KJ_blk_normal ?_) | (refine KJ_blk_ret ?_) | (refine KJ_blk_exit ?_) | (refine KJ_blk_exit' rfl ?_))
    | (refine is_code ?_; first | (refine KJ_seq ?_) | (refine KJ_region ?_) | (refine KJ_cond_dec rfl (fun _ => ?_) (fun _ => ?_) <;> first | (exfalso; omega) | skip) | (refine KJ_cond_t rfl ?_) | (refine KJ_cond_f rfl ?_) | (refine KJ_skip ?_) | (refine KJ_ret ?_) | (refine KJ_exit ?_) | (refine KJ_block ?_)))
  all_goals (refine is_ex ?_; exact KJ_done (by first | exact Or.inl rfl | exact Or.inr rfl) rfl (by (repeat' (first | exact Rvs.nil | (apply Rvs.tmp; exact rfl))); first | done | fail) () (by rfl) (Ent.of (by (repeat' (first | exact Pick.nil | apply Pick.cons | exact Sel.here | apply Sel.there)); first | done | fail) (by (repeat' (first | exact DropTo.refl | apply DropTo.there)); first | done | fail)))
theorem open_len {W : World} (stamp : Int) (raw : List UInt8) (h0 : stamp ≠ 0) (h1 : raw.length ≠ 256) : Ct Tryd.prog W 87 [.int .u64 stamp, strV raw] [] (fun _ : Unit => .tuple #[strV [], .bool false]) (fun _ => []) := by
  have hne : (raw.length : Int) ≠ 256 := by omega
  refine Ct.enter Tryd.func87 rfl Tryd.ntmps87 (by simp) (fun R => ?_)
  repeat' (first 
    | (refine is_list ?_; first | (refine KJ_plain ?_) | (refine KJ_nil ?_) | (refine KJ_guard_dec_t rfl rfl rfl (fun _ => ?_) (fun _ => ?_) <;> first | (exfalso; omega) | skip) | (refine KJ_guard_dec_f rfl rfl rfl (fun _ => ?_) (fun _ => ?_) <;> first | (exfalso; omega) | skip) | (refine KJ_guard_yes rfl rfl ?_) | (refine KJ_guard_no rfl rfl rfl rfl ?_))
    | (refine is_oper ?_; first | (refine KJ_ek rfl ?_) | (refine KJ_ek0 ?_))
    | (refine is_ek ?_; first | (refine ek_move ?_; first | (refine EK_ev (Ev_move rfl) ?_)) | (refine ek_assign ?_; first | (refine EK_ev (Ev_assign rfl) ?_)) | (refine ek_pick ?_; first | (refine EK_ev (Ev_pick_t rfl rfl) ?_) | (refine EK_ev (Ev_pick_f rfl rfl) ?_)) | (refine ek_conv ?_; first | (refine EK_ev (Ev_convI64 rfl (by omega)) ?_) | (refine EK_ev (Ev_convI rfl) ?_) | (refine EK_ev (Ev_convS rfl) ?_)) | (refine ek_extract ?_; first | (refine EK_ev (Ev_extract rfl rfl) ?_)) | (refine ek_len ?_; first | (refine EK_ev (Ev_len_str rfl) ?_) | (refine EK_ev (Ev_len_slice rfl) ?_) | (refine EK_ev (Ev_len_arr rfl) ?_) | (refine EK_ev (Ev_len_map rfl (by (repeat' (first | exact Sel.here | apply Sel.there)); first | done | fail)) ?_)) | (refine ek_add ?_; first | (refine EK_ev (Ev_addI rfl rfl (by omega)) ?_) | (refine EK_ev (Ev_addS rfl rfl (by simp <;> omega)) ?_) | (refine EK_ev (Ev_add rfl rfl) ?_)) | (refine ek_eql ?_; first | (refine EK_ev (Ev_eqlI_f rfl rfl h0) ?_) | (refine EK_ev (Ev_eqlI rfl rfl) ?_) | (refine EK_ev (Ev_eqlS rfl rfl) ?_) | (refine EK_ev (Ev_eqlNil rfl rfl) ?_) | (refine EK_ev (Ev_eqlB rfl rfl) ?_) | (refine EK_ev (Ev_eqlO rfl rfl rfl (fun _ => rfl)) ?_)) | (refine ek_neq ?_; first | (refine EK_ev (Ev_neqI_t rfl rfl hne) ?_) | (refine EK_ev (Ev_neqI rfl rfl) ?_) | (refine EK_ev (Ev_neqS rfl rfl) ?_) | (refine EK_ev (Ev_neqNil rfl rfl) ?_) | (refine EK_ev (Ev_neqB rfl rfl) ?_) | (refine EK_ev (Ev_neqO rfl rfl rfl (fun _ => rfl)) ?_)) | (refine ek_gtr ?_; first | (refine EK_ev (Ev_gtrI rfl rfl) ?_) | (refine EK_ev (Ev_gtrS rfl rfl) ?_)))
    | (refine is_ex ?_; first | (refine KJ_seq_normal ?_) | (refine KJ_seq_ret ?_) | (refine KJ_seq_exit ?_) | (refine KJ_thn_normal ?_) | (refine KJ_thn_ret ?_) | (refine KJ_thn_exit ?_) | (refine KJ_blk_normal ?_) | (refine KJ_blk_ret ?_) | (refine KJ_blk_exit ?_) | (refine KJ_blk_exit' rfl ?_))
    | (refine is_code ?_; first | (refine KJ_seq ?_) | (refine KJ_region ?_) | (refine KJ_cond_dec rfl (fun _ => ?_) (fun _ => ?_) <;> first | (exfalso; omega) | skip) | (refine KJ_cond_t rfl ?_) | (refine KJ_cond_f rfl ?_) | (refine KJ_skip ?_) | (refine KJ_ret ?_) | (refine KJ_exit ?_) | (refine KJ_block ?_)))
  all_goals (refine is_ex ?_; exact KJ_done (by first | exact Or.inl rfl | exact Or.inr rfl) rfl (by (repeat' (first | exact Rvs.nil | (apply Rvs.tmp; exact rfl))); first | done | fail) () (by rfl) (Ent.of (by (repeat' (first | exact Pick.nil | apply Pick.cons | exact Sel.here | apply Sel.there)); first | done | fail) (by (repeat' (first | exact DropTo.refl | apply DropTo.there)); first | done | fail)))
theorem openN_int (raw : List UInt8) : getB (raw.drop 8) 2 = (openN raw : Int) ∧ openN raw < 65536 := by
  have := getB_two (raw.drop 8)
  unfold openN
  omega
theorem openP_length (raw : List UInt8) (h1 : raw.length = 256) (h2 : openN raw ≤ 234) : (openP raw).length = openN raw := by
  unfold openP
  rw [List.length_drop, List.length_take]
  omega

set_option maxRecDepth 100000 in
theorem open_more {W : World} (stamp : Int) (raw : List UInt8) (h0 : stamp ≠ 0) (h1 : raw.length = 256) (h2 : 234 < openN raw) : Ct Tryd.prog W 87 [.int .u64 stamp, strV raw] [] (fun _ : Unit => .tuple #[strV [], .bool false]) (fun _ => []) := by
  have hq : (raw.length : Int) = 256 := by omega
  obtain ⟨e1, e2⟩ := openN_int raw
  have c1 : Ct Tryd.prog W 117 [strV (raw.drop (8 : Int).toNat), .int .i64 2] [] (fun _ : Unit => .int .u64 (openN raw : Nat)) (fun _ => []) := by rw [← e1]; exact get_ct (raw.drop 8) 2 (by rw [List.length_drop]; omega) (by omega)
  have hgt : decide ((234 : Int) < (openN raw : Nat)) = true := decide_eq_true (by omega)
  refine Ct.enter Tryd.func87 rfl Tryd.ntmps87 (by simp) (fun R => ?_)
  repeat' (first 
    | (refine is_list ?_; first | (refine KJ_plain ?_) | (refine KJ_nil ?_) | (refine KJ_guard_dec_t rfl rfl rfl (fun _ => ?_) (fun _ => ?_) <;> first | (exfalso; omega) | skip) | (refine KJ_guard_dec_f rfl rfl rfl (fun _ => ?_) (fun _ => ?_) <;> first | (exfalso; omega) | skip) | (refine KJ_guard_yes rfl rfl ?_) | (refine KJ_guard_no rfl rfl rfl rfl ?_))
    | (refine is_oper ?_; first | (refine is_call ?_; first | (refine KJ_call (by (repeat' (first | exact Evs.nil | refine Evs.cons rfl ?_)); first | done | fail) c1 (by (repeat' (first | exact Pick.nil | apply Pick.cons | exact Sel.here | apply Sel.there)); first | done | fail) rfl (fun _ => ?_))) | (refine KJ_ek rfl ?_) | (refine KJ_ek0 ?_))
    | (refine is_ek ?_; first | (refine ek_move ?_; first | (refine EK_ev (Ev_move rfl) ?_)) | (refine ek_assign ?_; first | (refine EK_ev (Ev_assign rfl) ?_)) | (refine ek_pick ?_; first | (refine EK_ev (Ev_pick_t rfl rfl) ?_) | (refine EK_ev (Ev_pick_f rfl rfl) ?_)) | (refine ek_conv ?_; first | (refine EK_ev (Ev_convI64 rfl (by omega)) ?_) | (refine EK_ev (Ev_convI64 rfl (by omega)) ?_) | (refine EK_ev (Ev_convI rfl) ?_) | (refine EK_ev (Ev_convS rfl) ?_)) | (refine ek_extract ?_; first | (refine EK_ev (Ev_extract rfl rfl) ?_)) | (refine ek_slice ?_; first | (refine EK_ev (Ev_sliceStrFrom rfl rfl (by omega)) ?_)) | (refine ek_len ?_; first | (refine EK_ev (Ev_len_str rfl) ?_) | (refine EK_ev (Ev_len_slice rfl) ?_) | (refine EK_ev (Ev_len_arr rfl) ?_) | (refine EK_ev (Ev_len_map rfl (by (repeat' (first | exact Sel.here | apply Sel.there)); first | done | fail)) ?_)) | (refine ek_add ?_; first | (refine EK_ev (Ev_addI rfl rfl (by omega)) ?_) | (refine EK_ev (Ev_addS rfl rfl (by simp <;> omega)) ?_) | (refine EK_ev (Ev_add rfl rfl) ?_)) | (refine ek_eql ?_; first | (refine EK_ev (Ev_eqlI_f rfl rfl h0) ?_) | (refine EK_ev (Ev_eqlI rfl rfl) ?_) | (refine EK_ev (Ev_eqlS rfl rfl) ?_) | (refine EK_ev (Ev_eqlNil rfl rfl) ?_) | (refine EK_ev (Ev_eqlB rfl rfl) ?_) | (refine EK_ev (Ev_eqlO rfl rfl rfl (fun _ => rfl)) ?_)) | (refine ek_neq ?_; first | (refine EK_ev (Ev_neqI_f rfl rfl hq) ?_) | (refine EK_ev (Ev_neqI rfl rfl) ?_) | (refine EK_ev (Ev_neqS rfl rfl) ?_) | (refine EK_ev (Ev_neqNil rfl rfl) ?_) | (refine EK_ev (Ev_neqB rfl rfl) ?_) | (refine EK_ev (Ev_neqO rfl rfl rfl (fun _ => rfl)) ?_)) | (refine ek_gtr ?_; first | (refine EK_ev (Ev_gtrI_q rfl rfl hgt) ?_) | (refine EK_ev (Ev_gtrI rfl rfl) ?_) | (refine EK_ev (Ev_gtrS rfl rfl) ?_)))
    | (refine is_ex ?_; first | (refine KJ_seq_normal ?_) | (refine KJ_seq_ret ?_) | (refine KJ_seq_exit ?_) | (refine KJ_thn_normal ?_) | (refine KJ_thn_ret ?_) | (refine KJ_thn_exit ?_) | (refine KJ_blk_normal ?_) | (refine KJ_blk_ret ?_) | (refine KJ_blk_exit ?_) | (refine KJ_blk_exit' rfl ?_))
    | (refine is_code ?_; first | (refine KJ_seq ?_) | (refine KJ_region ?_) | (refine KJ_cond_dec rfl (fun _ => ?_) (fun _ => ?_) <;> first | (exfalso; omega) | skip) | (refine KJ_cond_t rfl ?_) | (refine KJ_cond_f rfl ?_) | (refine KJ_skip ?_) | (refine KJ_ret ?_) | (refine KJ_exit ?_) | (refine KJ_block ?_)))
  all_goals (refine is_ex ?_; exact KJ_done (by first | exact Or.inl rfl | exact Or.inr rfl) rfl (by (repeat' (first | exact Rvs.nil | (apply Rvs.tmp; exact rfl))); first | done | fail) () (by rfl) (Ent.of (by (repeat' (first | exact Pick.nil | apply Pick.cons | exact Sel.here | apply Sel.there)); first | done | fail) (by (repeat' (first | exact DropTo.refl | apply DropTo.there)); first | done | fail)))
set_option maxRecDepth 100000 in
theorem open_near {W : World} (hN : NibAt W) (stamp : Int) (raw : List UInt8) (h0 : stamp ≠ 0) (h1 : raw.length = 256) (h2 : openN raw ≤ 234) (q : Bool) (hs : decide (sealB stamp (openP raw) ≠ raw) = q) :
    Ct Tryd.prog W 87 [.int .u64 stamp, strV raw] [] (fun _ : Unit => .tuple #[strV (if q then [] else openP raw), .bool (!q)]) (fun _ => []) := by
  have hq : (raw.length : Int) = 256 := by omega
  obtain ⟨e1, e2⟩ := openN_int raw
  have c1 : Ct Tryd.prog W 117 [strV (raw.drop (8 : Int).toNat), .int .i64 2] [] (fun _ : Unit => .int .u64 (openN raw : Nat)) (fun _ => []) := by rw [← e1]; exact get_ct (raw.drop 8) 2 (by rw [List.length_drop]; omega) (by omega)
  have hgt : decide ((234 : Int) < (openN raw : Nat)) = false := decide_eq_false (by omega)
  have hpl := openP_length raw h1 h2
  have c2 : Ct Tryd.prog W 83 [.int .u64 stamp, strV (openP raw)] [] (fun _ : Unit => .tuple #[strV (sealB stamp (openP raw)), .nilIface]) (fun _ => []) := seal_ok hN stamp _ h0 (by omega)
  have ep : (raw.take ((10 : Int) + (openN raw : Nat)).toNat).drop (10 : Int).toNat = openP raw := by
    unfold openP
    rw [show ((10 : Int) + (openN raw : Nat)).toNat = 10 + openN raw from by omega]
    rfl
  have hsl : ∀ {n : Nat} {E : Env} {H : List SP} {x y z : Operand}, Env.ev E x = some (strV raw) → Env.ev E y = some (.int .i64 10) → Env.ev E z = some (.int .i64 ((10 : Int) + (openN raw : Nat))) → Ev Tryd.prog W n E H (.slice 9 x (some y) (some z) none) (strV (openP raw)) := fun hx hy hz => by
    rw [← ep]; exact Ev_sliceStr hx hy hz (by omega)
  have hsn : ∀ {n : Nat} {E : Env} {H : List SP} {x y : Operand} {t u : TypeId}, Env.ev E x = some (strV (sealB stamp (openP raw))) → Env.ev E y = some (strV raw) → Ev Tryd.prog W n E H (.binOp .neq t x y u) (.bool q) := fun hx hy => by
    rw [← hs]; exact Ev_neqS hx hy
  cases q with
  | true =>
    refine Ct.enter Tryd.func87 rfl Tryd.ntmps87 (by simp) (fun R => ?_)
    repeat' (first 
    | (refine is_list ?_; first | (refine KJ_plain ?_) | (refine KJ_nil ?_) | (refine KJ_guard_dec_t rfl rfl rfl (fun _ => ?_) (fun _ => ?_) <;> first | (exfalso; omega) | skip) | (refine KJ_guard_dec_f rfl rfl rfl (fun _ => ?_) (fun _ => ?_) <;> first | (exfalso; omega) | skip) | (refine KJ_guard_yes rfl rfl ?_) | (refine KJ_guard_no rfl rfl rfl rfl ?_))
    | (refine is_oper ?_; first | (refine is_call ?_; first | (refine KJ_call (by (repeat' (first | exact Evs.nil | refine Evs.cons rfl ?_)); first | done | fail) c2 (by (repeat' (first | exact Pick.nil | apply Pick.cons | exact Sel.here | apply Sel.there)); first | done | fail) rfl (fun _ => ?_)) | (refine KJ_call (by (repeat' (first | exact Evs.nil | refine Evs.cons rfl ?_)); first | done | fail) c1 (by (repeat' (first | exact Pick.nil | apply Pick.cons | exact Sel.here | apply Sel.there)); first | done | fail) rfl (fun _ => ?_))) | (refine KJ_ek rfl ?_) | (refine KJ_ek0 ?_))
    | (refine is_ek ?_; first | (refine ek_move ?_; first | (refine EK_ev (Ev_move rfl) ?_)) | (refine ek_assign ?_; first | (refine EK_ev (Ev_assign rfl) ?_)) | (refine ek_pick ?_; first | (refine EK_ev (Ev_pick_t rfl rfl) ?_) | (refine EK_ev (Ev_pick_f rfl rfl) ?_)) | (refine ek_conv ?_; first | (refine EK_ev (Ev_convI64 rfl (by omega)) ?_) | (refine EK_ev (Ev_convI64 rfl (by omega)) ?_) | (refine EK_ev (Ev_convI rfl) ?_) | (refine EK_ev (Ev_convS rfl) ?_)) | (refine ek_extract ?_; first | (refine EK_ev (Ev_extract rfl rfl) ?_)) | (refine ek_slice ?_; first | (refine EK_ev (hsl rfl rfl rfl) ?_) | (refine EK_ev (Ev_sliceStrFrom rfl rfl (by omega)) ?_)) | (refine ek_len ?_; first | (refine EK_ev (Ev_len_str rfl) ?_) | (refine EK_ev (Ev_len_slice rfl) ?_) | (refine EK_ev (Ev_len_arr rfl) ?_) | (refine EK_ev (Ev_len_map rfl (by (repeat' (first | exact Sel.here | apply Sel.there)); first | done | fail)) ?_)) | (refine ek_add ?_; first | (refine EK_ev (Ev_addI rfl rfl (by omega)) ?_) | (refine EK_ev (Ev_addS rfl rfl (by simp <;> omega)) ?_) | (refine EK_ev (Ev_add rfl rfl) ?_)) | (refine ek_eql ?_; first | (refine EK_ev (Ev_eqlI_f rfl rfl h0) ?_) | (refine EK_ev (Ev_eqlI rfl rfl) ?_) | (refine EK_ev (Ev_eqlS rfl rfl) ?_) | (refine EK_ev (Ev_eqlNil rfl rfl) ?_) | (refine EK_ev (Ev_eqlB rfl rfl) ?_) | (refine EK_ev (Ev_eqlO rfl rfl rfl (fun _ => rfl)) ?_)) | (refine ek_neq ?_; first | (refine EK_ev (hsn rfl rfl) ?_) | (refine EK_ev (Ev_neqI_f rfl rfl hq) ?_) | (refine EK_ev (Ev_neqI rfl rfl) ?_) | (refine EK_ev (Ev_neqS rfl rfl) ?_) | (refine EK_ev (Ev_neqNil rfl rfl) ?_) | (refine EK_ev (Ev_neqB rfl rfl) ?_) | (refine EK_ev (Ev_neqO rfl rfl rfl (fun _ => rfl)) ?_)) | (refine ek_gtr ?_; first | (refine EK_ev (Ev_gtrI_q rfl rfl hgt) ?_) | (refine EK_ev (Ev_gtrI rfl rfl) ?_) | (refine EK_ev (Ev_gtrS rfl rfl) ?_)))
    | (refine is_ex ?_; first | (refine KJ_seq_normal ?_) | (refine KJ_seq_ret ?_) | (refine KJ_seq_exit ?_) | (refine KJ_thn_normal ?_) | (refine KJ_thn_ret ?_) | (refine KJ_thn_exit ?_) | (refine KJ_blk_normal ?_) | (refine KJ_blk_ret ?_) | (refine KJ_blk_exit ?_) | (refine KJ_blk_exit' rfl ?_))
    | (refine is_code ?_; first | (refine KJ_seq ?_) | (refine KJ_region ?_) | (refine KJ_cond_dec rfl (fun _ => ?_) (fun _ => ?_) <;> first | (exfalso; omega) | skip) | (refine KJ_cond_t rfl ?_) | (refine KJ_cond_f rfl ?_) | (refine KJ_skip ?_) | (refine KJ_ret ?_) | (refine KJ_exit ?_) | (refine KJ_block ?_)))
    all_goals (refine is_ex ?_; exact KJ_done (by first | exact Or.inl rfl | exact Or.inr rfl) rfl (by (repeat' (first | exact Rvs.nil | (apply Rvs.tmp; exact rfl))); first | done | fail) () (by rfl) (Ent.of (by (repeat' (first | exact Pick.nil | apply Pick.cons | exact Sel.here | apply Sel.there)); first | done | fail) (by (repeat' (first | exact DropTo.refl | apply DropTo.there)); first | done | fail)))
  | false =>
    refine Ct.enter Tryd.func87 rfl Tryd.ntmps87 (by simp) (fun R => ?_)
    repeat' (first 
    | (refine is_list ?_; first | (refine KJ_plain ?_) | (refine KJ_nil ?_) | (refine KJ_guard_dec_t rfl rfl rfl (fun _ => ?_) (fun _ => ?_) <;> first | (exfalso; omega) | skip) | (refine KJ_guard_dec_f rfl rfl rfl (fun _ => ?_) (fun _ => ?_) <;> first | (exfalso; omega) | skip) | (refine KJ_guard_yes rfl rfl ?_) | (refine KJ_guard_no rfl rfl rfl rfl ?_))
    | (refine is_oper ?_; first | (refine is_call ?_; first | (refine KJ_call (by (repeat' (first | exact Evs.nil | refine Evs.cons rfl ?_)); first | done | fail) c2 (by (repeat' (first | exact Pick.nil | apply Pick.cons | exact Sel.here | apply Sel.there)); first | done | fail) rfl (fun _ => ?_)) | (refine KJ_call (by (repeat' (first | exact Evs.nil | refine Evs.cons rfl ?_)); first | done | fail) c1 (by (repeat' (first | exact Pick.nil | apply Pick.cons | exact Sel.here | apply Sel.there)); first | done | fail) rfl (fun _ => ?_))) | (refine KJ_ek rfl ?_) | (refine KJ_ek0 ?_))
    | (refine is_ek ?_; first | (refine ek_move ?_; first | (refine EK_ev (Ev_move rfl) ?_)) | (refine ek_assign ?_; first | (refine EK_ev (Ev_assign rfl) ?_)) | (refine ek_pick ?_; first | (refine EK_ev (Ev_pick_t rfl rfl) ?_) | (refine EK_ev (Ev_pick_f rfl rfl) ?_)) | (refine ek_conv ?_; first | (refine EK_ev (Ev_convI64 rfl (by omega)) ?_) | (refine EK_ev (Ev_convI64 rfl (by omega)) ?_) | (refine EK_ev (Ev_convI rfl) ?_) | (refine EK_ev (Ev_convS rfl) ?_)) | (refine ek_extract ?_; first | (refine EK_ev (Ev_extract rfl rfl) ?_)) | (refine ek_slice ?_; first | (refine EK_ev (hsl rfl rfl rfl) ?_) | (refine EK_ev (Ev_sliceStrFrom rfl rfl (by omega)) ?_)) | (refine ek_len ?_; first | (refine EK_ev (Ev_len_str rfl) ?_) | (refine EK_ev (Ev_len_slice rfl) ?_) | (refine EK_ev (Ev_len_arr rfl) ?_) | (refine EK_ev (Ev_len_map rfl (by (repeat' (first | exact Sel.here | apply Sel.there)); first | done | fail)) ?_)) | (refine ek_add ?_; first | (refine EK_ev (Ev_addI rfl rfl (by omega)) ?_) | (refine EK_ev (Ev_addS rfl rfl (by simp <;> omega)) ?_) | (refine EK_ev (Ev_add rfl rfl) ?_)) | (refine ek_eql ?_; first | (refine EK_ev (Ev_eqlI_f rfl rfl h0) ?_) | (refine EK_ev (Ev_eqlI rfl rfl) ?_) | (refine EK_ev (Ev_eqlS rfl rfl) ?_) | (refine EK_ev (Ev_eqlNil rfl rfl) ?_) | (refine EK_ev (Ev_eqlB rfl rfl) ?_) | (refine EK_ev (Ev_eqlO rfl rfl rfl (fun _ => rfl)) ?_)) | (refine ek_neq ?_; first | (refine EK_ev (hsn rfl rfl) ?_) | (refine EK_ev (Ev_neqI_f rfl rfl hq) ?_) | (refine EK_ev (Ev_neqI rfl rfl) ?_) | (refine EK_ev (Ev_neqS rfl rfl) ?_) | (refine EK_ev (Ev_neqNil rfl rfl) ?_) | (refine EK_ev (Ev_neqB rfl rfl) ?_) | (refine EK_ev (Ev_neqO rfl rfl rfl (fun _ => rfl)) ?_)) | (refine ek_gtr ?_; first | (refine EK_ev (Ev_gtrI_q rfl rfl hgt) ?_) | (refine EK_ev (Ev_gtrI rfl rfl) ?_) | (refine EK_ev (Ev_gtrS rfl rfl) ?_)))
    | (refine is_ex ?_; first | (refine KJ_seq_normal ?_) | (refine KJ_seq_ret ?_) | (refine KJ_seq_exit ?_) | (refine KJ_thn_normal ?_) | (refine KJ_thn_ret ?_) | (refine KJ_thn_exit ?_) | (refine KJ_blk_normal ?_) | (refine KJ_blk_ret ?_) | (refine KJ_blk_exit ?_) | (refine KJ_blk_exit' rfl ?_))
    | (refine is_code ?_; first | (refine KJ_seq ?_) | (refine KJ_region ?_) | (refine KJ_cond_dec rfl (fun _ => ?_) (fun _ => ?_) <;> first | (exfalso; omega) | skip) | (refine KJ_cond_t rfl ?_) | (refine KJ_cond_f rfl ?_) | (refine KJ_skip ?_) | (refine KJ_ret ?_) | (refine KJ_exit ?_) | (refine KJ_block ?_)))
    all_goals (refine is_ex ?_; exact KJ_done (by first | exact Or.inl rfl | exact Or.inr rfl) rfl (by (repeat' (first | exact Rvs.nil | (apply Rvs.tmp; exact rfl))); first | done | fail) () (by rfl) (Ent.of (by (repeat' (first | exact Pick.nil | apply Pick.cons | exact Sel.here | apply Sel.there)); first | done | fail) (by (repeat' (first | exact DropTo.refl | apply DropTo.there)); first | done | fail)))
theorem open_ct {W : World} (hN : NibAt W) (stamp : Int) (raw : List UInt8) : Ct Tryd.prog W 87 [.int .u64 stamp, strV raw] [] (fun _ : Unit => .tuple #[strV ((openS stamp raw).getD []), .bool (openS stamp raw).isSome]) (fun _ => []) := by
  by_cases h0 : stamp = 0
  · subst h0
    exact (open_zero raw).val fun _ => by simp [openS]
  by_cases h1 : raw.length = 256
  · by_cases h2 : 234 < openN raw
    · exact (open_more stamp raw h0 h1 h2).val fun _ => by simp [openS, h0, h1, h2]
    · by_cases hs : sealB stamp (openP raw) = raw
      · refine (open_near hN stamp raw h0 h1 (by omega) false (decide_eq_false (by simpa using hs))).val fun _ => ?_
        have : openS stamp raw = some (openP raw) := by unfold openS; rw [if_neg h0, if_neg (by simpa using h1), if_neg h2, if_pos hs]
        rw [this]; rfl
      · refine (open_near hN stamp raw h0 h1 (by omega) true (decide_eq_true hs)).val fun _ => ?_
        have : openS stamp raw = none := by unfold openS; rw [if_neg h0, if_neg (by simpa using h1), if_neg h2, if_neg hs]
        rw [this]; rfl
  · exact (open_len stamp raw h0 h1).val fun _ => by simp [openS, h0, h1]
end Go.Proofs.YteklldbfdmaafaaDoor
/-
  The package slots: room and count, as plain data, and their contracts.
-/
namespace Go.Proofs.YteklldbfdmaafaaDoor
open Go Go.RowKit

section
variable {W : World} {E : Nat → Addr} {p : Nat} {D : Dsk}
/-- may a slot be there? -/
def Dsk.roomB (D : Dsk) (at_ : Int) : Bool := decide (0 ≤ at_ ∧ at_ ≤ (D.n : Int) - 2)
set_option maxRecDepth 100000 in
theorem room_ct (at_ : Int) (hn : D.n ≤ 65536) : Ct Tryd.prog W 82 [.pointer (some ⟨p, 0, none⟩), .int .i64 at_] [DiskP p D] (fun _ : Unit => .bool (D.roomB at_)) (fun _ => [DiskP p D]) := by
  have c1 : Ct Tryd.prog W 40 [.pointer (some ⟨p, 0, none⟩)] [DiskP p D] (fun _ : Unit => .int .i64 D.n) (fun _ => [DiskP p D]) := size_ct
  by_cases h : 0 ≤ at_
  · have hq : decide ((0 : Int) ≤ at_) = true := decide_eq_true h
    have hr : decide (at_ ≤ (D.n : Int) - 2) = D.roomB at_ := by unfold Dsk.roomB; simp [h]
    refine Ct.enter Tryd.func82 rfl Tryd.ntmps82 (by simp) (fun R => ?_)
    repeat' (first 
    | (refine is_list ?_; first | (refine KJ_plain ?_) | (refine KJ_nil ?_) | (refine KJ_guard_dec_t rfl rfl rfl (fun _ => ?_) (fun _ => ?_) <;> first | (exfalso; omega) | skip) | (refine KJ_guard_dec_f rfl rfl rfl (fun _ => ?_) (fun _ => ?_) <;> first | (exfalso; omega) | skip) | (refine KJ_guard_yes rfl rfl ?_) | (refine KJ_guard_no rfl rfl rfl rfl ?_))
    | (refine is_oper ?_; first | (refine is_call ?_; first | (refine KJ_call (by (repeat' (first | exact Evs.nil | refine Evs.cons rfl ?_)); first | done | fail) c1 (by (repeat' (first | exact Pick.nil | apply Pick.cons | exact Sel.here | apply Sel.there)); first | done | fail) rfl (fun _ => ?_))) | (refine KJ_ek rfl ?_) | (refine KJ_ek0 ?_))
    | (refine is_ek ?_; first | (refine ek_move ?_; first | (refine EK_ev (Ev_move rfl) ?_)) | (refine ek_assign ?_; first | (refine EK_ev (Ev_assign rfl) ?_)) | (refine ek_pick ?_; first | (refine EK_ev (Ev_pick_t rfl rfl) ?_) | (refine EK_ev (Ev_pick_f rfl rfl) ?_)) | (refine ek_sub ?_; first | (refine EK_ev (Ev_subI rfl rfl (by omega)) ?_) | (refine EK_ev (Ev_sub rfl rfl) ?_)) | (refine ek_leq ?_; first | (refine EK_ev (Ev_leqI_q rfl rfl hr) ?_) | (refine EK_ev (Ev_leqI rfl rfl) ?_) | (refine EK_ev (Ev_leqS rfl rfl) ?_)) | (refine ek_geq ?_; first | (refine EK_ev (Ev_geqI_q rfl rfl hq) ?_) | (refine EK_ev (Ev_geqI rfl rfl) ?_) | (refine EK_ev (Ev_geqS rfl rfl) ?_)))
    | (refine is_ex ?_; first | (refine KJ_seq_normal ?_) | (refine KJ_seq_ret ?_) | (refine KJ_seq_exit ?_) | (refine KJ_thn_normal ?_) | (refine KJ_thn_ret ?_) | (refine KJ_thn_exit ?_) | (refine KJ_blk_normal ?_) | (refine KJ_blk_ret ?_) | (refine KJ_blk_exit ?_) | (refine KJ_blk_exit' rfl ?_))
    | (refine is_code ?_; first | (refine KJ_seq ?_) | (refine KJ_region ?_) | (refine KJ_cond_dec rfl (fun _ => ?_) (fun _ => ?_) <;> first | (exfalso; omega) | skip) | (refine KJ_cond_t rfl ?_) | (refine KJ_cond_f rfl ?_) | (refine KJ_skip ?_) | (refine KJ_ret ?_) | (refine KJ_exit ?_) | (refine KJ_block ?_)))
    all_goals (refine is_ex ?_; exact KJ_done (by first | exact Or.inl rfl | exact Or.inr rfl) rfl (by (repeat' (first | exact Rvs.nil | (apply Rvs.tmp; exact rfl))); first | done | fail) () (by rfl) (Ent.of (by (repeat' (first | exact Pick.nil | apply Pick.cons | exact Sel.here | apply Sel.there)); first | done | fail) (by (repeat' (first | exact DropTo.refl | apply DropTo.there)); first | done | fail)))
  · have hq : decide ((0 : Int) ≤ at_) = false := decide_eq_false h
    have hr : D.roomB at_ = false := by unfold Dsk.roomB; simp [h]
    rw [hr]
    refine Ct.enter Tryd.func82 rfl Tryd.ntmps82 (by simp) (fun R => ?_)
    repeat' (first 
    | (refine is_list ?_; first | (refine KJ_plain ?_) | (refine KJ_nil ?_) | (refine KJ_guard_dec_t rfl rfl rfl (fun _ => ?_) (fun _ => ?_) <;> first | (exfalso; omega) | skip) | (refine KJ_guard_dec_f rfl rfl rfl (fun _ => ?_) (fun _ => ?_) <;> first | (exfalso; omega) | skip) | (refine KJ_guard_yes rfl rfl ?_) | (refine KJ_guard_no rfl rfl rfl rfl ?_))
    | (refine is_oper ?_; first | (refine KJ_ek rfl ?_) | (refine KJ_ek0 ?_))
    | (refine is_ek ?_; first | (refine ek_move ?_; first | (refine EK_ev (Ev_move rfl) ?_)) | (refine ek_assign ?_; first | (refine EK_ev (Ev_assign rfl) ?_)) | (refine ek_pick ?_; first | (refine EK_ev (Ev_pick_t rfl rfl) ?_) | (refine EK_ev (Ev_pick_f rfl rfl) ?_)) | (refine ek_sub ?_; first | (refine EK_ev (Ev_subI rfl rfl (by omega)) ?_) | (refine EK_ev (Ev_sub rfl rfl) ?_)) | (refine ek_leq ?_; first | (refine EK_ev (Ev_leqI rfl rfl) ?_) | (refine EK_ev (Ev_leqS rfl rfl) ?_)) | (refine ek_geq ?_; first | (refine EK_ev (Ev_geqI_q rfl rfl hq) ?_) | (refine EK_ev (Ev_geqI rfl rfl) ?_) | (refine EK_ev (Ev_geqS rfl rfl) ?_)))
    | (refine is_ex ?_; first | (refine KJ_seq_normal ?_) | (refine KJ_seq_ret ?_) | (refine KJ_seq_exit ?_) | (refine KJ_thn_normal ?_) | (refine KJ_thn_ret ?_) | (refine KJ_thn_exit ?_) | (refine KJ_blk_normal ?_) | (refine KJ_blk_ret ?_) | (refine KJ_blk_exit ?_) | (refine KJ_blk_exit' rfl ?_))
    | (refine is_code ?_; first | (refine KJ_seq ?_) | (refine KJ_region ?_) | (refine KJ_cond_dec rfl (fun _ => ?_) (fun _ => ?_) <;> first | (exfalso; omega) | skip) | (refine KJ_cond_t rfl ?_) | (refine KJ_cond_f rfl ?_) | (refine KJ_skip ?_) | (refine KJ_ret ?_) | (refine KJ_exit ?_) | (refine KJ_block ?_)))
    all_goals (refine is_ex ?_; exact KJ_done (by first | exact Or.inl rfl | exact Or.inr rfl) rfl (by (repeat' (first | exact Rvs.nil | (apply Rvs.tmp; exact rfl))); first | done | fail) () (by rfl) (Ent.of (by (repeat' (first | exact Pick.nil | apply Pick.cons | exact Sel.here | apply Sel.there)); first | done | fail) (by (repeat' (first | exact DropTo.refl | apply DropTo.there)); first | done | fail)))

/-- what a sector of a slot tells -/
def countO (raw : List UInt8) (k : Int) : Option (Int × List UInt8) :=
  if raw.length ≠ 256 then none else if getB raw 8 ≠ getB (raw.drop 248) 8 then none else if getB raw 8 < 1 then none else if 1099511627776 < getB raw 8 then none else
    if getB raw 8 % 2 ≠ k then none else (openS (getB raw 8) raw).map fun v => (getB raw 8, v)
def countV (raw : List UInt8) (k : Int) : Int := ((countO raw k).map (·.1)).getD 0
def countS (raw : List UInt8) (k : Int) : List UInt8 := ((countO raw k).map (·.2)).getD []
set_option maxHeartbeats 1000000 in
set_option maxRecDepth 100000 in
theorem count_ct (hE : ErrsOn L8 W E) (hN : NibAt W) (raw : List UInt8) (k : Int) : Ct Tryd.prog W 84 [strV raw, .int .i64 k] [] (fun _ : Unit => .tuple #[.int .i64 (countV raw k), strV (countS raw k)]) (fun _ => []) := by
  by_cases h1 : raw.length = 256
  rotate_left
  · have c1 := ends_bad hE raw h1
    have hne : errV E 7 ≠ .nilIface := by simp [errV]
    rw [show countV raw k = 0 by simp [countV, countO, h1], show countS raw k = [] by simp [countS, countO, h1]]
    refine Ct.enter Tryd.func84 rfl Tryd.ntmps84 (by simp) (fun R => ?_)
    repeat' (first 
    | (refine is_list ?_; first | (refine KJ_plain ?_) | (refine KJ_nil ?_) | (refine KJ_guard_dec_t rfl rfl rfl (fun _ => ?_) (fun _ => ?_) <;> first | (exfalso; omega) | skip) | (refine KJ_guard_dec_f rfl rfl rfl (fun _ => ?_) (fun _ => ?_) <;> first | (exfalso; omega) | skip) | (refine KJ_guard_yes rfl rfl ?_) | (refine KJ_guard_no rfl rfl rfl rfl ?_))
    | (refine is_oper ?_; first | (refine is_call ?_; first | (refine KJ_call (by (repeat' (first | exact Evs.nil | refine Evs.cons rfl ?_)); first | done | fail) c1 (by (repeat' (first | exact Pick.nil | apply Pick.cons | exact Sel.here | apply Sel.there)); first | done | fail) rfl (fun _ => ?_))) | (refine KJ_ek rfl ?_) | (refine KJ_ek0 ?_))
    | (refine is_ek ?_; first | (refine ek_move ?_; first | (refine EK_ev (Ev_move rfl) ?_)) | (refine ek_assign ?_; first | (refine EK_ev (Ev_assign rfl) ?_)) | (refine ek_pick ?_; first | (refine EK_ev (Ev_pick_t rfl rfl) ?_) | (refine EK_ev (Ev_pick_f rfl rfl) ?_)) | (refine ek_un ?_; first | (refine EK_ev (Ev_notD rfl) ?_) | (refine EK_ev (Ev_not rfl) ?_) | (refine EK_ev (Ev_neg rfl) ?_)) | (refine ek_conv ?_; first | (refine EK_ev (Ev_convI64 rfl (by omega)) ?_) | (refine EK_ev (Ev_convI rfl) ?_) | (refine EK_ev (Ev_convS rfl) ?_)) | (refine ek_extract ?_; first | (refine EK_ev (Ev_extract rfl rfl) ?_)) | (refine ek_rem ?_; first | (refine EK_ev (Ev_remI rfl rfl (by omega)) ?_) | (refine EK_ev (Ev_rem rfl rfl (by omega)) ?_)) | (refine ek_neq ?_; first | (refine EK_ev (Ev_neqI rfl rfl) ?_) | (refine EK_ev (Ev_neqS rfl rfl) ?_) | (refine EK_ev (Ev_neqNil rfl rfl) ?_) | (refine EK_ev (Ev_neqB rfl rfl) ?_) | (refine EK_ev (Ev_neqO rfl rfl rfl (fun _ => rfl)) ?_)) | (refine ek_lss ?_; first | (refine EK_ev (Ev_lssI rfl rfl) ?_) | (refine EK_ev (Ev_lssS rfl rfl) ?_)) | (refine ek_gtr ?_; first | (refine EK_ev (Ev_gtrI rfl rfl) ?_) | (refine EK_ev (Ev_gtrS rfl rfl) ?_)))
    | (refine is_ex ?_; first | (refine KJ_seq_normal ?_) | (refine KJ_seq_ret ?_) | (refine KJ_seq_exit ?_) | (refine KJ_thn_normal ?_) | (refine KJ_thn_ret ?_) | (refine KJ_thn_exit ?_) | (refine KJ_blk_normal ?_) | (refine KJ_blk_ret ?_) | (refine KJ_blk_exit ?_) | (refine KJ_blk_exit' rfl ?_))
    | (refine is_code ?_; first | (refine KJ_seq ?_) | (refine KJ_region ?_) | (refine KJ_cond_dec rfl (fun _ => ?_) (fun _ => ?_) <;> first | (exfalso; omega) | skip) | (refine KJ_cond_t rfl ?_) | (refine KJ_cond_f rfl ?_) | (refine KJ_skip ?_) | (refine KJ_ret ?_) | (refine KJ_exit ?_) | (refine KJ_block ?_)))
    all_goals (refine is_ex ?_; exact KJ_done (by first | exact Or.inl rfl | exact Or.inr rfl) rfl (by (repeat' (first | exact Rvs.nil | (apply Rvs.tmp; exact rfl))); first | done | fail) () (by rfl) (Ent.of (by (repeat' (first | exact Pick.nil | apply Pick.cons | exact Sel.here | apply Sel.there)); first | done | fail) (by (repeat' (first | exact DropTo.refl | apply DropTo.there)); first | done | fail)))
  have c1 := ends_ok (W := W) raw h1
  have co := open_ct hN (getB raw 8) raw
  have hO : countO raw k = if getB raw 8 ≠ getB (raw.drop 248) 8 then none else if getB raw 8 < 1 then none else if 1099511627776 < getB raw 8 then none else if getB raw 8 % 2 ≠ k then none else (openS (getB raw 8) raw).map fun v => (getB raw 8, v) := by
    unfold countO; rw [if_neg (by simpa using h1)]
  unfold countV countS
  rw [hO]
  clear hO
  obtain ⟨a, ha⟩ : ∃ a, a = getB raw 8 := ⟨_, rfl⟩
  obtain ⟨b, hb⟩ : ∃ b, b = getB (raw.drop 248) 8 := ⟨_, rfl⟩
  obtain ⟨o, ho⟩ : ∃ o, o = openS (getB raw 8) raw := ⟨_, rfl⟩
  rw [← ho] at co ⊢
  rw [← ha] at co ⊢
  rw [← ha, ← hb] at c1
  rw [← hb]
  clear ha hb ho
  by_cases h2 : a = b
  rotate_left
  · rw [if_pos h2]
    refine Ct.enter Tryd.func84 rfl Tryd.ntmps84 (by simp) (fun R => ?_)
    repeat' (first 
    | (refine is_list ?_; first | (refine KJ_plain ?_) | (refine KJ_nil ?_) | (refine KJ_guard_dec_t rfl rfl rfl (fun _ => ?_) (fun _ => ?_) <;> first | (exfalso; omega) | skip) | (refine KJ_guard_dec_f rfl rfl rfl (fun _ => ?_) (fun _ => ?_) <;> first | (exfalso; omega) | skip) | (refine KJ_guard_yes rfl rfl ?_) | (refine KJ_guard_no rfl rfl rfl rfl ?_))
    | (refine is_oper ?_; first | (refine is_call ?_; first | (refine KJ_call (by (repeat' (first | exact Evs.nil | refine Evs.cons rfl ?_)); first | done | fail) c1 (by (repeat' (first | exact Pick.nil | apply Pick.cons | exact Sel.here | apply Sel.there)); first | done | fail) rfl (fun _ => ?_))) | (refine KJ_ek rfl ?_) | (refine KJ_ek0 ?_))
    | (refine is_ek ?_; first | (refine ek_move ?_; first | (refine EK_ev (Ev_move rfl) ?_)) | (refine ek_assign ?_; first | (refine EK_ev (Ev_assign rfl) ?_)) | (refine ek_pick ?_; first | (refine EK_ev (Ev_pick_t rfl rfl) ?_) | (refine EK_ev (Ev_pick_f rfl rfl) ?_)) | (refine ek_un ?_; first | (refine EK_ev (Ev_notD rfl) ?_) | (refine EK_ev (Ev_not rfl) ?_) | (refine EK_ev (Ev_neg rfl) ?_)) | (refine ek_conv ?_; first | (refine EK_ev (Ev_convI64 rfl (by omega)) ?_) | (refine EK_ev (Ev_convI rfl) ?_) | (refine EK_ev (Ev_convS rfl) ?_)) | (refine ek_extract ?_; first | (refine EK_ev (Ev_extract rfl rfl) ?_)) | (refine ek_rem ?_; first | (refine EK_ev (Ev_remI rfl rfl (by omega)) ?_) | (refine EK_ev (Ev_rem rfl rfl (by omega)) ?_)) | (refine ek_neq ?_; first | (refine EK_ev (Ev_neqI_t rfl rfl h2) ?_) | (refine EK_ev (Ev_neqI rfl rfl) ?_) | (refine EK_ev (Ev_neqS rfl rfl) ?_) | (refine EK_ev (Ev_neqNil rfl rfl) ?_) | (refine EK_ev (Ev_neqB rfl rfl) ?_) | (refine EK_ev (Ev_neqO rfl rfl rfl (fun _ => rfl)) ?_)) | (refine ek_lss ?_; first | (refine EK_ev (Ev_lssI rfl rfl) ?_) | (refine EK_ev (Ev_lssS rfl rfl) ?_)) | (refine ek_gtr ?_; first | (refine EK_ev (Ev_gtrI rfl rfl) ?_) | (refine EK_ev (Ev_gtrS rfl rfl) ?_)))
    | (refine is_ex ?_; first | (refine KJ_seq_normal ?_) | (refine KJ_seq_ret ?_) | (refine KJ_seq_exit ?_) | (refine KJ_thn_normal ?_) | (refine KJ_thn_ret ?_) | (refine KJ_thn_exit ?_) | (refine KJ_blk_normal ?_) | (refine KJ_blk_ret ?_) | (refine KJ_blk_exit ?_) | (refine KJ_blk_exit' rfl ?_))
    | (refine is_code ?_; first | (refine KJ_seq ?_) | (refine KJ_region ?_) | (refine KJ_cond_dec rfl (fun _ => ?_) (fun _ => ?_) <;> first | (exfalso; omega) | skip) | (refine KJ_cond_t rfl ?_) | (refine KJ_cond_f rfl ?_) | (refine KJ_skip ?_) | (refine KJ_ret ?_) | (refine KJ_exit ?_) | (refine KJ_block ?_)))
    all_goals (refine is_ex ?_; exact KJ_done (by first | exact Or.inl rfl | exact Or.inr rfl) rfl (by (repeat' (first | exact Rvs.nil | (apply Rvs.tmp; exact rfl))); first | done | fail) () (by rfl) (Ent.of (by (repeat' (first | exact Pick.nil | apply Pick.cons | exact Sel.here | apply Sel.there)); first | done | fail) (by (repeat' (first | exact DropTo.refl | apply DropTo.there)); first | done | fail)))
  rw [if_neg (by simpa using h2)]
  by_cases h3 : a < 1
  · rw [if_pos h3]
    have q3 : decide (a < 1) = true := decide_eq_true h3
    refine Ct.enter Tryd.func84 rfl Tryd.ntmps84 (by simp) (fun R => ?_)
    repeat' (first 
    | (refine is_list ?_; first | (refine KJ_plain ?_) | (refine KJ_nil ?_) | (refine KJ_guard_dec_t rfl rfl rfl (fun _ => ?_) (fun _ => ?_) <;> first | (exfalso; omega) | skip) | (refine KJ_guard_dec_f rfl rfl rfl (fun _ => ?_) (fun _ => ?_) <;> first | (exfalso; omega) | skip) | (refine KJ_guard_yes rfl rfl ?_) | (refine KJ_guard_no rfl rfl rfl rfl ?_))
    | (refine is_oper ?_; first | (refine is_call ?_; first | (refine KJ_call (by (repeat' (first | exact Evs.nil | refine Evs.cons rfl ?_)); first | done | fail) c1 (by (repeat' (first | exact Pick.nil | apply Pick.cons | exact Sel.here | apply Sel.there)); first | done | fail) rfl (fun _ => ?_))) | (refine KJ_ek rfl ?_) | (refine KJ_ek0 ?_))
    | (refine is_ek ?_; first | (refine ek_move ?_; first | (refine EK_ev (Ev_move rfl) ?_)) | (refine ek_assign ?_; first | (refine EK_ev (Ev_assign rfl) ?_)) | (refine ek_pick ?_; first | (refine EK_ev (Ev_pick_t rfl rfl) ?_) | (refine EK_ev (Ev_pick_f rfl rfl) ?_)) | (refine ek_un ?_; first | (refine EK_ev (Ev_notD rfl) ?_) | (refine EK_ev (Ev_not rfl) ?_) | (refine EK_ev (Ev_neg rfl) ?_)) | (refine ek_conv ?_; first | (refine EK_ev (Ev_convI64 rfl (by omega)) ?_) | (refine EK_ev (Ev_convI rfl) ?_) | (refine EK_ev (Ev_convS rfl) ?_)) | (refine ek_extract ?_; first | (refine EK_ev (Ev_extract rfl rfl) ?_)) | (refine ek_rem ?_; first | (refine EK_ev (Ev_remI rfl rfl (by omega)) ?_) | (refine EK_ev (Ev_rem rfl rfl (by omega)) ?_)) | (refine ek_neq ?_; first | (refine EK_ev (Ev_neqI_f rfl rfl h2) ?_) | (refine EK_ev (Ev_neqI rfl rfl) ?_) | (refine EK_ev (Ev_neqS rfl rfl) ?_) | (refine EK_ev (Ev_neqNil rfl rfl) ?_) | (refine EK_ev (Ev_neqB rfl rfl) ?_) | (refine EK_ev (Ev_neqO rfl rfl rfl (fun _ => rfl)) ?_)) | (refine ek_lss ?_; first | (refine EK_ev (Ev_lssI_q rfl rfl q3) ?_) | (refine EK_ev (Ev_lssI rfl rfl) ?_) | (refine EK_ev (Ev_lssS rfl rfl) ?_)) | (refine ek_gtr ?_; first | (refine EK_ev (Ev_gtrI rfl rfl) ?_) | (refine EK_ev (Ev_gtrS rfl rfl) ?_)))
    | (refine is_ex ?_; first | (refine KJ_seq_normal ?_) | (refine KJ_seq_ret ?_) | (refine KJ_seq_exit ?_) | (refine KJ_thn_normal ?_) | (refine KJ_thn_ret ?_) | (refine KJ_thn_exit ?_) | (refine KJ_blk_normal ?_) | (refine KJ_blk_ret ?_) | (refine KJ_blk_exit ?_) | (refine KJ_blk_exit' rfl ?_))
    | (refine is_code ?_; first | (refine KJ_seq ?_) | (refine KJ_region ?_) | (refine KJ_cond_dec rfl (fun _ => ?_) (fun _ => ?_) <;> first | (exfalso; omega) | skip) | (refine KJ_cond_t rfl ?_) | (refine KJ_cond_f rfl ?_) | (refine KJ_skip ?_) | (refine KJ_ret ?_) | (refine KJ_exit ?_) | (refine KJ_block ?_)))
    all_goals (refine is_ex ?_; exact KJ_done (by first | exact Or.inl rfl | exact Or.inr rfl) rfl (by (repeat' (first | exact Rvs.nil | (apply Rvs.tmp; exact rfl))); first | done | fail) () (by rfl) (Ent.of (by (repeat' (first | exact Pick.nil | apply Pick.cons | exact Sel.here | apply Sel.there)); first | done | fail) (by (repeat' (first | exact DropTo.refl | apply DropTo.there)); first | done | fail)))
  rw [if_neg h3]
  have q3 : decide (a < 1) = false := decide_eq_false h3
  by_cases h4 : 1099511627776 < a
  · rw [if_pos h4]
    have q4 : decide (1099511627776 < a) = true := decide_eq_true h4
    refine Ct.enter Tryd.func84 rfl Tryd.ntmps84 (by simp) (fun R => ?_)
    repeat' (first 
    | (refine is_list ?_; first | (refine KJ_plain ?_) | (refine KJ_nil ?_) | (refine KJ_guard_dec_t rfl rfl rfl (fun _ => ?_) (fun _ => ?_) <;> first | (exfalso; omega) | skip) | (refine KJ_guard_dec_f rfl rfl rfl (fun _ => ?_) (fun _ => ?_) <;> first | (exfalso; omega) | skip) | (refine KJ_guard_yes rfl rfl ?_) | (refine KJ_guard_no rfl rfl rfl rfl ?_))
    | (refine is_oper ?_; first | (refine is_call ?_; first | (refine KJ_call (by (repeat' (first | exact Evs.nil | refine Evs.cons rfl ?_)); first | done | fail) c1 (by (repeat' (first | exact Pick.nil | apply Pick.cons | exact Sel.here | apply Sel.there)); first | done | fail) rfl (fun _ => ?_))) | (refine KJ_ek rfl ?_) | (refine KJ_ek0 ?_))
    | (refine is_ek ?_; first | (refine ek_move ?_; first | (refine EK_ev (Ev_move rfl) ?_)) | (refine ek_assign ?_; first | (refine EK_ev (Ev_assign rfl) ?_)) | (refine ek_pick ?_; first | (refine EK_ev (Ev_pick_t rfl rfl) ?_) | (refine EK_ev (Ev_pick_f rfl rfl) ?_)) | (refine ek_un ?_; first | (refine EK_ev (Ev_notD rfl) ?_) | (refine EK_ev (Ev_not rfl) ?_) | (refine EK_ev (Ev_neg rfl) ?_)) | (refine ek_conv ?_; first | (refine EK_ev (Ev_convI64 rfl (by omega)) ?_) | (refine EK_ev (Ev_convI rfl) ?_) | (refine EK_ev (Ev_convS rfl) ?_)) | (refine ek_extract ?_; first | (refine EK_ev (Ev_extract rfl rfl) ?_)) | (refine ek_rem ?_; first | (refine EK_ev (Ev_remI rfl rfl (by omega)) ?_) | (refine EK_ev (Ev_rem rfl rfl (by omega)) ?_)) | (refine ek_neq ?_; first | (refine EK_ev (Ev_neqI_f rfl rfl h2) ?_) | (refine EK_ev (Ev_neqI rfl rfl) ?_) | (refine EK_ev (Ev_neqS rfl rfl) ?_) | (refine EK_ev (Ev_neqNil rfl rfl) ?_) | (refine EK_ev (Ev_neqB rfl rfl) ?_) | (refine EK_ev (Ev_neqO rfl rfl rfl (fun _ => rfl)) ?_)) | (refine ek_lss ?_; first | (refine EK_ev (Ev_lssI_q rfl rfl q3) ?_) | (refine EK_ev (Ev_lssI rfl rfl) ?_) | (refine EK_ev (Ev_lssS rfl rfl) ?_)) | (refine ek_gtr ?_; first | (refine EK_ev (Ev_gtrI_q rfl rfl q4) ?_) | (refine EK_ev (Ev_gtrI rfl rfl) ?_) | (refine EK_ev (Ev_gtrS rfl rfl) ?_)))
    | (refine is_ex ?_; first | (refine KJ_seq_normal ?_) | (refine KJ_seq_ret ?_) | (refine KJ_seq_exit ?_) | (refine KJ_thn_normal ?_) | (refine KJ_thn_ret ?_) | (refine KJ_thn_exit ?_) | (refine KJ_blk_normal ?_) | (refine KJ_blk_ret ?_) | (refine KJ_blk_exit ?_) | (refine KJ_blk_exit' rfl ?_))
    | (refine is_code ?_; first | (refine KJ_seq ?_) | (refine KJ_region ?_) | (refine KJ_cond_dec rfl (fun _ => ?_) (fun _ => ?_) <;> first | (exfalso; omega) | skip) | (refine KJ_cond_t rfl ?_) | (refine KJ_cond_f rfl ?_) | (refine KJ_skip ?_) | (refine KJ_ret ?_) | (refine KJ_exit ?_) | (refine KJ_block ?_)))
    all_goals (refine is_ex ?_; exact KJ_done (by first | exact Or.inl rfl | exact Or.inr rfl) rfl (by (repeat' (first | exact Rvs.nil | (apply Rvs.tmp; exact rfl))); first | done | fail) () (by rfl) (Ent.of (by (repeat' (first | exact Pick.nil | apply Pick.cons | exact Sel.here | apply Sel.there)); first | done | fail) (by (repeat' (first | exact DropTo.refl | apply DropTo.there)); first | done | fail)))
  rw [if_neg h4]
  have q4 : decide (1099511627776 < a) = false := decide_eq_false h4
  by_cases h5 : a % 2 = k
  rotate_left
  · rw [if_pos h5]
    refine Ct.enter Tryd.func84 rfl Tryd.ntmps84 (by simp) (fun R => ?_)
    repeat' (first 
    | (refine is_list ?_; first | (refine KJ_plain ?_) | (refine KJ_nil ?_) | (refine KJ_guard_dec_t rfl rfl rfl (fun _ => ?_) (fun _ => ?_) <;> first | (exfalso; omega) | skip) | (refine KJ_guard_dec_f rfl rfl rfl (fun _ => ?_) (fun _ => ?_) <;> first | (exfalso; omega) | skip) | (refine KJ_guard_yes rfl rfl ?_) | (refine KJ_guard_no rfl rfl rfl rfl ?_))
    | (refine is_oper ?_; first | (refine is_call ?_; first | (refine KJ_call (by (repeat' (first | exact Evs.nil | refine Evs.cons rfl ?_)); first | done | fail) c1 (by (repeat' (first | exact Pick.nil | apply Pick.cons | exact Sel.here | apply Sel.there)); first | done | fail) rfl (fun _ => ?_))) | (refine KJ_ek rfl ?_) | (refine KJ_ek0 ?_))
    | (refine is_ek ?_; first | (refine ek_move ?_; first | (refine EK_ev (Ev_move rfl) ?_)) | (refine ek_assign ?_; first | (refine EK_ev (Ev_assign rfl) ?_)) | (refine ek_pick ?_; first | (refine EK_ev (Ev_pick_t rfl rfl) ?_) | (refine EK_ev (Ev_pick_f rfl rfl) ?_)) | (refine ek_un ?_; first | (refine EK_ev (Ev_notD rfl) ?_) | (refine EK_ev (Ev_not rfl) ?_) | (refine EK_ev (Ev_neg rfl) ?_)) | (refine ek_conv ?_; first | (refine EK_ev (Ev_convI64 rfl (by omega)) ?_) | (refine EK_ev (Ev_convI64 rfl (by omega)) ?_) | (refine EK_ev (Ev_convI rfl) ?_) | (refine EK_ev (Ev_convS rfl) ?_)) | (refine ek_extract ?_; first | (refine EK_ev (Ev_extract rfl rfl) ?_)) | (refine ek_rem ?_; first | (refine EK_ev (Ev_remI rfl rfl (by omega)) ?_) | (refine EK_ev (Ev_remI rfl rfl (by omega)) ?_) | (refine EK_ev (Ev_rem rfl rfl (by omega)) ?_)) | (refine ek_neq ?_; first | (refine EK_ev (Ev_neqI_t rfl rfl h5) ?_) | (refine EK_ev (Ev_neqI_f rfl rfl h2) ?_) | (refine EK_ev (Ev_neqI rfl rfl) ?_) | (refine EK_ev (Ev_neqS rfl rfl) ?_) | (refine EK_ev (Ev_neqNil rfl rfl) ?_) | (refine EK_ev (Ev_neqB rfl rfl) ?_) | (refine EK_ev (Ev_neqO rfl rfl rfl (fun _ => rfl)) ?_)) | (refine ek_lss ?_; first | (refine EK_ev (Ev_lssI_q rfl rfl q3) ?_) | (refine EK_ev (Ev_lssI rfl rfl) ?_) | (refine EK_ev (Ev_lssS rfl rfl) ?_)) | (refine ek_gtr ?_; first | (refine EK_ev (Ev_gtrI_q rfl rfl q4) ?_) | (refine EK_ev (Ev_gtrI rfl rfl) ?_) | (refine EK_ev (Ev_gtrS rfl rfl) ?_)))
    | (refine is_ex ?_; first | (refine KJ_seq_normal ?_) | (refine KJ_seq_ret ?_) | (refine KJ_seq_exit ?_) | (refine KJ_thn_normal ?_) | (refine KJ_thn_ret ?_) | (refine KJ_thn_exit ?_) | (refine KJ_blk_normal ?_) | (refine KJ_blk_ret ?_) | (refine KJ_blk_exit ?_) | (refine KJ_blk_exit' rfl ?_))
    | (refine is_code ?_; first | (refine KJ_seq ?_) | (refine KJ_region ?_) | (refine KJ_cond_dec rfl (fun _ => ?_) (fun _ => ?_) <;> first | (exfalso; omega) | skip) | (refine KJ_cond_t rfl ?_) | (refine KJ_cond_f rfl ?_) | (refine KJ_skip ?_) | (refine KJ_ret ?_) | (refine KJ_exit ?_) | (refine KJ_block ?_)))
    all_goals (refine is_ex ?_; exact KJ_done (by first | exact Or.inl rfl | exact Or.inr rfl) rfl (by (repeat' (first | exact Rvs.nil | (apply Rvs.tmp; exact rfl))); first | done | fail) () (by rfl) (Ent.of (by (repeat' (first | exact Pick.nil | apply Pick.cons | exact Sel.here | apply Sel.there)); first | done | fail) (by (repeat' (first | exact DropTo.refl | apply DropTo.there)); first | done | fail)))
  rw [if_neg (by simpa using h5)]
  cases o with
  | none =>
    refine Ct.enter Tryd.func84 rfl Tryd.ntmps84 (by simp) (fun R => ?_)
    repeat' (first 
    | (refine is_list ?_; first | (refine KJ_plain ?_) | (refine KJ_nil ?_) | (refine KJ_guard_dec_t rfl rfl rfl (fun _ => ?_) (fun _ => ?_) <;> first | (exfalso; omega) | skip) | (refine KJ_guard_dec_f rfl rfl rfl (fun _ => ?_) (fun _ => ?_) <;> first | (exfalso; omega) | skip) | (refine KJ_guard_yes rfl rfl ?_) | (refine KJ_guard_no rfl rfl rfl rfl ?_))
    | (refine is_oper ?_; first | (refine is_call ?_; first | (refine KJ_call (by (repeat' (first | exact Evs.nil | refine Evs.cons rfl ?_)); first | done | fail) co (by (repeat' (first | exact Pick.nil | apply Pick.cons | exact Sel.here | apply Sel.there)); first | done | fail) rfl (fun _ => ?_)) | (refine KJ_call (by (repeat' (first | exact Evs.nil | refine Evs.cons rfl ?_)); first | done | fail) c1 (by (repeat' (first | exact Pick.nil | apply Pick.cons | exact Sel.here | apply Sel.there)); first | done | fail) rfl (fun _ => ?_))) | (refine KJ_ek rfl ?_) | (refine KJ_ek0 ?_))
    | (refine is_ek ?_; first | (refine ek_move ?_; first | (refine EK_ev (Ev_move rfl) ?_)) | (refine ek_assign ?_; first | (refine EK_ev (Ev_assign rfl) ?_)) | (refine ek_pick ?_; first | (refine EK_ev (Ev_pick_t rfl rfl) ?_) | (refine EK_ev (Ev_pick_f rfl rfl) ?_)) | (refine ek_un ?_; first | (refine EK_ev (Ev_notD rfl) ?_) | (refine EK_ev (Ev_not rfl) ?_) | (refine EK_ev (Ev_neg rfl) ?_)) | (refine ek_conv ?_; first | (refine EK_ev (Ev_convI64 rfl (by omega)) ?_) | (refine EK_ev (Ev_convI64 rfl (by omega)) ?_) | (refine EK_ev (Ev_convI rfl) ?_) | (refine EK_ev (Ev_convS rfl) ?_)) | (refine ek_extract ?_; first | (refine EK_ev (Ev_extract rfl rfl) ?_)) | (refine ek_rem ?_; first | (refine EK_ev (Ev_remI rfl rfl (by omega)) ?_) | (refine EK_ev (Ev_remI rfl rfl (by omega)) ?_) | (refine EK_ev (Ev_rem rfl rfl (by omega)) ?_)) | (refine ek_neq ?_; first | (refine EK_ev (Ev_neqI_f rfl rfl h5) ?_) | (refine EK_ev (Ev_neqI_f rfl rfl h2) ?_) | (refine EK_ev (Ev_neqI rfl rfl) ?_) | (refine EK_ev (Ev_neqS rfl rfl) ?_) | (refine EK_ev (Ev_neqNil rfl rfl) ?_) | (refine EK_ev (Ev_neqB rfl rfl) ?_) | (refine EK_ev (Ev_neqO rfl rfl rfl (fun _ => rfl)) ?_)) | (refine ek_lss ?_; first | (refine EK_ev (Ev_lssI_q rfl rfl q3) ?_) | (refine EK_ev (Ev_lssI rfl rfl) ?_) | (refine EK_ev (Ev_lssS rfl rfl) ?_)) | (refine ek_gtr ?_; first | (refine EK_ev (Ev_gtrI_q rfl rfl q4) ?_) | (refine EK_ev (Ev_gtrI rfl rfl) ?_) | (refine EK_ev (Ev_gtrS rfl rfl) ?_)))
    | (refine is_ex ?_; first | (refine KJ_seq_normal ?_) | (refine KJ_seq_ret ?_) | (refine KJ_seq_exit ?_) | (refine KJ_thn_normal ?_) | (refine KJ_thn_ret ?_) | (refine KJ_thn_exit ?_) | (refine KJ_blk_normal ?_) | (refine KJ_blk_ret ?_) | (refine KJ_blk_exit ?_) | (refine KJ_blk_exit' rfl ?_))
    | (refine is_code ?_; first | (refine KJ_seq ?_) | (refine KJ_region ?_) | (refine KJ_cond_dec rfl (fun _ => ?_) (fun _ => ?_) <;> first | (exfalso; omega) | skip) | (refine KJ_cond_t rfl ?_) | (refine KJ_cond_f rfl ?_) | (refine KJ_skip ?_) | (refine KJ_ret ?_) | (refine KJ_exit ?_) | (refine KJ_block ?_)))
    all_goals (refine is_ex ?_; exact KJ_done (by first | exact Or.inl rfl | exact Or.inr rfl) rfl (by (repeat' (first | exact Rvs.nil | (apply Rvs.tmp; exact rfl))); first | done | fail) () (by rfl) (Ent.of (by (repeat' (first | exact Pick.nil | apply Pick.cons | exact Sel.here | apply Sel.there)); first | done | fail) (by (repeat' (first | exact DropTo.refl | apply DropTo.there)); first | done | fail)))
  | some v =>
    refine Ct.enter Tryd.func84 rfl Tryd.ntmps84 (by simp) (fun R => ?_)
    repeat' (first 
    | (refine is_list ?_; first | (refine KJ_plain ?_) | (refine KJ_nil ?_) | (refine KJ_guard_dec_t rfl rfl rfl (fun _ => ?_) (fun _ => ?_) <;> first | (exfalso; omega) | skip) | (refine KJ_guard_dec_f rfl rfl rfl (fun _ => ?_) (fun _ => ?_) <;> first | (exfalso; omega) | skip) | (refine KJ_guard_yes rfl rfl ?_) | (refine KJ_guard_no rfl rfl rfl rfl ?_))
    | (refine is_oper ?_; first | (refine is_call ?_; first | (refine KJ_call (by (repeat' (first | exact Evs.nil | refine Evs.cons rfl ?_)); first | done | fail) co (by (repeat' (first | exact Pick.nil | apply Pick.cons | exact Sel.here | apply Sel.there)); first | done | fail) rfl (fun _ => ?_)) | (refine KJ_call (by (repeat' (first | exact Evs.nil | refine Evs.cons rfl ?_)); first | done | fail) c1 (by (repeat' (first | exact Pick.nil | apply Pick.cons | exact Sel.here | apply Sel.there)); first | done | fail) rfl (fun _ => ?_))) | (refine KJ_ek rfl ?_) | (refine KJ_ek0 ?_))
    | (refine is_ek ?_; first | (refine ek_move ?_; first | (refine EK_ev (Ev_move rfl) ?_)) | (refine ek_assign ?_; first | (refine EK_ev (Ev_assign rfl) ?_)) | (refine ek_pick ?_; first | (refine EK_ev (Ev_pick_t rfl rfl) ?_) | (refine EK_ev (Ev_pick_f rfl rfl) ?_)) | (refine ek_un ?_; first | (refine EK_ev (Ev_notD rfl) ?_) | (refine EK_ev (Ev_not rfl) ?_) | (refine EK_ev (Ev_neg rfl) ?_)) | (refine ek_conv ?_; first | (refine EK_ev (Ev_convI64 rfl (by omega)) ?_) | (refine EK_ev (Ev_convI64 rfl (by omega)) ?_) | (refine EK_ev (Ev_convI rfl) ?_) | (refine EK_ev (Ev_convS rfl) ?_)) | (refine ek_extract ?_; first | (refine EK_ev (Ev_extract rfl rfl) ?_)) | (refine ek_rem ?_; first | (refine EK_ev (Ev_remI rfl rfl (by omega)) ?_) | (refine EK_ev (Ev_remI rfl rfl (by omega)) ?_) | (refine EK_ev (Ev_rem rfl rfl (by omega)) ?_)) | (refine ek_neq ?_; first | (refine EK_ev (Ev_neqI_f rfl rfl h5) ?_) | (refine EK_ev (Ev_neqI_f rfl rfl h2) ?_) | (refine EK_ev (Ev_neqI rfl rfl) ?_) | (refine EK_ev (Ev_neqS rfl rfl) ?_) | (refine EK_ev (Ev_neqNil rfl rfl) ?_) | (refine EK_ev (Ev_neqB rfl rfl) ?_) | (refine EK_ev (Ev_neqO rfl rfl rfl (fun _ => rfl)) ?_)) | (refine ek_lss ?_; first | (refine EK_ev (Ev_lssI_q rfl rfl q3) ?_) | (refine EK_ev (Ev_lssI rfl rfl) ?_) | (refine EK_ev (Ev_lssS rfl rfl) ?_)) | (refine ek_gtr ?_; first | (refine EK_ev (Ev_gtrI_q rfl rfl q4) ?_) | (refine EK_ev (Ev_gtrI rfl rfl) ?_) | (refine EK_ev (Ev_gtrS rfl rfl) ?_)))
    | (refine is_ex ?_; first | (refine KJ_seq_normal ?_) | (refine KJ_seq_ret ?_) | (refine KJ_seq_exit ?_) | (refine KJ_thn_normal ?_) | (refine KJ_thn_ret ?_) | (refine KJ_thn_exit ?_) | (refine KJ_blk_normal ?_) | (refine KJ_blk_ret ?_) | (refine KJ_blk_exit ?_) | (refine KJ_blk_exit' rfl ?_))
    | (refine is_code ?_; first | (refine KJ_seq ?_) | (refine KJ_region ?_) | (refine KJ_cond_dec rfl (fun _ => ?_) (fun _ => ?_) <;> first | (exfalso; omega) | skip) | (refine KJ_cond_t rfl ?_) | (refine KJ_cond_f rfl ?_) | (refine KJ_skip ?_) | (refine KJ_ret ?_) | (refine KJ_exit ?_) | (refine KJ_block ?_)))
    all_goals (refine is_ex ?_; exact KJ_done (by first | exact Or.inl rfl | exact Or.inr rfl) rfl (by (repeat' (first | exact Rvs.nil | (apply Rvs.tmp; exact rfl))); first | done | fail) () (by rfl) (Ent.of (by (repeat' (first | exact Pick.nil | apply Pick.cons | exact Sel.here | apply Sel.there)); first | done | fail) (by (repeat' (first | exact DropTo.refl | apply DropTo.there)); first | done | fail)))
end
end Go.Proofs.YteklldbfdmaafaaDoor
/-
  The package slots: Read and Write over a disk, as plain data, and their contracts.
-/
namespace Go.Proofs.YteklldbfdmaafaaDoor
open Go Go.RowKit


/-- the version behind k sectors of a slot, and its value -/
def slotVer (D : Dsk) (a : Nat) : Nat → Int
  | 0 => 0
  | k + 1 => if slotVer D a k < countV (D.rd (a + k)) k then countV (D.rd (a + k)) k else slotVer D a k
def slotVal (D : Dsk) (a : Nat) : Nat → List UInt8
  | 0 => []
  | k + 1 => if slotVer D a k < countV (D.rd (a + k)) k then countS (D.rd (a + k)) k else slotVal D a k
def slotE (D : Dsk) (at_ : Int) : Nat := if D.roomB at_ = false then 6 else if D.off then 12 else if slotVer D at_.toNat 2 = 0 then 14 else 0
def slotS (D : Dsk) (at_ : Int) : List UInt8 := if slotE D at_ = 0 then slotVal D at_.toNat 2 else []
def slotN (D : Dsk) (at_ : Int) : Int := if slotE D at_ = 0 then slotVer D at_.toNat 2 else 0
theorem countV_bounds (raw : List UInt8) (k : Int) : 0 ≤ countV raw k ∧ countV raw k ≤ 1099511627776 := by
  unfold countV countO
  split
  · simp
  split
  · simp
  split
  · simp
  split
  · simp
  split
  · simp
  cases openS (getB raw 8) raw with
  | none => simp
  | some v => simp; omega
theorem slotVer_bounds (D : Dsk) (a k : Nat) : 0 ≤ slotVer D a k ∧ slotVer D a k ≤ 1099511627776 := by
  induction k with
  | zero => simp [slotVer]
  | succ k ih =>
    have := countV_bounds (D.rd (a + k)) k
    unfold slotVer
    split
    · exact this
    · exact ih

section
variable {W : World} {E : Nat → Addr} {p : Nat} {D : Dsk}
set_option maxRecDepth 100000 in
theorem sread_out (hE : ErrsOn L8 W E) (hn : D.n ≤ 65536) (at_ : Int) (h : D.roomB at_ = false) : Ct Tryd.prog W 45 [.pointer (some ⟨p, 0, none⟩), .int .i64 at_] [DiskP p D] (fun _ : Unit => .tuple #[strV [], .int .i64 0, errV E 6]) (fun _ => [DiskP p D]) := by
  have e6 : W.cell? ⟨3, 0, none⟩ = some (errV E 6) := hE.at_ 6 (by decide)
  have c1 : Ct Tryd.prog W 82 [.pointer (some ⟨p, 0, none⟩), .int .i64 at_] [DiskP p D] (fun _ : Unit => .bool false) (fun _ => [DiskP p D]) := (room_ct at_ hn).val fun _ => by rw [h]
  refine Ct.enter Tryd.func45 rfl Tryd.ntmps45 (by simp) (fun R => ?_)
  repeat' (first 
    | (refine is_list ?_; first | (refine KJ_plain ?_) | (refine KJ_nil ?_) | (refine KJ_guard_dec_t rfl rfl rfl (fun _ => ?_) (fun _ => ?_) <;> first | (exfalso; omega) | skip) | (refine KJ_guard_dec_f rfl rfl rfl (fun _ => ?_) (fun _ => ?_) <;> first | (exfalso; omega) | skip) | (refine KJ_guard_yes rfl rfl ?_) | (refine KJ_guard_no rfl rfl rfl rfl ?_))
    | (refine is_oper ?_; first | (refine is_call ?_; first | (refine KJ_call (by (repeat' (first | exact Evs.nil | refine Evs.cons rfl ?_)); first | done | fail) c1 (by (repeat' (first | exact Pick.nil | apply Pick.cons | exact Sel.here | apply Sel.there)); first | done | fail) rfl (fun _ => ?_))) | (refine KJ_ek rfl ?_) | (refine KJ_ek0 ?_))
    | (refine is_ek ?_; first | (refine ek_move ?_; first | (refine EK_ev (Ev_move rfl) ?_)) | (refine ek_assign ?_; first | (refine EK_ev (Ev_assign rfl) ?_)) | (refine ek_load ?_; first | (refine EK_ev (Ev_loadOld rfl e6) ?_) | (refine EK_ev (Ev_load rfl (by (repeat' (first | exact Sel.here | apply Sel.there)); first | done | fail) (by rfl)) ?_) | (refine EK_ev (Ev_loadOld rfl (by assumption)) ?_) | (refine EK_ev (Ev_loadAgg rfl (by (repeat' (first | exact Sel.here | apply Sel.there)); first | done | fail) (by (repeat' (first | exact Cut.nil | apply Cut.cons | apply Cut.skip)); first | done | fail)) ?_)) | (refine ek_un ?_; first | (refine EK_ev (Ev_notD rfl) ?_) | (refine EK_ev (Ev_not rfl) ?_) | (refine EK_ev (Ev_neg rfl) ?_)) | (refine ek_extract ?_; first | (refine EK_ev (Ev_extract rfl rfl) ?_)) | (refine ek_add ?_; first | (refine EK_ev (Ev_addI rfl rfl (by omega)) ?_) | (refine EK_ev (Ev_addS rfl rfl (by simp <;> omega)) ?_) | (refine EK_ev (Ev_add rfl rfl) ?_)) | (refine ek_eql ?_; first | (refine EK_ev (Ev_eqlI rfl rfl) ?_) | (refine EK_ev (Ev_eqlS rfl rfl) ?_) | (refine EK_ev (Ev_eqlNil rfl rfl) ?_) | (refine EK_ev (Ev_eqlB rfl rfl) ?_) | (refine EK_ev (Ev_eqlO rfl rfl rfl (fun _ => rfl)) ?_)) | (refine ek_neq ?_; first | (refine EK_ev (Ev_neqI rfl rfl) ?_) | (refine EK_ev (Ev_neqS rfl rfl) ?_) | (refine EK_ev (Ev_neqNil rfl rfl) ?_) | (refine EK_ev (Ev_neqB rfl rfl) ?_) | (refine EK_ev (Ev_neqO rfl rfl rfl (fun _ => rfl)) ?_)) | (refine ek_lss ?_; first | (refine EK_ev (Ev_lssI rfl rfl) ?_) | (refine EK_ev (Ev_lssS rfl rfl) ?_)) | (refine ek_gtr ?_; first | (refine EK_ev (Ev_gtrI rfl rfl) ?_) | (refine EK_ev (Ev_gtrS rfl rfl) ?_)))
    | (refine is_ex ?_; first | (refine KJ_seq_normal ?_) | (refine KJ_seq_ret ?_) | (refine KJ_seq_exit ?_) | (refine KJ_thn_normal ?_) | (refine KJ_thn_ret ?_) | (refine KJ_thn_exit ?_) | (refine KJ_blk_normal ?_) | (refine KJ_blk_ret ?_) | (refine KJ_blk_exit ?_) | (refine KJ_blk_exit' rfl ?_))
    | (refine is_code ?_; first | (refine KJ_seq ?_) | (refine KJ_region ?_) | (refine KJ_cond_dec rfl (fun _ => ?_) (fun _ => ?_) <;> first | (exfalso; omega) | skip) | (refine KJ_cond_t rfl ?_) | (refine KJ_cond_f rfl ?_) | (refine KJ_skip ?_) | (refine KJ_ret ?_) | (refine KJ_exit ?_) | (refine KJ_block ?_) | (refine KJ_draws (id := 2) (.op 0 (.op 1 (.op 2 (.op 3 .nil)))) (by kernel_rfl) (by kernel_rfl) ?_) | (refine KJ_draws (id := 15) (.op 0 (.op 1 (.op 2 (.op 3 .nil)))) (by kernel_rfl) (by kernel_rfl) ?_))
    | (refine is_fw ?_; first | (refine FW_open rfl ?_) | (refine FW_nil ?_) | (refine FW_ef rfl ?_) | (refine FW_efg rfl rfl rfl ?_) | (refine FW_alt ?_ ?_))
    | (refine is_fo ?_; first | (refine FO_dec_t rfl rfl (fun _ => ?_) (fun _ => ?_) <;> first | (exfalso; omega) | skip) | (refine FO_dec_f rfl rfl (fun _ => ?_) (fun _ => ?_) <;> first | (exfalso; omega) | skip) | (refine FO_no rfl rfl rfl rfl ?_) | (refine FO_ekg rfl rfl rfl ?_) | (refine FO_ek rfl ?_))
    | (refine is_ro ?_; first | (refine RO_no rfl rfl rfl rfl ?_) | (refine RO_ekg rfl rfl ?_) | (refine RO_ek ?_))
    | (refine is_raw ?_; first | (refine KJ_flow ?_ ?_))
    | (refine AtR_mk rfl ?_)
    | exact Rech.nil
    | (refine Rech_open rfl ?_))
  all_goals (refine is_ex ?_; exact KJ_done (by first | exact Or.inl rfl | exact Or.inr rfl) rfl (by (repeat' (first | exact Rvs.nil | (apply Rvs.tmp; exact rfl))); first | done | fail) () (by rfl) (Ent.of (by (repeat' (first | exact Pick.nil | apply Pick.cons | exact Sel.here | apply Sel.there)); first | done | fail) (by (repeat' (first | exact DropTo.refl | apply DropTo.there)); first | done | fail)))
set_option maxRecDepth 100000 in
theorem sread_off (hE : ErrsOn L8 W E) (hn : D.n ≤ 65536) (at_ : Int) (h : D.roomB at_ = true) (ho : D.off = true) : Ct Tryd.prog W 45 [.pointer (some ⟨p, 0, none⟩), .int .i64 at_] [DiskP p D] (fun _ : Unit => .tuple #[strV [], .int .i64 0, errV E 12]) (fun _ => [DiskP p D]) := by
  have c1 : Ct Tryd.prog W 82 [.pointer (some ⟨p, 0, none⟩), .int .i64 at_] [DiskP p D] (fun _ : Unit => .bool true) (fun _ => [DiskP p D]) := (room_ct at_ hn).val fun _ => by rw [h]
  have hat : 0 ≤ at_ ∧ at_ ≤ (D.n : Int) - 2 := by unfold Dsk.roomB at h; simpa using h
  have c2 : Ct Tryd.prog W 26 [.pointer (some ⟨p, 0, none⟩), .int .i64 (at_ + 0)] [DiskP p D] (fun _ : Unit => .tuple #[strV [], errV E 12]) (fun _ => [DiskP p D]) := (read_ct hE _).val fun _ => by simp [Dsk.readS, Dsk.readE, ho]
  refine Ct.enter Tryd.func45 rfl Tryd.ntmps45 (by simp) (fun R => ?_)
  repeat' (first 
    | (refine is_list ?_; first | (refine KJ_plain ?_) | (refine KJ_nil ?_) | (refine KJ_guard_dec_t rfl rfl rfl (fun _ => ?_) (fun _ => ?_) <;> first | (exfalso; omega) | skip) | (refine KJ_guard_dec_f rfl rfl rfl (fun _ => ?_) (fun _ => ?_) <;> first | (exfalso; omega) | skip) | (refine KJ_guard_yes rfl rfl ?_) | (refine KJ_guard_no rfl rfl rfl rfl ?_))
    | (refine is_oper ?_; first | (refine is_call ?_; first | (refine KJ_call (by (repeat' (first | exact Evs.nil | refine Evs.cons rfl ?_)); first | done | fail) c1 (by (repeat' (first | exact Pick.nil | apply Pick.cons | exact Sel.here | apply Sel.there)); first | done | fail) rfl (fun _ => ?_))) | (refine KJ_ek rfl ?_) | (refine KJ_ek0 ?_))
    | (refine is_ek ?_; first | (refine ek_move ?_; first | (refine EK_ev (Ev_move rfl) ?_)) | (refine ek_assign ?_; first | (refine EK_ev (Ev_assign rfl) ?_)) | (refine ek_load ?_; first | (refine EK_ev (Ev_load rfl (by (repeat' (first | exact Sel.here | apply Sel.there)); first | done | fail) (by rfl)) ?_) | (refine EK_ev (Ev_loadOld rfl (by assumption)) ?_) | (refine EK_ev (Ev_loadAgg rfl (by (repeat' (first | exact Sel.here | apply Sel.there)); first | done | fail) (by (repeat' (first | exact Cut.nil | apply Cut.cons | apply Cut.skip)); first | done | fail)) ?_)) | (refine ek_un ?_; first | (refine EK_ev (Ev_notD rfl) ?_) | (refine EK_ev (Ev_not rfl) ?_) | (refine EK_ev (Ev_neg rfl) ?_)) | (refine ek_extract ?_; first | (refine EK_ev (Ev_extract rfl rfl) ?_)) | (refine ek_add ?_; first | (refine EK_ev (Ev_addI rfl rfl (by omega)) ?_) | (refine EK_ev (Ev_addS rfl rfl (by simp <;> omega)) ?_) | (refine EK_ev (Ev_add rfl rfl) ?_)) | (refine ek_eql ?_; first | (refine EK_ev (Ev_eqlI rfl rfl) ?_) | (refine EK_ev (Ev_eqlS rfl rfl) ?_) | (refine EK_ev (Ev_eqlNil rfl rfl) ?_) | (refine EK_ev (Ev_eqlB rfl rfl) ?_) | (refine EK_ev (Ev_eqlO rfl rfl rfl (fun _ => rfl)) ?_)) | (refine ek_neq ?_; first | (refine EK_ev (Ev_neqI rfl rfl) ?_) | (refine EK_ev (Ev_neqS rfl rfl) ?_) | (refine EK_ev (Ev_neqNil rfl rfl) ?_) | (refine EK_ev (Ev_neqB rfl rfl) ?_) | (refine EK_ev (Ev_neqO rfl rfl rfl (fun _ => rfl)) ?_)) | (refine ek_lss ?_; first | (refine EK_ev (Ev_lssI rfl rfl) ?_) | (refine EK_ev (Ev_lssS rfl rfl) ?_)) | (refine ek_gtr ?_; first | (refine EK_ev (Ev_gtrI rfl rfl) ?_) | (refine EK_ev (Ev_gtrS rfl rfl) ?_)))
    | (refine is_ex ?_; first | (refine KJ_seq_normal ?_) | (refine KJ_seq_ret ?_) | (refine KJ_seq_exit ?_) | (refine KJ_thn_normal ?_) | (refine KJ_thn_ret ?_) | (refine KJ_thn_exit ?_) | (refine KJ_blk_normal ?_) | (refine KJ_blk_ret ?_) | (refine KJ_blk_exit ?_) | (refine KJ_blk_exit' rfl ?_))
    | (refine is_code ?_; first | (refine KJ_seq ?_) | (refine KJ_region ?_) | (refine KJ_cond_dec rfl (fun _ => ?_) (fun _ => ?_) <;> first | (exfalso; omega) | skip) | (refine KJ_cond_t rfl ?_) | (refine KJ_cond_f rfl ?_) | (refine KJ_skip ?_) | (refine KJ_ret ?_) | (refine KJ_exit ?_) | (refine KJ_block ?_) | (refine KJ_draws (id := 2) (.op 0 (.op 1 (.op 2 (.op 3 .nil)))) (by kernel_rfl) (by kernel_rfl) ?_) | (refine KJ_draws (id := 15) (.op 0 (.op 1 (.op 2 (.op 3 .nil)))) (by kernel_rfl) (by kernel_rfl) ?_))
    | (refine is_fw ?_; first | (refine FW_open rfl ?_) | (refine FW_nil ?_) | (refine FW_ef rfl ?_) | (refine FW_efg rfl rfl rfl ?_) | (refine FW_alt ?_ ?_))
    | (refine is_fo ?_; first | (refine FO_dec_t rfl rfl (fun _ => ?_) (fun _ => ?_) <;> first | (exfalso; omega) | skip) | (refine FO_dec_f rfl rfl (fun _ => ?_) (fun _ => ?_) <;> first | (exfalso; omega) | skip) | (refine FO_no rfl rfl rfl rfl ?_) | (refine FO_ekg rfl rfl rfl ?_) | (refine FO_ek rfl ?_))
    | (refine is_ro ?_; first | (refine RO_no rfl rfl rfl rfl ?_) | (refine RO_ekg rfl rfl ?_) | (refine RO_ek ?_))
    | (refine is_raw ?_; first | (refine KJ_flow ?_ ?_))
    | (refine AtR_mk rfl ?_)
    | exact Rech.nil
    | (refine Rech_open rfl ?_))
  refine KJ_loop (fun _ : Unit => [(0, .pointer (some ⟨p, 0, none⟩)), (1, .int .i64 at_), (19, .int .i64 0)]) (fun _ => [DiskP p D] ++ R) (fun _ => 0) () (by (repeat' (first | exact Subs.nil | refine Subs.cons rfl ?_)); first | done | fail) (Ent.of (by (repeat' (first | exact Pick.nil | apply Pick.cons | exact Sel.here | apply Sel.there)); first | done | fail) (by (repeat' (first | exact DropTo.refl | apply DropTo.there)); first | done | fail)) (fun _ => ?_)
  repeat' (first 
    | (refine is_list ?_; first | (refine KJ_plain ?_) | (refine KJ_nil ?_) | (refine KJ_guard_dec_t rfl rfl rfl (fun _ => ?_) (fun _ => ?_) <;> first | (exfalso; omega) | skip) | (refine KJ_guard_dec_f rfl rfl rfl (fun _ => ?_) (fun _ => ?_) <;> first | (exfalso; omega) | skip) | (refine KJ_guard_yes rfl rfl ?_) | (refine KJ_guard_no rfl rfl rfl rfl ?_))
    | (refine is_oper ?_; first | (refine is_call ?_; first | (refine KJ_call (by (repeat' (first | exact Evs.nil | refine Evs.cons rfl ?_)); first | done | fail) c2 (by (repeat' (first | exact Pick.nil | apply Pick.cons | exact Sel.here | apply Sel.there)); first | done | fail) rfl (fun _ => ?_))) | (refine KJ_ek rfl ?_) | (refine KJ_ek0 ?_))
    | (refine is_ek ?_; first | (refine ek_move ?_; first | (refine EK_ev (Ev_move rfl) ?_)) | (refine ek_assign ?_; first | (refine EK_ev (Ev_assign rfl) ?_)) | (refine ek_load ?_; first | (refine EK_ev (Ev_load rfl (by (repeat' (first | exact Sel.here | apply Sel.there)); first | done | fail) (by rfl)) ?_) | (refine EK_ev (Ev_loadOld rfl (by assumption)) ?_) | (refine EK_ev (Ev_loadAgg rfl (by (repeat' (first | exact Sel.here | apply Sel.there)); first | done | fail) (by (repeat' (first | exact Cut.nil | apply Cut.cons | apply Cut.skip)); first | done | fail)) ?_)) | (refine ek_un ?_; first | (refine EK_ev (Ev_notD rfl) ?_) | (refine EK_ev (Ev_not rfl) ?_) | (refine EK_ev (Ev_neg rfl) ?_)) | (refine ek_extract ?_; first | (refine EK_ev (Ev_extract rfl rfl) ?_)) | (refine ek_add ?_; first | (refine EK_ev (Ev_addI rfl rfl (by omega)) ?_) | (refine EK_ev (Ev_addS rfl rfl (by simp <;> omega)) ?_) | (refine EK_ev (Ev_add rfl rfl) ?_)) | (refine ek_eql ?_; first | (refine EK_ev (Ev_eqlI rfl rfl) ?_) | (refine EK_ev (Ev_eqlS rfl rfl) ?_) | (refine EK_ev (Ev_eqlNil rfl rfl) ?_) | (refine EK_ev (Ev_eqlB rfl rfl) ?_) | (refine EK_ev (Ev_eqlO rfl rfl rfl (fun _ => rfl)) ?_)) | (refine ek_neq ?_; first | (refine EK_ev (Ev_neqI rfl rfl) ?_) | (refine EK_ev (Ev_neqS rfl rfl) ?_) | (refine EK_ev (Ev_neqNil rfl rfl) ?_) | (refine EK_ev (Ev_neqB rfl rfl) ?_) | (refine EK_ev (Ev_neqO rfl rfl rfl (fun _ => rfl)) ?_)) | (refine ek_lss ?_; first | (refine EK_ev (Ev_lssI rfl rfl) ?_) | (refine EK_ev (Ev_lssS rfl rfl) ?_)) | (refine ek_gtr ?_; first | (refine EK_ev (Ev_gtrI rfl rfl) ?_) | (refine EK_ev (Ev_gtrS rfl rfl) ?_)))
    | (refine is_ex ?_; first | (refine KJ_seq_normal ?_) | (refine KJ_seq_ret ?_) | (refine KJ_seq_exit ?_) | (refine KJ_thn_normal ?_) | (refine KJ_thn_ret ?_) | (refine KJ_thn_exit ?_) | (refine KJ_blk_normal ?_) | (refine KJ_blk_ret ?_) | (refine KJ_blk_exit ?_) | (refine KJ_blk_exit' rfl ?_))
    | (refine is_code ?_; first | (refine KJ_seq ?_) | (refine KJ_region ?_) | (refine KJ_cond_dec rfl (fun _ => ?_) (fun _ => ?_) <;> first | (exfalso; omega) | skip) | (refine KJ_cond_t rfl ?_) | (refine KJ_cond_f rfl ?_) | (refine KJ_skip ?_) | (refine KJ_ret ?_) | (refine KJ_exit ?_) | (refine KJ_block ?_) | (refine KJ_draws (id := 2) (.op 0 (.op 1 (.op 2 (.op 3 .nil)))) (by kernel_rfl) (by kernel_rfl) ?_) | (refine KJ_draws (id := 15) (.op 0 (.op 1 (.op 2 (.op 3 .nil)))) (by kernel_rfl) (by kernel_rfl) ?_))
    | (refine is_fw ?_; first | (refine FW_open rfl ?_) | (refine FW_nil ?_) | (refine FW_ef rfl ?_) | (refine FW_efg rfl rfl rfl ?_) | (refine FW_alt ?_ ?_))
    | (refine is_fo ?_; first | (refine FO_dec_t rfl rfl (fun _ => ?_) (fun _ => ?_) <;> first | (exfalso; omega) | skip) | (refine FO_dec_f rfl rfl (fun _ => ?_) (fun _ => ?_) <;> first | (exfalso; omega) | skip) | (refine FO_no rfl rfl rfl rfl ?_) | (refine FO_ekg rfl rfl rfl ?_) | (refine FO_ek rfl ?_))
    | (refine is_ro ?_; first | (refine RO_no rfl rfl rfl rfl ?_) | (refine RO_ekg rfl rfl ?_) | (refine RO_ek ?_))
    | (refine is_raw ?_; first | (refine KJ_flow ?_ ?_))
    | (refine AtR_mk rfl ?_)
    | exact Rech.nil
    | (refine Rech_open rfl ?_))
  all_goals (refine is_ex ?_; exact KJ_done (by first | exact Or.inl rfl | exact Or.inr rfl) rfl (by (repeat' (first | exact Rvs.nil | (apply Rvs.tmp; exact rfl))); first | done | fail) () (by rfl) (Ent.of (by (repeat' (first | exact Pick.nil | apply Pick.cons | exact Sel.here | apply Sel.there)); first | done | fail) (by (repeat' (first | exact DropTo.refl | apply DropTo.there)); first | done | fail)))
set_option maxHeartbeats 1000000 in
set_option maxRecDepth 100000 in
theorem sread_on (hE : ErrsOn L8 W E) (hN : NibAt W) (hn : D.n ≤ 65536) (at_ : Int) (h : D.roomB at_ = true) (ho : D.off = false) :
    Ct Tryd.prog W 45 [.pointer (some ⟨p, 0, none⟩), .int .i64 at_] [DiskP p D] (fun _ : Unit => .tuple #[strV (slotS D at_), .int .i64 (slotN D at_), errV E (slotE D at_)]) (fun _ => [DiskP p D]) := by
  have c1 : Ct Tryd.prog W 82 [.pointer (some ⟨p, 0, none⟩), .int .i64 at_] [DiskP p D] (fun _ : Unit => .bool true) (fun _ => [DiskP p D]) := (room_ct at_ hn).val fun _ => by rw [h]
  have e14 : W.cell? ⟨1, 0, none⟩ = some (errV E 14) := hE.at_ 14 (by decide)
  have hat : 0 ≤ at_ ∧ at_ ≤ (D.n : Int) - 2 := by unfold Dsk.roomB at h; simpa using h
  have hE1 : slotE D at_ = if slotVer D at_.toNat 2 = 0 then 14 else 0 := by unfold slotE; rw [if_neg (by rw [h]; simp), if_neg (by rw [ho]; simp)]
  have hvb := slotVer_bounds D at_.toNat
  have hcr : ∀ k : Nat, k < 2 → Ct Tryd.prog W 26 [.pointer (some ⟨p, 0, none⟩), .int .i64 (at_ + (k : Nat))] [DiskP p D] (fun _ : Unit => .tuple #[strV (D.rd (at_.toNat + k)), errV E 0]) (fun _ => [DiskP p D]) := fun k hk => (read_ct hE _).val fun _ => by
    have hh : D.has (at_ + (k : Nat)) = true := by unfold Dsk.has; exact decide_eq_true (by omega)
    have : (at_ + (k : Nat)).toNat = at_.toNat + k := by omega
    simp [Dsk.readS, Dsk.readE, ho, hh, this]
  have hV0 : slotVer D at_.toNat 0 = 0 := rfl
  have hS0 : slotVal D at_.toNat 0 = [] := rfl
  have hVn : ∀ k, slotVer D at_.toNat (k + 1) = if slotVer D at_.toNat k < countV (D.rd (at_.toNat + k)) k then countV (D.rd (at_.toNat + k)) k else slotVer D at_.toNat k := fun _ => rfl
  have hSn : ∀ k, slotVal D at_.toNat (k + 1) = if slotVer D at_.toNat k < countV (D.rd (at_.toNat + k)) k then countS (D.rd (at_.toNat + k)) k else slotVal D at_.toNat k := fun _ => rfl
  unfold slotS slotN
  rw [hE1]
  obtain ⟨V, hV⟩ : ∃ V, V = slotVer D at_.toNat := ⟨_, rfl⟩
  obtain ⟨S, hS⟩ : ∃ S, S = slotVal D at_.toNat := ⟨_, rfl⟩
  simp only [← hV, ← hS] at hV0 hS0 hVn hSn hvb ⊢
  clear hV hS hE1
  refine Ct.enter Tryd.func45 rfl Tryd.ntmps45 (by simp) (fun R => ?_)
  repeat' (first 
    | (refine is_list ?_; first | (refine KJ_plain ?_) | (refine KJ_nil ?_) | (refine KJ_guard_dec_t rfl rfl rfl (fun _ => ?_) (fun _ => ?_) <;> first | (exfalso; omega) | skip) | (refine KJ_guard_dec_f rfl rfl rfl (fun _ => ?_) (fun _ => ?_) <;> first | (exfalso; omega) | skip) | (refine KJ_guard_yes rfl rfl ?_) | (refine KJ_guard_no rfl rfl rfl rfl ?_))
    | (refine is_oper ?_; first | (refine is_call ?_; first | (refine KJ_call (by (repeat' (first | exact Evs.nil | refine Evs.cons rfl ?_)); first | done | fail) c1 (by (repeat' (first | exact Pick.nil | apply Pick.cons | exact Sel.here | apply Sel.there)); first | done | fail) rfl (fun _ => ?_))) | (refine KJ_ek rfl ?_) | (refine KJ_ek0 ?_))
    | (refine is_ek ?_; first | (refine ek_move ?_; first | (refine EK_ev (Ev_move rfl) ?_)) | (refine ek_assign ?_; first | (refine EK_ev (Ev_assign rfl) ?_)) | (refine ek_load ?_; first | (refine EK_ev (Ev_load rfl (by (repeat' (first | exact Sel.here | apply Sel.there)); first | done | fail) (by rfl)) ?_) | (refine EK_ev (Ev_loadOld rfl (by assumption)) ?_) | (refine EK_ev (Ev_loadAgg rfl (by (repeat' (first | exact Sel.here | apply Sel.there)); first | done | fail) (by (repeat' (first | exact Cut.nil | apply Cut.cons | apply Cut.skip)); first | done | fail)) ?_)) | (refine ek_un ?_; first | (refine EK_ev (Ev_notD rfl) ?_) | (refine EK_ev (Ev_not rfl) ?_) | (refine EK_ev (Ev_neg rfl) ?_)) | (refine ek_extract ?_; first | (refine EK_ev (Ev_extract rfl rfl) ?_)) | (refine ek_add ?_; first | (refine EK_ev (Ev_addI rfl rfl (by omega)) ?_) | (refine EK_ev (Ev_addS rfl rfl (by simp <;> omega)) ?_) | (refine EK_ev (Ev_add rfl rfl) ?_)) | (refine ek_eql ?_; first | (refine EK_ev (Ev_eqlI rfl rfl) ?_) | (refine EK_ev (Ev_eqlS rfl rfl) ?_) | (refine EK_ev (Ev_eqlNil rfl rfl) ?_) | (refine EK_ev (Ev_eqlB rfl rfl) ?_) | (refine EK_ev (Ev_eqlO rfl rfl rfl (fun _ => rfl)) ?_)) | (refine ek_neq ?_; first | (refine EK_ev (Ev_neqI rfl rfl) ?_) | (refine EK_ev (Ev_neqS rfl rfl) ?_) | (refine EK_ev (Ev_neqNil rfl rfl) ?_) | (refine EK_ev (Ev_neqB rfl rfl) ?_) | (refine EK_ev (Ev_neqO rfl rfl rfl (fun _ => rfl)) ?_)) | (refine ek_lss ?_; first | (refine EK_ev (Ev_lssI rfl rfl) ?_) | (refine EK_ev (Ev_lssS rfl rfl) ?_)) | (refine ek_gtr ?_; first | (refine EK_ev (Ev_gtrI rfl rfl) ?_) | (refine EK_ev (Ev_gtrS rfl rfl) ?_)))
    | (refine is_ex ?_; first | (refine KJ_seq_normal ?_) | (refine KJ_seq_ret ?_) | (refine KJ_seq_exit ?_) | (refine KJ_thn_normal ?_) | (refine KJ_thn_ret ?_) | (refine KJ_thn_exit ?_) | (refine KJ_blk_normal ?_) | (refine KJ_blk_ret ?_) | (refine KJ_blk_exit ?_) | (refine KJ_blk_exit' rfl ?_))
    | (refine is_code ?_; first | (refine KJ_seq ?_) | (refine KJ_region ?_) | (refine KJ_cond_dec rfl (fun _ => ?_) (fun _ => ?_) <;> first | (exfalso; omega) | skip) | (refine KJ_cond_t rfl ?_) | (refine KJ_cond_f rfl ?_) | (refine KJ_skip ?_) | (refine KJ_ret ?_) | (refine KJ_exit ?_) | (refine KJ_block ?_) | (refine KJ_draws (id := 2) (.op 0 (.op 1 (.op 2 (.op 3 .nil)))) (by kernel_rfl) (by kernel_rfl) ?_) | (refine KJ_draws (id := 15) (.op 0 (.op 1 (.op 2 (.op 3 .nil)))) (by kernel_rfl) (by kernel_rfl) ?_))
    | (refine is_fw ?_; first | (refine FW_open rfl ?_) | (refine FW_nil ?_) | (refine FW_ef rfl ?_) | (refine FW_efg rfl rfl rfl ?_) | (refine FW_alt ?_ ?_))
    | (refine is_fo ?_; first | (refine FO_dec_t rfl rfl (fun _ => ?_) (fun _ => ?_) <;> first | (exfalso; omega) | skip) | (refine FO_dec_f rfl rfl (fun _ => ?_) (fun _ => ?_) <;> first | (exfalso; omega) | skip) | (refine FO_no rfl rfl rfl rfl ?_) | (refine FO_ekg rfl rfl rfl ?_) | (refine FO_ek rfl ?_))
    | (refine is_ro ?_; first | (refine RO_no rfl rfl rfl rfl ?_) | (refine RO_ekg rfl rfl ?_) | (refine RO_ek ?_))
    | (refine is_raw ?_; first | (refine KJ_flow ?_ ?_))
    | (refine AtR_mk rfl ?_)
    | exact Rech.nil
    | (refine Rech_open rfl ?_))
  refine KJ_loop (fun i : {k : Nat // k ≤ 2} => [(0, .pointer (some ⟨p, 0, none⟩)), (1, .int .i64 at_), (7, .int .i64 (V i.1)), (8, strV (S i.1)), (19, .int .i64 (i.1 : Nat))]) (fun _ => [DiskP p D] ++ R) (fun i => 2 - i.1) ⟨0, by omega⟩
    (Subs.cons rfl (Subs.cons rfl (Subs.cons (show _ = some (Value.int .i64 (V 0)) from by rw [hV0]; rfl) (Subs.cons (show _ = some (strV (S 0)) from by rw [hS0]; rfl) (by (repeat' (first | exact Subs.nil | refine Subs.cons rfl ?_)); first | done | fail))))) (Ent.of (by (repeat' (first | exact Pick.nil | apply Pick.cons | exact Sel.here | apply Sel.there)); first | done | fail) (by (repeat' (first | exact DropTo.refl | apply DropTo.there)); first | done | fail)) (fun ⟨k, hk⟩ => ?_)
  dsimp only
  by_cases hlt : k < 2
  · have cr := hcr k hlt
    have cc := count_ct hE hN (D.rd (at_.toNat + k)) k
    by_cases hgt : V k < countV (D.rd (at_.toNat + k)) k
    · have hq : decide (V k < countV (D.rd (at_.toNat + k)) k) = true := decide_eq_true hgt
      have h1 := hVn k
      have h2 := hSn k
      rw [if_pos hgt] at h1 h2
      repeat' (first 
    | (refine is_list ?_; first | (refine KJ_plain ?_) | (refine KJ_nil ?_) | (refine KJ_guard_dec_t rfl rfl rfl (fun _ => ?_) (fun _ => ?_) <;> first | (exfalso; omega) | skip) | (refine KJ_guard_dec_f rfl rfl rfl (fun _ => ?_) (fun _ => ?_) <;> first | (exfalso; omega) | skip) | (refine KJ_guard_yes rfl rfl ?_) | (refine KJ_guard_no rfl rfl rfl rfl ?_))
    | (refine is_oper ?_; first | (refine is_call ?_; first | (refine KJ_call (by (repeat' (first | exact Evs.nil | refine Evs.cons rfl ?_)); first | done | fail) cc (by (repeat' (first | exact Pick.nil | apply Pick.cons | exact Sel.here | apply Sel.there)); first | done | fail) rfl (fun _ => ?_)) | (refine KJ_call (by (repeat' (first | exact Evs.nil | refine Evs.cons rfl ?_)); first | done | fail) cr (by (repeat' (first | exact Pick.nil | apply Pick.cons | exact Sel.here | apply Sel.there)); first | done | fail) rfl (fun _ => ?_))) | (refine KJ_ek rfl ?_) | (refine KJ_ek0 ?_))
    | (refine is_ek ?_; first | (refine ek_move ?_; first | (refine EK_ev (Ev_move rfl) ?_)) | (refine ek_assign ?_; first | (refine EK_ev (Ev_assign rfl) ?_)) | (refine ek_load ?_; first | (refine EK_ev (Ev_load rfl (by (repeat' (first | exact Sel.here | apply Sel.there)); first | done | fail) (by rfl)) ?_) | (refine EK_ev (Ev_loadOld rfl (by assumption)) ?_) | (refine EK_ev (Ev_loadAgg rfl (by (repeat' (first | exact Sel.here | apply Sel.there)); first | done | fail) (by (repeat' (first | exact Cut.nil | apply Cut.cons | apply Cut.skip)); first | done | fail)) ?_)) | (refine ek_un ?_; first | (refine EK_ev (Ev_notD rfl) ?_) | (refine EK_ev (Ev_not rfl) ?_) | (refine EK_ev (Ev_neg rfl) ?_)) | (refine ek_extract ?_; first | (refine EK_ev (Ev_extract rfl rfl) ?_)) | (refine ek_add ?_; first | (refine EK_ev (Ev_addI rfl rfl (by omega)) ?_) | (refine EK_ev (Ev_addS rfl rfl (by simp <;> omega)) ?_) | (refine EK_ev (Ev_add rfl rfl) ?_)) | (refine ek_eql ?_; first | (refine EK_ev (Ev_eqlI rfl rfl) ?_) | (refine EK_ev (Ev_eqlS rfl rfl) ?_) | (refine EK_ev (Ev_eqlNil rfl rfl) ?_) | (refine EK_ev (Ev_eqlB rfl rfl) ?_) | (refine EK_ev (Ev_eqlO rfl rfl rfl (fun _ => rfl)) ?_)) | (refine ek_neq ?_; first | (refine EK_ev (Ev_neqI rfl rfl) ?_) | (refine EK_ev (Ev_neqS rfl rfl) ?_) | (refine EK_ev (Ev_neqNil rfl rfl) ?_) | (refine EK_ev (Ev_neqB rfl rfl) ?_) | (refine EK_ev (Ev_neqO rfl rfl rfl (fun _ => rfl)) ?_)) | (refine ek_lss ?_; first | (refine EK_ev (Ev_lssI rfl rfl) ?_) | (refine EK_ev (Ev_lssS rfl rfl) ?_)) | (refine ek_gtr ?_; first | (refine EK_ev (Ev_gtrI_q rfl rfl hq) ?_) | (refine EK_ev (Ev_gtrI rfl rfl) ?_) | (refine EK_ev (Ev_gtrS rfl rfl) ?_)))
    | (refine is_ex ?_; first | (refine KJ_seq_normal ?_) | (refine KJ_seq_ret ?_) | (refine KJ_seq_exit ?_) | (refine KJ_thn_normal ?_) | (refine KJ_thn_ret ?_) | (refine KJ_thn_exit ?_) | (refine KJ_blk_normal ?_) | (refine KJ_blk_ret ?_) | (refine KJ_blk_exit ?_) | (refine KJ_blk_exit' rfl ?_))
    | (refine is_code ?_; first | (refine KJ_seq ?_) | (refine KJ_region ?_) | (refine KJ_cond_dec rfl (fun _ => ?_) (fun _ => ?_) <;> first | (exfalso; omega) | skip) | (refine KJ_cond_t rfl ?_) | (refine KJ_cond_f rfl ?_) | (refine KJ_skip ?_) | (refine KJ_ret ?_) | (refine KJ_exit ?_) | (refine KJ_block ?_) | (refine KJ_draws (id := 2) (.op 0 (.op 1 (.op 2 (.op 3 .nil)))) (by kernel_rfl) (by kernel_rfl) ?_) | (refine KJ_draws (id := 15) (.op 0 (.op 1 (.op 2 (.op 3 .nil)))) (by kernel_rfl) (by kernel_rfl) ?_))
    | (refine is_fw ?_; first | (refine FW_open rfl ?_) | (refine FW_nil ?_) | (refine FW_ef rfl ?_) | (refine FW_efg rfl rfl rfl ?_) | (refine FW_alt ?_ ?_))
    | (refine is_fo ?_; first | (refine FO_dec_t rfl rfl (fun _ => ?_) (fun _ => ?_) <;> first | (exfalso; omega) | skip) | (refine FO_dec_f rfl rfl (fun _ => ?_) (fun _ => ?_) <;> first | (exfalso; omega) | skip) | (refine FO_no rfl rfl rfl rfl ?_) | (refine FO_ekg rfl rfl rfl ?_) | (refine FO_ek rfl ?_))
    | (refine is_ro ?_; first | (refine RO_no rfl rfl rfl rfl ?_) | (refine RO_ekg rfl rfl ?_) | (refine RO_ek ?_))
    | (refine is_raw ?_; first | (refine KJ_flow ?_ ?_))
    | (refine AtR_mk rfl ?_)
    | exact Rech.nil
    | (refine Rech_open rfl ?_))
      refine KJ_again ⟨k + 1, by omega⟩ (by show 2 - (k + 1) < 2 - k; omega) ?_ (Ent.of (by (repeat' (first | exact Pick.nil | apply Pick.cons | exact Sel.here | apply Sel.there)); first | done | fail) (by (repeat' (first | exact DropTo.refl | apply DropTo.there)); first | done | fail))
      dsimp only
      rw [h1, h2]
      exact (by (repeat' (first | exact Subs.nil | refine Subs.cons rfl ?_)); first | done | fail)
    · have hq : decide (V k < countV (D.rd (at_.toNat + k)) k) = false := decide_eq_false hgt
      have h1 := hVn k
      have h2 := hSn k
      rw [if_neg hgt] at h1 h2
      repeat' (first 
    | (refine is_list ?_; first | (refine KJ_plain ?_) | (refine KJ_nil ?_) | (refine KJ_guard_dec_t rfl rfl rfl (fun _ => ?_) (fun _ => ?_) <;> first | (exfalso; omega) | skip) | (refine KJ_guard_dec_f rfl rfl rfl (fun _ => ?_) (fun _ => ?_) <;> first | (exfalso; omega) | skip) | (refine KJ_guard_yes rfl rfl ?_) | (refine KJ_guard_no rfl rfl rfl rfl ?_))
    | (refine is_oper ?_; first | (refine is_call ?_; first | (refine KJ_call (by (repeat' (first | exact Evs.nil | refine Evs.cons rfl ?_)); first | done | fail) cc (by (repeat' (first | exact Pick.nil | apply Pick.cons | exact Sel.here | apply Sel.there)); first | done | fail) rfl (fun _ => ?_)) | (refine KJ_call (by (repeat' (first | exact Evs.nil | refine Evs.cons rfl ?_)); first | done | fail) cr (by (repeat' (first | exact Pick.nil | apply Pick.cons | exact Sel.here | apply Sel.there)); first | done | fail) rfl (fun _ => ?_))) | (refine KJ_ek rfl ?_) | (refine KJ_ek0 ?_))
    | (refine is_ek ?_; first | (refine ek_move ?_; first | (refine EK_ev (Ev_move rfl) ?_)) | (refine ek_assign ?_; first | (refine EK_ev (Ev_assign rfl) ?_)) | (refine ek_load ?_; first | (refine EK_ev (Ev_load rfl (by (repeat' (first | exact Sel.here | apply Sel.there)); first | done | fail) (by rfl)) ?_) | (refine EK_ev (Ev_loadOld rfl (by assumption)) ?_) | (refine EK_ev (Ev_loadAgg rfl (by (repeat' (first | exact Sel.here | apply Sel.there)); first | done | fail) (by (repeat' (first | exact Cut.nil | apply Cut.cons | apply Cut.skip)); first | done | fail)) ?_)) | (refine ek_un ?_; first | (refine EK_ev (Ev_notD rfl) ?_) | (refine EK_ev (Ev_not rfl) ?_) | (refine EK_ev (Ev_neg rfl) ?_)) | (refine ek_extract ?_; first | (refine EK_ev (Ev_extract rfl rfl) ?_)) | (refine ek_add ?_; first | (refine EK_ev (Ev_addI rfl rfl (by omega)) ?_) | (refine EK_ev (Ev_addS rfl rfl (by simp <;> omega)) ?_) | (refine EK_ev (Ev_add rfl rfl) ?_)) | (refine ek_eql ?_; first | (refine EK_ev (Ev_eqlI rfl rfl) ?_) | (refine EK_ev (Ev_eqlS rfl rfl) ?_) | (refine EK_ev (Ev_eqlNil rfl rfl) ?_) | (refine EK_ev (Ev_eqlB rfl rfl) ?_) | (refine EK_ev (Ev_eqlO rfl rfl rfl (fun _ => rfl)) ?_)) | (refine ek_neq ?_; first | (refine EK_ev (Ev_neqI rfl rfl) ?_) | (refine EK_ev (Ev_neqS rfl rfl) ?_) | (refine EK_ev (Ev_neqNil rfl rfl) ?_) | (refine EK_ev (Ev_neqB rfl rfl) ?_) | (refine EK_ev (Ev_neqO rfl rfl rfl (fun _ => rfl)) ?_)) | (refine ek_lss ?_; first | (refine EK_ev (Ev_lssI rfl rfl) ?_) | (refine EK_ev (Ev_lssS rfl rfl) ?_)) | (refine ek_gtr ?_; first | (refine EK_ev (Ev_gtrI_q rfl rfl hq) ?_) | (refine EK_ev (Ev_gtrI rfl rfl) ?_) | (refine EK_ev (Ev_gtrS rfl rfl) ?_)))
    | (refine is_ex ?_; first | (refine KJ_seq_normal ?_) | (refine KJ_seq_ret ?_) | (refine KJ_seq_exit ?_) | (refine KJ_thn_normal ?_) | (refine KJ_thn_ret ?_) | (refine KJ_thn_exit ?_) | (refine KJ_blk_normal ?_) | (refine KJ_blk_ret ?_) | (refine KJ_blk_exit ?_) | (refine KJ_blk_exit' rfl ?_))
    | (refine is_code ?_; first | (refine KJ_seq ?_) | (refine KJ_region ?_) | (refine KJ_cond_dec rfl (fun _ => ?_) (fun _ => ?_) <;> first | (exfalso; omega) | skip) | (refine KJ_cond_t rfl ?_) | (refine KJ_cond_f rfl ?_) | (refine KJ_skip ?_) | (refine KJ_ret ?_) | (refine KJ_exit ?_) | (refine KJ_block ?_) | (refine KJ_draws (id := 2) (.op 0 (.op 1 (.op 2 (.op 3 .nil)))) (by kernel_rfl) (by kernel_rfl) ?_) | (refine KJ_draws (id := 15) (.op 0 (.op 1 (.op 2 (.op 3 .nil)))) (by kernel_rfl) (by kernel_rfl) ?_))
    | (refine is_fw ?_; first | (refine FW_open rfl ?_) | (refine FW_nil ?_) | (refine FW_ef rfl ?_) | (refine FW_efg rfl rfl rfl ?_) | (refine FW_alt ?_ ?_))
    | (refine is_fo ?_; first | (refine FO_dec_t rfl rfl (fun _ => ?_) (fun _ => ?_) <;> first | (exfalso; omega) | skip) | (refine FO_dec_f rfl rfl (fun _ => ?_) (fun _ => ?_) <;> first | (exfalso; omega) | skip) | (refine FO_no rfl rfl rfl rfl ?_) | (refine FO_ekg rfl rfl rfl ?_) | (refine FO_ek rfl ?_))
    | (refine is_ro ?_; first | (refine RO_no rfl rfl rfl rfl ?_) | (refine RO_ekg rfl rfl ?_) | (refine RO_ek ?_))
    | (refine is_raw ?_; first | (refine KJ_flow ?_ ?_))
    | (refine AtR_mk rfl ?_)
    | exact Rech.nil
    | (refine Rech_open rfl ?_))
      refine KJ_again ⟨k + 1, by omega⟩ (by show 2 - (k + 1) < 2 - k; omega) ?_ (Ent.of (by (repeat' (first | exact Pick.nil | apply Pick.cons | exact Sel.here | apply Sel.there)); first | done | fail) (by (repeat' (first | exact DropTo.refl | apply DropTo.there)); first | done | fail))
      dsimp only
      rw [h1, h2]
      exact (by (repeat' (first | exact Subs.nil | refine Subs.cons rfl ?_)); first | done | fail)
  · have hk2 : k = 2 := by omega
    subst hk2
    by_cases hz : V 2 = 0
    · rw [if_pos hz, if_neg (by omega), if_neg (by omega)]
      repeat' (first 
    | (refine is_list ?_; first | (refine KJ_plain ?_) | (refine KJ_nil ?_) | (refine KJ_guard_dec_t rfl rfl rfl (fun _ => ?_) (fun _ => ?_) <;> first | (exfalso; omega) | skip) | (refine KJ_guard_dec_f rfl rfl rfl (fun _ => ?_) (fun _ => ?_) <;> first | (exfalso; omega) | skip) | (refine KJ_guard_yes rfl rfl ?_) | (refine KJ_guard_no rfl rfl rfl rfl ?_))
    | (refine is_oper ?_; first | (refine KJ_ek rfl ?_) | (refine KJ_ek0 ?_))
    | (refine is_ek ?_; first | (refine ek_move ?_; first | (refine EK_ev (Ev_move rfl) ?_)) | (refine ek_assign ?_; first | (refine EK_ev (Ev_assign rfl) ?_)) | (refine ek_load ?_; first | (refine EK_ev (Ev_loadOld rfl e14) ?_) | (refine EK_ev (Ev_load rfl (by (repeat' (first | exact Sel.here | apply Sel.there)); first | done | fail) (by rfl)) ?_) | (refine EK_ev (Ev_loadOld rfl (by assumption)) ?_) | (refine EK_ev (Ev_loadAgg rfl (by (repeat' (first | exact Sel.here | apply Sel.there)); first | done | fail) (by (repeat' (first | exact Cut.nil | apply Cut.cons | apply Cut.skip)); first | done | fail)) ?_)) | (refine ek_un ?_; first | (refine EK_ev (Ev_notD rfl) ?_) | (refine EK_ev (Ev_not rfl) ?_) | (refine EK_ev (Ev_neg rfl) ?_)) | (refine ek_extract ?_; first | (refine EK_ev (Ev_extract rfl rfl) ?_)) | (refine ek_add ?_; first | (refine EK_ev (Ev_addI rfl rfl (by omega)) ?_) | (refine EK_ev (Ev_addS rfl rfl (by simp <;> omega)) ?_) | (refine EK_ev (Ev_add rfl rfl) ?_)) | (refine ek_eql ?_; first | (refine EK_ev (Ev_eqlI_t rfl rfl hz) ?_) | (refine EK_ev (Ev_eqlI rfl rfl) ?_) | (refine EK_ev (Ev_eqlS rfl rfl) ?_) | (refine EK_ev (Ev_eqlNil rfl rfl) ?_) | (refine EK_ev (Ev_eqlB rfl rfl) ?_) | (refine EK_ev (Ev_eqlO rfl rfl rfl (fun _ => rfl)) ?_)) | (refine ek_neq ?_; first | (refine EK_ev (Ev_neqI rfl rfl) ?_) | (refine EK_ev (Ev_neqS rfl rfl) ?_) | (refine EK_ev (Ev_neqNil rfl rfl) ?_) | (refine EK_ev (Ev_neqB rfl rfl) ?_) | (refine EK_ev (Ev_neqO rfl rfl rfl (fun _ => rfl)) ?_)) | (refine ek_lss ?_; first | (refine EK_ev (Ev_lssI rfl rfl) ?_) | (refine EK_ev (Ev_lssS rfl rfl) ?_)) | (refine ek_gtr ?_; first | (refine EK_ev (Ev_gtrI rfl rfl) ?_) | (refine EK_ev (Ev_gtrS rfl rfl) ?_)))
    | (refine is_ex ?_; first | (refine KJ_seq_normal ?_) | (refine KJ_seq_ret ?_) | (refine KJ_seq_exit ?_) | (refine KJ_thn_normal ?_) | (refine KJ_thn_ret ?_) | (refine KJ_thn_exit ?_) | (refine KJ_blk_normal ?_) | (refine KJ_blk_ret ?_) | (refine KJ_blk_exit ?_) | (refine KJ_blk_exit' rfl ?_))
    | (refine is_code ?_; first | (refine KJ_seq ?_) | (refine KJ_region ?_) | (refine KJ_cond_dec rfl (fun _ => ?_) (fun _ => ?_) <;> first | (exfalso; omega) | skip) | (refine KJ_cond_t rfl ?_) | (refine KJ_cond_f rfl ?_) | (refine KJ_skip ?_) | (refine KJ_ret ?_) | (refine KJ_exit ?_) | (refine KJ_block ?_) | (refine KJ_draws (id := 2) (.op 0 (.op 1 (.op 2 (.op 3 .nil)))) (by kernel_rfl) (by kernel_rfl) ?_) | (refine KJ_draws (id := 15) (.op 0 (.op 1 (.op 2 (.op 3 .nil)))) (by kernel_rfl) (by kernel_rfl) ?_))
    | (refine is_fw ?_; first | (refine FW_open rfl ?_) | (refine FW_nil ?_) | (refine FW_ef rfl ?_) | (refine FW_efg rfl rfl rfl ?_) | (refine FW_alt ?_ ?_))
    | (refine is_fo ?_; first | (refine FO_dec_t rfl rfl (fun _ => ?_) (fun _ => ?_) <;> first | (exfalso; omega) | skip) | (refine FO_dec_f rfl rfl (fun _ => ?_) (fun _ => ?_) <;> first | (exfalso; omega) | skip) | (refine FO_no rfl rfl rfl rfl ?_) | (refine FO_ekg rfl rfl rfl ?_) | (refine FO_ek rfl ?_))
    | (refine is_ro ?_; first | (refine RO_no rfl rfl rfl rfl ?_) | (refine RO_ekg rfl rfl ?_) | (refine RO_ek ?_))
    | (refine is_raw ?_; first | (refine KJ_flow ?_ ?_))
    | (refine AtR_mk rfl ?_)
    | exact Rech.nil
    | (refine Rech_open rfl ?_))
      all_goals (refine is_ex ?_; exact KJ_done (by first | exact Or.inl rfl | exact Or.inr rfl) rfl (by (repeat' (first | exact Rvs.nil | (apply Rvs.tmp; exact rfl))); first | done | fail) () (by rfl) (Ent.of (by (repeat' (first | exact Pick.nil | apply Pick.cons | exact Sel.here | apply Sel.there)); first | done | fail) (by (repeat' (first | exact DropTo.refl | apply DropTo.there)); first | done | fail)))
    · rw [if_neg hz, if_pos rfl, if_pos rfl]
      repeat' (first 
    | (refine is_list ?_; first | (refine KJ_plain ?_) | (refine KJ_nil ?_) | (refine KJ_guard_dec_t rfl rfl rfl (fun _ => ?_) (fun _ => ?_) <;> first | (exfalso; omega) | skip) | (refine KJ_guard_dec_f rfl rfl rfl (fun _ => ?_) (fun _ => ?_) <;> first | (exfalso; omega) | skip) | (refine KJ_guard_yes rfl rfl ?_) | (refine KJ_guard_no rfl rfl rfl rfl ?_))
    | (refine is_oper ?_; first | (refine KJ_ek rfl ?_) | (refine KJ_ek0 ?_))
    | (refine is_ek ?_; first | (refine ek_move ?_; first | (refine EK_ev (Ev_move rfl) ?_)) | (refine ek_assign ?_; first | (refine EK_ev (Ev_assign rfl) ?_)) | (refine ek_load ?_; first | (refine EK_ev (Ev_load rfl (by (repeat' (first | exact Sel.here | apply Sel.there)); first | done | fail) (by rfl)) ?_) | (refine EK_ev (Ev_loadOld rfl (by assumption)) ?_) | (refine EK_ev (Ev_loadAgg rfl (by (repeat' (first | exact Sel.here | apply Sel.there)); first | done | fail) (by (repeat' (first | exact Cut.nil | apply Cut.cons | apply Cut.skip)); first | done | fail)) ?_)) | (refine ek_un ?_; first | (refine EK_ev (Ev_notD rfl) ?_) | (refine EK_ev (Ev_not rfl) ?_) | (refine EK_ev (Ev_neg rfl) ?_)) | (refine ek_extract ?_; first | (refine EK_ev (Ev_extract rfl rfl) ?_)) | (refine ek_add ?_; first | (refine EK_ev (Ev_addI rfl rfl (by omega)) ?_) | (refine EK_ev (Ev_addS rfl rfl (by simp <;> omega)) ?_) | (refine EK_ev (Ev_add rfl rfl) ?_)) | (refine ek_eql ?_; first | (refine EK_ev (Ev_eqlI_f rfl rfl hz) ?_) | (refine EK_ev (Ev_eqlI rfl rfl) ?_) | (refine EK_ev (Ev_eqlS rfl rfl) ?_) | (refine EK_ev (Ev_eqlNil rfl rfl) ?_) | (refine EK_ev (Ev_eqlB rfl rfl) ?_) | (refine EK_ev (Ev_eqlO rfl rfl rfl (fun _ => rfl)) ?_)) | (refine ek_neq ?_; first | (refine EK_ev (Ev_neqI rfl rfl) ?_) | (refine EK_ev (Ev_neqS rfl rfl) ?_) | (refine EK_ev (Ev_neqNil rfl rfl) ?_) | (refine EK_ev (Ev_neqB rfl rfl) ?_) | (refine EK_ev (Ev_neqO rfl rfl rfl (fun _ => rfl)) ?_)) | (refine ek_lss ?_; first | (refine EK_ev (Ev_lssI rfl rfl) ?_) | (refine EK_ev (Ev_lssS rfl rfl) ?_)) | (refine ek_gtr ?_; first | (refine EK_ev (Ev_gtrI rfl rfl) ?_) | (refine EK_ev (Ev_gtrS rfl rfl) ?_)))
    | (refine is_ex ?_; first | (refine KJ_seq_normal ?_) | (refine KJ_seq_ret ?_) | (refine KJ_seq_exit ?_) | (refine KJ_thn_normal ?_) | (refine KJ_thn_ret ?_) | (refine KJ_thn_exit ?_) | (refine KJ_blk_normal ?_) | (refine KJ_blk_ret ?_) | (refine KJ_blk_exit ?_) | (refine KJ_blk_exit' rfl ?_))
    | (refine is_code ?_; first | (refine KJ_seq ?_) | (refine KJ_region ?_) | (refine KJ_cond_dec rfl (fun _ => ?_) (fun _ => ?_) <;> first | (exfalso; omega) | skip) | (refine KJ_cond_t rfl ?_) | (refine KJ_cond_f rfl ?_) | (refine KJ_skip ?_) | (refine KJ_ret ?_) | (refine KJ_exit ?_) | (refine KJ_block ?_) | (refine KJ_draws (id := 2) (.op 0 (.op 1 (.op 2 (.op 3 .nil)))) (by kernel_rfl) (by kernel_rfl) ?_) | (refine KJ_draws (id := 15) (.op 0 (.op 1 (.op 2 (.op 3 .nil)))) (by kernel_rfl) (by kernel_rfl) ?_))
    | (refine is_fw ?_; first | (refine FW_open rfl ?_) | (refine FW_nil ?_) | (refine FW_ef rfl ?_) | (refine FW_efg rfl rfl rfl ?_) | (refine FW_alt ?_ ?_))
    | (refine is_fo ?_; first | (refine FO_dec_t rfl rfl (fun _ => ?_) (fun _ => ?_) <;> first | (exfalso; omega) | skip) | (refine FO_dec_f rfl rfl (fun _ => ?_) (fun _ => ?_) <;> first | (exfalso; omega) | skip) | (refine FO_no rfl rfl rfl rfl ?_) | (refine FO_ekg rfl rfl rfl ?_) | (refine FO_ek rfl ?_))
    | (refine is_ro ?_; first | (refine RO_no rfl rfl rfl rfl ?_) | (refine RO_ekg rfl rfl ?_) | (refine RO_ek ?_))
    | (refine is_raw ?_; first | (refine KJ_flow ?_ ?_))
    | (refine AtR_mk rfl ?_)
    | exact Rech.nil
    | (refine Rech_open rfl ?_))
      all_goals (refine is_ex ?_; exact KJ_done (by first | exact Or.inl rfl | exact Or.inr rfl) rfl (by (repeat' (first | exact Rvs.nil | (apply Rvs.tmp; exact rfl))); first | done | fail) () (by rfl) (Ent.of (by (repeat' (first | exact Pick.nil | apply Pick.cons | exact Sel.here | apply Sel.there)); first | done | fail) (by (repeat' (first | exact DropTo.refl | apply DropTo.there)); first | done | fail)))
theorem sread_ct (hE : ErrsOn L8 W E) (hN : NibAt W) (hn : D.n ≤ 65536) (at_ : Int) :
    Ct Tryd.prog W 45 [.pointer (some ⟨p, 0, none⟩), .int .i64 at_] [DiskP p D] (fun _ : Unit => .tuple #[strV (slotS D at_), .int .i64 (slotN D at_), errV E (slotE D at_)]) (fun _ => [DiskP p D]) := by
  cases h : D.roomB at_ with
  | false => exact (sread_out hE hn at_ h).val fun _ => by simp [slotS, slotN, slotE, h]
  | true =>
    cases ho : D.off with
    | true => exact (sread_off hE hn at_ h ho).val fun _ => by simp [slotS, slotN, slotE, h, ho]
    | false => exact sread_on hE hN hn at_ h ho
end
end Go.Proofs.YteklldbfdmaafaaDoor
/-
  The package slots: Write over a disk, as plain data, and its contract.
-/
namespace Go.Proofs.YteklldbfdmaafaaDoor
open Go Go.RowKit

/-- may Write be? -/
def slotMay (D : Dsk) (at_ v : Int) : Bool := D.roomB at_ && decide (1 ≤ v) && decide (v ≤ 1099511627776)
def slotW1 (D : Dsk) (at_ v : Int) (s : List UInt8) : Dsk := D.writeD (at_ + v % 2) (sealB v s)
def slotWE (D : Dsk) (at_ v : Int) (s : List UInt8) : Nat :=
  if slotMay D at_ v = false then 6 else if 234 < s.length then 3 else if D.writeE (at_ + v % 2) (sealB v s) ≠ 0 then D.writeE (at_ + v % 2) (sealB v s) else (slotW1 D at_ v s).flushE
def slotWD (D : Dsk) (at_ v : Int) (s : List UInt8) : Dsk :=
  if slotMay D at_ v = false then D else if 234 < s.length then D else if D.writeE (at_ + v % 2) (sealB v s) ≠ 0 then slotW1 D at_ v s else (slotW1 D at_ v s).flushD
theorem writeD_und (D : Dsk) (i : Int) (s : List UInt8) : (D.writeD i s).und.length ≤ D.und.length + 1 := by
  unfold Dsk.writeD
  split
  · omega
  split
  · split
    · dsimp only
      split
      · rw [Dsk.gone_und]; simp
      · show (Dsk.gone _).und.length ≤ _; rw [Dsk.gone_und]; simp
    · omega
  · omega
theorem errV_ne {E : Nat → Addr} {k : Nat} (h : k ≠ 0) : ∃ a, errV E k = .iface 204 (.pointer (some a)) := ⟨E k, by unfold errV; rw [if_neg h]⟩

section
variable {W : World} {E : Nat → Addr} {p : Nat} {D : Dsk}
theorem swrite_bad (hE : ErrsOn L8 W E) (hn : D.n ≤ 65536) (at_ v : Int) (s : List UInt8) (h : slotMay D at_ v = false) : Ct Tryd.prog W 44 [.pointer (some ⟨p, 0, none⟩), .int .i64 at_, .int .i64 v, strV s] [DiskP p D] (fun _ : Unit => errV E 6) (fun _ => [DiskP p D]) := by
  have e6 : W.cell? ⟨3, 0, none⟩ = some (errV E 6) := hE.at_ 6 (by decide)
  have c1 := room_ct (W := W) (p := p) at_ hn
  cases hr : D.roomB at_ with
  | false =>
    rw [hr] at c1
    refine Ct.enter Tryd.func44 rfl Tryd.ntmps44 (by simp) (fun R => ?_)
    repeat' (first 
    | (refine is_list ?_; first | (refine KJ_plain ?_) | (refine KJ_nil ?_) | (refine KJ_guard_dec_t rfl rfl rfl (fun _ => ?_) (fun _ => ?_) <;> first | (exfalso; omega) | skip) | (refine KJ_guard_dec_f rfl rfl rfl (fun _ => ?_) (fun _ => ?_) <;> first | (exfalso; omega) | skip) | (refine KJ_guard_yes rfl rfl ?_) | (refine KJ_guard_no rfl rfl rfl rfl ?_))
    | (refine is_oper ?_; first | (refine is_call ?_; first | (refine KJ_call (by (repeat' (first | exact Evs.nil | refine Evs.cons rfl ?_)); first | done | fail) c1 (by (repeat' (first | exact Pick.nil | apply Pick.cons | exact Sel.here | apply Sel.there)); first | done | fail) rfl (fun _ => ?_))) | (refine KJ_ek rfl ?_) | (refine KJ_ek0 ?_))
    | (refine is_ek ?_; first | (refine ek_move ?_; first | (refine EK_ev (Ev_move rfl) ?_)) | (refine ek_assign ?_; first | (refine EK_ev (Ev_assign rfl) ?_)) | (refine ek_pick ?_; first | (refine EK_ev (Ev_pick_t rfl rfl) ?_) | (refine EK_ev (Ev_pick_f rfl rfl) ?_)) | (refine ek_load ?_; first | (refine EK_ev (Ev_loadOld rfl e6) ?_) | (refine EK_ev (Ev_load rfl (by (repeat' (first | exact Sel.here | apply Sel.there)); first | done | fail) (by rfl)) ?_) | (refine EK_ev (Ev_loadOld rfl (by assumption)) ?_) | (refine EK_ev (Ev_loadAgg rfl (by (repeat' (first | exact Sel.here | apply Sel.there)); first | done | fail) (by (repeat' (first | exact Cut.nil | apply Cut.cons | apply Cut.skip)); first | done | fail)) ?_)) | (refine ek_un ?_; first | (refine EK_ev (Ev_notD rfl) ?_) | (refine EK_ev (Ev_not rfl) ?_) | (refine EK_ev (Ev_neg rfl) ?_)) | (refine ek_conv ?_; first | (refine EK_ev (Ev_convI64 rfl (by omega)) ?_) | (refine EK_ev (Ev_convI rfl) ?_) | (refine EK_ev (Ev_convS rfl) ?_)) | (refine ek_extract ?_; first | (refine EK_ev (Ev_extract rfl rfl) ?_)) | (refine ek_add ?_; first | (refine EK_ev (Ev_addI rfl rfl (by omega)) ?_) | (refine EK_ev (Ev_addS rfl rfl (by simp <;> omega)) ?_) | (refine EK_ev (Ev_add rfl rfl) ?_)) | (refine ek_rem ?_; first | (refine EK_ev (Ev_remI rfl rfl (by omega)) ?_) | (refine EK_ev (Ev_rem rfl rfl (by omega)) ?_)) | (refine ek_neq ?_; first | (refine EK_ev (Ev_neqI rfl rfl) ?_) | (refine EK_ev (Ev_neqS rfl rfl) ?_) | (refine EK_ev (Ev_neqNil rfl rfl) ?_) | (refine EK_ev (Ev_neqB rfl rfl) ?_) | (refine EK_ev (Ev_neqO rfl rfl rfl (fun _ => rfl)) ?_)) | (refine ek_lss ?_; first | (refine EK_ev (Ev_lssI rfl rfl) ?_) | (refine EK_ev (Ev_lssS rfl rfl) ?_)) | (refine ek_gtr ?_; first | (refine EK_ev (Ev_gtrI rfl rfl) ?_) | (refine EK_ev (Ev_gtrS rfl rfl) ?_)))
    | (refine is_ex ?_; first | (refine KJ_seq_normal ?_) | (refine KJ_seq_ret ?_) | (refine KJ_seq_exit ?_) | (refine KJ_thn_normal ?_) | (refine KJ_thn_ret ?_) | (refine KJ_thn_exit ?_) | (refine KJ_blk_normal ?_) | (refine KJ_blk_ret ?_) | (refine KJ_blk_exit ?_) | (refine KJ_blk_exit' rfl ?_))
    | (refine is_code ?_; first | (refine KJ_seq ?_) | (refine KJ_region ?_) | (refine KJ_cond_dec rfl (fun _ => ?_) (fun _ => ?_) <;> first | (exfalso; omega) | skip) | (refine KJ_cond_t rfl ?_) | (refine KJ_cond_f rfl ?_) | (refine KJ_skip ?_) | (refine KJ_ret ?_) | (refine KJ_exit ?_) | (refine KJ_block ?_)))
    all_goals (refine is_ex ?_; exact KJ_done (by first | exact Or.inl rfl | exact Or.inr rfl) rfl (by (repeat' (first | exact Rvs.nil | (apply Rvs.tmp; exact rfl))); first | done | fail) () (by rfl) (Ent.of (by (repeat' (first | exact Pick.nil | apply Pick.cons | exact Sel.here | apply Sel.there)); first | done | fail) (by (repeat' (first | exact DropTo.refl | apply DropTo.there)); first | done | fail)))
  | true =>
    rw [hr] at c1
    by_cases hv : v < 1
    · have q1 : decide (v < 1) = true := decide_eq_true hv
      refine Ct.enter Tryd.func44 rfl Tryd.ntmps44 (by simp) (fun R => ?_)
      repeat' (first 
    | (refine is_list ?_; first | (refine KJ_plain ?_) | (refine KJ_nil ?_) | (refine KJ_guard_dec_t rfl rfl rfl (fun _ => ?_) (fun _ => ?_) <;> first | (exfalso; omega) | skip) | (refine KJ_guard_dec_f rfl rfl rfl (fun _ => ?_) (fun _ => ?_) <;> first | (exfalso; omega) | skip) | (refine KJ_guard_yes rfl rfl ?_) | (refine KJ_guard_no rfl rfl rfl rfl ?_))
    | (refine is_oper ?_; first | (refine is_call ?_; first | (refine KJ_call (by (repeat' (first | exact Evs.nil | refine Evs.cons rfl ?_)); first | done | fail) c1 (by (repeat' (first | exact Pick.nil | apply Pick.cons | exact Sel.here | apply Sel.there)); first | done | fail) rfl (fun _ => ?_))) | (refine KJ_ek rfl ?_) | (refine KJ_ek0 ?_))
    | (refine is_ek ?_; first | (refine ek_move ?_; first | (refine EK_ev (Ev_move rfl) ?_)) | (refine ek_assign ?_; first | (refine EK_ev (Ev_assign rfl) ?_)) | (refine ek_pick ?_; first | (refine EK_ev (Ev_pick_t rfl rfl) ?_) | (refine EK_ev (Ev_pick_f rfl rfl) ?_)) | (refine ek_load ?_; first | (refine EK_ev (Ev_loadOld rfl e6) ?_) | (refine EK_ev (Ev_load rfl (by (repeat' (first | exact Sel.here | apply Sel.there)); first | done | fail) (by rfl)) ?_) | (refine EK_ev (Ev_loadOld rfl (by assumption)) ?_) | (refine EK_ev (Ev_loadAgg rfl (by (repeat' (first | exact Sel.here | apply Sel.there)); first | done | fail) (by (repeat' (first | exact Cut.nil | apply Cut.cons | apply Cut.skip)); first | done | fail)) ?_)) | (refine ek_un ?_; first | (refine EK_ev (Ev_notD rfl) ?_) | (refine EK_ev (Ev_not rfl) ?_) | (refine EK_ev (Ev_neg rfl) ?_)) | (refine ek_conv ?_; first | (refine EK_ev (Ev_convI64 rfl (by omega)) ?_) | (refine EK_ev (Ev_convI rfl) ?_) | (refine EK_ev (Ev_convS rfl) ?_)) | (refine ek_extract ?_; first | (refine EK_ev (Ev_extract rfl rfl) ?_)) | (refine ek_add ?_; first | (refine EK_ev (Ev_addI rfl rfl (by omega)) ?_) | (refine EK_ev (Ev_addS rfl rfl (by simp <;> omega)) ?_) | (refine EK_ev (Ev_add rfl rfl) ?_)) | (refine ek_rem ?_; first | (refine EK_ev (Ev_remI rfl rfl (by omega)) ?_) | (refine EK_ev (Ev_rem rfl rfl (by omega)) ?_)) | (refine ek_neq ?_; first | (refine EK_ev (Ev_neqI rfl rfl) ?_) | (refine EK_ev (Ev_neqS rfl rfl) ?_) | (refine EK_ev (Ev_neqNil rfl rfl) ?_) | (refine EK_ev (Ev_neqB rfl rfl) ?_) | (refine EK_ev (Ev_neqO rfl rfl rfl (fun _ => rfl)) ?_)) | (refine ek_lss ?_; first | (refine EK_ev (Ev_lssI_q rfl rfl q1) ?_) | (refine EK_ev (Ev_lssI rfl rfl) ?_) | (refine EK_ev (Ev_lssS rfl rfl) ?_)) | (refine ek_gtr ?_; first | (refine EK_ev (Ev_gtrI rfl rfl) ?_) | (refine EK_ev (Ev_gtrS rfl rfl) ?_)))
    | (refine is_ex ?_; first | (refine KJ_seq_normal ?_) | (refine KJ_seq_ret ?_) | (refine KJ_seq_exit ?_) | (refine KJ_thn_normal ?_) | (refine KJ_thn_ret ?_) | (refine KJ_thn_exit ?_) | (refine KJ_blk_normal ?_) | (refine KJ_blk_ret ?_) | (refine KJ_blk_exit ?_) | (refine KJ_blk_exit' rfl ?_))
    | (refine is_code ?_; first | (refine KJ_seq ?_) | (refine KJ_region ?_) | (refine KJ_cond_dec rfl (fun _ => ?_) (fun _ => ?_) <;> first | (exfalso; omega) | skip) | (refine KJ_cond_t rfl ?_) | (refine KJ_cond_f rfl ?_) | (refine KJ_skip ?_) | (refine KJ_ret ?_) | (refine KJ_exit ?_) | (refine KJ_block ?_)))
      all_goals (refine is_ex ?_; exact KJ_done (by first | exact Or.inl rfl | exact Or.inr rfl) rfl (by (repeat' (first | exact Rvs.nil | (apply Rvs.tmp; exact rfl))); first | done | fail) () (by rfl) (Ent.of (by (repeat' (first | exact Pick.nil | apply Pick.cons | exact Sel.here | apply Sel.there)); first | done | fail) (by (repeat' (first | exact DropTo.refl | apply DropTo.there)); first | done | fail)))
    · have q1 : decide (v < 1) = false := decide_eq_false hv
      have q2 : decide (1099511627776 < v) = true := by
        refine decide_eq_true ?_
        unfold slotMay at h
        rw [hr, decide_eq_true (show 1 ≤ v by omega)] at h
        simp at h
        omega
      refine Ct.enter Tryd.func44 rfl Tryd.ntmps44 (by simp) (fun R => ?_)
      repeat' (first 
    | (refine is_list ?_; first | (refine KJ_plain ?_) | (refine KJ_nil ?_) | (refine KJ_guard_dec_t rfl rfl rfl (fun _ => ?_) (fun _ => ?_) <;> first | (exfalso; omega) | skip) | (refine KJ_guard_dec_f rfl rfl rfl (fun _ => ?_) (fun _ => ?_) <;> first | (exfalso; omega) | skip) | (refine KJ_guard_yes rfl rfl ?_) | (refine KJ_guard_no rfl rfl rfl rfl ?_))
    | (refine is_oper ?_; first | (refine is_call ?_; first | (refine KJ_call (by (repeat' (first | exact Evs.nil | refine Evs.cons rfl ?_)); first | done | fail) c1 (by (repeat' (first | exact Pick.nil | apply Pick.cons | exact Sel.here | apply Sel.there)); first | done | fail) rfl (fun _ => ?_))) | (refine KJ_ek rfl ?_) | (refine KJ_ek0 ?_))
    | (refine is_ek ?_; first | (refine ek_move ?_; first | (refine EK_ev (Ev_move rfl) ?_)) | (refine ek_assign ?_; first | (refine EK_ev (Ev_assign rfl) ?_)) | (refine ek_pick ?_; first | (refine EK_ev (Ev_pick_t rfl rfl) ?_) | (refine EK_ev (Ev_pick_f rfl rfl) ?_)) | (refine ek_load ?_; first | (refine EK_ev (Ev_loadOld rfl e6) ?_) | (refine EK_ev (Ev_load rfl (by (repeat' (first | exact Sel.here | apply Sel.there)); first | done | fail) (by rfl)) ?_) | (refine EK_ev (Ev_loadOld rfl (by assumption)) ?_) | (refine EK_ev (Ev_loadAgg rfl (by (repeat' (first | exact Sel.here | apply Sel.there)); first | done | fail) (by (repeat' (first | exact Cut.nil | apply Cut.cons | apply Cut.skip)); first | done | fail)) ?_)) | (refine ek_un ?_; first | (refine EK_ev (Ev_notD rfl) ?_) | (refine EK_ev (Ev_not rfl) ?_) | (refine EK_ev (Ev_neg rfl) ?_)) | (refine ek_conv ?_; first | (refine EK_ev (Ev_convI64 rfl (by omega)) ?_) | (refine EK_ev (Ev_convI rfl) ?_) | (refine EK_ev (Ev_convS rfl) ?_)) | (refine ek_extract ?_; first | (refine EK_ev (Ev_extract rfl rfl) ?_)) | (refine ek_add ?_; first | (refine EK_ev (Ev_addI rfl rfl (by omega)) ?_) | (refine EK_ev (Ev_addS rfl rfl (by simp <;> omega)) ?_) | (refine EK_ev (Ev_add rfl rfl) ?_)) | (refine ek_rem ?_; first | (refine EK_ev (Ev_remI rfl rfl (by omega)) ?_) | (refine EK_ev (Ev_rem rfl rfl (by omega)) ?_)) | (refine ek_neq ?_; first | (refine EK_ev (Ev_neqI rfl rfl) ?_) | (refine EK_ev (Ev_neqS rfl rfl) ?_) | (refine EK_ev (Ev_neqNil rfl rfl) ?_) | (refine EK_ev (Ev_neqB rfl rfl) ?_) | (refine EK_ev (Ev_neqO rfl rfl rfl (fun _ => rfl)) ?_)) | (refine ek_lss ?_; first | (refine EK_ev (Ev_lssI_q rfl rfl q1) ?_) | (refine EK_ev (Ev_lssI rfl rfl) ?_) | (refine EK_ev (Ev_lssS rfl rfl) ?_)) | (refine ek_gtr ?_; first | (refine EK_ev (Ev_gtrI_q rfl rfl q2) ?_) | (refine EK_ev (Ev_gtrI rfl rfl) ?_) | (refine EK_ev (Ev_gtrS rfl rfl) ?_)))
    | (refine is_ex ?_; first | (refine KJ_seq_normal ?_) | (refine KJ_seq_ret ?_) | (refine KJ_seq_exit ?_) | (refine KJ_thn_normal ?_) | (refine KJ_thn_ret ?_) | (refine KJ_thn_exit ?_) | (refine KJ_blk_normal ?_) | (refine KJ_blk_ret ?_) | (refine KJ_blk_exit ?_) | (refine KJ_blk_exit' rfl ?_))
    | (refine is_code ?_; first | (refine KJ_seq ?_) | (refine KJ_region ?_) | (refine KJ_cond_dec rfl (fun _ => ?_) (fun _ => ?_) <;> first | (exfalso; omega) | skip) | (refine KJ_cond_t rfl ?_) | (refine KJ_cond_f rfl ?_) | (refine KJ_skip ?_) | (refine KJ_ret ?_) | (refine KJ_exit ?_) | (refine KJ_block ?_)))
      all_goals (refine is_ex ?_; exact KJ_done (by first | exact Or.inl rfl | exact Or.inr rfl) rfl (by (repeat' (first | exact Rvs.nil | (apply Rvs.tmp; exact rfl))); first | done | fail) () (by rfl) (Ent.of (by (repeat' (first | exact Pick.nil | apply Pick.cons | exact Sel.here | apply Sel.there)); first | done | fail) (by (repeat' (first | exact DropTo.refl | apply DropTo.there)); first | done | fail)))
set_option maxHeartbeats 1000000 in
set_option maxRecDepth 100000 in
theorem swrite_may (hE : ErrsOn L8 W E) (hN : NibAt W) (hn : D.n ≤ 65536) (hul : D.und.length < 1073741823) (at_ v : Int) (s : List UInt8) (h : slotMay D at_ v = true) :
    Ct Tryd.prog W 44 [.pointer (some ⟨p, 0, none⟩), .int .i64 at_, .int .i64 v, strV s] [DiskP p D] (fun _ : Unit => errV E (slotWE D at_ v s)) (fun _ => [DiskP p (slotWD D at_ v s)]) := by
  have hm : D.roomB at_ = true ∧ 1 ≤ v ∧ v ≤ 1099511627776 := by
    unfold slotMay at h; simp at h; exact ⟨h.1.1, h.1.2, h.2⟩
  have hat : 0 ≤ at_ ∧ at_ ≤ (D.n : Int) - 2 := by have := hm.1; unfold Dsk.roomB at this; simpa using this
  have c1 := room_ct (W := W) (p := p) at_ hn
  rw [hm.1] at c1
  have q1 : decide (v < 1) = false := decide_eq_false (by omega)
  have q2 : decide (1099511627776 < v) = false := decide_eq_false (by omega)
  have hw : IntKind.u64.wrap v = v := by show v % 18446744073709551616 = v; omega
  have hv0 : v ≠ 0 := by omega
  unfold slotWE slotWD
  have hb : ¬ (slotMay D at_ v = false) := by rw [h]; simp
  rw [if_neg hb, if_neg hb]
  by_cases hl : 234 < s.length
  · rw [if_pos hl, if_pos hl]
    have c2 := seal_long hE v s hv0 hl
    refine Ct.enter Tryd.func44 rfl Tryd.ntmps44 (by simp) (fun R => ?_)
    repeat' (first 
    | (refine is_list ?_; first | (refine KJ_plain ?_) | (refine KJ_nil ?_) | (refine KJ_guard_dec_t rfl rfl rfl (fun _ => ?_) (fun _ => ?_) <;> first | (exfalso; omega) | skip) | (refine KJ_guard_dec_f rfl rfl rfl (fun _ => ?_) (fun _ => ?_) <;> first | (exfalso; omega) | skip) | (refine KJ_guard_yes rfl rfl ?_) | (refine KJ_guard_no rfl rfl rfl rfl ?_))
    | (refine is_oper ?_; first | (refine is_call ?_; first | (refine KJ_call (by (repeat' (first | exact Evs.nil | refine Evs.cons rfl ?_)); first | done | fail) c2 (by (repeat' (first | exact Pick.nil | apply Pick.cons | exact Sel.here | apply Sel.there)); first | done | fail) rfl (fun _ => ?_)) | (refine KJ_call (by (repeat' (first | exact Evs.nil | refine Evs.cons rfl ?_)); first | done | fail) c1 (by (repeat' (first | exact Pick.nil | apply Pick.cons | exact Sel.here | apply Sel.there)); first | done | fail) rfl (fun _ => ?_))) | (refine KJ_ek rfl ?_) | (refine KJ_ek0 ?_))
    | (refine is_ek ?_; first | (refine ek_move ?_; first | (refine EK_ev (Ev_move rfl) ?_)) | (refine ek_assign ?_; first | (refine EK_ev (Ev_assign rfl) ?_)) | (refine ek_pick ?_; first | (refine EK_ev (Ev_pick_t rfl rfl) ?_) | (refine EK_ev (Ev_pick_f rfl rfl) ?_)) | (refine ek_load ?_; first | (refine EK_ev (Ev_load rfl (by (repeat' (first | exact Sel.here | apply Sel.there)); first | done | fail) (by rfl)) ?_) | (refine EK_ev (Ev_loadOld rfl (by assumption)) ?_) | (refine EK_ev (Ev_loadAgg rfl (by (repeat' (first | exact Sel.here | apply Sel.there)); first | done | fail) (by (repeat' (first | exact Cut.nil | apply Cut.cons | apply Cut.skip)); first | done | fail)) ?_)) | (refine ek_un ?_; first | (refine EK_ev (Ev_notD rfl) ?_) | (refine EK_ev (Ev_not rfl) ?_) | (refine EK_ev (Ev_neg rfl) ?_)) | (refine ek_conv ?_; first | (refine EK_ev (Ev_convI_v rfl hw) ?_) | (refine EK_ev (Ev_convI64 rfl (by omega)) ?_) | (refine EK_ev (Ev_convI rfl) ?_) | (refine EK_ev (Ev_convS rfl) ?_)) | (refine ek_extract ?_; first | (refine EK_ev (Ev_extract rfl rfl) ?_)) | (refine ek_add ?_; first | (refine EK_ev (Ev_addI rfl rfl (by omega)) ?_) | (refine EK_ev (Ev_addS rfl rfl (by simp <;> omega)) ?_) | (refine EK_ev (Ev_add rfl rfl) ?_)) | (refine ek_rem ?_; first | (refine EK_ev (Ev_remI rfl rfl (by omega)) ?_) | (refine EK_ev (Ev_rem rfl rfl (by omega)) ?_)) | (refine ek_neq ?_; first | (refine EK_ev (Ev_neqI rfl rfl) ?_) | (refine EK_ev (Ev_neqS rfl rfl) ?_) | (refine EK_ev (Ev_neqNil rfl rfl) ?_) | (refine EK_ev (Ev_neqB rfl rfl) ?_) | (refine EK_ev (Ev_neqO rfl rfl rfl (fun _ => rfl)) ?_)) | (refine ek_lss ?_; first | (refine EK_ev (Ev_lssI_q rfl rfl q1) ?_) | (refine EK_ev (Ev_lssI rfl rfl) ?_) | (refine EK_ev (Ev_lssS rfl rfl) ?_)) | (refine ek_gtr ?_; first | (refine EK_ev (Ev_gtrI_q rfl rfl q2) ?_) | (refine EK_ev (Ev_gtrI rfl rfl) ?_) | (refine EK_ev (Ev_gtrS rfl rfl) ?_)))
    | (refine is_ex ?_; first | (refine KJ_seq_normal ?_) | (refine KJ_seq_ret ?_) | (refine KJ_seq_exit ?_) | (refine KJ_thn_normal ?_) | (refine KJ_thn_ret ?_) | (refine KJ_thn_exit ?_) | (refine KJ_blk_normal ?_) | (refine KJ_blk_ret ?_) | (refine KJ_blk_exit ?_) | (refine KJ_blk_exit' rfl ?_))
    | (refine is_code ?_; first | (refine KJ_seq ?_) | (refine KJ_region ?_) | (refine KJ_cond_dec rfl (fun _ => ?_) (fun _ => ?_) <;> first | (exfalso; omega) | skip) | (refine KJ_cond_t rfl ?_) | (refine KJ_cond_f rfl ?_) | (refine KJ_skip ?_) | (refine KJ_ret ?_) | (refine KJ_exit ?_) | (refine KJ_block ?_)))
    all_goals (refine is_ex ?_; exact KJ_done (by first | exact Or.inl rfl | exact Or.inr rfl) rfl (by (repeat' (first | exact Rvs.nil | (apply Rvs.tmp; exact rfl))); first | done | fail) () (by rfl) (Ent.of (by (repeat' (first | exact Pick.nil | apply Pick.cons | exact Sel.here | apply Sel.there)); first | done | fail) (by (repeat' (first | exact DropTo.refl | apply DropTo.there)); first | done | fail)))
  rw [if_neg hl, if_neg hl]
  have c2 := seal_ok hN v s hv0 (by omega)
  have hrb : at_ + v % 2 ≤ 9223372036854775807 ∧ -9223372036854775808 ≤ at_ + v % 2 := by omega
  have c3 : Ct Tryd.prog W 32 [.pointer (some ⟨p, 0, none⟩), .int .i64 (at_ + v % 2), strV (sealB v s)] [DiskP p D] (fun _ : Unit => errV E (D.writeE (at_ + v % 2) (sealB v s))) (fun _ => [DiskP p (slotW1 D at_ v s)]) := write_ct hE _ _ (by omega)
  obtain ⟨D1, hD1⟩ : ∃ D1, D1 = slotW1 D at_ v s := ⟨_, rfl⟩
  have hu1 : D1.und.length < 1073741824 := by
    rw [hD1]
    unfold slotW1
    have := writeD_und D (at_ + v % 2) (sealB v s)
    omega
  obtain ⟨e, he⟩ : ∃ e, e = D.writeE (at_ + v % 2) (sealB v s) := ⟨_, rfl⟩
  rw [← hD1, ← he] at c3 ⊢
  by_cases hz : e = 0
  · subst hz
    have hb0 : ¬ ((0 : Nat) ≠ 0) := by simp
    rw [if_neg hb0, if_neg hb0]
    have c4 : Ct Tryd.prog W 24 [.pointer (some ⟨p, 0, none⟩)] [DiskP p D1] (fun _ : Unit => errV E D1.flushE) (fun _ => [DiskP p D1.flushD]) := flush_ct hE hu1
    have c3' : Ct Tryd.prog W 32 [.pointer (some ⟨p, 0, none⟩), .int .i64 (at_ + v % 2), strV (sealB v s)] [DiskP p D] (fun _ : Unit => .nilIface) (fun _ => [DiskP p D1]) := c3
    refine Ct.enter Tryd.func44 rfl Tryd.ntmps44 (by simp) (fun R => ?_)
    repeat' (first 
    | (refine is_list ?_; first | (refine KJ_plain ?_) | (refine KJ_nil ?_) | (refine KJ_guard_dec_t rfl rfl rfl (fun _ => ?_) (fun _ => ?_) <;> first | (exfalso; omega) | skip) | (refine KJ_guard_dec_f rfl rfl rfl (fun _ => ?_) (fun _ => ?_) <;> first | (exfalso; omega) | skip) | (refine KJ_guard_yes rfl rfl ?_) | (refine KJ_guard_no rfl rfl rfl rfl ?_))
    | (refine is_oper ?_; first | (refine is_call ?_; first | (refine KJ_call (by (repeat' (first | exact Evs.nil | refine Evs.cons rfl ?_)); first | done | fail) c4 (by (repeat' (first | exact Pick.nil | apply Pick.cons | exact Sel.here | apply Sel.there)); first | done | fail) rfl (fun _ => ?_)) | (refine KJ_call (by (repeat' (first | exact Evs.nil | refine Evs.cons rfl ?_)); first | done | fail) c3' (by (repeat' (first | exact Pick.nil | apply Pick.cons | exact Sel.here | apply Sel.there)); first | done | fail) rfl (fun _ => ?_)) | (refine KJ_call (by (repeat' (first | exact Evs.nil | refine Evs.cons rfl ?_)); first | done | fail) c2 (by (repeat' (first | exact Pick.nil | apply Pick.cons | exact Sel.here | apply Sel.there)); first | done | fail) rfl (fun _ => ?_)) | (refine KJ_call (by (repeat' (first | exact Evs.nil | refine Evs.cons rfl ?_)); first | done | fail) c1 (by (repeat' (first | exact Pick.nil | apply Pick.cons | exact Sel.here | apply Sel.there)); first | done | fail) rfl (fun _ => ?_))) | (refine KJ_ek rfl ?_) | (refine KJ_ek0 ?_))
    | (refine is_ek ?_; first | (refine ek_move ?_; first | (refine EK_ev (Ev_move rfl) ?_)) | (refine ek_assign ?_; first | (refine EK_ev (Ev_assign rfl) ?_)) | (refine ek_pick ?_; first | (refine EK_ev (Ev_pick_t rfl rfl) ?_) | (refine EK_ev (Ev_pick_f rfl rfl) ?_)) | (refine ek_load ?_; first | (refine EK_ev (Ev_load rfl (by (repeat' (first | exact Sel.here | apply Sel.there)); first | done | fail) (by rfl)) ?_) | (refine EK_ev (Ev_loadOld rfl (by assumption)) ?_) | (refine EK_ev (Ev_loadAgg rfl (by (repeat' (first | exact Sel.here | apply Sel.there)); first | done | fail) (by (repeat' (first | exact Cut.nil | apply Cut.cons | apply Cut.skip)); first | done | fail)) ?_)) | (refine ek_un ?_; first | (refine EK_ev (Ev_notD rfl) ?_) | (refine EK_ev (Ev_not rfl) ?_) | (refine EK_ev (Ev_neg rfl) ?_)) | (refine ek_conv ?_; first | (refine EK_ev (Ev_convI_v rfl hw) ?_) | (refine EK_ev (Ev_convI64 rfl (by omega)) ?_) | (refine EK_ev (Ev_convI rfl) ?_) | (refine EK_ev (Ev_convS rfl) ?_)) | (refine ek_extract ?_; first | (refine EK_ev (Ev_extract rfl rfl) ?_)) | (refine ek_add ?_; first | (refine EK_ev (Ev_addI rfl rfl (by omega)) ?_) | (refine EK_ev (Ev_addS rfl rfl (by simp <;> omega)) ?_) | (refine EK_ev (Ev_add rfl rfl) ?_)) | (refine ek_rem ?_; first | (refine EK_ev (Ev_remI rfl rfl (by omega)) ?_) | (refine EK_ev (Ev_remI rfl rfl (by omega)) ?_) | (refine EK_ev (Ev_rem rfl rfl (by omega)) ?_)) | (refine ek_neq ?_; first | (refine EK_ev (Ev_neqI rfl rfl) ?_) | (refine EK_ev (Ev_neqS rfl rfl) ?_) | (refine EK_ev (Ev_neqNil rfl rfl) ?_) | (refine EK_ev (Ev_neqB rfl rfl) ?_) | (refine EK_ev (Ev_neqO rfl rfl rfl (fun _ => rfl)) ?_)) | (refine ek_lss ?_; first | (refine EK_ev (Ev_lssI_q rfl rfl q1) ?_) | (refine EK_ev (Ev_lssI rfl rfl) ?_) | (refine EK_ev (Ev_lssS rfl rfl) ?_)) | (refine ek_gtr ?_; first | (refine EK_ev (Ev_gtrI_q rfl rfl q2) ?_) | (refine EK_ev (Ev_gtrI rfl rfl) ?_) | (refine EK_ev (Ev_gtrS rfl rfl) ?_)))
    | (refine is_ex ?_; first | (refine KJ_seq_normal ?_) | (refine KJ_seq_ret ?_) | (refine KJ_seq_exit ?_) | (refine KJ_thn_normal ?_) | (refine KJ_thn_ret ?_) | (refine KJ_thn_exit ?_) | (refine KJ_blk_normal ?_) | (refine KJ_blk_ret ?_) | (refine KJ_blk_exit ?_) | (refine KJ_blk_exit' rfl ?_))
    | (refine is_code ?_; first | (refine KJ_seq ?_) | (refine KJ_region ?_) | (refine KJ_cond_dec rfl (fun _ => ?_) (fun _ => ?_) <;> first | (exfalso; omega) | skip) | (refine KJ_cond_t rfl ?_) | (refine KJ_cond_f rfl ?_) | (refine KJ_skip ?_) | (refine KJ_ret ?_) | (refine KJ_exit ?_) | (refine KJ_block ?_)))
    all_goals (refine is_ex ?_; exact KJ_done (by first | exact Or.inl rfl | exact Or.inr rfl) rfl (by (repeat' (first | exact Rvs.nil | (apply Rvs.tmp; exact rfl))); first | done | fail) () (by rfl) (Ent.of (by (repeat' (first | exact Pick.nil | apply Pick.cons | exact Sel.here | apply Sel.there)); first | done | fail) (by (repeat' (first | exact DropTo.refl | apply DropTo.there)); first | done | fail)))
  · rw [if_pos hz, if_pos hz]
    obtain ⟨ea, hea⟩ := errV_ne (E := E) hz
    rw [hea] at c3 ⊢
    refine Ct.enter Tryd.func44 rfl Tryd.ntmps44 (by simp) (fun R => ?_)
    repeat' (first 
    | (refine is_list ?_; first | (refine KJ_plain ?_) | (refine KJ_nil ?_) | (refine KJ_guard_dec_t rfl rfl rfl (fun _ => ?_) (fun _ => ?_) <;> first | (exfalso; omega) | skip) | (refine KJ_guard_dec_f rfl rfl rfl (fun _ => ?_) (fun _ => ?_) <;> first | (exfalso; omega) | skip) | (refine KJ_guard_yes rfl rfl ?_) | (refine KJ_guard_no rfl rfl rfl rfl ?_))
    | (refine is_oper ?_; first | (refine is_call ?_; first | (refine KJ_call (by (repeat' (first | exact Evs.nil | refine Evs.cons rfl ?_)); first | done | fail) c3 (by (repeat' (first | exact Pick.nil | apply Pick.cons | exact Sel.here | apply Sel.there)); first | done | fail) rfl (fun _ => ?_)) | (refine KJ_call (by (repeat' (first | exact Evs.nil | refine Evs.cons rfl ?_)); first | done | fail) c2 (by (repeat' (first | exact Pick.nil | apply Pick.cons | exact Sel.here | apply Sel.there)); first | done | fail) rfl (fun _ => ?_)) | (refine KJ_call (by (repeat' (first | exact Evs.nil | refine Evs.cons rfl ?_)); first | done | fail) c1 (by (repeat' (first | exact Pick.nil | apply Pick.cons | exact Sel.here | apply Sel.there)); first | done | fail) rfl (fun _ => ?_))) | (refine KJ_ek rfl ?_) | (refine KJ_ek0 ?_))
    | (refine is_ek ?_; first | (refine ek_move ?_; first | (refine EK_ev (Ev_move rfl) ?_)) | (refine ek_assign ?_; first | (refine EK_ev (Ev_assign rfl) ?_)) | (refine ek_pick ?_; first | (refine EK_ev (Ev_pick_t rfl rfl) ?_) | (refine EK_ev (Ev_pick_f rfl rfl) ?_)) | (refine ek_load ?_; first | (refine EK_ev (Ev_load rfl (by (repeat' (first | exact Sel.here | apply Sel.there)); first | done | fail) (by rfl)) ?_) | (refine EK_ev (Ev_loadOld rfl (by assumption)) ?_) | (refine EK_ev (Ev_loadAgg rfl (by (repeat' (first | exact Sel.here | apply Sel.there)); first | done | fail) (by (repeat' (first | exact Cut.nil | apply Cut.cons | apply Cut.skip)); first | done | fail)) ?_)) | (refine ek_un ?_; first | (refine EK_ev (Ev_notD rfl) ?_) | (refine EK_ev (Ev_not rfl) ?_) | (refine EK_ev (Ev_neg rfl) ?_)) | (refine ek_conv ?_; first | (refine EK_ev (Ev_convI_v rfl hw) ?_) | (refine EK_ev (Ev_convI64 rfl (by omega)) ?_) | (refine EK_ev (Ev_convI rfl) ?_) | (refine EK_ev (Ev_convS rfl) ?_)) | (refine ek_extract ?_; first | (refine EK_ev (Ev_extract rfl rfl) ?_)) | (refine ek_add ?_; first | (refine EK_ev (Ev_addI rfl rfl (by omega)) ?_) | (refine EK_ev (Ev_addS rfl rfl (by simp <;> omega)) ?_) | (refine EK_ev (Ev_add rfl rfl) ?_)) | (refine ek_rem ?_; first | (refine EK_ev (Ev_remI rfl rfl (by omega)) ?_) | (refine EK_ev (Ev_remI rfl rfl (by omega)) ?_) | (refine EK_ev (Ev_rem rfl rfl (by omega)) ?_)) | (refine ek_neq ?_; first | (refine EK_ev (Ev_neqI rfl rfl) ?_) | (refine EK_ev (Ev_neqS rfl rfl) ?_) | (refine EK_ev (Ev_neqNil rfl rfl) ?_) | (refine EK_ev (Ev_neqB rfl rfl) ?_) | (refine EK_ev (Ev_neqO rfl rfl rfl (fun _ => rfl)) ?_)) | (refine ek_lss ?_; first | (refine EK_ev (Ev_lssI_q rfl rfl q1) ?_) | (refine EK_ev (Ev_lssI rfl rfl) ?_) | (refine EK_ev (Ev_lssS rfl rfl) ?_)) | (refine ek_gtr ?_; first | (refine EK_ev (Ev_gtrI_q rfl rfl q2) ?_) | (refine EK_ev (Ev_gtrI rfl rfl) ?_) | (refine EK_ev (Ev_gtrS rfl rfl) ?_)))
    | (refine is_ex ?_; first | (refine KJ_seq_normal ?_) | (refine KJ_seq_ret ?_) | (refine KJ_seq_exit ?_) | (refine KJ_thn_normal ?_) | (refine KJ_thn_ret ?_) | (refine KJ_thn_exit ?_) | (refine KJ_blk_normal ?_) | (refine KJ_blk_ret ?_) | (refine KJ_blk_exit ?_) | (refine KJ_blk_exit' rfl ?_))
    | (refine is_code ?_; first | (refine KJ_seq ?_) | (refine KJ_region ?_) | (refine KJ_cond_dec rfl (fun _ => ?_) (fun _ => ?_) <;> first | (exfalso; omega) | skip) | (refine KJ_cond_t rfl ?_) | (refine KJ_cond_f rfl ?_) | (refine KJ_skip ?_) | (refine KJ_ret ?_) | (refine KJ_exit ?_) | (refine KJ_block ?_)))
    all_goals (refine is_ex ?_; exact KJ_done (by first | exact Or.inl rfl | exact Or.inr rfl) rfl (by (repeat' (first | exact Rvs.nil | (apply Rvs.tmp; exact rfl))); first | done | fail) () (by rfl) (Ent.of (by (repeat' (first | exact Pick.nil | apply Pick.cons | exact Sel.here | apply Sel.there)); first | done | fail) (by (repeat' (first | exact DropTo.refl | apply DropTo.there)); first | done | fail)))
theorem swrite_ct (hE : ErrsOn L8 W E) (hN : NibAt W) (hn : D.n ≤ 65536) (hul : D.und.length < 1073741823) (at_ v : Int) (s : List UInt8) :
    Ct Tryd.prog W 44 [.pointer (some ⟨p, 0, none⟩), .int .i64 at_, .int .i64 v, strV s] [DiskP p D] (fun _ : Unit => errV E (slotWE D at_ v s)) (fun _ => [DiskP p (slotWD D at_ v s)]) := by
  cases h : slotMay D at_ v with
  | true => exact swrite_may hE hN hn hul at_ v s h
  | false =>
    have e1 : slotWE D at_ v s = 6 := by unfold slotWE; rw [if_pos h]
    have e2 : slotWD D at_ v s = D := by unfold slotWD; rw [if_pos h]
    rw [e1, e2]
    exact swrite_bad hE hn at_ v s h
end
end Go.Proofs.YteklldbfdmaafaaDoor
/-
  Bytes there and back: what put lays, get tells; a sealed sector opens.
-/
namespace Go.Proofs.YteklldbfdmaafaaDoor
open Go Go.RowKit

theorem u64_of_lt (n : Nat) (h : n < 2 ^ 64) : IntKind.u64.wrap (n : Int) = (n : Int) := by
  have e : IntKind.u64.wrap (n : Int) = (n : Int) % 18446744073709551616 := rfl
  rw [e]; omega
theorem or64 (x y : Nat) (hx : x < 2 ^ 64) (hy : y < 2 ^ 64) : bits .or .u64 (x : Int) (y : Int) = ((x ||| y : Nat) : Int) := by
  have e : bits .or .u64 (x : Int) (y : Int) = IntKind.u64.wrap ((BitVec.ofInt 64 (x : Int) ||| BitVec.ofInt 64 (y : Int)).toNat : Int) := rfl
  have b1 : (BitVec.ofInt 64 (x : Int)).toNat = x := by rw [BitVec.toNat_ofInt]; omega
  have b2 : (BitVec.ofInt 64 (y : Int)).toNat = y := by rw [BitVec.toNat_ofInt]; omega
  rw [e, BitVec.toNat_or, b1, b2]
  exact u64_of_lt _ (Nat.or_lt_two_pow hx hy)
theorem getPart_val (x i : Nat) (c : UInt8) (hi : i < 8) (hx : x < 2 ^ (8 * i)) : getPart (x : Int) i c = ((x + c.toNat * 2 ^ (8 * i) : Nat) : Int) := by
  have hc := UInt8.toNat_lt c
  have hm : min (8 * (i : Int)).toNat IntKind.u64.bits = 8 * i := by
    show min (8 * (i : Int)).toNat 64 = 8 * i
    omega
  have hp : c.toNat * 2 ^ (8 * i) < 2 ^ (8 * i + 8) := by
    rw [Nat.pow_add, Nat.mul_comm]
    exact Nat.mul_lt_mul_of_pos_left (by omega) (Nat.two_pow_pos _)
  have hp2 : (2 : Nat) ^ (8 * i + 8) ≤ 2 ^ 64 := Nat.pow_le_pow_right (by omega) (by omega)
  have hx2 : (2 : Nat) ^ (8 * i) ≤ 2 ^ 64 := Nat.pow_le_pow_right (by omega) (by omega)
  unfold getPart
  rw [hm, u64_of_lt c.toNat (by omega)]
  have e2 : ((c.toNat : Int) * 2 ^ (8 * i)) = ((c.toNat * 2 ^ (8 * i) : Nat) : Int) := by simp
  rw [e2, u64_of_lt _ (by omega), or64 _ _ (by omega) (by omega)]
  congr 1
  rw [Nat.or_comm, Nat.mul_comm, ← Nat.two_pow_add_eq_or_of_lt hx, Nat.add_comm]
theorem byteAt_val (v i : Nat) (hi : i < 8) : (byteAt (v : Int) i).toNat = v / 2 ^ (8 * i) % 256 := by
  have hm : min (8 * (i : Int)).toNat IntKind.u64.bits = 8 * i := by
    show min (8 * (i : Int)).toNat 64 = 8 * i
    omega
  unfold byteAt byteI
  rw [hm]
  have e : (v : Int).fdiv (2 ^ (8 * i)) = ((v / 2 ^ (8 * i) : Nat) : Int) := by
    rw [Int.fdiv_eq_ediv_of_nonneg _ (by exact Int.pow_nonneg (by decide))]
    simp
  rw [e]
  have e2 : ∀ z : Nat, IntKind.u8.wrap (z : Int) = ((z % 256 : Nat) : Int) := fun z => by
    have : IntKind.u8.wrap (z : Int) = (z : Int) % 256 := rfl
    rw [this]; omega
  rw [e2, Int.toNat_natCast, UInt8.toNat_ofNat']
  omega
/-- n bytes of v, read back -/
theorem getB_of (l : List UInt8) (v : Nat) (n : Nat) (hn : n ≤ 8) (h : ∀ i, i < n → l.getD i 0 = byteAt (v : Int) i) : getB l n = ((v % 2 ^ (8 * n) : Nat) : Int) := by
  induction n with
  | zero => simp [getB, Nat.mod_one]
  | succ n ih =>
    show getPart (getB l n) n (l.getD n 0) = _
    rw [ih (by omega) (fun i hi => h i (by omega)), h n (by omega), getPart_val _ _ _ (by omega) (Nat.mod_lt _ (Nat.two_pow_pos _)), byteAt_val _ _ (by omega)]
    congr 1
    rw [show 8 * (n + 1) = 8 * n + 8 by omega, Nat.pow_add, Nat.mod_mul, Nat.mul_comm (2 ^ (8 * n)) _]
theorem putB_get (x : Int) (n i : Nat) (hi : i < n) : (putB x n).getD i 0 = byteAt x i := by
  simp [putB, List.getD, hi]
theorem lay_get_in (l : List UInt8) (o : Nat) (b : List UInt8) (i : Nat) (h : o + b.length ≤ l.length) (h1 : o ≤ i) (h2 : i < o + b.length) : (lay l o b).getD i 0 = b.getD (i - o) 0 := by
  unfold lay
  simp only [List.getD]
  rw [List.getElem?_append_right (by simp; omega), List.length_take, Nat.min_eq_left (by omega), List.getElem?_append_left (by omega)]
theorem lay_get_out (l : List UInt8) (o : Nat) (b : List UInt8) (i : Nat) (h : o + b.length ≤ l.length) (h1 : i < o ∨ o + b.length ≤ i) : (lay l o b).getD i 0 = l.getD i 0 := by
  unfold lay
  simp only [List.getD]
  rcases h1 with h1 | h1
  · rw [List.getElem?_append_left (by simp; omega), List.getElem?_take_of_lt h1]
  · rw [List.getElem?_append_right (by simp; omega), List.length_take, Nat.min_eq_left (by omega), List.getElem?_append_right (by omega), List.getElem?_drop]
    congr 2
    omega

theorem getD_drop (l : List UInt8) (o i : Nat) : (l.drop o).getD i 0 = l.getD (o + i) 0 := by
  simp [List.getD, List.getElem?_drop]
section
variable (v : Nat) (s : List UInt8) (hl : s.length ≤ 234)
include hl
theorem seal_tail (i : Nat) (h1 : 248 ≤ i) (h2 : i < 256) : (sealB v s).getD i 0 = byteAt (v : Int) (i - 248) := by
  unfold sealB
  rw [lay_get_in _ _ _ _ (by rw [putB_length, sealB4_length _ _ hl]; omega) h1 (by rw [putB_length]; omega), putB_get _ _ _ (by omega)]
theorem seal_low (i : Nat) (h : i < 244) : (sealB v s).getD i 0 = (sealB3 v s).getD i 0 := by
  unfold sealB
  rw [lay_get_out _ _ _ _ (by rw [putB_length, sealB4_length _ _ hl]; omega) (.inl (by omega))]
  unfold sealB4
  rw [lay_get_out _ _ _ _ (by rw [putB_length, sealB3_length _ _ hl]; omega) (.inl (by omega))]
theorem seal_head (i : Nat) (h : i < 8) : (sealB v s).getD i 0 = byteAt (v : Int) i := by
  rw [seal_low v s hl i (by omega)]
  unfold sealB3
  rw [lay_get_out _ _ _ _ (by rw [sealB2_length]; omega) (.inl (by omega))]
  unfold sealB2
  rw [lay_get_out _ _ _ _ (by rw [putB_length, sealB1_length]; omega) (.inl (by omega))]
  unfold sealB1
  rw [lay_get_in _ _ _ _ (by rw [putB_length, List.length_replicate]; omega) (by omega) (by rw [putB_length]; omega), Nat.sub_zero, putB_get _ _ _ h]
theorem seal_size (i : Nat) (h : i < 2) : (sealB v s).getD (8 + i) 0 = byteAt ((s.length : Nat) : Int) i := by
  rw [seal_low v s hl _ (by omega)]
  unfold sealB3
  rw [lay_get_out _ _ _ _ (by rw [sealB2_length]; omega) (.inl (by omega))]
  unfold sealB2
  rw [u64_of_lt s.length (by omega), lay_get_in _ _ _ _ (by rw [putB_length, sealB1_length]; omega) (by omega) (by rw [putB_length]; omega), putB_get _ _ _ (by omega)]
  congr 1
  omega
theorem seal_body (i : Nat) (h : i < s.length) : (sealB v s).getD (10 + i) 0 = s.getD i 0 := by
  rw [seal_low v s hl _ (by omega)]
  unfold sealB3
  rw [lay_get_in _ _ _ _ (by rw [sealB2_length]; omega) (by omega) (by omega)]
  congr 1
  omega
theorem seal_getH (hv : v < 2 ^ 64) : getB (sealB v s) 8 = (v : Int) := by
  rw [getB_of _ v 8 (by omega) (fun i hi => seal_head v s hl i hi), Nat.mod_eq_of_lt (by omega)]
theorem seal_getT (hv : v < 2 ^ 64) : getB ((sealB v s).drop 248) 8 = (v : Int) := by
  rw [getB_of _ v 8 (by omega) (fun i hi => by rw [getD_drop, seal_tail v s hl _ (by omega) (by omega), Nat.add_sub_cancel_left]), Nat.mod_eq_of_lt (by omega)]
set_option maxRecDepth 100000 in
theorem seal_openN : openN (sealB v s) = s.length := by
  have h := getB_of ((sealB (v : Int) s).drop 8) s.length 2 (by omega) (fun i hi => by rw [getD_drop]; exact seal_size v s hl i hi)
  have e : s.length % 2 ^ (8 * 2) = s.length := Nat.mod_eq_of_lt (by show s.length < 65536; omega)
  rw [e] at h
  unfold openN
  rw [h, Int.toNat_natCast]
theorem seal_openP : openP (sealB v s) = s := by
  have hL := sealB_length (v : Int) s hl
  unfold openP
  rw [seal_openN v s hl]
  apply List.ext_getElem
  · rw [List.length_drop, List.length_take]; omega
  · intro i h1 h2
    have h3 := seal_body v s hl i h2
    simp only [List.getElem_drop, List.getElem_take]
    rw [List.getD, List.getElem?_eq_getElem (by omega), List.getD, List.getElem?_eq_getElem h2] at h3
    simpa using h3
/-- A SEALED SECTOR OPENS -/
theorem seal_open (hv0 : v ≠ 0) : openS (v : Int) (sealB v s) = some s := by
  unfold openS
  rw [if_neg (by omega), if_neg (by have := sealB_length (v : Int) s hl; simpa using this), if_neg (by rw [seal_openN v s hl]; omega), seal_openP v s hl, if_pos rfl]
/-- .. and counts in its place -/
theorem seal_count (hv0 : 1 ≤ v) (hv1 : v ≤ 1099511627776) : countO (sealB v s) ((v : Int) % 2) = some ((v : Int), s) := by
  unfold countO
  rw [seal_getH v s hl (by omega), seal_getT v s hl (by omega), seal_open v s hl (by omega), if_neg (by have := sealB_length (v : Int) s hl; simpa using this), if_neg (by simp), if_neg (by omega), if_neg (by omega), if_neg (by simp)]
  rfl
end
end Go.Proofs.YteklldbfdmaafaaDoor
/-
  Errors compared; the table of the check sum out of the row's list.
-/
namespace Go.Proofs.YteklldbfdmaafaaDoor
open Go Go.RowKit

theorem equal_of_eql {P : Program} {w : World} {t : TypeId} {u1 : TypeId} {x1 : Value} {v2 : Value} {b : Bool} (h : (binOp .eql t v2 (.iface u1 x1)).run P w = .ok (.bool b) w) : (Op.equal t v2 (.iface u1 x1)).run P w = .ok b w := by
  have e : binOp .eql t v2 (.iface u1 x1) = (do pure (.bool (← Op.equal t v2 (.iface u1 x1)))) := by
    cases v2 <;> rfl
  rw [e] at h
  simp only [Sem.run_bind] at h
  cases hq : (Op.equal t v2 (.iface u1 x1)).run P w with
  | ok c w' =>
    rw [hq] at h
    simp only [Result.andThen_ok, Sem.run_pure, Result.ok.injEq, Value.bool.injEq] at h
    rw [h.1, h.2]
  | _ => rw [hq] at h; simp [Result.andThen] at h
section
variable {W : World} {n : Nat} {E : Env} {H : List SP} {x y : Operand} {u : TypeId} {F : Nat → Addr}
theorem err_eql {S : List Nat} (hE : ErrsOn S W F) {w : World} (bl : Below W.heap.size W w) (a b : Nat) (ha : a = 0 ∨ a ∈ S) (hb : b ∈ S) : (binOp .eql 31 (errV F a) (errV F b)).run Tryd.prog w = .ok (.bool (decide (a = b))) w := by
  have hw := hE.later bl
  have hb1 := hE.pos b hb
  rw [errV_pos F b hb1]
  by_cases h0 : a = 0
  · subst h0
    rw [decide_eq_false (by omega)]
    exact run_eql_iface_nil_left w _ _ Tryd.underlying31
  · rw [errV_pos F a (by omega)]
    by_cases hab : a = b
    · subst hab
      rw [decide_eq_true rfl]
      exact eql_same w _
    · rw [decide_eq_false hab]
      have ha : a ∈ S := ha.resolve_left h0
      obtain ⟨ca, ta, h1⟩ := hw.obj a ha
      obtain ⟨cb, tb, h2⟩ := hw.obj b hb
      exact eql_other w _ _ (fun e => hab (hw.inj _ _ ha hb e)) h1 h2
theorem err_guard (op : BinOp) (t : TypeId) (a b : Nat) (hb : 1 ≤ b) (w : World) : (eqGuard op t x y (errV F a) (errV F b)).run Tryd.prog w = .ok () w := by
  rw [errV_pos F b hb]
  by_cases h0 : a = 0
  · subst h0
    cases op <;> rfl
  · rw [errV_pos F a (by omega)]
    cases op <;> rfl
theorem Ev_eqlE {a b : Nat} {q : Bool} {S : List Nat} (hE : ErrsOn S W F) (hx : Env.ev E x = some (errV F a)) (hy : Env.ev E y = some (errV F b)) (ha : a = 0 ∨ a ∈ S) (hb : b ∈ S) (hq : decide (a = b) = q) : Ev Tryd.prog W n E H (.binOp .eql 31 x y u) (.bool q) :=
  Ev.mk fun o ho ac w p s => by
    subst hq
    have h1 := err_guard (x := x) (y := y) (F := F) .eql 31 a b (hE.pos b hb) w
    have h2 := err_eql hE s.below a b ha hb
    simp only [execOp, ho, p.ev hx, p.ev hy, Sem.run_bind, h1, h2, Result.andThen_ok, Sem.run_pure]
theorem Ev_neqE {a b : Nat} {q : Bool} {S : List Nat} (hE : ErrsOn S W F) (hx : Env.ev E x = some (errV F a)) (hy : Env.ev E y = some (errV F b)) (ha : a = 0 ∨ a ∈ S) (hb : b ∈ S) (hq : decide (a ≠ b) = q) : Ev Tryd.prog W n E H (.binOp .neq 31 x y u) (.bool q) :=
  Ev.mk fun o ho ac w p s => by
    subst hq
    have h1 := err_guard (x := x) (y := y) (F := F) .neq 31 a b (hE.pos b hb) w
    have h2 := err_eql hE s.below a b ha hb
    have h3 : (binOp .neq 31 (errV F a) (errV F b)).run Tryd.prog w = .ok (.bool (decide (a ≠ b))) w := by
      rw [errV_pos F b (hE.pos b hb)] at h2 ⊢
      have h4 := equal_of_eql h2
      have e : binOp .neq 31 (errV F a) (.iface 204 (.pointer (some (F b)))) = (do pure (.bool (!(← Op.equal 31 (errV F a) (.iface 204 (.pointer (some (F b)))))))) := by
        cases errV F a <;> rfl
      rw [e, Sem.run_bind, h4]
      simp
    simp only [execOp, ho, p.ev hx, p.ev hy, Sem.run_bind, h1, h3, Result.andThen_ok, Sem.run_pure]
end

/-- WHAT THE ROW's LIST GIVES: the table of the check sum -/
theorem nibs_of_laid (at_ : Nat) {laid : List (String × DataW Unit)} {W : World} (hp : (laid.all fun x => x.2.handleName?.isNone) = true) (hi : laid[at_]? = some ("remit/checks.nibbles", Lib.tabData .u32 nibT)) (h : laidMetH Tryd.prog laid W) : NibAt W := by
  rw [MakeChecks.laidMetH_plain _ _ _ hp] at h
  obtain ⟨ps, hL, hnd, _⟩ := h
  obtain ⟨pl, h1, _⟩ := laidVars_at hL hnd
  obtain ⟨g, t, cs, fuel, a1, a2, a3, a4, _, _⟩ := h1 _ _ _ hi
  obtain rfl := Option.some.inj ((show Tryd.prog.globalNamed "remit/checks.nibbles" = some 37 by kernel_rfl).symm.trans a1)
  obtain rfl := Option.some.inj ((show (Tryd.prog.globals[37]?).map (·.type) = some 203 by kernel_rfl).symm.trans a2)
  have hcs := Lib.cells_of_tab Tryd.underlying203 Tryd.underlying182 (by kernel_rfl) (by kernel_rfl) a4
  intro i hi'
  have := World.var?_cell a1 a3 i
  rw [this]
  have e : cs[i]? = cs.toList[i]? := by simp
  rw [e, hcs]
  have hn : i < nibT.length := hi'
  simp [List.getD, hn]
end Go.Proofs.YteklldbfdmaafaaDoor
/-
  Slots over a disk that nobody armed, as plain data: a write lays one sector; what a slot tells then.
-/
namespace Go.Proofs.YteklldbfdmaafaaDoor
open Go Go.RowKit

/-- a disk at rest: power on, nobody armed it, nothing under way -/
structure Rest (D : Dsk) : Prop where
  calm : Calm D
  und : D.und = []
  ok : D.ok
theorem Rest.rd {D : Dsk} (h : Rest D) (i : Nat) : D.rd i = D.sec i := by simp [Dsk.rd, h.und, lastW_nil]
/-- a write of a version at rest -/
theorem rest_write {D : Dsk} (h : Rest D) (a v : Nat) (s : List UInt8) (ha : a + 2 ≤ D.n) (hv : 1 ≤ v) (hv2 : v ≤ 1099511627776) (hs : s.length ≤ 234) :
    slotWE D a v s = 0 ∧ Rest (slotWD D a v s) ∧ (slotWD D a v s).n = D.n ∧ (slotWD D a v s).sec (a + v % 2) = sealB v s ∧ ∀ j, j ≠ a + v % 2 → j < D.n → (slotWD D a v s).sec j = D.sec j := by
  have hn := h.ok.n2
  have hroom : D.roomB (a : Int) = true := by unfold Dsk.roomB; exact decide_eq_true (by omega)
  have hmay : slotMay D (a : Int) (v : Int) = true := by
    unfold slotMay; rw [hroom, decide_eq_true (show (1 : Int) ≤ v by omega), decide_eq_true (show (v : Int) ≤ 1099511627776 by omega)]; rfl
  have hb : ¬ (slotMay D (a : Int) (v : Int) = false) := by rw [hmay]; simp
  have hi : ((a : Int) + (v : Int) % 2) = ((a + v % 2 : Nat) : Int) := by omega
  have hlen := sealB_length (v : Int) s hs
  have hi2 : a + v % 2 < D.n := by omega
  have hhas : D.has ((a + v % 2 : Nat) : Int) = true := by unfold Dsk.has; exact decide_eq_true (by omega)
  have hwE : D.writeE ((a : Int) + (v : Int) % 2) (sealB v s) = 0 := by
    rw [hi]; unfold Dsk.writeE; rw [if_neg (by rw [h.calm.1]; simp), if_pos hhas, if_pos hlen, if_neg (by rw [dead_calm h.calm]; simp)]
  have hD1 : Calm ({ D with und := D.und ++ [(a + v % 2, sealB (v : Int) s)] } : Dsk) := h.calm
  have hw : slotW1 D (a : Int) (v : Int) s = { D with und := [(a + v % 2, sealB (v : Int) s)], writes := w64 (D.writes + 1) } := by
    unfold slotW1 Dsk.writeD
    rw [hi, if_neg (by rw [h.calm.1]; simp), if_pos hhas, if_pos hlen]
    simp only [dead_calm h.calm, gone_calm hD1, Int.toNat_natCast]
    simp [h.und]
  have hok1 : (slotW1 D (a : Int) (v : Int) s).ok := Dsk.writeD_ok h.ok _ _
  have hc1 : Calm (slotW1 D (a : Int) (v : Int) s) := by rw [hw]; exact h.calm
  have hf := flushD_calm hc1
  have hl := h.ok.len
  have e1 : slotWE D a v s = 0 := by
    unfold slotWE
    rw [if_neg hb, if_neg (by omega), if_neg (by rw [hwE]; simp)]
    exact hf.2.2.1
  have e2 : slotWD D a v s = (slotW1 D (a : Int) (v : Int) s).flushD := by
    unfold slotWD
    rw [if_neg hb, if_neg (by omega), if_neg (by rw [hwE]; simp)]
  have hn1 : (slotW1 D (a : Int) (v : Int) s).n = D.n := by rw [hw]
  have himg : (slotWD D a v s).img = lay D.img ((a + v % 2) * 256) (sealB (v : Int) s) := by
    rw [e2, hf.2.2.2.2, hw]; rfl
  refine ⟨e1, ⟨by rw [e2]; exact hf.1, by rw [e2]; exact hf.2.2.2.1, by rw [e2]; exact Dsk.flushD_ok hok1⟩, by rw [e2, hf.2.1, hn1], ?_, fun j hj hjn => ?_⟩
  · unfold Dsk.sec
    rw [himg]
    have := cut_lay_same D.img (sealB (v : Int) s) ((a + v % 2) * 256) (by rw [hlen]; omega)
    rw [hlen] at this
    exact this
  · unfold Dsk.sec
    rw [himg]
    rcases Nat.lt_or_ge j (a + v % 2) with hlt | hge
    · exact cut_lay_before _ _ _ _ _ (by rw [hlen]; omega) (by omega)
    · exact cut_lay_behind _ _ _ _ _ (by rw [hlen]; omega) (by rw [hlen]; omega)

/-- a slot that holds version c (0: none) and its value -/
structure Holds (D : Dsk) (a c : Nat) (l : List UInt8) : Prop where
  here : 0 < c → countO (D.sec (a + c % 2)) ((c % 2 : Nat) : Int) = some ((c : Int), l)
  other : countV (D.sec (a + (c + 1) % 2)) (((c + 1) % 2 : Nat) : Int) < (if c = 0 then 1 else (c : Int))
  none_ : c = 0 → countV (D.sec a) 0 = 0
theorem Holds.told {D : Dsk} {a c : Nat} {l : List UInt8} (hr : Rest D) (ha : a + 2 ≤ D.n) (h : Holds D a c l) :
    slotE D a = (if c = 0 then 14 else 0) ∧ slotN D a = c ∧ slotS D a = (if c = 0 then [] else l) := by
  have hroom : D.roomB (a : Int) = true := by unfold Dsk.roomB; exact decide_eq_true (by omega)
  have b0 := countV_bounds (D.sec a) 0
  have b1 := countV_bounds (D.sec (a + 1)) 1
  have hE : slotE D a = if slotVer D a 2 = 0 then 14 else 0 := by
    unfold slotE
    rw [if_neg (by rw [hroom]; simp), if_neg (by rw [hr.calm.1]; simp), Int.toNat_natCast]
  have hV : slotVer D a 2 = if (if 0 < countV (D.sec a) 0 then countV (D.sec a) 0 else 0) < countV (D.sec (a + 1)) 1 then countV (D.sec (a + 1)) 1 else (if 0 < countV (D.sec a) 0 then countV (D.sec a) 0 else 0) := by
    simp only [slotVer, hr.rd]; rfl
  have hS : slotVal D a 2 = if (if 0 < countV (D.sec a) 0 then countV (D.sec a) 0 else 0) < countV (D.sec (a + 1)) 1 then countS (D.sec (a + 1)) 1 else (if 0 < countV (D.sec a) 0 then countS (D.sec a) 0 else []) := by
    simp only [slotVal, slotVer, hr.rd]; rfl
  have hoth := h.other
  unfold slotS slotN
  rw [hE, Int.toNat_natCast]
  by_cases hc : c = 0
  · subst hc
    have h0 := h.none_ rfl
    simp only [Nat.zero_add, if_true] at hoth
    have h1 : countV (D.sec (a + 1)) 1 = 0 := by
      have : countV (D.sec (a + 1)) 1 < 1 := hoth
      omega
    have e : slotVer D a 2 = 0 := by rw [hV, h0, h1]; simp
    rw [e]
    simp
  · have hh := h.here (by omega)
    rw [if_neg hc] at hoth
    rcases Nat.mod_two_eq_zero_or_one c with hm | hm
    · have hm' : (c + 1) % 2 = 1 := by omega
      rw [hm] at hh
      rw [hm'] at hoth
      have hv0 : countV (D.sec a) 0 = c := by unfold countV; rw [show countO (D.sec a) 0 = some ((c : Int), l) from hh]; rfl
      have hs0 : countS (D.sec a) 0 = l := by unfold countS; rw [show countO (D.sec a) 0 = some ((c : Int), l) from hh]; rfl
      have ho : countV (D.sec (a + 1)) 1 < c := hoth
      have p0 : (0 : Int) < (c : Int) := by omega
      have p1 : ¬ ((c : Int) < countV (D.sec (a + 1)) 1) := by omega
      have e : slotVer D a 2 = c := by rw [hV, hv0, if_pos p0, if_neg p1]
      have e3 : slotVal D a 2 = l := by rw [hS, hv0, if_pos p0, if_neg p1, if_pos p0, hs0]
      rw [e, e3, if_neg (by omega), if_neg hc, if_neg hc]
      simp
    · have hm' : (c + 1) % 2 = 0 := by omega
      rw [hm] at hh
      rw [hm'] at hoth
      have hv1 : countV (D.sec (a + 1)) 1 = c := by unfold countV; rw [show countO (D.sec (a + 1)) 1 = some ((c : Int), l) from hh]; rfl
      have hs1 : countS (D.sec (a + 1)) 1 = l := by unfold countS; rw [show countO (D.sec (a + 1)) 1 = some ((c : Int), l) from hh]; rfl
      have ho : countV (D.sec a) 0 < c := hoth
      have hlt : (if 0 < countV (D.sec a) 0 then countV (D.sec a) 0 else 0) < (c : Int) := by split <;> omega
      have e : slotVer D a 2 = c := by rw [hV, hv1, if_pos hlt]
      have e3 : slotVal D a 2 = l := by rw [hS, hv1, if_pos hlt, hs1]
      rw [e, e3, if_neg (by omega), if_neg hc, if_neg hc]
      simp
theorem Holds.keep {D D' : Dsk} {a c : Nat} {l : List UInt8} (h : Holds D a c l) (hs : ∀ k, k < 2 → D'.sec (a + k) = D.sec (a + k)) : Holds D' a c l := by
  have h0 : D'.sec a = D.sec a := hs 0 (by omega)
  exact ⟨fun q => by rw [hs _ (Nat.mod_lt _ (by omega))]; exact h.here q, by rw [hs _ (Nat.mod_lt _ (by omega))]; exact h.other, fun q => by rw [h0]; exact h.none_ q⟩
/-- the next version is written -/
theorem Holds.next {D : Dsk} {a c : Nat} {l s : List UInt8} (hr : Rest D) (ha : a + 2 ≤ D.n) (h : Holds D a c l) (hc : c + 1 ≤ 1099511627776) (hs : s.length ≤ 234) : Holds (slotWD D a (c + 1 : Nat) s) a (c + 1) s := by
  obtain ⟨_, _, _, h1, h2⟩ := rest_write hr a (c + 1) s ha (by omega) hc hs
  refine ⟨fun _ => ?_, ?_, fun q => by omega⟩
  · rw [h1, show (((c + 1) % 2 : Nat) : Int) = ((c + 1 : Nat) : Int) % 2 by omega]
    exact seal_count (c + 1) s hs (by omega) hc
  · have e : (c + 1 + 1) % 2 = c % 2 := by omega
    rw [e, h2 _ (by omega) (by omega), if_neg (by omega)]
    by_cases hz : c = 0
    · subst hz
      have : countV (D.sec a) 0 = 0 := h.none_ rfl
      show countV (D.sec a) 0 < ((0 + 1 : Nat) : Int)
      omega
    · have hh := h.here (by omega)
      have : countV (D.sec (a + c % 2)) ((c % 2 : Nat) : Int) = c := by unfold countV; rw [hh]; rfl
      rw [this]
      omega
theorem blank_sec (n i : Nat) (h : i < n) : (Dsk.blank n).sec i = zs 256 := zs_cut _ _ _ (by omega)
theorem count_zero0 : countV (zs 256) 0 = 0 := by kernel_rfl
theorem count_zero1 : countV (zs 256) 1 = 0 := by kernel_rfl
theorem Holds.blank (n a : Nat) (h : a + 2 ≤ n) : Holds (Dsk.blank n) a 0 [] := by
  refine ⟨fun q => by omega, ?_, fun _ => ?_⟩
  · show countV ((Dsk.blank n).sec (a + 1)) 1 < 1
    rw [blank_sec _ _ (by omega), count_zero1]
    omega
  · rw [blank_sec _ _ (by omega), count_zero0]
theorem blank_rest (n : Nat) (h1 : 1 ≤ n) (h2 : n ≤ 65536) : Rest (Dsk.blank n) := ⟨blank_calm n, rfl, Dsk.blank_ok n h1 h2⟩
end Go.Proofs.YteklldbfdmaafaaDoor
/-
  Slots behind crashes, as plain data: a torn sector counts for the new version only if it is whole.
-/
namespace Go.Proofs.YteklldbfdmaafaaDoor
open Go Go.RowKit

/-- bytes back from the number that they tell -/
theorem getB_bytes (l : List UInt8) (n : Nat) (hn : n ≤ 8) : ∃ v : Nat, v < 2 ^ (8 * n) ∧ getB l n = (v : Int) ∧ ∀ i, i < n → l.getD i 0 = byteAt (v : Int) i := by
  induction n with
  | zero => exact ⟨0, by simp, rfl, fun i hi => by omega⟩
  | succ n ih =>
    obtain ⟨v, hv, hg, hb⟩ := ih (by omega)
    have hc := UInt8.toNat_lt (l.getD n 0)
    obtain ⟨c, hcc⟩ : ∃ c, c = (l.getD n 0).toNat := ⟨_, rfl⟩
    refine ⟨v + (l.getD n 0).toNat * 2 ^ (8 * n), ?_, ?_, fun i hi => ?_⟩
    · rw [← hcc]
      rw [← hcc] at hc
      rw [show 8 * (n + 1) = 8 * n + 8 by omega, Nat.pow_add]
      have h1 : v + c * 2 ^ (8 * n) < (1 + c) * 2 ^ (8 * n) := by rw [Nat.add_mul]; omega
      have h2 : (1 + c) * 2 ^ (8 * n) ≤ 256 * 2 ^ (8 * n) := Nat.mul_le_mul_right _ (by omega)
      rw [Nat.mul_comm _ (2 ^ 8)]
      omega
    · show getPart (getB l n) n (l.getD n 0) = _
      rw [hg, getPart_val _ _ _ (by omega) hv]
    · apply UInt8.toNat_inj.1
      rw [byteAt_val _ _ (by omega)]
      rcases Nat.lt_or_ge i n with h | h
      · have h0 := congrArg UInt8.toNat (hb i h)
        rw [byteAt_val _ _ (by omega)] at h0
        rw [h0, ← hcc]
        have e : c * 2 ^ (8 * n) = (c * 2 ^ (8 * (n - i - 1)) * 256) * 2 ^ (8 * i) := by
          rw [Nat.mul_assoc, Nat.mul_assoc]
          congr 1
          rw [← Nat.mul_assoc, show (256 : Nat) = 2 ^ 8 from rfl, ← Nat.pow_add, ← Nat.pow_add]
          congr 1
          omega
        rw [e, Nat.add_mul_div_right _ _ (Nat.two_pow_pos _), Nat.add_mul_mod_self_right]
      · have : i = n := by omega
        subst this
        rw [← hcc]
        rw [← hcc] at hc
        rw [Nat.add_mul_div_right _ _ (Nat.two_pow_pos _), Nat.div_eq_of_lt hv, Nat.zero_add, Nat.mod_eq_of_lt hc, hcc]
theorem ext_getD (a b : List UInt8) (h : a.length = b.length) (e : ∀ i, i < a.length → a.getD i 0 = b.getD i 0) : a = b := by
  apply List.ext_getElem h
  intro i h1 h2
  have := e i h1
  rw [List.getD, List.getElem?_eq_getElem h1, List.getD, List.getElem?_eq_getElem h2] at this
  simpa using this

/-- the first k bytes of the new one, the rest of the old one -/
def tornB (new old : List UInt8) (k : Nat) : List UInt8 := new.take k ++ old.drop k
theorem torn_length {new old : List UInt8} {k : Nat} (h1 : new.length = 256) (h2 : old.length = 256) (hk : k ≤ 256) : (tornB new old k).length = 256 := by
  simp [tornB]; omega
theorem torn_get {new old : List UInt8} {k : Nat} (h1 : new.length = 256) (hk : k ≤ 256) (i : Nat) : (tornB new old k).getD i 0 = if i < k then new.getD i 0 else old.getD i 0 := by
  unfold tornB
  simp only [List.getD]
  split
  · rw [List.getElem?_append_left (by simp; omega), List.getElem?_take_of_lt (by omega)]
  · rw [List.getElem?_append_right (by simp; omega), List.length_take, Nat.min_eq_left (by omega), List.getElem?_drop]
    congr 2
    omega
theorem torn_torn {new old : List UInt8} {k d : Nat} (h1 : new.length = 256) (h2 : old.length = 256) (hk : k ≤ 256) (hd : d ≤ 256) : new.take d ++ (tornB new old k).drop d = tornB new old (max k d) := by
  have hl := torn_length h1 h2 hk
  have e : new.take d ++ (tornB new old k).drop d = tornB new (tornB new old k) d := rfl
  have hm : max k d ≤ 256 := by omega
  rw [e]
  refine ext_getD _ _ (by rw [torn_length h1 hl hd, torn_length h1 h2 hm]) fun i _ => ?_
  rw [torn_get h1 hd, torn_get h1 hm, torn_get h1 hk]
  repeat' split
  all_goals first | rfl | omega
/-- an old sector of a version two below -/
structure Old (c : Nat) (old : List UInt8) : Prop where
  len : old.length = 256
  tail : ∀ i, i < 8 → old.getD (248 + i) 0 = byteAt ((c - 1 : Nat) : Int) i
theorem countV_tail (raw : List UInt8) (k : Int) : countV raw k = getB (raw.drop 248) 8 ∧ getB raw 8 = getB (raw.drop 248) 8 ∨ countV raw k = 0 := by
  unfold countV countO
  split
  · exact .inr rfl
  split
  · exact .inr rfl
  rename_i h
  split
  · exact .inr rfl
  split
  · exact .inr rfl
  split
  · exact .inr rfl
  · cases openS (getB raw 8) raw with
    | none => exact .inr rfl
    | some v =>
      have h : getB raw 8 = getB (raw.drop 248) 8 := by simpa using h
      exact .inl ⟨h, h⟩
theorem old_tail {c : Nat} {s old : List UInt8} {k : Nat} (ho : Old c old) (hs : s.length ≤ 234) (hk : k ≤ 248) (hc : c + 1 ≤ 1099511627776) :
    getB ((tornB (sealB (c + 1 : Nat) s) old k).drop 248) 8 = ((c - 1 : Nat) : Int) := by
  have hl := sealB_length ((c + 1 : Nat) : Int) s hs
  rw [getB_of _ (c - 1) 8 (by omega) (fun i hi => by rw [getD_drop, torn_get hl (by omega), if_neg (by omega)]; exact ho.tail i hi), Nat.mod_eq_of_lt (by omega)]
theorem torn_early {c : Nat} {s old : List UInt8} {k : Nat} (ho : Old c old) (hs : s.length ≤ 234) (hk : k ≤ 248) (hc : c + 1 ≤ 1099511627776) (j : Int) :
    countV (tornB (sealB (c + 1 : Nat) s) old k) j < (if c = 0 then 1 else (c : Int)) := by
  have h := old_tail ho hs hk hc
  rcases countV_tail (tornB (sealB (c + 1 : Nat) s) old k) j with ⟨h1, _⟩ | h1
  · rw [h1, h]; split <;> omega
  · rw [h1]; split <;> omega
theorem torn_count {c : Nat} {s old : List UInt8} {k : Nat} (ho : Old c old) (hs : s.length ≤ 234) (hk : k ≤ 256) (hc : c + 1 ≤ 1099511627776) (j : Int) :
    tornB (sealB (c + 1 : Nat) s) old k = sealB (c + 1 : Nat) s ∨ countV (tornB (sealB (c + 1 : Nat) s) old k) j < (if c = 0 then 1 else (c : Int)) := by
  have hl := sealB_length ((c + 1 : Nat) : Int) s hs
  have hl2 := torn_length hl ho.len hk
  by_cases h : k ≤ 248
  · exact .inr (torn_early ho hs h hc j)
  by_cases heq : tornB (sealB (c + 1 : Nat) s) old k = sealB (c + 1 : Nat) s
  · exact .inl heq
  right
  have hH : getB (tornB (sealB (c + 1 : Nat) s) old k) 8 = ((c + 1 : Nat) : Int) := by
    rw [getB_of _ (c + 1) 8 (by omega) (fun i hi => by rw [torn_get hl hk, if_pos (by omega)]; exact seal_head (c + 1) s hs i hi), Nat.mod_eq_of_lt (by omega)]
  have hz : countV (tornB (sealB (c + 1 : Nat) s) old k) j = 0 := by
    rcases countV_tail (tornB (sealB (c + 1 : Nat) s) old k) j with ⟨_, h2⟩ | h1
    · exfalso
      apply heq
      rw [hH] at h2
      obtain ⟨v, hv, hg, hb⟩ := getB_bytes ((tornB (sealB (c + 1 : Nat) s) old k).drop 248) 8 (by omega)
      have hvc : v = c + 1 := by rw [hg] at h2; omega
      subst hvc
      refine ext_getD _ _ (by rw [hl, hl2]) fun i hi => ?_
      rw [hl2] at hi
      by_cases hik : i < k
      · rw [torn_get hl hk, if_pos hik]
      · have := hb (i - 248) (by omega)
        rw [getD_drop, show 248 + (i - 248) = i by omega] at this
        rw [this, seal_tail (c + 1) s hs i (by omega) hi]
    · exact h1
  rw [hz]
  split <;> omega

/-- power on, nothing under way; it may be armed -/
structure Still (D : Dsk) : Prop where
  on : D.off = false
  und : D.und = []
  ok : D.ok
theorem Still.rest {D : Dsk} (h : Still D) : Rest ({ D with armed := -1 } : Dsk) := ⟨⟨h.on, rfl⟩, h.und, ⟨h.ok.n1, h.ok.n2, h.ok.len, h.ok.und, by simp, by simp⟩⟩
theorem Still.told {D : Dsk} {a c : Nat} {l : List UInt8} (hr : Still D) (ha : a + 2 ≤ D.n) (h : Holds D a c l) :
    slotE D a = (if c = 0 then 14 else 0) ∧ slotN D a = c ∧ slotS D a = (if c = 0 then [] else l) :=
  Holds.told (D := { D with armed := -1 }) hr.rest ha ⟨h.here, h.other, h.none_⟩
theorem arm_still {D : Dsk} (h : Still D) (k : Int) (hk : k ≤ 9223372036854775807) : Still (D.arm k) := ⟨h.on, h.und, Dsk.arm_ok h.ok k hk⟩
/-- a write to a disk at rest that may be armed: the three ways -/
theorem slot_three {D : Dsk} (h : Still D) (a v : Nat) (s : List UInt8) (ha : a + 2 ≤ D.n) (hv : 1 ≤ v) (hv2 : v ≤ 1099511627776) (hs : s.length ≤ 234) :
    (D.armed = 0 → slotWE D a v s = 12 ∧ slotWD D a v s = { D with off := true, und := [(a + v % 2, sealB v s)] }) ∧
    (D.armed = 1 → slotWE D a v s = 12 ∧ slotWD D a v s = { D with armed := 0, off := true, und := [(a + v % 2, sealB v s)], writes := w64 (D.writes + 1) }) ∧
    (D.armed ≠ 0 → D.armed ≠ 1 → slotWE D a v s = 0 ∧ ∃ r, slotWD D a v s = { D with armed := r, img := lay D.img ((a + v % 2) * 256) (sealB v s), writes := w64 (D.writes + 1), flushes := w64 (D.flushes + 1) }) := by
  have hroom : D.roomB (a : Int) = true := by unfold Dsk.roomB; exact decide_eq_true (by omega)
  have hmay : slotMay D (a : Int) (v : Int) = true := by
    unfold slotMay; rw [hroom, decide_eq_true (show (1 : Int) ≤ v by omega), decide_eq_true (show (v : Int) ≤ 1099511627776 by omega)]; rfl
  have hi : ((a : Int) + (v : Int) % 2) = ((a + v % 2 : Nat) : Int) := by omega
  have hlen := sealB_length (v : Int) s hs
  have hhas : D.has ((a + v % 2 : Nat) : Int) = true := by unfold Dsk.has; exact decide_eq_true (by omega)
  have ha1 := h.ok.arm1
  obtain ⟨n, img, und, off, armed, wr, fl, lf⟩ := D
  obtain rfl : off = false := h.on
  obtain rfl : und = [] := h.und
  have hb : ¬ (slotMay ({ n := n, img := img, und := [], off := false, armed := armed, writes := wr, flushes := fl, life := lf } : Dsk) (a : Int) (v : Int) = false) := by rw [hmay]; simp
  obtain ⟨q, hq⟩ : ∃ q, q = sealB (v : Int) s := ⟨_, rfl⟩
  have h234 : ¬ (234 < s.length) := by omega
  unfold slotWE slotWD slotW1
  rw [if_neg hb, if_neg h234, if_neg hb, if_neg h234, hi, ← hq]
  rw [← hq] at hlen
  obtain ⟨i, hii⟩ : ∃ i, i = a + v % 2 := ⟨_, rfl⟩
  rw [← hii] at hhas ⊢
  dsimp only at ha1
  refine ⟨fun h0 => ?_, fun h0 => ?_, fun h0 h1 => ?_⟩
  · dsimp only at h0
    subst h0
    simp [Dsk.writeE, Dsk.writeD, Dsk.dead, Dsk.gone, hhas, hlen]
  · dsimp only at h0
    subst h0
    simp [Dsk.writeE, Dsk.writeD, Dsk.flushE, Dsk.flushD, Dsk.dead, Dsk.gone, hhas, hlen]
  · dsimp only at h0 h1
    by_cases hp : 0 < armed
    · have h2 : 0 < armed - 1 := by omega
      have h3 : ¬ (armed - 1 = 0) := by omega
      have h4 : 1 < armed := by omega
      simp [h4, Dsk.writeE, Dsk.writeD, Dsk.flushE, Dsk.flushD, Dsk.dead, Dsk.gone, hhas, hlen, h0, hp, h3, layAll]
    · simp [Dsk.writeE, Dsk.writeD, Dsk.flushE, Dsk.flushD, Dsk.dead, Dsk.gone, hhas, hlen, h0, hp, layAll]

/-- a slot at place 1 of a disk of three sectors: version c with value l, and, if a next value is chosen, some of it -/
structure Kp (c : Nat) (l : List UInt8) (nx : Option (List UInt8)) (D : Dsk) : Prop where
  still : Still D
  n : D.n = 3
  len : l.length ≤ 234
  here : 0 < c → D.sec (1 + c % 2) = sealB c l
  none_ : c = 0 → D.sec 1 = zs 256
  other : ∃ old k s, Old c old ∧ k ≤ 256 ∧ s.length ≤ 234 ∧ D.sec (1 + (c + 1) % 2) = tornB (sealB (c + 1 : Nat) s) old k ∧ (∀ x, nx = some x → s = x) ∧ (nx = none → k = 0)
theorem zs_old : Old 0 (zs 256) := by
  refine ⟨zs_length _, fun i hi => ?_⟩
  have h1 : (zs 256).getD (248 + i) 0 = 0 := by
    rw [List.getD, zs, List.getElem?_replicate, if_pos (by omega)]; rfl
  rw [h1]
  apply UInt8.toNat_inj.1
  rw [byteAt_val _ _ hi]
  simp
theorem zs_old1 : Old 1 (zs 256) := ⟨zs_old.len, zs_old.tail⟩
theorem seal_old {c : Nat} {l : List UInt8} (hl : l.length ≤ 234) : Old (c + 1) (sealB c l) :=
  ⟨sealB_length _ _ hl, fun i hi => by rw [seal_tail c l hl _ (by omega) (by omega), Nat.add_sub_cancel_left, Nat.add_sub_cancel]⟩
theorem Kp.start : Kp 0 [] none (Dsk.blank 3) :=
  ⟨⟨rfl, rfl, Dsk.blank_ok 3 (by omega) (by omega)⟩, rfl, by simp, fun h => by omega, fun _ => blank_sec 3 1 (by omega), zs 256, 0, [], zs_old, by omega, by simp, by
    rw [blank_sec 3 _ (by omega)]; simp [tornB], fun x h => (by cases h), fun _ => rfl⟩
theorem Kp.choose {c : Nat} {l s : List UInt8} {D : Dsk} (h : Kp c l none D) (hs : s.length ≤ 234) : Kp c l (some s) D := by
  obtain ⟨old, k, s', ho, hk, hs', e, -, hz⟩ := h.other
  have hz := hz rfl
  subst hz
  exact ⟨h.still, h.n, h.len, h.here, h.none_, old, 0, s, ho, by omega, hs, by rw [e]; simp [tornB], fun x hx => (by cases hx; rfl), fun hx => by cases hx⟩
theorem Kp.arm {c : Nat} {l : List UInt8} {nx : Option (List UInt8)} {D : Dsk} (h : Kp c l nx D) (k : Int) (hk : k ≤ 9223372036854775807) : Kp c l nx (D.arm k) :=
  ⟨arm_still h.still k hk, h.n, h.len, h.here, h.none_, h.other⟩
/-- the new version is there -/
theorem Kp.newer {c : Nat} {l s : List UInt8} {nx : Option (List UInt8)} {D D' : Dsk} (h : Kp c l nx D) (hs : s.length ≤ 234) (hst : Still D') (hn : D'.n = 3) (h1 : D'.sec (1 + (c + 1) % 2) = sealB (c + 1 : Nat) s) (h2 : D'.sec (1 + c % 2) = D.sec (1 + c % 2)) : Kp (c + 1) s none D' := by
  refine ⟨hst, hn, hs, fun _ => h1, fun q => by omega, ?_⟩
  have e : (c + 1 + 1) % 2 = c % 2 := by omega
  rw [e, h2]
  by_cases hc : c = 0
  · subst hc
    exact ⟨zs 256, 0, [], zs_old1, by omega, by simp, by rw [show 1 + 0 % 2 = 1 from rfl, h.none_ rfl]; simp [tornB], fun x hx => (by cases hx), fun _ => rfl⟩
  · exact ⟨sealB c l, 0, [], seal_old h.len, by omega, by simp, by rw [h.here (by omega)]; simp [tornB], fun x hx => (by cases hx), fun _ => rfl⟩
theorem Kp.told {c : Nat} {l s : List UInt8} {D : Dsk} (h : Kp c l (some s) D) (hc : c + 1 ≤ 1099511627776) :
    (slotE D (1 : Nat) = 0 ∧ slotN D (1 : Nat) = ((c + 1 : Nat) : Int) ∧ slotS D (1 : Nat) = s ∧ Kp (c + 1) s none D) ∨ (slotE D (1 : Nat) = (if c = 0 then 14 else 0) ∧ slotN D (1 : Nat) = c ∧ slotS D (1 : Nat) = (if c = 0 then [] else l)) := by
  obtain ⟨old, k, s', ho, hk, hs', e, hx, -⟩ := h.other
  have hx := hx s rfl
  subst hx
  have hn := h.n
  rcases torn_count ho hs' hk hc (((c + 1) % 2 : Nat) : Int) with ht | ht
  · left
    rw [ht] at e
    have hcnt := seal_count (c + 1) s' hs' (by omega) hc
    have hh : Holds D 1 (c + 1) s' := by
      refine ⟨fun _ => by rw [e, show (((c + 1) % 2 : Nat) : Int) = ((c + 1 : Nat) : Int) % 2 by omega]; exact hcnt, ?_, fun q => by omega⟩
      have e2 : (c + 1 + 1) % 2 = c % 2 := by omega
      rw [e2, if_neg (by omega)]
      by_cases hz : c = 0
      · subst hz
        rw [show 1 + 0 % 2 = 1 from rfl, h.none_ rfl, show ((0 % 2 : Nat) : Int) = 0 from rfl, count_zero0]
        omega
      · have hcl := seal_count c l h.len (by omega) (by omega)
        rw [h.here (by omega), show ((c % 2 : Nat) : Int) = ((c : Nat) : Int) % 2 by omega]
        have : countV (sealB c l) ((c : Int) % 2) = c := by unfold countV; rw [hcl]; rfl
        rw [this]; omega
    obtain ⟨t1, t2, t3⟩ := h.still.told (by rw [hn]; omega) hh
    rw [if_neg (by omega)] at t1 t3
    exact ⟨t1, t2, t3, h.newer hs' h.still hn e rfl⟩
  · right
    refine h.still.told (by rw [hn]; omega) ⟨fun hp => ?_, by rw [e]; exact ht, fun q => ?_⟩
    · rw [h.here hp, show ((c % 2 : Nat) : Int) = ((c : Nat) : Int) % 2 by omega]
      exact seal_count c l h.len hp (by omega)
    · rw [h.none_ q, count_zero0]
theorem Kp.told0 {c : Nat} {l : List UInt8} {D : Dsk} (h : Kp c l none D) (hc : c + 1 ≤ 1099511627776) :
    slotE D (1 : Nat) = (if c = 0 then 14 else 0) ∧ slotN D (1 : Nat) = c ∧ slotS D (1 : Nat) = (if c = 0 then [] else l) := by
  obtain ⟨old, k, s', ho, hk, hs', e, -, hz⟩ := h.other
  have hz := hz rfl
  subst hz
  have hn := h.n
  refine h.still.told (by rw [hn]; omega) ⟨fun hp => ?_, by rw [e]; exact torn_early ho hs' (by omega) hc _, fun q => ?_⟩
  · rw [h.here hp, show ((c % 2 : Nat) : Int) = ((c : Nat) : Int) % 2 by omega]
    exact seal_count c l h.len hp (by omega)
  · rw [h.none_ q, count_zero0]
theorem Kp.ok {c : Nat} {l s : List UInt8} {D : Dsk} (h : Kp c l (some s) D) (hc : c + 1 ≤ 1099511627776) (hs : s.length ≤ 234) (h0 : D.armed ≠ 0) (h1 : D.armed ≠ 1) :
    slotWE D (1 : Nat) (c + 1 : Nat) s = 0 ∧ Kp (c + 1) s none (slotWD D (1 : Nat) (c + 1 : Nat) s) := by
  have hn := h.n
  obtain ⟨e, r, hD⟩ := (slot_three h.still 1 (c + 1) s (by omega) (by omega) hc hs).2.2 h0 h1
  refine ⟨e, ?_⟩
  have hlen := sealB_length ((c + 1 : Nat) : Int) s hs
  have hl := h.still.ok.len
  have hok : (slotWD D (1 : Nat) (c + 1 : Nat) s).ok := by
    unfold slotWD slotW1
    split
    · exact h.still.ok
    split
    · exact h.still.ok
    split
    · exact Dsk.writeD_ok h.still.ok _ _
    · exact Dsk.flushD_ok (Dsk.writeD_ok h.still.ok _ _)
  refine h.newer hs ⟨by rw [hD]; exact h.still.on, by rw [hD]; exact h.still.und, hok⟩ (by rw [hD]; exact hn) ?_ ?_
  · unfold Dsk.sec
    rw [hD]
    have := cut_lay_same D.img (sealB ((c + 1 : Nat) : Int) s) ((1 + (c + 1) % 2) * 256) (by rw [hlen]; omega)
    rw [hlen] at this
    exact this
  · unfold Dsk.sec
    rw [hD]
    rcases Nat.lt_or_ge (1 + c % 2) (1 + (c + 1) % 2) with hlt | hge
    · exact cut_lay_before _ _ _ _ _ (by rw [hlen]; omega) (by omega)
    · exact cut_lay_behind _ _ _ _ _ (by rw [hlen]; omega) (by rw [hlen]; omega)
/-- a crash of a disk at rest -/
theorem Kp.crash {c : Nat} {l : List UInt8} {nx : Option (List UInt8)} {D : Dsk} (h : Kp c l nx D) (kept : List Bool) (torn bytes : Int) : Kp c l nx (D.crash kept torn bytes) := by
  have hi := crash_clean D h.still.und kept torn bytes
  have hsec : ∀ i, (D.crash kept torn bytes).sec i = D.sec i := fun i => by unfold Dsk.sec; rw [hi]
  exact ⟨⟨rfl, rfl, Dsk.crash_ok h.still.ok _ _ _⟩, h.n, h.len, fun q => by rw [hsec]; exact h.here q, fun q => by rw [hsec]; exact h.none_ q, by obtain ⟨o, k, s, a1, a2, a3, a4, a5⟩ := h.other; exact ⟨o, k, s, a1, a2, a3, by rw [hsec]; exact a4, a5⟩⟩
/-- the power goes in a write -/
theorem Kp.dead {c : Nat} {l s : List UInt8} {D : Dsk} (h : Kp c l (some s) D) (hc : c + 1 ≤ 1099511627776) (hs : s.length ≤ 234) (h0 : D.armed = 0 ∨ D.armed = 1) :
    slotWE D (1 : Nat) (c + 1 : Nat) s = 12 ∧ (slotWD D (1 : Nat) (c + 1 : Nat) s).und.length = 1 ∧ (slotWD D (1 : Nat) (c + 1 : Nat) s).n = 3 ∧ ∀ kept torn bytes, Kp c l (some s) ((slotWD D (1 : Nat) (c + 1 : Nat) s).crash kept torn bytes) := by
  have hn := h.n
  have h3 := slot_three h.still 1 (c + 1) s (by omega) (by omega) hc hs
  have hok : (slotWD D (1 : Nat) (c + 1 : Nat) s).ok := by
    unfold slotWD slotW1
    split
    · exact h.still.ok
    split
    · exact h.still.ok
    split
    · exact Dsk.writeD_ok h.still.ok _ _
    · exact Dsk.flushD_ok (Dsk.writeD_ok h.still.ok _ _)
  obtain ⟨e, hu, him, hN⟩ : slotWE D (1 : Nat) (c + 1 : Nat) s = 12 ∧ (slotWD D (1 : Nat) (c + 1 : Nat) s).und = [(1 + (c + 1) % 2, sealB (c + 1 : Nat) s)] ∧ (slotWD D (1 : Nat) (c + 1 : Nat) s).img = D.img ∧ (slotWD D (1 : Nat) (c + 1 : Nat) s).n = D.n := by
    rcases h0 with h0 | h0
    · obtain ⟨e, hD⟩ := h3.1 h0
      exact ⟨e, by rw [hD], by rw [hD], by rw [hD]⟩
    · obtain ⟨e, hD⟩ := h3.2.1 h0
      exact ⟨e, by rw [hD], by rw [hD], by rw [hD]⟩
  refine ⟨e, by rw [hu]; rfl, by rw [hN, hn], fun kept torn bytes => ?_⟩
  have hlen := sealB_length ((c + 1 : Nat) : Int) s hs
  have hl := h.still.ok.len
  have hd : done kept torn bytes 0 ≤ 256 := by
    unfold done
    split
    · omega
    · split <;> omega
  obtain ⟨d, hdd⟩ : ∃ d, d = done kept torn bytes 0 := ⟨_, rfl⟩
  rw [← hdd] at hd
  have hci : ((slotWD D (1 : Nat) (c + 1 : Nat) s).crash kept torn bytes).img = lay D.img ((1 + (c + 1) % 2) * 256) ((sealB (c + 1 : Nat) s).take d) := by
    show layDone _ _ _ _ _ = _
    rw [hu, him, hdd]
    simp [layDone]
  have htl : ((sealB ((c + 1 : Nat) : Int) s).take d).length = d := by rw [List.length_take]; omega
  have hN' : ((slotWD D (1 : Nat) (c + 1 : Nat) s).crash kept torn bytes).n = 3 := by show (slotWD D (1 : Nat) (c + 1 : Nat) s).n = 3; rw [hN, hn]
  have hfar : ((slotWD D (1 : Nat) (c + 1 : Nat) s).crash kept torn bytes).sec (1 + c % 2) = D.sec (1 + c % 2) := by
    unfold Dsk.sec
    rw [hci]
    rcases Nat.lt_or_ge (1 + c % 2) (1 + (c + 1) % 2) with hlt | hge
    · exact cut_lay_before _ _ _ _ _ (by rw [htl]; omega) (by omega)
    · exact cut_lay_behind _ _ _ _ _ (by rw [htl]; omega) (by rw [htl]; omega)
  have hnear : ((slotWD D (1 : Nat) (c + 1 : Nat) s).crash kept torn bytes).sec (1 + (c + 1) % 2) = (sealB (c + 1 : Nat) s).take d ++ (D.sec (1 + (c + 1) % 2)).drop d := by
    unfold Dsk.sec
    rw [hci]
    have hb : (1 + (c + 1) % 2) * 256 + 256 ≤ D.img.length := by omega
    obtain ⟨o, hoo⟩ : ∃ o, o = (1 + (c + 1) % 2) * 256 := ⟨_, rfl⟩
    rw [← hoo] at hb ⊢
    unfold cut lay
    rw [List.drop_left' (by simp; omega), htl, List.take_append, htl, List.take_of_length_le (by omega), List.drop_take, List.drop_drop]
  obtain ⟨old, k, s', ho, hk, hs', eo, hx, -⟩ := h.other
  have hx := hx s rfl
  subst hx
  rw [eo, torn_torn hlen ho.len hk hd] at hnear
  exact ⟨⟨rfl, rfl, Dsk.crash_ok hok _ _ _⟩, hN', h.len, fun q => by rw [hfar]; exact h.here q, fun q => by
    have := h.none_ q
    subst q
    rw [← this]; exact hfar, old, max k d, s', ho, by omega, hs', hnear, fun x hx => (by cases hx; rfl), fun hx => by cases hx⟩
end Go.Proofs.YteklldbfdmaafaaDoor
/-
  The fixed facts of chapter 8 hold.
-/
namespace Go.Proofs.YteklldbfdmaafaaDoor
open Go Go.RowKit

def SA0 : Dsk := Dsk.blank 4
def SA1 : Dsk := slotWD SA0 1 1 [97]
def SA2 : Dsk := slotWD SA1 1 2 [98]
theorem SA0_e : slotE SA0 1 = 14 := by kernel_rfl
theorem SA0_s : slotS SA0 1 = [] := by kernel_rfl
theorem SA0_n : slotN SA0 1 = 0 := by kernel_rfl
theorem SA0_w : slotWE SA0 1 1 [97] = 0 := by kernel_rfl
theorem SA1_n : SA1.n = 4 := by kernel_rfl
theorem SA1_u : SA1.und.length = 0 := by kernel_rfl
theorem SA1_w : slotWE SA1 1 2 [98] = 0 := by kernel_rfl
theorem SA2_n : SA2.n = 4 := by kernel_rfl
theorem SA2_e : slotE SA2 1 = 0 := by kernel_rfl
theorem SA2_s : slotS SA2 1 = [98] := by kernel_rfl
theorem SA2_v : slotN SA2 1 = 2 := by kernel_rfl
set_option maxRecDepth 100000 in
theorem lives08_ct {W : World} {E : Nat → Addr} (hE : ErrsOn L8 W E) (hN : NibAt W) (hg : gB ≤ W.heap.size) : Ct Tryd.prog W 43 [] [] (fun _ : Unit => .bool true) (fun _ => []) := by
  have e14 : W.cell? ⟨1, 0, none⟩ = some (errV E 14) := hE.at_ 14 (by decide)
  have c1 : Ct Tryd.prog W 33 [.int .i64 4] [] (fun p : Nat => .tuple #[.pointer (some ⟨p, 0, none⟩), .nilIface]) (fun p => [DiskP p SA0]) := new_ct 4 (by omega) (by omega) hg
  have c2 : ∀ p, Ct Tryd.prog W 45 [.pointer (some ⟨p, 0, none⟩), .int .i64 1] [DiskP p SA0] (fun _ : Unit => .tuple #[strV [], .int .i64 0, errV E 14]) (fun _ => [DiskP p SA0]) := fun p => (sread_ct hE hN (by show 4 ≤ 65536; omega) 1).val fun _ => by rw [SA0_e, SA0_s, SA0_n]
  have c3 : ∀ p, Ct Tryd.prog W 44 [.pointer (some ⟨p, 0, none⟩), .int .i64 1, .int .i64 1, strV [97]] [DiskP p SA0] (fun _ : Unit => errV E 0) (fun _ => [DiskP p SA1]) := fun p => (swrite_ct hE hN (by show 4 ≤ 65536; omega) (by show 0 < 1073741823; omega) 1 1 [97]).val fun _ => by rw [SA0_w]
  have c4 : ∀ p, Ct Tryd.prog W 44 [.pointer (some ⟨p, 0, none⟩), .int .i64 1, .int .i64 2, strV [98]] [DiskP p SA1] (fun _ : Unit => errV E 0) (fun _ => [DiskP p SA2]) := fun p => (swrite_ct hE hN (by rw [SA1_n]; omega) (by rw [SA1_u]; omega) 1 2 [98]).val fun _ => by rw [SA1_w]
  have c5 : ∀ p, Ct Tryd.prog W 45 [.pointer (some ⟨p, 0, none⟩), .int .i64 1] [DiskP p SA2] (fun _ : Unit => .tuple #[strV [98], .int .i64 2, errV E 0]) (fun _ => [DiskP p SA2]) := fun p => (sread_ct hE hN (by rw [SA2_n]; omega) 1).val fun _ => by rw [SA2_e, SA2_s, SA2_v]
  obtain ⟨D0, hD0⟩ : ∃ D, D = SA0 := ⟨_, rfl⟩
  obtain ⟨D1, hD1⟩ : ∃ D, D = SA1 := ⟨_, rfl⟩
  obtain ⟨D2, hD2⟩ : ∃ D, D = SA2 := ⟨_, rfl⟩
  rw [← hD0] at c1
  simp only [← hD0, ← hD1, ← hD2] at c2 c3 c4 c5
  clear hD0 hD1 hD2
  refine Ct.enter Tryd.func43 rfl Tryd.ntmps43 (by simp) (fun R => ?_)
  repeat' (first 
    | (refine is_list ?_; first | (refine KJ_plain ?_) | (refine KJ_nil ?_) | (refine KJ_guard_dec_t rfl rfl rfl (fun _ => ?_) (fun _ => ?_) <;> first | (exfalso; omega) | skip) | (refine KJ_guard_dec_f rfl rfl rfl (fun _ => ?_) (fun _ => ?_) <;> first | (exfalso; omega) | skip) | (refine KJ_guard_yes rfl rfl ?_) | (refine KJ_guard_no rfl rfl rfl rfl ?_))
    | (refine is_oper ?_; first | (refine is_call ?_; first | (refine KJ_call (by (repeat' (first | exact Evs.nil | refine Evs.cons rfl ?_)); first | done | fail) (c5 _) (by (repeat' (first | exact Pick.nil | apply Pick.cons | exact Sel.here | apply Sel.there)); first | done | fail) rfl (fun _ => ?_)) | (refine KJ_call (by (repeat' (first | exact Evs.nil | refine Evs.cons rfl ?_)); first | done | fail) (c4 _) (by (repeat' (first | exact Pick.nil | apply Pick.cons | exact Sel.here | apply Sel.there)); first | done | fail) rfl (fun _ => ?_)) | (refine KJ_call (by (repeat' (first | exact Evs.nil | refine Evs.cons rfl ?_)); first | done | fail) (c3 _) (by (repeat' (first | exact Pick.nil | apply Pick.cons | exact Sel.here | apply Sel.there)); first | done | fail) rfl (fun _ => ?_)) | (refine KJ_call (by (repeat' (first | exact Evs.nil | refine Evs.cons rfl ?_)); first | done | fail) (c2 _) (by (repeat' (first | exact Pick.nil | apply Pick.cons | exact Sel.here | apply Sel.there)); first | done | fail) rfl (fun _ => ?_)) | (refine KJ_call (by (repeat' (first | exact Evs.nil | refine Evs.cons rfl ?_)); first | done | fail) c1 (by (repeat' (first | exact Pick.nil | apply Pick.cons | exact Sel.here | apply Sel.there)); first | done | fail) rfl (fun p => ?_))) | (refine KJ_ek rfl ?_) | (refine KJ_ek0 ?_))
    | (refine is_ek ?_; first | (refine ek_move ?_; first | (refine EK_ev (Ev_move rfl) ?_)) | (refine ek_assign ?_; first | (refine EK_ev (Ev_assign rfl) ?_)) | (refine ek_pick ?_; first | (refine EK_ev (Ev_pick_t rfl rfl) ?_) | (refine EK_ev (Ev_pick_f rfl rfl) ?_)) | (refine ek_load ?_; first | (refine EK_ev (Ev_loadOld rfl e14) ?_) | (refine EK_ev (Ev_load rfl (by (repeat' (first | exact Sel.here | apply Sel.there)); first | done | fail) (by rfl)) ?_) | (refine EK_ev (Ev_loadOld rfl (by assumption)) ?_) | (refine EK_ev (Ev_loadAgg rfl (by (repeat' (first | exact Sel.here | apply Sel.there)); first | done | fail) (by (repeat' (first | exact Cut.nil | apply Cut.cons | apply Cut.skip)); first | done | fail)) ?_)) | (refine ek_extract ?_; first | (refine EK_ev (Ev_extract rfl rfl) ?_)) | (refine ek_eql ?_; first | (refine EK_ev (Ev_eqlI_t rfl rfl rfl) ?_) | (refine EK_ev (Ev_eqlS_t rfl rfl rfl) ?_) | (refine EK_ev (Ev_eqlI rfl rfl) ?_) | (refine EK_ev (Ev_eqlS rfl rfl) ?_) | (refine EK_ev (Ev_eqlNil rfl rfl) ?_) | (refine EK_ev (Ev_eqlB rfl rfl) ?_) | (refine EK_ev (Ev_eqlO rfl rfl rfl (fun _ => rfl)) ?_)) | (refine ek_neq ?_; first | (refine EK_ev (Ev_neqE (a := 14) (b := 14) hE rfl rfl (by decide) (by decide) rfl) ?_) | (refine EK_ev (Ev_neqI rfl rfl) ?_) | (refine EK_ev (Ev_neqS rfl rfl) ?_) | (refine EK_ev (Ev_neqNil rfl rfl) ?_) | (refine EK_ev (Ev_neqB rfl rfl) ?_) | (refine EK_ev (Ev_neqO rfl rfl rfl (fun _ => rfl)) ?_)))
    | (refine is_ex ?_; first | (refine KJ_seq_normal ?_) | (refine KJ_seq_ret ?_) | (refine KJ_seq_exit ?_) | (refine KJ_thn_normal ?_) | (refine KJ_thn_ret ?_) | (refine KJ_thn_exit ?_) | (refine KJ_blk_normal ?_) | (refine KJ_blk_ret ?_) | (refine KJ_blk_exit ?_) | (refine KJ_blk_exit' rfl ?_))
    | (refine is_code ?_; first | (refine KJ_seq ?_) | (refine KJ_region ?_) | (refine KJ_cond_dec rfl (fun _ => ?_) (fun _ => ?_) <;> first | (exfalso; omega) | skip) | (refine KJ_cond_t rfl ?_) | (refine KJ_cond_f rfl ?_) | (refine KJ_skip ?_) | (refine KJ_ret ?_) | (refine KJ_exit ?_) | (refine KJ_block ?_)))
  all_goals (refine is_ex ?_; exact KJ_done (by first | exact Or.inl rfl | exact Or.inr rfl) rfl (by (repeat' (first | exact Rvs.nil | (apply Rvs.tmp; exact rfl))); first | done | fail) () (by rfl) (Ent.of (by (repeat' (first | exact Pick.nil | apply Pick.cons | exact Sel.here | apply Sel.there)); first | done | fail) (by (repeat' (first | exact DropTo.refl | apply DropTo.there)); first | done | fail)))
end Go.Proofs.YteklldbfdmaafaaDoor
/-
  SlotsApart (chapter 8): slots at two places do not see each other; no other sector is touched.
-/
namespace Go.Proofs.YteklldbfdmaafaaDoor
open Go Go.RowKit

/-- a slice of texts that lay there before -/
def StrsAt (w : World) (v : Value) (l : List (List UInt8)) : Prop :=
  ∃ a c, v = .slice a l.length c ∧ (l ≠ [] → ∃ b o, a = some ⟨b, o, none⟩ ∧ b < w.heap.size ∧ w.rangeAt b o (l.map strV))

theorem zeros_ct {W : World} : Ct Tryd.prog W 46 [] [] (fun _ : Unit => strV (zs 256)) (fun _ => []) := by
  have h256 : (List.replicate 256 (0 : UInt8)).length = 256 := List.length_replicate
  refine Ct.enter Tryd.func46 rfl Tryd.ntmps46 (by simp) (fun R => ?_)
  repeat' (first 
    | (refine is_list ?_; first | (refine KJ_plain ?_) | (refine KJ_nil ?_) | (refine KJ_guard_dec_t rfl rfl rfl (fun _ => ?_) (fun _ => ?_) <;> first | (exfalso; omega) | skip) | (refine KJ_guard_dec_f rfl rfl rfl (fun _ => ?_) (fun _ => ?_) <;> first | (exfalso; omega) | skip) | (refine KJ_guard_yes rfl rfl ?_) | (refine KJ_guard_no rfl rfl rfl rfl ?_))
    | (refine is_oper ?_; first | (refine is_mkSlice ?_; first | (refine KJ_makeBytes (m := 256) rfl rfl rfl (by omega) rfl (fun g => ?_))) | (refine KJ_ek rfl ?_) | (refine KJ_ek0 ?_))
    | (refine is_ek ?_; first | (refine ek_move ?_; first | (refine EK_ev (Ev_move rfl) ?_)) | (refine ek_assign ?_; first | (refine EK_ev (Ev_assign rfl) ?_)) | (refine ek_conv ?_; first | (refine EK_ev (Ev_bytesAll rfl (by (repeat' (first | exact Sel.here | apply Sel.there)); first | done | fail) h256) ?_) | (refine EK_ev (Ev_convI64 rfl (by omega)) ?_) | (refine EK_ev (Ev_convI rfl) ?_) | (refine EK_ev (Ev_convS rfl) ?_)))
    | (refine is_ex ?_; first | (refine KJ_seq_normal ?_) | (refine KJ_seq_ret ?_) | (refine KJ_seq_exit ?_) | (refine KJ_thn_normal ?_) | (refine KJ_thn_ret ?_) | (refine KJ_thn_exit ?_) | (refine KJ_blk_normal ?_) | (refine KJ_blk_ret ?_) | (refine KJ_blk_exit ?_) | (refine KJ_blk_exit' rfl ?_))
    | (refine is_code ?_; first | (refine KJ_seq ?_) | (refine KJ_region ?_) | (refine KJ_cond_dec rfl (fun _ => ?_) (fun _ => ?_) <;> first | (exfalso; omega) | skip) | (refine KJ_cond_t rfl ?_) | (refine KJ_cond_f rfl ?_) | (refine KJ_skip ?_) | (refine KJ_ret ?_) | (refine KJ_exit ?_) | (refine KJ_block ?_)))
  all_goals (refine is_ex ?_; exact KJ_done (by first | exact Or.inl rfl | exact Or.inr rfl) rfl (by (repeat' (first | exact Rvs.nil | (apply Rvs.tmp; exact rfl))); first | done | fail) () (by rfl) (Ent.of (by (repeat' (first | exact Pick.nil | apply Pick.cons | exact Sel.here | apply Sel.there)); first | done | fail) (by (repeat' (first | exact DropTo.refl | apply DropTo.there)); first | done | fail)))

/-- what stands behind the first values -/
structure ApSt (c0 c1 : Nat) (l0 l1 : List UInt8) (m : Nat) (D : Dsk) : Prop where
  rest : Rest D
  n : D.n = 6
  h0 : Holds D 1 c0 l0
  h1 : Holds D 3 c1 l1
  z0 : D.sec 0 = zs 256
  z5 : D.sec 5 = zs 256
  m0 : c0 ≤ m
  m1 : c1 ≤ m
theorem ApSt.start : ApSt 0 0 [] [] 0 (Dsk.blank 6) :=
  ⟨blank_rest 6 (by omega) (by omega), rfl, Holds.blank 6 1 (by omega), Holds.blank 6 3 (by omega), blank_sec _ _ (by omega), blank_sec _ _ (by omega), Nat.le_refl _, Nat.le_refl _⟩
theorem ApSt.step {c0 c1 m : Nat} {l0 l1 : List UInt8} {D : Dsk} (h : ApSt c0 c1 l0 l1 m D) : ApSt c0 c1 l0 l1 (m + 1) D :=
  ⟨h.rest, h.n, h.h0, h.h1, h.z0, h.z5, by have := h.m0; omega, by have := h.m1; omega⟩
theorem ApSt.write0 {c0 c1 m : Nat} {l0 l1 : List UInt8} {D : Dsk} (h : ApSt c0 c1 l0 l1 m D) (hm : m < 1000000) (s : List UInt8) (hs : s.length ≤ 234) :
    slotWE D 1 (c0 + 1 : Nat) s = 0 ∧ ApSt (c0 + 1) c1 s l1 (m + 1) (slotWD D 1 (c0 + 1 : Nat) s) := by
  have hn := h.n
  have hm0 := h.m0
  obtain ⟨e, hr, hn', _, hsec⟩ := rest_write h.rest 1 (c0 + 1) s (by omega) (by omega) (by omega) hs
  refine ⟨e, hr, by rw [← hn]; exact hn', Holds.next (a := 1) h.rest (by omega) h.h0 (by omega) hs, h.h1.keep fun k hk => hsec _ (by omega) (by omega), ?_, ?_, by omega, by have := h.m1; omega⟩
  · rw [← h.z0]; exact hsec 0 (by omega) (by omega)
  · rw [← h.z5]; exact hsec 5 (by omega) (by omega)
theorem ApSt.write1 {c0 c1 m : Nat} {l0 l1 : List UInt8} {D : Dsk} (h : ApSt c0 c1 l0 l1 m D) (hm : m < 1000000) (s : List UInt8) (hs : s.length ≤ 234) :
    slotWE D 3 (c1 + 1 : Nat) s = 0 ∧ ApSt c0 (c1 + 1) l0 s (m + 1) (slotWD D 3 (c1 + 1 : Nat) s) := by
  have hn := h.n
  have hm1 := h.m1
  obtain ⟨e, hr, hn', _, hsec⟩ := rest_write h.rest 3 (c1 + 1) s (by omega) (by omega) (by omega) hs
  refine ⟨e, hr, by rw [← hn]; exact hn', h.h0.keep fun k hk => hsec _ (by omega) (by omega), Holds.next (a := 3) h.rest (by omega) h.h1 (by omega) hs, ?_, ?_, by have := h.m0; omega, by omega⟩
  · rw [← h.z0]; exact hsec 0 (by omega) (by omega)
  · rw [← h.z5]; exact hsec 5 (by omega) (by omega)
theorem long_write {D : Dsk} (a v : Int) (s : List UInt8) (h : slotMay D a v = true) (hl : 234 < s.length) : slotWE D a v s = 3 ∧ slotWD D a v s = D := by
  have hb : ¬ (slotMay D a v = false) := by rw [h]; simp
  unfold slotWE slotWD
  rw [if_neg hb, if_neg hb, if_pos hl, if_pos hl]
  exact ⟨rfl, rfl⟩
end Go.Proofs.YteklldbfdmaafaaDoor
/-
  Arguments opened: slices of texts, of bools, of structs; with what the bound gives of their sizes.
-/
namespace Go.Proofs.YteklldbfdmaafaaDoor
open Go Go.RowKit Go.ChangeShapes Go.WideShapes Go.Deep

section
variable {H : Type} {enc : TypeId × Value → H} {W : World} {base : Nat} {held : Bool}
/-- A slice whose elements can be opened. -/
theorem elems_of {α : Type} [Inhabited α] {T eT k : Nat} (hu : Tryd.prog.underlying T = some (.slice eT)) (hk : Tryd.prog.cellsOf eT = k) (hk0 : 0 < k) (Q : α → List Value → DataW H → Prop)
    (hQ : ∀ n cs x, DataW.trod enc Tryd.prog W base (fun _ => true) held n eT cs = some x → ∃ a, Q a cs x.1) {n : Nat} {cs : List Value} {x : DataW H × List MemPlace} (h : DataW.trod enc Tryd.prog W base (fun _ => true) held n T cs = some x) :
    ∃ (l : List α) (ad : Option Addr) (c : Nat), cs = [.slice ad l.length c] ∧ l.length ≤ Rows.uptoBulk x.1 ∧ l.length ≤ c ∧ c ≤ maxLen ∧ (ad = none → c = 0) ∧ (l ≠ [] → ∃ b o, ad = some ⟨b, o, none⟩ ∧ b < W.heap.size ∧
      ∀ i a, l[i]? = some a → ∃ cs D, Q a cs D ∧ Rows.uptoBulk D ≤ Rows.uptoBulk x.1 ∧ cs.length = k ∧ W.rangeAt b (o + k * i) cs) := by
  rcases open_slice hu h with ⟨rfl, rfl⟩ | ⟨a, len, cap, m, n, D, Pl, rfl, _, hl, hm, hmm, rfl, hi⟩
  · exact ⟨[], none, 0, rfl, by simp, by simp, by unfold maxLen; omega, fun _ => rfl, fun h => absurd rfl h⟩
  · simp only [if_true] at hmm
    have hmm' := hmm.symm
    subst hmm'
    obtain ⟨f, hfo⟩ := choose_lt (α := α) (n := len) (p := fun i al => ∃ cs, Q al cs (D i) ∧ cs.length = k ∧ ∀ j v, cs[j]? = some v → W.cell? (a.add (i * k + j)) = some v) (fun i hil => by
      obtain ⟨cs', hc, ht⟩ := hi i (by omega)
      rw [hk] at hc
      obtain ⟨_, hcl, hat⟩ := World.cells?_some hc
      obtain ⟨al, hq⟩ := hQ _ _ _ ht
      refine ⟨al, cs', hq, hcl, fun j v hj => ?_⟩
      have hjl : j < k := by
        have := (List.getElem?_eq_some_iff.1 hj).1
        omega
      rw [← Go.Deep.add_add, hat j hjl, hj])
    have hbulk : ∀ i, i < len → Rows.uptoBulk (D i) ≤ Rows.uptoBulk (DataW.slice ((List.range len).map D) ((List.range (cap - len)).map fun j => D (len + j))) := fun i hil => by
      have h1 := part_le (H := H) (d := D i) (l := (List.range len).map D) (List.mem_map.2 ⟨i, List.mem_range.2 hil, rfl⟩)
      have h2 := slice_elems (H := H) ((List.range len).map D) ((List.range (cap - len)).map fun j => D (len + j))
      omega
    refine ⟨(List.range len).map f, some a, cap, by simp, ?_, by simpa using hl, hm, fun q => (by cases q), fun hne => ?_⟩
    · have := slice_le (H := H) ((List.range len).map D) ((List.range (cap - len)).map fun j => D (len + j))
      simp only [List.length_map, List.length_range] at this ⊢
      omega
    · have h0 : 0 < len := by
        rcases Nat.eq_zero_or_pos len with h | h
        · subst h; simp at hne
        · exact h
      obtain ⟨cs0, _, hl0, hc0⟩ := hfo 0 h0
      obtain ⟨v0, hv0⟩ : ∃ v, cs0[0]? = some v := ⟨_, List.getElem?_eq_getElem (by omega)⟩
      obtain ⟨hs, hb⟩ := spot_add (by simp) (hc0 0 v0 hv0)
      have ha : a = ⟨a.block, a.off, none⟩ := addr_is hs
      refine ⟨a.block, a.off, by rw [← ha], hb, fun i al hal => ?_⟩
      simp only [List.getElem?_map, Option.map_eq_some_iff] at hal
      obtain ⟨i', hi', rfl⟩ := hal
      have hij : i' = i ∧ i < len := by
        rw [List.getElem?_eq_some_iff] at hi'
        obtain ⟨h1, h2⟩ := hi'
        simp at h1 h2
        exact ⟨h2.symm, h1⟩
      obtain ⟨rfl, hij⟩ := hij
      obtain ⟨cs', hq, hcl, hc⟩ := hfo i' hij
      refine ⟨cs', D i', hq, hbulk i' hij, hcl, fun j v hj => ?_⟩
      have := hc j v hj
      rw [add_is hs] at this
      rw [Nat.mul_comm k i', Nat.add_assoc]
      exact this
set_option maxRecDepth 100000 in
/-- a parameter's cells are the value's own -/
theorem param_slice {r : Reach} {b0 T eT : Nat} {v : Value} {d : DataW H} {p : List MemPlace} (hu : Tryd.prog.underlying T = some (.slice eT)) (hv : Value.okWide Tryd.prog W r b0 T v) (h : DataW.Trod enc Tryd.prog W base (fun _ => true) held T v d p) :
    ∃ n, DataW.trod enc Tryd.prog W base (fun _ => true) held n T [v] = some (d, p) := by
  obtain ⟨a', len', cap', rfl⟩ := okWide_slice hu hv
  obtain ⟨fuel, hf⟩ := h
  exact ⟨fuel, hf⟩
set_option maxRecDepth 100000 in
/-- a slice of texts that is a parameter -/
theorem strs_of {r : Reach} {b0 : Nat} {v : Value} {d : DataW H} {p : List MemPlace} (hv : Value.okWide Tryd.prog W r b0 47 v) (h : DataW.Trod enc Tryd.prog W base (fun _ => true) held 47 v d p) :
    ∃ l : List (List UInt8), StrsAt W v l ∧ l.length ≤ Rows.uptoBulk d := by
  obtain ⟨n, hf⟩ := param_slice Tryd.underlying47 hv h
  obtain ⟨l, ad, c, e, hb, -, -, -, hx⟩ := elems_of (α := List UInt8) Tryd.underlying47 cellsStr (by omega) (fun s cs D => cs = [strV s]) (fun n cs x hx => by
    obtain ⟨s, e2, q2, _⟩ := DataW.trod_string Tryd.underlying9 hx
    exact ⟨s.data.toList, by rw [e2]⟩) hf
  simp only [List.cons.injEq, and_true] at e
  refine ⟨l, ⟨ad, c, e, fun hne => ?_⟩, hb⟩
  obtain ⟨b, o, h1, h2, h3⟩ := hx hne
  refine ⟨b, o, h1, h2, fun j v hj => ?_⟩
  simp only [List.getElem?_map, Option.map_eq_some_iff] at hj
  obtain ⟨s, hs, rfl⟩ := hj
  obtain ⟨cs, D, rfl, _, _, h4⟩ := h3 j s hs
  have := h4 0 _ rfl
  rwa [Nat.one_mul, Nat.add_zero] at this
set_option maxRecDepth 100000 in
theorem bools_par {r : Reach} {b0 : Nat} {v : Value} {d : DataW H} {p : List MemPlace} (hv : Value.okWide Tryd.prog W r b0 23 v) (h : DataW.Trod enc Tryd.prog W base (fun _ => true) held 23 v d p) :
    ∃ l : List Bool, BoolsAt W v l ∧ l.length ≤ Rows.uptoBulk d := by
  obtain ⟨n, hf⟩ := param_slice Tryd.underlying23 hv h
  obtain ⟨kv, l, e, hb, hl⟩ := bools_of hf
  simp only [List.cons.injEq, and_true] at e
  subst e
  exact ⟨l, hb, hl⟩

/-- a step of SlotsKeeps -/
structure KStep where
  val : List UInt8
  arm : Int
  crash : Bool
  kept : List Bool
  torn : Int
  bytes : Int
instance : Inhabited KStep := ⟨⟨[], 0, false, [], 0, 0⟩⟩
def KStep.cells (o : KStep) (kv : Value) : List Value := [strV o.val, .int .i64 o.arm, .bool o.crash, kv, .int .i64 o.torn, .int .i64 o.bytes]
def StepsAt (w : World) (v : Value) (l : List KStep) : Prop :=
  ∃ a c, v = .slice a l.length c ∧ (l ≠ [] → ∃ b o, a = some ⟨b, o, none⟩ ∧ b < w.heap.size ∧ ∀ k op, l[k]? = some op → ∃ kv, w.rangeAt b (o + 6 * k) (op.cells kv) ∧ BoolsAt w kv op.kept)
theorem cellsStep : Tryd.prog.cellsOf 71 = 6 := by kernel_rfl
set_option maxRecDepth 100000 in
theorem steps_of {r : Reach} {b0 : Nat} {v : Value} {d : DataW H} {p : List MemPlace} (hv : Value.okWide Tryd.prog W r b0 69 v) (h : DataW.Trod enc Tryd.prog W base (fun _ => true) held 69 v d p) :
    ∃ l : List KStep, StepsAt W v l ∧ l.length ≤ Rows.uptoBulk d ∧ ∀ o ∈ l, (Lit.int .i64 o.arm).wf = true := by
  obtain ⟨n, hf⟩ := param_slice Tryd.underlying69 hv h
  obtain ⟨l, ad, c, e, hb, -, -, -, hx⟩ := elems_of (α := KStep) Tryd.underlying69 cellsStep (by omega) (fun s cs D => ∃ kv, cs = s.cells kv ∧ BoolsAt W kv s.kept ∧ (Lit.int .i64 s.arm).wf = true) (fun n cs x hx => by
    obtain ⟨xs, m, _, rfl, hl, hxl, hf⟩ := DataW.trod_struct Tryd.underlying71 hx
    rw [cellsStep] at hl
    match cs, hl with
    | [c0, c1, c2, c3, c4, c5], _ =>
      match xs, hxl with
      | [y0, y1, y2, y3], _ =>
        have h0 : DataW.trod enc Tryd.prog W base (fun _ => true) held m 9 [c0] = some y0 := field_of hf 0 rfl cellsStr
        have h1 : DataW.trod enc Tryd.prog W base (fun _ => true) held m 3 [c1] = some y1 := field_of hf 1 rfl cellsInt
        have h2 : DataW.trod enc Tryd.prog W base (fun _ => true) held m 4 [c2] = some y2 := field_of hf 2 rfl cellsBool
        have h3 : DataW.trod enc Tryd.prog W base (fun _ => true) held m 25 [c3, c4, c5] = some y3 := field_of hf 3 rfl cellsFate
        obtain ⟨s, e0, q0, _⟩ := DataW.trod_string Tryd.underlying9 h0
        obtain ⟨n1, e1, _, w1⟩ := DataW.trod_int Tryd.underlying3 h1
        obtain ⟨b2, e2, _⟩ := DataW.trod_bool Tryd.underlying4 h2
        obtain ⟨kv, kept, torn, bytes, e3, hb, hbl, w4, w5⟩ := fate_cells h3
        simp only [List.cons.injEq, and_true] at e0 e1 e2 e3
        obtain ⟨rfl, rfl, rfl⟩ := e3
        subst e0; subst e1; subst e2
        exact ⟨⟨s.data.toList, n1, b2, kept, torn, bytes⟩, _, rfl, hb, w1⟩) hf
  simp only [List.cons.injEq, and_true] at e
  refine ⟨l, ⟨ad, c, e, fun hne => ?_⟩, hb, fun o ho => ?_⟩
  · obtain ⟨b, o, h1, h2, h3⟩ := hx hne
    refine ⟨b, o, h1, h2, fun k op hop => ?_⟩
    obtain ⟨cs, D, ⟨kv', rfl, hq, _⟩, _, _, h4⟩ := h3 k op hop
    exact ⟨kv', h4, hq⟩
  · obtain ⟨i, hi⟩ := List.mem_iff_getElem?.1 ho
    obtain ⟨_, _, _, _, h3⟩ := hx (by intro q; subst q; simp at ho)
    obtain ⟨cs, D, ⟨kv, _, _, hw⟩, _⟩ := h3 i o hi
    exact hw
end
end Go.Proofs.YteklldbfdmaafaaDoor
