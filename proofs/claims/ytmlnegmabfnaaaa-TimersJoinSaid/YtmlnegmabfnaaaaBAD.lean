/-
  Ops.
-/
import Derived.Test.YtmlnegmabfnaaaaBAC
/-
  The operations' rules: each yields a value and leaves memory as it was.
-/
namespace Go.Proofs.Ytmlnegmabfnaaaa
open Go Go.RowKit
section
variable {P : Program} {W : World} {n : Nat} {E : Env} {H R : List SP} {x y z : Operand} {t u : TypeId}
/-- text as a value -/
abbrev strV (l : List UInt8) : Value := .string ⟨l.toArray⟩
/-- what an operation of two operands gives, of every world -/
theorem Ev_bin {op : BinOp} {v1 v2 v : Value} (hx : Env.ev E x = some v1) (hy : Env.ev E y = some v2) (hg : ∀ w, (eqGuard op t x y v1 v2).run P w = .ok () w) (hr : ∀ w, (binOp op t v1 v2).run P w = .ok v w) : Ev P W n E H (.binOp op t x y u) v :=
  Ev.mk fun o ho a w p _ => by simp [execOp, ho, p.ev hx, p.ev hy, hg w, hr w, Result.andThen]
theorem guard_int (op : BinOp) (k k' : IntKind) (i j : Int) (w : World) : (eqGuard op t x y (.int k i) (.int k' j)).run P w = .ok () w := by
  cases op <;> rfl
theorem Ev_int {op : BinOp} {k : IntKind} {i j : Int} {v : Value} (hx : Env.ev E x = some (.int k i)) (hy : Env.ev E y = some (.int k j)) (hr : ∀ w, (binOp op t (.int k i) (.int k j)).run P w = .ok v w) : Ev P W n E H (.binOp op t x y u) v :=
  Ev_bin hx hy (guard_int op k k i j) hr
theorem i64_in (i : Int) (h : -9223372036854775808 ≤ i ∧ i ≤ 9223372036854775807) : IntKind.i64.wrap i = i := by
  have : IntKind.i64.wrap i = if i % 18446744073709551616 ≥ 9223372036854775808 then i % 18446744073709551616 - 18446744073709551616 else i % 18446744073709551616 := by
    simp [IntKind.wrap, IntKind.signed, IntKind.bits]
  rw [this]
  split <;> omega
theorem Ev_addI {i j : Int} (hx : Env.ev E x = some (.int .i64 i)) (hy : Env.ev E y = some (.int .i64 j)) (hb : -9223372036854775808 ≤ i + j ∧ i + j ≤ 9223372036854775807) : Ev P W n E H (.binOp .add t x y u) (.int .i64 (i + j)) :=
  Ev_int hx hy fun w => by simp [binOp, Op.intArith, i64_in _ hb]
theorem Ev_subI {i j : Int} (hx : Env.ev E x = some (.int .i64 i)) (hy : Env.ev E y = some (.int .i64 j)) (hb : -9223372036854775808 ≤ i - j ∧ i - j ≤ 9223372036854775807) : Ev P W n E H (.binOp .sub t x y u) (.int .i64 (i - j)) :=
  Ev_int hx hy fun w => by simp [binOp, Op.intArith, i64_in _ hb]
theorem Ev_mulI {i j : Int} (hx : Env.ev E x = some (.int .i64 i)) (hy : Env.ev E y = some (.int .i64 j)) (hb : -9223372036854775808 ≤ i * j ∧ i * j ≤ 9223372036854775807) : Ev P W n E H (.binOp .mul t x y u) (.int .i64 (i * j)) :=
  Ev_int hx hy fun w => by simp [binOp, Op.intArith, i64_in _ hb]
theorem Ev_sub {k : IntKind} {i j : Int} (hx : Env.ev E x = some (.int k i)) (hy : Env.ev E y = some (.int k j)) : Ev P W n E H (.binOp .sub t x y u) (.int k (k.wrap (i - j))) :=
  Ev_int hx hy fun w => by simp [binOp, Op.intArith]
theorem Ev_mul {k : IntKind} {i j : Int} (hx : Env.ev E x = some (.int k i)) (hy : Env.ev E y = some (.int k j)) : Ev P W n E H (.binOp .mul t x y u) (.int k (k.wrap (i * j))) :=
  Ev_int hx hy fun w => by simp [binOp, Op.intArith]
theorem Ev_quo {k : IntKind} {i j : Int} (hx : Env.ev E x = some (.int k i)) (hy : Env.ev E y = some (.int k j)) (hj : j ≠ 0) : Ev P W n E H (.binOp .quo t x y u) (.int k (k.wrap (i.tdiv j))) :=
  Ev_int hx hy fun w => by simp [binOp, Op.intDiv, hj]
theorem Ev_rem {k : IntKind} {i j : Int} (hx : Env.ev E x = some (.int k i)) (hy : Env.ev E y = some (.int k j)) (hj : j ≠ 0) : Ev P W n E H (.binOp .rem t x y u) (.int k (i.tmod j)) :=
  Ev_int hx hy fun w => by simp [binOp, Op.intDiv, hj]
/-- division of what is not below nought -/
theorem Ev_quoI {i j : Int} (hx : Env.ev E x = some (.int .i64 i)) (hy : Env.ev E y = some (.int .i64 j)) (hb : 0 ≤ i ∧ i ≤ 9223372036854775807 ∧ 0 < j) : Ev P W n E H (.binOp .quo t x y u) (.int .i64 (i / j)) :=
  Ev_int hx hy fun w => by
    have h1 : i.tdiv j = i / j := Int.tdiv_eq_ediv_of_nonneg hb.1
    have h2 : 0 ≤ i / j := Int.ediv_nonneg hb.1 (by omega)
    have h3 : i / j ≤ i := Int.ediv_le_self _ hb.1
    simp [binOp, Op.intDiv, show j ≠ 0 by omega, h1, i64_in (i / j) (by omega)]
theorem Ev_remI {k : IntKind} {i j : Int} (hx : Env.ev E x = some (.int k i)) (hy : Env.ev E y = some (.int k j)) (hb : 0 ≤ i ∧ 0 < j) : Ev P W n E H (.binOp .rem t x y u) (.int k (i % j)) :=
  Ev_int hx hy fun w => by simp [binOp, Op.intDiv, show j ≠ 0 by omega, Int.tmod_eq_emod_of_nonneg hb.1]
theorem Ev_eqlI {k : IntKind} {i j : Int} (hx : Env.ev E x = some (.int k i)) (hy : Env.ev E y = some (.int k j)) : Ev P W n E H (.binOp .eql t x y u) (.bool (decide (i = j))) :=
  Ev_int hx hy fun w => by simp [binOp, Op.intCmp]; rfl
theorem Ev_neqI {k : IntKind} {i j : Int} (hx : Env.ev E x = some (.int k i)) (hy : Env.ev E y = some (.int k j)) : Ev P W n E H (.binOp .neq t x y u) (.bool (decide (i ≠ j))) :=
  Ev_int hx hy fun w => by
    have : (i != j) = decide (i ≠ j) := by by_cases h : i = j <;> simp [h]
    simp [binOp, Op.intCmp, this]
theorem Ev_lssI {k : IntKind} {i j : Int} (hx : Env.ev E x = some (.int k i)) (hy : Env.ev E y = some (.int k j)) : Ev P W n E H (.binOp .lss t x y u) (.bool (decide (i < j))) :=
  Ev_int hx hy fun w => by simp [binOp, Op.intCmp]
theorem Ev_leqI {k : IntKind} {i j : Int} (hx : Env.ev E x = some (.int k i)) (hy : Env.ev E y = some (.int k j)) : Ev P W n E H (.binOp .leq t x y u) (.bool (decide (i ≤ j))) :=
  Ev_int hx hy fun w => by simp [binOp, Op.intCmp]
theorem Ev_gtrI {k : IntKind} {i j : Int} (hx : Env.ev E x = some (.int k i)) (hy : Env.ev E y = some (.int k j)) : Ev P W n E H (.binOp .gtr t x y u) (.bool (decide (j < i))) :=
  Ev_int hx hy fun w => by simp [binOp, Op.intCmp]
theorem Ev_geqI {k : IntKind} {i j : Int} (hx : Env.ev E x = some (.int k i)) (hy : Env.ev E y = some (.int k j)) : Ev P W n E H (.binOp .geq t x y u) (.bool (decide (j ≤ i))) :=
  Ev_int hx hy fun w => by simp [binOp, Op.intCmp]
/-- & | ^ on whole numbers of a kind, as on naturals -/
theorem Ev_bits {op : BinOp} {k : IntKind} {i j : Int} {v : Value} (hop : op = .and ∨ op = .or ∨ op = .xor ∨ op = .andNot) (hx : Env.ev E x = some (.int k i)) (hy : Env.ev E y = some (.int k j)) (hr : ∀ w, (Op.intBits op k i j).run P w = .ok v w) : Ev P W n E H (.binOp op t x y u) v :=
  Ev_int hx hy fun w => by
    rcases hop with rfl | rfl | rfl | rfl <;> simpa [binOp] using hr w
theorem Ev_shl {k yk : IntKind} {i j : Int} (hx : Env.ev E x = some (.int k i)) (hy : Env.ev E y = some (.int yk j)) (hj : 0 ≤ j) : Ev P W n E H (.binOp .shl t x y u) (.int k (k.wrap (i * 2 ^ (min j.toNat k.bits)))) :=
  Ev_bin hx hy (guard_int _ _ _ _ _) fun w => by simp [binOp, Op.shift, show ¬ j < 0 by omega]
theorem Ev_shr {k yk : IntKind} {i j : Int} (hx : Env.ev E x = some (.int k i)) (hy : Env.ev E y = some (.int yk j)) (hj : 0 ≤ j) : Ev P W n E H (.binOp .shr t x y u) (.int k (i.fdiv (2 ^ (min j.toNat k.bits)))) :=
  Ev_bin hx hy (guard_int _ _ _ _ _) fun w => by simp [binOp, Op.shift, show ¬ j < 0 by omega]
/-- strings -/
theorem guard_str (op : BinOp) (a b : ByteArray) (w : World) : (eqGuard op t x y (.string a) (.string b)).run P w = .ok () w := by cases op <;> rfl
theorem Ev_addS {a b : List UInt8} (hx : Env.ev E x = some (strV a)) (hy : Env.ev E y = some (strV b)) (hb : a.length + b.length ≤ 9223372036854775807) : Ev P W n E H (.binOp .add t x y u) (strV (a ++ b)) :=
  Ev_bin hx hy (guard_str _ _ _) fun w => by
    have h1 : ¬ (((⟨a.toArray⟩ : ByteArray).size + (⟨b.toArray⟩ : ByteArray).size : Nat) : Int) > IntKind.i64.max := by
      have : IntKind.i64.max = 9223372036854775807 := rfl
      rw [this]; simp [ByteArray.size]; omega
    have h2 : (⟨a.toArray⟩ : ByteArray) ++ ⟨b.toArray⟩ = ⟨(a ++ b).toArray⟩ := by
      apply ByteArray.ext; simp
    simp only [binOp, Op.stringOp]
    rw [if_neg h1, h2]; rfl
theorem Ev_eqlS {a b : List UInt8} (hx : Env.ev E x = some (strV a)) (hy : Env.ev E y = some (strV b)) : Ev P W n E H (.binOp .eql t x y u) (.bool (decide (a = b))) :=
  Ev_bin hx hy (guard_str _ _ _) fun w => by
    have : (a == b) = decide (a = b) := by by_cases h : a = b <;> simp [h]
    simp [binOp, Op.stringOp, this]
theorem Ev_neqS {a b : List UInt8} (hx : Env.ev E x = some (strV a)) (hy : Env.ev E y = some (strV b)) : Ev P W n E H (.binOp .neq t x y u) (.bool (decide (a ≠ b))) :=
  Ev_bin hx hy (guard_str _ _ _) fun w => by
    have : (!(a == b)) = decide (a ≠ b) := by by_cases h : a = b <;> simp [h]
    simp [binOp, Op.stringOp, this]
theorem Ev_lssS {a b : List UInt8} (hx : Env.ev E x = some (strV a)) (hy : Env.ev E y = some (strV b)) : Ev P W n E H (.binOp .lss t x y u) (.bool (Op.bytesLess a b)) :=
  Ev_bin hx hy (guard_str _ _ _) fun w => by simp [binOp, Op.stringOp]
theorem Ev_gtrS {a b : List UInt8} (hx : Env.ev E x = some (strV a)) (hy : Env.ev E y = some (strV b)) : Ev P W n E H (.binOp .gtr t x y u) (.bool (!(Op.bytesLess a b || decide (a = b)))) :=
  Ev_bin hx hy (guard_str _ _ _) fun w => by
    have : (a == b) = decide (a = b) := by by_cases h : a = b <;> simp [h]
    simp [binOp, Op.stringOp, this]
theorem Ev_geqS {a b : List UInt8} (hx : Env.ev E x = some (strV a)) (hy : Env.ev E y = some (strV b)) : Ev P W n E H (.binOp .geq t x y u) (.bool (!Op.bytesLess a b)) :=
  Ev_bin hx hy (guard_str _ _ _) fun w => by simp [binOp, Op.stringOp]
theorem Ev_leqS {a b : List UInt8} (hx : Env.ev E x = some (strV a)) (hy : Env.ev E y = some (strV b)) : Ev P W n E H (.binOp .leq t x y u) (.bool (Op.bytesLess a b || decide (a = b))) :=
  Ev_bin hx hy (guard_str _ _ _) fun w => by
    have : (a == b) = decide (a = b) := by by_cases h : a = b <;> simp [h]
    simp [binOp, Op.stringOp, this]
/-- what '==' does at the first level -/
def eqOne : TypeDesc → Value → Value → Option Bool
  | .bool, .bool a, .bool b => some (a == b)
  | .pointer _, .pointer none, .pointer b => some b.isNone
  | .pointer _, .pointer (some _), .pointer none => some false
  | .interface _, .nilIface, .nilIface => some true
  | .interface _, .nilIface, .iface _ _ => some false
  | .interface _, .iface _ _, .nilIface => some false
  | .slice _, .slice none _ _, .slice b _ _ => some b.isNone
  | .slice _, .slice (some _) _ _, .slice none _ _ => some false
  | .map _ _, .map none, .map b => some b.isNone
  | .map _ _, .map (some _), .map none => some false
  | .func _ _ _, .nilFunc, .nilFunc => some true
  | _, _, _ => none
theorem equal_one {d : TypeDesc} {v1 v2 : Value} {b : Bool} (hu : P.underlying t = some d) (h : eqOne d v1 v2 = some b) (w : World) : (Op.equal t v1 v2).run P w = .ok b w := by
  unfold Op.equal Op.maxDepth
  have key : ∀ m, (Op.equalIn (m + 1) t v1 v2).run P w = .ok b w := by
    intro m
    unfold eqOne at h
    split at h <;> first
      | (cases h; simp [Op.equalIn, run_underlying hu]; done)
      | (simp at h; subst h; simp [Op.equalIn, run_underlying hu]; done)
      | (cases h)
  exact key 9999
theorem Ev_eqlO {d : TypeDesc} {v1 v2 : Value} {b : Bool} (hx : Env.ev E x = some v1) (hy : Env.ev E y = some v2) [hu : UIs P t d] (h : eqOne d v1 v2 = some b) (hg : ∀ w, (eqGuard .eql t x y v1 v2).run P w = .ok () w) : Ev P W n E H (.binOp .eql t x y u) (.bool b) :=
  Ev_bin hx hy hg fun w => by
    have e := equal_one hu.h h w
    unfold eqOne at h
    split at h <;> simp_all [binOp, Result.andThen]
theorem Ev_neqO {d : TypeDesc} {v1 v2 : Value} {b : Bool} (hx : Env.ev E x = some v1) (hy : Env.ev E y = some v2) [hu : UIs P t d] (h : eqOne d v1 v2 = some b) (hg : ∀ w, (eqGuard .neq t x y v1 v2).run P w = .ok () w) : Ev P W n E H (.binOp .neq t x y u) (.bool (!b)) :=
  Ev_bin hx hy hg fun w => by
    have e := equal_one hu.h h w
    unfold eqOne at h
    split at h <;> simp_all [binOp, Result.andThen]
/-- an interface value against the literal nil -/
theorem Ev_eqlNil {ms : Array (String × TypeId)} {v : Value} {b : Bool} (hx : Env.ev E x = some v) [hu : UIs P t (.interface ms)] (h : eqOne (.interface ms) v .nilIface = some b) : Ev P W n E H (.binOp .eql t x (.const .nilIface) u) (.bool b) :=
  Ev_eqlO hx rfl h fun w => by cases v <;> simp_all [eqOne, eqGuard]
theorem Ev_neqNil {ms : Array (String × TypeId)} {v : Value} {b : Bool} (hx : Env.ev E x = some v) [hu : UIs P t (.interface ms)] (h : eqOne (.interface ms) v .nilIface = some b) : Ev P W n E H (.binOp .neq t x (.const .nilIface) u) (.bool (!b)) :=
  Ev_neqO hx rfl h fun w => by cases v <;> simp_all [eqOne, eqGuard]
/-- one operand -/
theorem Ev_not {b : Bool} (hx : Env.ev E x = some (.bool b)) : Ev P W n E H (.unOp .not t x) (.bool (!b)) := Ev.mk fun o ho a w p _ => by simp [execOp, ho, p.ev hx, Op.unary]
theorem Ev_notD {q : Prop} [Decidable q] (hx : Env.ev E x = some (.bool (decide q))) : Ev P W n E H (.unOp .not t x) (.bool (decide (¬ q))) := by
  have e : (!decide q) = decide (¬ q) := by by_cases h : q <;> simp [h]
  rw [← e]
  exact Ev_not hx
theorem Ev_neg {k : IntKind} {i : Int} (hx : Env.ev E x = some (.int k i)) : Ev P W n E H (.unOp .neg t x) (.int k (k.wrap (0 - i))) := Ev.mk fun o ho a w p _ => by simp [execOp, ho, p.ev hx, Op.unary, Op.intArith]
/-- conversions -/
theorem Ev_convI {s d : TypeId} {ks kd : IntKind} {k : IntKind} {i : Int} (hx : Env.ev E x = some (.int k i)) [hs : UIs P s (.int ks)] [hd : UIs P d (.int kd)] : Ev P W n E H (.convert s d x) (.int kd (kd.wrap i)) :=
  Ev.mk fun o ho a w p _ => by simp [execOp, ho, p.ev hx, convert, run_underlying hs.h, run_underlying hd.h, Conv.intToInt]
theorem Ev_convI64 {s d : TypeId} {ks k : IntKind} {i : Int} (hx : Env.ev E x = some (.int k i)) [hs : UIs P s (.int ks)] [hd : UIs P d (.int .i64)] (hb : -9223372036854775808 ≤ i ∧ i ≤ 9223372036854775807) : Ev P W n E H (.convert s d x) (.int .i64 i) :=
  Ev.mk fun o ho a w p _ => by simp [execOp, ho, p.ev hx, convert, run_underlying hs.h, run_underlying hd.h, Conv.intToInt, i64_in i hb]
theorem Ev_convS {s d : TypeId} {b : ByteArray} (hx : Env.ev E x = some (.string b)) [hs : UIs P s .string] [hd : UIs P d .string] : Ev P W n E H (.convert s d x) (.string b) :=
  Ev.mk fun o ho a w p _ => by simp [execOp, ho, p.ev hx, convert, run_underlying hs.h, run_underlying hd.h]
/-- parts of values -/
theorem Ev_extract {vs : Array Value} {i : Nat} {v : Value} (hx : Env.ev E x = some (.tuple vs)) (hv : vs[i]? = some v) : Ev P W n E H (.extract x i) v :=
  Ev.mk fun o ho a w p _ => by simp [execOp, ho, p.ev hx, Instr.extract, hv]
theorem Ev_len_str {l : List UInt8} (hx : Env.ev E x = some (strV l)) [hu : UIs P t .string] : Ev P W n E H (.call { callee := .builtin .len, args := #[x], argTypes := #[t] }) (.int .i64 l.length) :=
  Ev.mk fun o ho a w p _ => by simp [execOp, ho, resolve, invoke, builtin, p.ev hx, Builtin.len_, run_underlying hu.h, goInt]; rfl
theorem Ev_len_slice {e : TypeId} {ad : Option Addr} {m c : Nat} (hx : Env.ev E x = some (.slice ad m c)) [hu : UIs P t (.slice e)] : Ev P W n E H (.call { callee := .builtin .len, args := #[x], argTypes := #[t] }) (.int .i64 m) :=
  Ev.mk fun o ho a w p _ => by simp [execOp, ho, resolve, invoke, builtin, p.ev hx, Builtin.len_, run_underlying hu.h, goInt]
theorem Ev_len_arr {e : TypeId} {v : Value} {m : Nat} (hx : Env.ev E x = some v) [hu : UIs P t (.array m e)] : Ev P W n E H (.call { callee := .builtin .len, args := #[x], argTypes := #[t] }) (.int .i64 m) :=
  Ev.mk fun o ho a w p _ => by simp [execOp, ho, resolve, invoke, builtin, p.ev hx, Builtin.len_, run_underlying hu.h, goInt]
theorem Ev_len_map {k e : TypeId} {r : Nat} {es : Array MapEntry} {clock : Nat} (hx : Env.ev E x = some (.map (some r))) [hu : UIs P t (.map k e)] (hs : Sel (objP r (.map es clock)) H R) : Ev P W n E H (.call { callee := .builtin .len, args := #[x], argTypes := #[t] }) (.int .i64 es.size) :=
  Ev.mk fun o ho a w p q => by simp [execOp, ho, resolve, invoke, builtin, p.ev hx, Builtin.len_, run_underlying hu.h, goInt, Go.getObj, Sem.run, (q.obj hs).2, Result.andThen]
theorem Ev_min {k : IntKind} {i j : Int} {ts : Array TypeId} (hx : Env.ev E x = some (.int k i)) (hy : Env.ev E y = some (.int k j)) : Ev P W n E H (.call { callee := .builtin .min, args := #[x, y], argTypes := ts }) (.int k (min i j)) :=
  Ev.mk fun o ho a w p _ => by
    have : (if j < i then j else i) = min i j := by split <;> omega
    simp [execOp, ho, resolve, invoke, builtin, p.ev hx, p.ev hy, Builtin.min_, Builtin.min2, this]
theorem Ev_max {k : IntKind} {i j : Int} {ts : Array TypeId} (hx : Env.ev E x = some (.int k i)) (hy : Env.ev E y = some (.int k j)) : Ev P W n E H (.call { callee := .builtin .max, args := #[x, y], argTypes := ts }) (.int k (max i j)) :=
  Ev.mk fun o ho a w p _ => by
    have : (if j > i then j else i) = max i j := by split <;> omega
    simp [execOp, ho, resolve, invoke, builtin, p.ev hx, p.ev hy, Builtin.max_, Builtin.max2, this]
def notIface : TypeDesc → Bool
  | .interface _ => false
  | _ => true
theorem Ev_makeIface {d : TypeDesc} {v : Value} (hx : Env.ev E x = some v) [hu : UIs P t d] (hd : notIface d = true) : Ev P W n E H (.makeInterface t x) (.iface t v) :=
  Ev.mk fun o ho a w p _ => by cases d <;> simp_all [notIface, execOp, p.ev hx, Instr.makeInterface, run_underlying hu.h]
end
end Go.Proofs.Ytmlnegmabfnaaaa
