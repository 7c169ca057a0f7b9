/-
  Kinds.
-/
import Derived.Test.YtmlnegmabfnaaaaBAJ
/-
  Guards of the walk: each lets by just one form of goal.
-/
namespace Go.Proofs.Ytmlnegmabfnaaaa
open Go Go.RowKit
section
variable {P : Program} {W : World} {n : Nat} {ops : Array Oper} {q : QQ} {E : Env} {H R : List SP} {l : List Oper} {k : KK} {d : Option Tmp} {v : Value}
theorem is_list (h : KJ W n (.list P ops q l) E H) : KJ W n (.list P ops q l) E H := h
theorem is_oper {op : Op} (h : KJ W n (.oper P op d k) E H) : KJ W n (.oper P op d k) E H := h
theorem is_code {c : Code} (h : KJ W n (.code P c q) E H) : KJ W n (.code P c q) E H := h
theorem is_ex {e : Exit} (h : KJ W n (.ex q e) E H) : KJ W n (.ex q e) E H := h
theorem is_fw {p : Pl} (h : FW P W n ops k p E H) : FW P W n ops k p E H := h
theorem is_fo {o : Oper} {p : Pl} (h : FO P W n ops k o p E H) : FO P W n ops k o p E H := h
theorem is_ro {o : Oper} {U : List Nat} (h : RO P W n ops o U E H) : RO P W n ops o U E H := h
/-- the operation yields a value of which C holds -/
structure EK (P : Program) (W : World) (n : Nat) (E : Env) (H : List SP) (op : Op) (C : Value → Prop) : Prop where
  go : ∃ v, Ev P W n E H op v ∧ C v
theorem EK_ev {op : Op} {C : Value → Prop} {v : Value} (he : Ev P W n E H op v) (h : C v) : EK P W n E H op C := ⟨⟨v, he, h⟩⟩
theorem KJ_ek {op : Op} {d : Nat} (hn : Nat.blt d n = true) (h : EK P W n E H op fun v => KJ W n k ((d, v) :: E) H) : KJ W n (.oper P op (some d) k) E H := by
  obtain ⟨v, he, h⟩ := h.go
  exact KJ_ev he hn h
theorem KJ_ek0 {op : Op} (h : EK P W n E H op fun _ => KJ W n k E H) : KJ W n (.oper P op none k) E H := by
  obtain ⟨v, he, h⟩ := h.go
  exact KJ_ev0 he h
section
variable {op : Op} {d : Nat} {ty : TypeId} {pos : String} {af : Array Edge} {p : Pl} {U : List Nat} {j t : Nat} {b : Bool}
theorem FO_ek (hn : Nat.blt d n = true) (h : EK P W n E H op fun v => FW P W n ops k p ((d, v) :: E) H) : FO P W n ops k ⟨some d, op, ty, pos, af, none⟩ p E H := by
  obtain ⟨v, he, h⟩ := h.go
  exact FO_op he hn h
theorem FO_ekg (hj : (ops[j]?).bind (·.dst) = some t) (ht : Env.at E t = some (.bool b)) (hn : Nat.blt d n = true) (h : EK P W n E H op fun v => FW P W n ops k p ((d, v) :: E) H) : FO P W n ops k ⟨some d, op, ty, pos, af, some (j, b)⟩ p E H := by
  obtain ⟨v, he, h⟩ := h.go
  exact FO_yes hj ht he hn h
/-- the value found again in the slots -/
def AtR (P : Program) (W : World) (n : Nat) (ops : Array Oper) (E : Env) (H : List SP) (U : List Nat) (d : Nat) (v : Value) : Prop := Env.at E d = some v ∧ Rech P W n ops E H U
theorem AtR_mk {v : Value} (h1 : Env.at E d = some v) (h2 : Rech P W n ops E H U) : AtR P W n ops E H U d v := ⟨h1, h2⟩
theorem RO_ek (h : EK P W n E H op (AtR P W n ops E H U d)) : RO P W n ops ⟨some d, op, ty, pos, af, none⟩ U E H := by
  obtain ⟨v, he, h⟩ := h.go
  exact RO_op h.1 he h.2
theorem RO_ekg (hj : (ops[j]?).bind (·.dst) = some t) (ht : Env.at E t = some (.bool b)) (h : EK P W n E H op (AtR P W n ops E H U d)) : RO P W n ops ⟨some d, op, ty, pos, af, some (j, b)⟩ U E H := by
  obtain ⟨v, he, h⟩ := h.go
  exact RO_yes h.1 hj ht he h.2
end
theorem is_ek {op : Op} {C : Value → Prop} (h : EK P W n E H op C) : EK P W n E H op C := h
theorem ek_move {x : Operand} {C : Value → Prop} (h : EK P W n E H (.move x) C) : EK P W n E H (.move x) C := h
theorem ek_assign {x : Operand} {C : Value → Prop} (h : EK P W n E H (.assign x) C) : EK P W n E H (.assign x) C := h
theorem ek_pick {c x y : Operand} {C : Value → Prop} (h : EK P W n E H (.pick c x y) C) : EK P W n E H (.pick c x y) C := h
theorem ek_nilCheck {x : Operand} {C : Value → Prop} (h : EK P W n E H (.nilCheck x) C) : EK P W n E H (.nilCheck x) C := h
theorem ek_fieldAddr {t : TypeId} {x : Operand} {f : Nat} {C : Value → Prop} (h : EK P W n E H (.fieldAddr t x f) C) : EK P W n E H (.fieldAddr t x f) C := h
theorem ek_load {t : TypeId} {x : Operand} {C : Value → Prop} (h : EK P W n E H (.load t x) C) : EK P W n E H (.load t x) C := h
theorem ek_un {o : UnOp} {t : TypeId} {x : Operand} {C : Value → Prop} (h : EK P W n E H (.unOp o t x) C) : EK P W n E H (.unOp o t x) C := h
theorem ek_conv {s d : TypeId} {x : Operand} {C : Value → Prop} (h : EK P W n E H (.convert s d x) C) : EK P W n E H (.convert s d x) C := h
theorem ek_extract {x : Operand} {i : Nat} {C : Value → Prop} (h : EK P W n E H (.extract x i) C) : EK P W n E H (.extract x i) C := h
theorem ek_indexAddr {t : TypeId} {x y : Operand} {C : Value → Prop} (h : EK P W n E H (.indexAddr t x y) C) : EK P W n E H (.indexAddr t x y) C := h
theorem ek_slice {t : TypeId} {x : Operand} {a b c : Option Operand} {C : Value → Prop} (h : EK P W n E H (.slice t x a b c) C) : EK P W n E H (.slice t x a b c) C := h
theorem ek_field {t : TypeId} {x : Operand} {f : Nat} {C : Value → Prop} (h : EK P W n E H (.field t x f) C) : EK P W n E H (.field t x f) C := h
theorem ek_lookup {t : TypeId} {x y : Operand} {c : Bool} {C : Value → Prop} (h : EK P W n E H (.lookup t x y c) C) : EK P W n E H (.lookup t x y c) C := h
theorem ek_mkIface {t : TypeId} {x : Operand} {C : Value → Prop} (h : EK P W n E H (.makeInterface t x) C) : EK P W n E H (.makeInterface t x) C := h
theorem ek_mkFunc {f : Fn} {a b : Array Operand} {C : Value → Prop} (h : EK P W n E H (.makeFunc f a b) C) : EK P W n E H (.makeFunc f a b) C := h
theorem ek_build {t : TypeId} {ps : Array (Nat × Operand)} {C : Value → Prop} (h : EK P W n E H (.build t ps) C) : EK P W n E H (.build t ps) C := h
theorem ek_len {xs : Array Operand} {ts : Array TypeId} {C : Value → Prop} (h : EK P W n E H (.call { callee := .builtin .len, args := xs, argTypes := ts }) C) : EK P W n E H (.call { callee := .builtin .len, args := xs, argTypes := ts }) C := h
theorem ek_min {xs : Array Operand} {ts : Array TypeId} {C : Value → Prop} (h : EK P W n E H (.call { callee := .builtin .min, args := xs, argTypes := ts }) C) : EK P W n E H (.call { callee := .builtin .min, args := xs, argTypes := ts }) C := h
theorem ek_max {xs : Array Operand} {ts : Array TypeId} {C : Value → Prop} (h : EK P W n E H (.call { callee := .builtin .max, args := xs, argTypes := ts }) C) : EK P W n E H (.call { callee := .builtin .max, args := xs, argTypes := ts }) C := h
theorem ek_add {t u : TypeId} {x y : Operand} {C : Value → Prop} (h : EK P W n E H (.binOp .add t x y u) C) : EK P W n E H (.binOp .add t x y u) C := h
theorem ek_sub {t u : TypeId} {x y : Operand} {C : Value → Prop} (h : EK P W n E H (.binOp .sub t x y u) C) : EK P W n E H (.binOp .sub t x y u) C := h
theorem ek_mul {t u : TypeId} {x y : Operand} {C : Value → Prop} (h : EK P W n E H (.binOp .mul t x y u) C) : EK P W n E H (.binOp .mul t x y u) C := h
theorem ek_quo {t u : TypeId} {x y : Operand} {C : Value → Prop} (h : EK P W n E H (.binOp .quo t x y u) C) : EK P W n E H (.binOp .quo t x y u) C := h
theorem ek_rem {t u : TypeId} {x y : Operand} {C : Value → Prop} (h : EK P W n E H (.binOp .rem t x y u) C) : EK P W n E H (.binOp .rem t x y u) C := h
theorem ek_and {t u : TypeId} {x y : Operand} {C : Value → Prop} (h : EK P W n E H (.binOp .and t x y u) C) : EK P W n E H (.binOp .and t x y u) C := h
theorem ek_shl {t u : TypeId} {x y : Operand} {C : Value → Prop} (h : EK P W n E H (.binOp .shl t x y u) C) : EK P W n E H (.binOp .shl t x y u) C := h
theorem ek_shr {t u : TypeId} {x y : Operand} {C : Value → Prop} (h : EK P W n E H (.binOp .shr t x y u) C) : EK P W n E H (.binOp .shr t x y u) C := h
theorem ek_eql {t u : TypeId} {x y : Operand} {C : Value → Prop} (h : EK P W n E H (.binOp .eql t x y u) C) : EK P W n E H (.binOp .eql t x y u) C := h
theorem ek_neq {t u : TypeId} {x y : Operand} {C : Value → Prop} (h : EK P W n E H (.binOp .neq t x y u) C) : EK P W n E H (.binOp .neq t x y u) C := h
theorem ek_lss {t u : TypeId} {x y : Operand} {C : Value → Prop} (h : EK P W n E H (.binOp .lss t x y u) C) : EK P W n E H (.binOp .lss t x y u) C := h
theorem ek_leq {t u : TypeId} {x y : Operand} {C : Value → Prop} (h : EK P W n E H (.binOp .leq t x y u) C) : EK P W n E H (.binOp .leq t x y u) C := h
theorem ek_gtr {t u : TypeId} {x y : Operand} {C : Value → Prop} (h : EK P W n E H (.binOp .gtr t x y u) C) : EK P W n E H (.binOp .gtr t x y u) C := h
theorem ek_geq {t u : TypeId} {x y : Operand} {C : Value → Prop} (h : EK P W n E H (.binOp .geq t x y u) C) : EK P W n E H (.binOp .geq t x y u) C := h
theorem is_store {t : TypeId} {x y : Operand} {dd : Option Tmp} (h : KJ W n (.oper P (.store t x y) dd k) E H) : KJ W n (.oper P (.store t x y) dd k) E H := h
theorem is_alloc {t : TypeId} {dd : Option Tmp} (h : KJ W n (.oper P (.alloc t) dd k) E H) : KJ W n (.oper P (.alloc t) dd k) E H := h
theorem is_box {t : TypeId} {x : Operand} {dd : Option Tmp} (h : KJ W n (.oper P (.box t x) dd k) E H) : KJ W n (.oper P (.box t x) dd k) E H := h
theorem is_call {f : FuncId} {xs : Array Operand} {ts : Array TypeId} {dd : Option Tmp} (h : KJ W n (.oper P (.call { callee := .value (.func f), args := xs, argTypes := ts }) dd k) E H) : KJ W n (.oper P (.call { callee := .value (.func f), args := xs, argTypes := ts }) dd k) E H := h
theorem is_append {xs : Array Operand} {ts : Array TypeId} {dd : Option Tmp} (h : KJ W n (.oper P (.call { callee := .builtin .append, args := xs, argTypes := ts }) dd k) E H) : KJ W n (.oper P (.call { callee := .builtin .append, args := xs, argTypes := ts }) dd k) E H := h
theorem is_mkMap {t : TypeId} {x : Option Operand} {dd : Option Tmp} (h : KJ W n (.oper P (.makeMap t x) dd k) E H) : KJ W n (.oper P (.makeMap t x) dd k) E H := h
theorem is_bslice {t : TypeId} {m : Nat} {ps : Array (Nat × Operand)} {dd : Option Tmp} (h : KJ W n (.oper P (.buildSlice t m ps) dd k) E H) : KJ W n (.oper P (.buildSlice t m ps) dd k) E H := h
theorem is_mapUpdate {t : TypeId} {x y z : Operand} {dd : Option Tmp} (h : KJ W n (.oper P (.mapUpdate t x y z) dd k) E H) : KJ W n (.oper P (.mapUpdate t x y z) dd k) E H := h
end
end Go.Proofs.Ytmlnegmabfnaaaa
