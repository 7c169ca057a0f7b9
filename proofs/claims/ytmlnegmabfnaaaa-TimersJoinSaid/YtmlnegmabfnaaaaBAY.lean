/-
  Mp3.
-/
import Derived.Test.YtmlnegmabfnaaaaBAX
/-
  More on maps: a look while an entry is held, keys of two cells, forms of the operations on maps.
-/
namespace Go.Proofs.Ytmlnegmabfnaaaa
open Go Go.RowKit Go.MapKept
section
variable {P : Program} {W w : World} {n d : Nat} {E : Env} {H H' R : List SP} {k : KK} {t kt e : TypeId} {x y z : Operand} {dd : Option Tmp}
theorem is_delete {xs : Array Operand} {ts : Array TypeId} (h : KJ W n (.oper P (.call { callee := .builtin .delete, args := xs, argTypes := ts }) dd k) E H) : KJ W n (.oper P (.call { callee := .builtin .delete, args := xs, argTypes := ts }) dd k) E H := h
theorem is_callV {t : Nat} {xs : Array Operand} {ts : Array TypeId} (h : KJ W n (.oper P (.call { callee := .value (.tmp t), args := xs, argTypes := ts }) dd k) E H) : KJ W n (.oper P (.call { callee := .value (.tmp t), args := xs, argTypes := ts }) dd k) E H := h
theorem is_callM {nm : String} {xs : Array Operand} {ts : Array TypeId} (h : KJ W n (.oper P (.call { callee := .invoke x nm, args := xs, argTypes := ts }) dd k) E H) : KJ W n (.oper P (.call { callee := .invoke x nm, args := xs, argTypes := ts }) dd k) E H := h
variable {α β : Type} {kf : α → Value} {vf : β → Value} {b : Nat} {m : List (α × β)} 
variable [DecidableEq α]
end
end Go.Proofs.Ytmlnegmabfnaaaa
