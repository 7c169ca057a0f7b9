/-
  Short terms.
-/
import Derived.KernelRfl
import Derived.WalkKit
import Derived.Deep.MidRow
import Derived.Deep.Quiet
import Derived.OrdersIn
import Derived.TacticsIn
import Derived.RangeFuncRecord
namespace Go.Proofs.YtoipmnikdiogcaaGreatDoor
open Go Go.RowKit
theorem zO {P:Prop} (h:P:=by omega):P:=h
theorem zK {P:Prop} (h:P:=by kernel_rfl):P:=h
theorem zX {P:Prop} (h:P:=by decide):P:=h
theorem zW {P:Prop} (h:P:=by simp):P:=h
theorem zY {p:Prop} [Decidable p] (h:p):decide p=true:=decide_eq_true h
theorem zZ {p:Prop} [Decidable p] (h:¬p):decide p=false:=decide_eq_false h
abbrev zLb:=@List.getElem?_eq_getElem
abbrev zLh:=@Array.getElem?_eq_some_iff
abbrev zLx:=@Array.getElem?_setIfInBounds_ne
abbrev zLC:=@List.getElem?_drop
abbrev zLc:=@List.getElem?_eq_some_iff
abbrev zLg:=@List.length_take
abbrev zLi:=@List.take_of_length_le
abbrev zLj:=@List.length_cons
abbrev zLn:=@List.getElem?_append_right
abbrev zLp:=@List.getElem?_append_left
abbrev zLq:=@Nat.zero_add
abbrev zLr:=@List.flatMap_cons
abbrev zLs:=@List.append_nil
abbrev zLz:=@Nat.add_zero
abbrev zLA:=@Nat.zero_le
abbrev zLB:=@List.length_replicate
abbrev zLH:=@Nat.succ_mul
abbrev zLd:=@List.append_assoc
abbrev zLm:=@List.mem_cons
abbrev zLw:=@Bool.and_eq_true
abbrev zLa:=@List.length_append
abbrev zLk:=@List.mem_of_getElem?
abbrev zLo:=@List.drop_zero
abbrev zLE:=@List.getElem?_map
abbrev zLl:=@List.drop_of_length_le
abbrev zLD:=@List.length_map
abbrev zLG:=@List.drop_append
abbrev zLe:=@Int.toNat_natCast
abbrev zLf:=@List.length_drop
abbrev zLt:=@Nat.mul_le_mul_right
abbrev zLv:=@List.length_pos_iff
abbrev zLy:=@UInt8.toNat_lt
abbrev zLF:=@List.take_append
abbrev zLu:=@List.take_append_drop
theorem zA {P:Prop} (h:P:=by with_reducible assumption):P:=h
theorem zF {G:Prop} (h:False:=by omega):G:=h.elim
abbrev zB:=List UInt8
theorem zor {p:Prop} (h:p:=by first|exact Or.inl rfl|exact Or.inr rfl):p:=h
abbrev zq (b:Nat):Option Addr:=some ⟨b,0,none⟩
abbrev zi (x:Int):Value:=.int .i64 x
end Go.Proofs.YtoipmnikdiogcaaGreatDoor
