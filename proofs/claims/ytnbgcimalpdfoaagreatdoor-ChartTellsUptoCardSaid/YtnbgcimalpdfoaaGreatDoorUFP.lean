/-
  ChD3.
-/
import Derived.Test.YtnbgcimalpdfoaaGreatDoorUFL
import Derived.Test.YtnbgcimalpdfoaaGreatDoorUEV
import Derived.Test.YtnbgcimalpdfoaaGreatDoorUFO
import Derived.Test.YtnbgcimalpdfoaaGreatDoorUFE
import Derived.Test.YtnbgcimalpdfoaaGreatDoorUFH
set_option maxHeartbeats 64000000
namespace Go.Proofs.YtnbgcimalpdfoaaGreatDoor
open Go Go.RowKit
instance stPart:StIs Tryz.prog 94:=⟨by kernel_rfl,by kernel_rfl⟩
theorem kq_eqF (x y:KPt) {fs:Array Field} (hu:Tryz.prog.underlying 94=some (.struct fs)):EqF Tryz.prog (kqC x) (kqC y) fs.toList (decide (x=y)):=by
 have e:=Tryz.underlying94.symm.trans hu
 simp only [Option.some.injEq,TypeDesc.struct.injEq] at e
 subst e
 have e2:decide (x=y)=(decide (x.num=y.num) && (decide (x.n=y.n) && (decide (x.s=y.s) && true))):=by
  rw [Bool.eq_iff_iff]
  cases x;cases y
  simp
 rw [e2]
 refine EqF.cons rfl inferInstance rfl rfl ?_ (EqF.cons rfl inferInstance rfl rfl ?_ (EqF.cons rfl inferInstance rfl rfl ?_ EqF.nil))
 all_goals (unfold cellEq;simp)
theorem acctsD_next {L:Rows} {i:Nat} {p:List UInt8 × List UInt8} (h:L[i]? = some p):acctsD (L.take (i+1))=acctsD (L.take i)++(accD p).toList:=by
 unfold acctsD
 rw [List.take_add_one,h,List.filterMap_append]
 cases hp:accD p <;> simp [hp]
theorem acctsD_len (L:Rows) (i:Nat):(acctsD (L.take i)).length≤i:=by
 unfold acctsD
 exact Nat.le_trans (List.length_filterMap_le _ _) (by rw [List.length_take];omega)
end Go.Proofs.YtnbgcimalpdfoaaGreatDoor
