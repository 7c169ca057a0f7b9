/-
  SlX, Open14, TxH1, TxS1.
-/
import Derived.Test.YtnkhohfbijkohaaGreatDoorTFA
import Derived.Laws.OwnMore
import Derived.Test.YtnkhohfbijkohaaGreatDoorTBD
import Derived.Test.YtnkhohfbijkohaaGreatDoorTEU
import Derived.Test.YtnkhohfbijkohaaGreatDoorTEV
import Derived.Test.YtnkhohfbijkohaaGreatDoorTEZ
import Derived.Test.YtnkhohfbijkohaaGreatDoorTCQ
import Derived.Test.YtnkhohfbijkohaaGreatDoorTBY
import Derived.Test.YtnkhohfbijkohaaGreatDoorTFN
set_option maxHeartbeats 64000000
namespace Go.Proofs.YtnkhohfbijkohaaGreatDoor
open Go Go.RowKit
section
variable {P:Program} {W:World} {n d:Nat} {E:Env} {H H' R:List SP} {k:KK} {t u e:TypeId} {x y z:Operand} {α:Type} {enc:α→List Value} {sz:Nat}
structure SlOk (a:Option Addr) (c n:Nat):Prop where
 nil:a=none→c=0
 le:n≤c
theorem SlOk.zero:SlOk none 0 0:=⟨fun _=>rfl,Nat.le_refl _⟩
theorem SlOk.some {g:Addr} {c n:Nat} (h:n≤c):SlOk (some g) c n:=⟨fun e=>(by cases e),h⟩
end
end Go.Proofs.YtnkhohfbijkohaaGreatDoor
namespace Go.Proofs.YtnkhohfbijkohaaGreatDoor
open Go Go.RowKit Go.ChangeShapes Go.WideShapes Go.Deep
theorem cellsStr14:Tryz.prog.cellsOf 9=1:=by kernel_rfl
theorem i64_both14 {n:Int} (h:(Lit.int .i64 n).wf=true):-9223372036854775808≤n∧n≤9223372036854775807:=by
 have h':(decide (-9223372036854775808≤n) && decide (n≤9223372036854775807))=true:=h
 simpa only [Bool.and_eq_true,decide_eq_true_eq] using h'
end Go.Proofs.YtnkhohfbijkohaaGreatDoor
namespace Go.Proofs.YtnkhohfbijkohaaGreatDoor
open Go Go.RowKit
instance st_row14:StIs Tryz.prog 96:=⟨by kernel_rfl,by kernel_rfl⟩
theorem row14_eqF (x y:List UInt8 × List UInt8) {fs:Array Field} (hu:Tryz.prog.underlying 96=some (.struct fs)):EqF Tryz.prog (rC x) (rC y) fs.toList (decide (x=y)):=by
 have e:=Tryz.underlying96.symm.trans hu
 simp only [Option.some.injEq,TypeDesc.struct.injEq] at e
 subst e
 have e2:decide (x=y)=(decide (x.1=y.1) && (decide (x.2=y.2) && true)):=by
  rw [Bool.eq_iff_iff]
  cases x;cases y
  simp
 rw [e2]
 refine EqF.cons rfl inferInstance rfl rfl ?_ (EqF.cons rfl inferInstance rfl rfl ?_ EqF.nil)
 all_goals (unfold cellEq;simp)
end Go.Proofs.YtnkhohfbijkohaaGreatDoor
namespace Go.Proofs.YtnkhohfbijkohaaGreatDoor
open Go Go.RowKit
theorem Ct.noP14 {P:Program} {W:World} {f:FuncId} {args:List Value} {X:Type} {r:X→Value} (h:Ct P W f args [noP,noP] r (fun _=>[noP,noP])):Ct P W f args [] r (fun _=>[]):=
 ⟨fun R w s=>(h.go R w ((s.mono noP_star).mono noP_star)).mono fun _ _ ⟨x,he,hs⟩=>⟨x,he,hs.right (A:=[noP,noP])⟩⟩
theorem Lv.all {W:World} {α:Type} {enc:α→List Value} {sz key:Nat} {A:SP} {L L':List SP} {a:Option Addr} {l:List α} (h:Lv W enc sz A a l) (hx:Sel A L L'):Lv W enc sz (allP key L) a l:=
 ⟨fun w _ R hs s hne=>h.go w (L++R) (L'++R) (hx.app R) ((s.perm hs.perm).mono (fun _ q=>all_open q)) hne⟩
end Go.Proofs.YtnkhohfbijkohaaGreatDoor
