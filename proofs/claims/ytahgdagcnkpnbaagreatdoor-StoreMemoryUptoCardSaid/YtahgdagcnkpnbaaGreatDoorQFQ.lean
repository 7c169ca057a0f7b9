/-
  SlX, Open14, TxH1, TxS1.
-/
import Derived.Test.YtahgdagcnkpnbaaGreatDoorQFA
import Derived.Laws.OwnMore
import Derived.Test.YtahgdagcnkpnbaaGreatDoorQBD
import Derived.Test.YtahgdagcnkpnbaaGreatDoorQEU
import Derived.Test.YtahgdagcnkpnbaaGreatDoorQEV
import Derived.Test.YtahgdagcnkpnbaaGreatDoorQEZ
import Derived.Test.YtahgdagcnkpnbaaGreatDoorQCP
import Derived.Test.YtahgdagcnkpnbaaGreatDoorQBY
import Derived.Test.YtahgdagcnkpnbaaGreatDoorQFP
set_option maxHeartbeats 64000000
namespace Go.Proofs.YtahgdagcnkpnbaaGreatDoor
open Go Go.RowKit
section
variable {P:Program} {W:World} {n d:Nat} {E:Env} {H H' R:List SP} {k:KK} {t u e:TypeId} {x y z:Operand} {α:Type} {enc:α→List Value} {sz:Nat}
theorem Ev_sliceToB {a:Option Addr} {j m c s:Nat} {kj:IntKind} (hx:Env.ev E x=some (.slice a m c)) (hz:Env.ev E z=some (.int kj ((j:Nat):Int))) [hu:UIs P t (.slice e)] [hi:SzIs P e s] (ha:a=none→c=0) (hb:j≤c):Ev P W n E H (.slice t x none (some z) none) (.slice a j c):=
 Ev.mk fun o ho ac w p _=>by
  have hi:=hi.h
  cases hq:P.info? e with
  |none=>simp [hq] at hi
  |some q=>
   cases a with
   |none=>
    have:=ha rfl
    have h2:j=0:=by omega
    subst this h2
    simp [execOp,ho,p.ev hx,p.ev hz,Instr.sliceAt,Instr.slice,run_underlying hu.h,Instr.sliceBounds,Instr.sliceBound,asIntOf,sizeOf,typeInfo,hq,Result.andThen]
   |some A=>
    simp [execOp,ho,p.ev hx,p.ev hz,Instr.sliceAt,Instr.slice,run_underlying hu.h,Instr.sliceBounds,Instr.sliceBound,asIntOf,hb,sizeOf,typeInfo,hq,Addr.add]
structure SlOk (a:Option Addr) (c n:Nat):Prop where
 nil:a=none→c=0
 le:n≤c
theorem SlOk.zero:SlOk none 0 0:=⟨fun _=>rfl,Nat.le_refl _⟩
theorem SlOk.some {g:Addr} {c n:Nat} (h:n≤c):SlOk (some g) c n:=⟨fun e=>(by cases e),h⟩
theorem KJ.slOk {a:Option Addr} {c m:Nat} {l:List α} (hsel:Sel (lsP enc e sz (.slice a m c) l) H R) (h:SlOk a c l.length→KJ W n k E H):KJ W n k E H:=
 ⟨fun ac w q s=>by
  rcases (s.row (hsel.app _)).2 with ⟨hv,h0⟩|⟨g,cap,cur,hv,_,_,h1,_⟩
  ·cases hv
   rw [h0] at h
   exact (h SlOk.zero).go ac w q s
  ·cases hv
   exact (h (SlOk.some h1)).go ac w q s⟩
end
end Go.Proofs.YtahgdagcnkpnbaaGreatDoor
namespace Go.Proofs.YtahgdagcnkpnbaaGreatDoor
open Go Go.RowKit Go.ChangeShapes Go.WideShapes Go.Deep
theorem cellsStr14:Tryz.prog.cellsOf 9=1:=by kernel_rfl
end Go.Proofs.YtahgdagcnkpnbaaGreatDoor
namespace Go.Proofs.YtahgdagcnkpnbaaGreatDoor
open Go Go.RowKit
instance st_row14:StIs Tryz.prog 51:=⟨by kernel_rfl,by kernel_rfl⟩
instance st_op14:StIs Tryz.prog 43:=⟨by kernel_rfl,by kernel_rfl⟩
theorem row14_eqF (x y:List UInt8 × List UInt8) {fs:Array Field} (hu:Tryz.prog.underlying 51=some (.struct fs)):EqF Tryz.prog (rC x) (rC y) fs.toList (decide (x=y)):=by
 have e:=Tryz.underlying51.symm.trans hu
 simp only [Option.some.injEq,TypeDesc.struct.injEq] at e
 subst e
 have e2:decide (x=y)=(decide (x.1=y.1) && (decide (x.2=y.2) && true)):=by
  rw [Bool.eq_iff_iff]
  cases x;cases y
  simp
 rw [e2]
 refine EqF.cons rfl inferInstance rfl rfl ?_ (EqF.cons rfl inferInstance rfl rfl ?_ EqF.nil)
 all_goals (unfold cellEq;simp)
theorem op14_eqF (x y:BOp) {fs:Array Field} (hu:Tryz.prog.underlying 43=some (.struct fs)):EqF Tryz.prog (opC x) (opC y) fs.toList (decide (x=y)):=by
 have e:=Tryz.underlying43.symm.trans hu
 simp only [Option.some.injEq,TypeDesc.struct.injEq] at e
 subst e
 have e2:decide (x=y)=(decide (x.del=y.del) && (decide (x.key=y.key) && (decide (x.val=y.val) && true))):=by
  rw [Bool.eq_iff_iff]
  cases x;cases y
  simp
 rw [e2]
 refine EqF.cons rfl inferInstance rfl rfl ?_ (EqF.cons rfl inferInstance rfl rfl ?_ (EqF.cons rfl inferInstance rfl rfl ?_ EqF.nil))
 all_goals (unfold cellEq;simp)
end Go.Proofs.YtahgdagcnkpnbaaGreatDoor
namespace Go.Proofs.YtahgdagcnkpnbaaGreatDoor
open Go Go.RowKit
theorem Ev_eqlFn14 {P:Program} {W:World} {n:Nat} {E:Env} {H:List SP} {t u:TypeId} {x y:Operand} {f:Fn} {us vs:Array Value} {ps rs:Array TypeId} {vr:Bool} (hx:Env.ev E x=some (.func f us vs)) (hy:Env.ev E y=some .nilFunc) [hu:UIs P t (.func ps rs vr)]:Ev P W n E H (.binOp .eql t x y u) (.bool false):=by
 refine Ev_bin hx hy (fun w=>?_) (fun w=>?_)
 ·cases x <;> cases y <;> simp [eqGuard]
 ·have e:(Op.equal t (.func f us vs) .nilFunc).run P w=.ok false w:=by
   unfold Op.equal Op.maxDepth
   have key:∀ m,(Op.equalIn (m+1) t (.func f us vs) .nilFunc).run P w=.ok false w:=by
    intro m
    simp [Op.equalIn,run_underlying hu.h]
   exact key 9999
  simp [binOp,e,Result.andThen]
theorem Ct.noP14 {P:Program} {W:World} {f:FuncId} {args:List Value} {X:Type} {r:X→Value} (h:Ct P W f args [noP,noP] r (fun _=>[noP,noP])):Ct P W f args [] r (fun _=>[]):=
 ⟨fun R w s=>(h.go R w ((s.mono noP_star).mono noP_star)).mono fun _ _ ⟨x,he,hs⟩=>⟨x,he,hs.right (A:=[noP,noP])⟩⟩
theorem Lv.all {W:World} {α:Type} {enc:α→List Value} {sz key:Nat} {A:SP} {L L':List SP} {a:Option Addr} {l:List α} (h:Lv W enc sz A a l) (hx:Sel A L L'):Lv W enc sz (allP key L) a l:=
 ⟨fun w _ R hs s hne=>h.go w (L++R) (L'++R) (hx.app R) ((s.perm hs.perm).mono (fun _ q=>all_open q)) hne⟩
end Go.Proofs.YtahgdagcnkpnbaaGreatDoor
