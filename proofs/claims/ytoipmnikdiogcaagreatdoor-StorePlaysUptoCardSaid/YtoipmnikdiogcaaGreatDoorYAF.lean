/-
  Ops, Model, Laws.
-/
import Derived.Test.YtoipmnikdiogcaaGreatDoorYAC
import Derived.WalkKit
import Derived.Deep.MidRow
import Derived.Deep.WholeRow
import Derived.Laws.IdiomStrings
import Derived.Laws.CopyOwn
import Derived.Lib.SlBuf
import Derived.StillTailTactics
import Derived.Maps.AppendAt
import Derived.Laws.AppendOwnNone
set_option maxHeartbeats 64000000
namespace Go.Proofs.YtoipmnikdiogcaaGreatDoor
open Go Go.RowKit
section
variable {P:Program} {W:World} {n:Nat} {E:Env} {H R:List SP} {x y z:Operand} {t u:TypeId}
abbrev strV (l:zB):Value:=.string ⟨l.toArray⟩
theorem yEh {op:BinOp} {v1 v2 v:Value} (hx:Env.ev E x=some v1) (hy:Env.ev E y=some v2) (hg:∀ w,(eqGuard op t x y v1 v2).run P w=.ok () w) (hr:∀ w,(binOp op t v1 v2).run P w=.ok v w):Ev P W n E H (.binOp op t x y u) v:=
 Ev.mk fun o ho a w p _=>by simp [execOp,ho,p.ev hx,p.ev hy,hg w,hr w,Result.andThen]
theorem yJO (op:BinOp) (k k':IntKind) (i j:Int) (w:World):(eqGuard op t x y (.int k i) (.int k' j)).run P w=.ok () w:=by cases op <;> rfl
theorem yDZ {op:BinOp} {k:IntKind} {i j:Int} {v:Value} (hx:Env.ev E x=some (.int k i)) (hy:Env.ev E y=some (.int k j)) (hr:∀ w,(binOp op t (.int k i) (.int k j)).run P w=.ok v w):Ev P W n E H (.binOp op t x y u) v:=
 yEh hx hy (yJO op k k i j) hr
theorem yJP (i:Int) (h:-9223372036854775808≤i∧i≤9223372036854775807):IntKind.i64.wrap i=i:=by
 have:IntKind.i64.wrap i=if i % 18446744073709551616≥9223372036854775808 then i % 18446744073709551616-18446744073709551616 else i % 18446744073709551616:=by simp [IntKind.wrap,IntKind.signed,IntKind.bits]
 rw [this];split <;> omega
theorem yTx {i j:Int} (hx:Env.ev E x=some (zi i)) (hy:Env.ev E y=some (zi j)) (hb:-9223372036854775808≤i+j∧i+j≤9223372036854775807):Ev P W n E H (.binOp .add t x y u) (zi (i+j)):=
 yDZ hx hy fun w=>by simp [binOp,Op.intArith,yJP _ hb]
theorem yTy {i j:Int} (hx:Env.ev E x=some (zi i)) (hy:Env.ev E y=some (zi j)) (hb:-9223372036854775808≤i-j∧i-j≤9223372036854775807):Ev P W n E H (.binOp .sub t x y u) (zi (i-j)):=
 yDZ hx hy fun w=>by simp [binOp,Op.intArith,yJP _ hb]
theorem yTz {i j:Int} (hx:Env.ev E x=some (zi i)) (hy:Env.ev E y=some (zi j)) (hb:-9223372036854775808≤i*j∧i*j≤9223372036854775807):Ev P W n E H (.binOp .mul t x y u) (zi (i*j)):=
 yDZ hx hy fun w=>by simp [binOp,Op.intArith,yJP _ hb]
theorem yYs {k:IntKind} {i j:Int} (hx:Env.ev E x=some (.int k i)) (hy:Env.ev E y=some (.int k j)):Ev P W n E H (.binOp .sub t x y u) (.int k (k.wrap (i-j))):=
 yDZ hx hy fun w=>by simp [binOp,Op.intArith]
theorem yYt {k:IntKind} {i j:Int} (hx:Env.ev E x=some (.int k i)) (hy:Env.ev E y=some (.int k j)):Ev P W n E H (.binOp .mul t x y u) (.int k (k.wrap (i*j))):=
 yDZ hx hy fun w=>by simp [binOp,Op.intArith]
theorem yTA {k:IntKind} {i j:Int} (hx:Env.ev E x=some (.int k i)) (hy:Env.ev E y=some (.int k j)) (hj:j≠0):Ev P W n E H (.binOp .quo t x y u) (.int k (k.wrap (i.tdiv j))):=
 yDZ hx hy fun w=>by simp [binOp,Op.intDiv,hj]
theorem xBc {k:IntKind} {i j:Int} (hx:Env.ev E x=some (.int k i)) (hy:Env.ev E y=some (.int k j)) (hj:j≠0):Ev P W n E H (.binOp .rem t x y u) (.int k (i.tmod j)):=
 yDZ hx hy fun w=>by simp [binOp,Op.intDiv,hj]
theorem yO0 {i j:Int} (hx:Env.ev E x=some (zi i)) (hy:Env.ev E y=some (zi j)) (hb:0≤i∧i≤9223372036854775807∧0<j):Ev P W n E H (.binOp .quo t x y u) (zi (i / j)):=
 yDZ hx hy fun w=>by have h1:i.tdiv j=i / j:=Int.tdiv_eq_ediv_of_nonneg hb.1;have h2:0≤i / j:=Int.ediv_nonneg hb.1 zO;have h3:i / j≤i:=Int.ediv_le_self _ hb.1;simp [binOp,Op.intDiv,show j≠0 by omega,h1,yJP (i / j) zO]
theorem yFX {k:IntKind} {i j:Int} (hx:Env.ev E x=some (.int k i)) (hy:Env.ev E y=some (.int k j)) (hb:0≤i∧0<j):Ev P W n E H (.binOp .rem t x y u) (.int k (i % j)):=
 yDZ hx hy fun w=>by simp [binOp,Op.intDiv,show j≠0 by omega,Int.tmod_eq_emod_of_nonneg hb.1]
theorem yMl {k:IntKind} {i j:Int} (hx:Env.ev E x=some (.int k i)) (hy:Env.ev E y=some (.int k j)):Ev P W n E H (.binOp .eql t x y u) (.bool (decide (i=j))):=
 yDZ hx hy fun w=>by simp [binOp,Op.intCmp];rfl
theorem yMm {k:IntKind} {i j:Int} (hx:Env.ev E x=some (.int k i)) (hy:Env.ev E y=some (.int k j)):Ev P W n E H (.binOp .neq t x y u) (.bool (decide (i≠j))):=
 yDZ hx hy fun w=>by
  have:(i != j)=decide (i≠j):=by by_cases h:i=j <;> simp [h]
  simp [binOp,Op.intCmp,this]
theorem yTB {k:IntKind} {i j:Int} (hx:Env.ev E x=some (.int k i)) (hy:Env.ev E y=some (.int k j)):Ev P W n E H (.binOp .lss t x y u) (.bool (decide (i<j))):=
 yDZ hx hy fun w=>by simp [binOp,Op.intCmp]
theorem yTC {k:IntKind} {i j:Int} (hx:Env.ev E x=some (.int k i)) (hy:Env.ev E y=some (.int k j)):Ev P W n E H (.binOp .leq t x y u) (.bool (decide (i≤j))):=
 yDZ hx hy fun w=>by simp [binOp,Op.intCmp]
theorem yTD {k:IntKind} {i j:Int} (hx:Env.ev E x=some (.int k i)) (hy:Env.ev E y=some (.int k j)):Ev P W n E H (.binOp .gtr t x y u) (.bool (decide (j<i))):=
 yDZ hx hy fun w=>by simp [binOp,Op.intCmp]
theorem yTE {k:IntKind} {i j:Int} (hx:Env.ev E x=some (.int k i)) (hy:Env.ev E y=some (.int k j)):Ev P W n E H (.binOp .geq t x y u) (.bool (decide (j≤i))):=
 yDZ hx hy fun w=>by simp [binOp,Op.intCmp]
theorem yO1 {op:BinOp} {k:IntKind} {i j:Int} {v:Value} (dE:op=.and∨op=.or∨op=.xor∨op=.andNot) (hx:Env.ev E x=some (.int k i)) (hy:Env.ev E y=some (.int k j)) (hr:∀ w,(Op.intBits op k i j).run P w=.ok v w):Ev P W n E H (.binOp op t x y u) v:=
 yDZ hx hy fun w=>by rcases dE with rfl|rfl|rfl|rfl <;> simpa [binOp] using hr w
theorem yTF {k yk:IntKind} {i j:Int} (hx:Env.ev E x=some (.int k i)) (hy:Env.ev E y=some (.int yk j)) (hj:0≤j):Ev P W n E H (.binOp .shl t x y u) (.int k (k.wrap (i*2 ^ (min j.toNat k.bits)))):=
 yEh hx hy (yJO _ _ _ _ _) fun w=>by simp [binOp,Op.shift,show ¬ j<0 by omega]
theorem yTG {k yk:IntKind} {i j:Int} (hx:Env.ev E x=some (.int k i)) (hy:Env.ev E y=some (.int yk j)) (hj:0≤j):Ev P W n E H (.binOp .shr t x y u) (.int k (i.fdiv (2 ^ (min j.toNat k.bits)))):=
 yEh hx hy (yJO _ _ _ _ _) fun w=>by simp [binOp,Op.shift,show ¬ j<0 by omega]
theorem yEi (op:BinOp) (a b:ByteArray) (w:World):(eqGuard op t x y (.string a) (.string b)).run P w=.ok () w:=by cases op <;> rfl
theorem yFk {a b:zB} (hx:Env.ev E x=some (strV a)) (hy:Env.ev E y=some (strV b)) (hb:a.length+b.length≤9223372036854775807):Ev P W n E H (.binOp .add t x y u) (strV (a++b)):=
 yEh hx hy (yEi _ _ _) fun w=>by
  have h1:¬ (((⟨a.toArray⟩:ByteArray).size+(⟨b.toArray⟩:ByteArray).size:Nat):Int)>IntKind.i64.max:=by have:IntKind.i64.max=9223372036854775807:=rfl;rw [this];simp [ByteArray.size];omega
  have h2:(⟨a.toArray⟩:ByteArray)++⟨b.toArray⟩=⟨(a++b).toArray⟩:=by apply ByteArray.ext;simp
  simp only [binOp,Op.stringOp];rw [if_neg h1,h2];rfl
theorem yO2 {a b:zB} (hx:Env.ev E x=some (strV a)) (hy:Env.ev E y=some (strV b)):Ev P W n E H (.binOp .eql t x y u) (.bool (decide (a=b))):=
 yEh hx hy (yEi _ _ _) fun w=>by
  have:(a == b)=decide (a=b):=by by_cases h:a=b <;> simp [h]
  simp [binOp,Op.stringOp,this]
theorem yMn {a b:zB} (hx:Env.ev E x=some (strV a)) (hy:Env.ev E y=some (strV b)):Ev P W n E H (.binOp .neq t x y u) (.bool (decide (a≠b))):=
 yEh hx hy (yEi _ _ _) fun w=>by
  have:(!(a == b))=decide (a≠b):=by by_cases h:a=b <;> simp [h]
  simp [binOp,Op.stringOp,this]
theorem yTH {a b:zB} (hx:Env.ev E x=some (strV a)) (hy:Env.ev E y=some (strV b)):Ev P W n E H (.binOp .lss t x y u) (.bool (Op.bytesLess a b)):=
 yEh hx hy (yEi _ _ _) fun w=>by simp [binOp,Op.stringOp]
theorem yTI {a b:zB} (hx:Env.ev E x=some (strV a)) (hy:Env.ev E y=some (strV b)):Ev P W n E H (.binOp .gtr t x y u) (.bool (!(Op.bytesLess a b || decide (a=b)))):=
 yEh hx hy (yEi _ _ _) fun w=>by
  have:(a == b)=decide (a=b):=by by_cases h:a=b <;> simp [h]
  simp [binOp,Op.stringOp,this]
theorem yTJ {a b:zB} (hx:Env.ev E x=some (strV a)) (hy:Env.ev E y=some (strV b)):Ev P W n E H (.binOp .geq t x y u) (.bool (!Op.bytesLess a b)):=
 yEh hx hy (yEi _ _ _) fun w=>by simp [binOp,Op.stringOp]
theorem yTK {a b:zB} (hx:Env.ev E x=some (strV a)) (hy:Env.ev E y=some (strV b)):Ev P W n E H (.binOp .leq t x y u) (.bool (Op.bytesLess a b || decide (a=b))):=
 yEh hx hy (yEi _ _ _) fun w=>by
  have:(a == b)=decide (a=b):=by by_cases h:a=b <;> simp [h]
  simp [binOp,Op.stringOp,this]
def yJQ:TypeDesc→Value→Value→Option Bool
 |.bool,.bool a,.bool b=>some (a == b)
 |.pointer _,.pointer none,.pointer b=>some b.isNone
 |.pointer _,.pointer (some _),.pointer none=>some false
 |.interface _,.nilIface,.nilIface=>some true
 |.interface _,.nilIface,.iface _ _=>some false
 |.interface _,.iface _ _,.nilIface=>some false
 |.slice _,.slice none _ _,.slice b _ _=>some b.isNone
 |.slice _,.slice (some _) _ _,.slice none _ _=>some false
 |.map _ _,.map none,.map b=>some b.isNone
 |.map _ _,.map (some _),.map none=>some false
 |.func _ _ _,.nilFunc,.nilFunc=>some true
 |_,_,_=>none
theorem yNv {d:TypeDesc} {v1 v2:Value} {b:Bool} (hu:P.underlying t=some d) (h:yJQ d v1 v2=some b) (w:World):(Op.equal t v1 v2).run P w=.ok b w:=by
 unfold Op.equal Op.maxDepth;have key:∀ m,(Op.equalIn (m+1) t v1 v2).run P w=.ok b w:=by
  intro m;unfold yJQ at h;split at h <;> first
   |(cases h;simp [Op.equalIn,run_underlying hu];done)
   |(simp at h;subst h;simp [Op.equalIn,run_underlying hu];done)
   |(cases h)
 exact key 9999
theorem yO3 {d:TypeDesc} {v1 v2:Value} {b:Bool} (hx:Env.ev E x=some v1) (hy:Env.ev E y=some v2) [hu:UIs P t d] (h:yJQ d v1 v2=some b) (hg:∀ w,(eqGuard .eql t x y v1 v2).run P w=.ok () w):Ev P W n E H (.binOp .eql t x y u) (.bool b):=
 yEh hx hy hg fun w=>by have e:=yNv hu.h h w;unfold yJQ at h;split at h <;> simp_all [binOp,Result.andThen]
theorem yO4 {d:TypeDesc} {v1 v2:Value} {b:Bool} (hx:Env.ev E x=some v1) (hy:Env.ev E y=some v2) [hu:UIs P t d] (h:yJQ d v1 v2=some b) (hg:∀ w,(eqGuard .neq t x y v1 v2).run P w=.ok () w):Ev P W n E H (.binOp .neq t x y u) (.bool (!b)):=
 yEh hx hy hg fun w=>by have e:=yNv hu.h h w;unfold yJQ at h;split at h <;> simp_all [binOp,Result.andThen]
theorem yJR {ms:Array (String × TypeId)} {v:Value} {b:Bool} (hx:Env.ev E x=some v) [hu:UIs P t (.interface ms)] (h:yJQ (.interface ms) v .nilIface=some b):Ev P W n E H (.binOp .eql t x (.const .nilIface) u) (.bool b):=
 yO3 hx rfl h fun w=>by cases v <;> simp_all [yJQ,eqGuard]
theorem yBZ {ms:Array (String × TypeId)} {v:Value} {b:Bool} (hx:Env.ev E x=some v) [hu:UIs P t (.interface ms)] (h:yJQ (.interface ms) v .nilIface=some b):Ev P W n E H (.binOp .neq t x (.const .nilIface) u) (.bool (!b)):=
 yO4 hx rfl h fun w=>by cases v <;> simp_all [yJQ,eqGuard]
theorem yYu {b:Bool} (hx:Env.ev E x=some (.bool b)):Ev P W n E H (.unOp .not t x) (.bool (!b)):=Ev.mk fun o ho a w p _=>by simp [execOp,ho,p.ev hx,Op.unary]
theorem yZo {q:Prop} [Decidable q] (hx:Env.ev E x=some (.bool (decide q))):Ev P W n E H (.unOp .not t x) (.bool (decide (¬ q))):=by
 have e:(!decide q)=decide (¬ q):=by by_cases h:q <;> simp [h]
 rw [← e];exact yYu hx
theorem xBd {k:IntKind} {i:Int} (hx:Env.ev E x=some (.int k i)):Ev P W n E H (.unOp .neg t x) (.int k (k.wrap (0-i))):=Ev.mk fun o ho a w p _=>by simp [execOp,ho,p.ev hx,Op.unary,Op.intArith]
theorem yQr {s d:TypeId} {ks kd:IntKind} {k:IntKind} {i:Int} (hx:Env.ev E x=some (.int k i)) [hs:UIs P s (.int ks)] [hd:UIs P d (.int kd)]:Ev P W n E H (.convert s d x) (.int kd (kd.wrap i)):=
 Ev.mk fun o ho a w p _=>by simp [execOp,ho,p.ev hx,convert,run_underlying hs.h,run_underlying hd.h,Conv.intToInt]
theorem yCA {s d:TypeId} {ks k:IntKind} {i:Int} (hx:Env.ev E x=some (.int k i)) [hs:UIs P s (.int ks)] [hd:UIs P d (.int .i64)] (hb:-9223372036854775808≤i∧i≤9223372036854775807):Ev P W n E H (.convert s d x) (zi i):=
 Ev.mk fun o ho a w p _=>by simp [execOp,ho,p.ev hx,convert,run_underlying hs.h,run_underlying hd.h,Conv.intToInt,yJP i hb]
theorem yWA {s d:TypeId} {b:ByteArray} (hx:Env.ev E x=some (.string b)) [hs:UIs P s .string] [hd:UIs P d .string]:Ev P W n E H (.convert s d x) (.string b):=
 Ev.mk fun o ho a w p _=>by simp [execOp,ho,p.ev hx,convert,run_underlying hs.h,run_underlying hd.h]
theorem yRG {vs:Array Value} {i:Nat} {v:Value} (hx:Env.ev E x=some (.tuple vs)) (hv:vs[i]? = some v):Ev P W n E H (.extract x i) v:=
 Ev.mk fun o ho a w p _=>by simp [execOp,ho,p.ev hx,Instr.extract,hv]
theorem yRH {l:zB} (hx:Env.ev E x=some (strV l)) [hu:UIs P t .string]:Ev P W n E H (.call { callee:=.builtin .len,args:=#[x],argTypes:=#[t] }) (zi l.length):=
 Ev.mk fun o ho a w p _=>by simp [execOp,ho,resolve,invoke,builtin,p.ev hx,Builtin.len_,run_underlying hu.h,goInt];rfl
theorem yNw {e:TypeId} {ad:Option Addr} {m c:Nat} (hx:Env.ev E x=some (.slice ad m c)) [hu:UIs P t (.slice e)]:Ev P W n E H (.call { callee:=.builtin .len,args:=#[x],argTypes:=#[t] }) (zi m):=
 Ev.mk fun o ho a w p _=>by simp [execOp,ho,resolve,invoke,builtin,p.ev hx,Builtin.len_,run_underlying hu.h,goInt]
theorem yRI {e:TypeId} {v:Value} {m:Nat} (hx:Env.ev E x=some v) [hu:UIs P t (.array m e)]:Ev P W n E H (.call { callee:=.builtin .len,args:=#[x],argTypes:=#[t] }) (zi m):=
 Ev.mk fun o ho a w p _=>by simp [execOp,ho,resolve,invoke,builtin,p.ev hx,Builtin.len_,run_underlying hu.h,goInt]
theorem yRJ {k e:TypeId} {r:Nat} {es:Array MapEntry} {clock:Nat} (hx:Env.ev E x=some (.map (some r))) [hu:UIs P t (.map k e)] (hs:Sel (yQo r (.map es clock)) H R):Ev P W n E H (.call { callee:=.builtin .len,args:=#[x],argTypes:=#[t] }) (zi es.size):=
 Ev.mk fun o ho a w p q=>by simp [execOp,ho,resolve,invoke,builtin,p.ev hx,Builtin.len_,run_underlying hu.h,goInt,Go.getObj,Sem.run,(q.obj hs).2,Result.andThen]
theorem yQs {k:IntKind} {i j:Int} {ts:Array TypeId} (hx:Env.ev E x=some (.int k i)) (hy:Env.ev E y=some (.int k j)):Ev P W n E H (.call { callee:=.builtin .min,args:=#[x,y],argTypes:=ts }) (.int k (min i j)):=
 Ev.mk fun o ho a w p _=>by
  have:(if j<i then j else i)=min i j:=by split <;> omega
  simp [execOp,ho,resolve,invoke,builtin,p.ev hx,p.ev hy,Builtin.min_,Builtin.min2,this]
theorem yYv {k:IntKind} {i j:Int} {ts:Array TypeId} (hx:Env.ev E x=some (.int k i)) (hy:Env.ev E y=some (.int k j)):Ev P W n E H (.call { callee:=.builtin .max,args:=#[x,y],argTypes:=ts }) (.int k (max i j)):=
 Ev.mk fun o ho a w p _=>by
  have:(if j>i then j else i)=max i j:=by split <;> omega
  simp [execOp,ho,resolve,invoke,builtin,p.ev hx,p.ev hy,Builtin.max_,Builtin.max2,this]
def yQt:TypeDesc→Bool
 |.interface _=>false
 |_=>true
theorem yNx {d:TypeDesc} {v:Value} (hx:Env.ev E x=some v) [hu:UIs P t d] (hd:yQt d=true):Ev P W n E H (.makeInterface t x) (.iface t v):=
 Ev.mk fun o ho a w p _=>by cases d <;> simp_all [yQt,execOp,p.ev hx,Instr.makeInterface,run_underlying hu.h]
end
structure Dsk where
 n:Nat
 img:zB
 und:List (Nat × zB)
 off:Bool
 armed:Int
 writes:Int
 flushes:Int
 life:Int
structure Dsk.ok (D:Dsk):Prop where
 n1:1≤D.n
 n2:D.n≤65536
 len:D.img.length=256*D.n
 und:∀ x ∈ D.und,x.1<D.n∧x.2.length=256
 arm1:-1≤D.armed
 arm2:D.armed≤9223372036854775807
def zs (n:Nat):zB:=List.replicate n 0
theorem yFY (n:Nat):(zs n).length=n:=zLB
def w64 (x:Int):Int:=Go.RowKit.wrap64 x
def yDk (u:List (Nat × zB)) (i:Nat):Option Nat:=((u.zipIdx.filter (fun x=>x.1.1 == i)).getLast?).map (·.2)
def yG0 (u:List (Nat × zB)) (i:Nat):Option zB:=((u.filter (fun x=>x.1 == i)).getLast?).map (·.2)
theorem yRK (i:Nat):yDk [] i=none:=rfl
theorem yHy (i:Nat):yG0 [] i=none:=rfl
theorem yHh (u:List (Nat × zB)) (j:Nat) (b:zB) (i:Nat):yDk (u++[(j,b)]) i=if j=i then some u.length else yDk u i:=by
 unfold yDk;rw [List.zipIdx_append,List.filter_append];by_cases h:j=i
 ·subst h;simp [List.getLast?_append]
 ·have:(j == i)=false:=by simpa using h
  simp [this,h]
theorem yIy (u:List (Nat × zB)) (j:Nat) (b:zB) (i:Nat):yG0 (u++[(j,b)]) i=if j=i then some b else yG0 u i:=by
 unfold yG0;rw [List.filter_append];by_cases h:j=i
 ·subst h;simp [List.getLast?_append]
 ·have:(j == i)=false:=by simpa using h
  simp [this,h]
theorem yEj {α:Type} {P:List α→Prop} (h0:P []) (h1:∀ l x,P l→P (l++[x])) (l:List α):P l:=by
 have:∀ n (l:List α),l.length=n→P l:=by
  intro n
  induction n with
  |zero=>intro l hl;rw [List.eq_nil_of_length_eq_zero hl];exact h0
  |succ n ih=>
   intro l hl;have ao:l≠[]:=by intro h;subst h;simp at hl
   rw [← List.dropLast_concat_getLast ao];exact h1 _ _ (ih _ (by simp;omega))
 exact this _ l rfl
theorem yO5 (u:List (Nat × zB)) (i k:Nat) (h:yDk u i=some k):∃ b,u[k]? = some (i,b)∧yG0 u i=some b:=by
 revert k
 refine yEj (P:=fun u=>∀ k,yDk u i=some k→∃ b,u[k]? = some (i,b)∧yG0 u i=some b) ?_ ?_ u
 ·intro k h;simp [yRK] at h
 ·intro l x ih k h;obtain ⟨j,b⟩:=x;rw [yHh] at h;rw [yIy];by_cases hj:j=i
  ·subst hj;simp at h;subst h;exact ⟨b,by simp,by simp⟩
  ·rw [if_neg hj] at h;obtain ⟨b',h1,h2⟩:=ih k h;refine ⟨b',?_,by rw [if_neg hj];exact h2⟩;have:=(zLc.1 h1).1;rw [zLp this];exact h1
theorem yO6 (u:List (Nat × zB)) (i:Nat) (h:yDk u i=none):yG0 u i=none:=by
 revert h
 refine yEj (P:=fun u=>yDk u i=none→yG0 u i=none) (fun _=>rfl) ?_ u;intro l x ih h;obtain ⟨j,b⟩:=x;rw [yHh] at h;rw [yIy];by_cases hj:j=i
 ·subst hj;simp at h
 ·rw [if_neg hj] at h ⊢;exact ih h
def cut (l:zB) (o n:Nat):zB:=(l.drop o).take n
def lay {α:Type} (l:List α) (o:Nat) (b:List α):List α:=l.take o++(b++l.drop (o+b.length))
theorem yBL {α:Type} (l:List α) (o:Nat) (b:List α) (h:o+b.length≤l.length):(lay l o b).length=l.length:=by simp [lay];omega
theorem yBY (l:zB) (o n:Nat) (h:o+n≤l.length):(cut l o n).length=n:=by simp [cut];omega
theorem yQu {α β:Type} (f:α→List β) (c:Nat) (l:List α) (hf:∀ x ∈ l,(f x).length=c) (k:Nat) (x:α) (hk:l[k]? = some x) (j:Nat) (hj:j<c):(l.flatMap f)[k*c+j]? = (f x)[j]?:=by
 induction l generalizing k with
 |nil=>simp at hk
 |cons y l ih=>
  have hy:=hf y zW;cases k with
  |zero=>
   simp at hk;subst hk;rw [zLr,zLp zO];simp
  |succ k=>
   rw [zLr,zLn (by rw [hy,zLH];omega)];rw [show (k+1)*c+j-(f y).length=k*c+j by rw [hy,zLH];omega];exact ih (fun z hz=>hf z (by simp [hz])) k (by simpa using hk)
def Dsk.sec (D:Dsk) (i:Nat):zB:=cut D.img (i*256) 256
def Dsk.rd (D:Dsk) (i:Nat):zB:=(yG0 D.und i).getD (D.sec i)
def Dsk.has (D:Dsk) (i:Int):Bool:=decide (0≤i∧i<D.n)
def Dsk.readS (D:Dsk) (i:Int):zB:=if D.off then [] else if D.has i then D.rd i.toNat else []
def Dsk.readE (D:Dsk) (i:Int):Nat:=if D.off then 12 else if D.has i then 0 else 6
def Dsk.dead (D:Dsk):Bool:=decide (D.armed=0)
def Dsk.gone (D:Dsk):Dsk:=if D.armed=0 then { D with off:=true } else if 0<D.armed then { D with armed:=D.armed-1 } else D
def Dsk.writeE (D:Dsk) (i:Int) (s:zB):Nat:=if D.off then 12 else if D.has i then (if s.length=256 then (if D.dead then 12 else 0) else 7) else 6
def Dsk.writeD (D:Dsk) (i:Int) (s:zB):Dsk:=
 if D.off then D else if D.has i then (if s.length=256 then
  (let D1:=({ D with und:=D.und++[(i.toNat,s)] }:Dsk).gone
   if D.dead then D1 else { D1 with writes:=w64 (D1.writes+1) }) else D) else D
def yBD (img:zB) (u:List (Nat × zB)):zB:=u.foldl (fun m x=>lay m (x.1*256) x.2) img
def Dsk.flushE (D:Dsk):Nat:=if D.off || D.dead then 12 else 0
def Dsk.flushD (D:Dsk):Dsk:=
 if D.off then D else if D.dead then D.gone else
  { D.gone with img:=yBD D.img D.und,und:=[],flushes:=w64 (D.flushes+1) }
def Dsk.clr (D:Dsk):Dsk:={ D with und:=[] }
def Dsk.arm (D:Dsk) (k:Int):Dsk:={ D with armed:=max k (-1) }
def done (kept:List Bool) (torn bytes:Int) (k:Nat):Nat:=
 if (k:Int)=torn then (min (max bytes 0) 256).toNat else if kept.getD k false then 256 else 0
def yB7 (img:zB) (kept:List Bool) (torn bytes:Int) (u:List (Nat × zB)):zB:=
 u.zipIdx.foldl (fun m x=>lay m (x.1.1*256) (x.1.2.take (done kept torn bytes x.2))) img
def Dsk.crash (D:Dsk) (kept:List Bool) (torn bytes:Int):Dsk:=
 { D with img:=yB7 D.img kept torn bytes D.und,und:=[],armed:=-1,off:=false,life:=w64 (D.life+1) }
def Dsk.blank (n:Nat):Dsk:={ n:=n,img:=zs (256*n),und:=[],off:=false,armed:=-1,writes:=0,flushes:=0,life:=0 }
def Dsk.of (img:zB):Dsk:={ n:=img.length / 256,img:=img,und:=[],off:=false,armed:=-1,writes:=0,flushes:=0,life:=0 }
theorem Dsk.gone_und (D:Dsk):D.gone.und=D.und:=by unfold Dsk.gone;split;rfl;split <;> rfl
theorem Dsk.gone_img (D:Dsk):D.gone.img=D.img:=by unfold Dsk.gone;split;rfl;split <;> rfl
theorem Dsk.gone_n (D:Dsk):D.gone.n=D.n:=by unfold Dsk.gone;split;rfl;split <;> rfl
theorem Dsk.gone_writes (D:Dsk):D.gone.writes=D.writes:=by unfold Dsk.gone;split;rfl;split <;> rfl
theorem Dsk.gone_flushes (D:Dsk):D.gone.flushes=D.flushes:=by unfold Dsk.gone;split;rfl;split <;> rfl
theorem Dsk.gone_ok {D:Dsk} (h:D.ok):D.gone.ok:=by
 unfold Dsk.gone;have a1:=h.arm1;have a2:=h.arm2;split
 ·exact ⟨h.n1,h.n2,h.len,h.und,a1,a2⟩
 ·split
  ·exact ⟨h.n1,h.n2,h.len,h.und,by show -1≤D.armed-1;omega,by show D.armed-1≤_;omega⟩
  ·exact h
theorem yO7 (img:zB) (u:List (Nat × zB)) (x:Nat × zB):yBD img (u++[x])=lay (yBD img u) (x.1*256) x.2:=by simp [yBD]
theorem yJS (img:zB) (u:List (Nat × zB)) (k j:Nat) (b:zB) (hk:u[k]? = some (j,b)):yBD img (u.take (k+1))=lay (yBD img (u.take k)) (j*256) b:=by have h:=(zLc.1 hk).1;rw [List.take_succ_eq_append_getElem h,yO7];have:u[k]=(j,b):=(zLc.1 hk).2;rw [this]
theorem yD2 (u:List (Nat × zB)):∀ (img:zB) (n:Nat),img.length=256*n→(∀ x ∈ u,x.1<n∧x.2.length=256)→(yBD img u).length=256*n:=by
 induction u with
 |nil=>intro img n h _;exact h
 |cons x u ih=>
  intro img n h hu;have hx:=hu x zW;refine ih _ n ?_ (fun y hy=>hu y (by simp [hy]));rw [yBL _ _ _ (by rw [hx.2];omega)];exact h
theorem yNy (img:zB) (kept:List Bool) (torn bytes:Int) (u:List (Nat × zB)) (x:Nat × zB):yB7 img kept torn bytes (u++[x])=lay (yB7 img kept torn bytes u) (x.1*256) (x.2.take (done kept torn bytes u.length)):=by simp [yB7,List.zipIdx_append]
theorem yDN (img:zB) (kept:List Bool) (torn bytes:Int) (u:List (Nat × zB)) (k j:Nat) (b:zB) (hk:u[k]? = some (j,b)) :yB7 img kept torn bytes (u.take (k+1))=lay (yB7 img kept torn bytes (u.take k)) (j*256) (b.take (done kept torn bytes k)):=by
 have h:=(zLc.1 hk).1;rw [List.take_succ_eq_append_getElem h,yNy];have:u[k]=(j,b):=(zLc.1 hk).2;rw [this,zLg,Nat.min_eq_left zO]
theorem yMo {α:Type} (l:List α) (o:Nat):lay l o []=l:=by simp [lay]
theorem yDI (kept:List Bool) (torn bytes:Int) (u:List (Nat × zB)):∀ (img:zB) (n:Nat),img.length=256*n→(∀ x ∈ u,x.1<n∧x.2.length=256)→(yB7 img kept torn bytes u).length=256*n:=by
 intro img n h hu;unfold yB7;have:∀ (z:List ((Nat × zB) × Nat)),(∀ x ∈ z,x.1 ∈ u)→∀ m:zB,m.length=256*n→(z.foldl (fun m x=>lay m (x.1.1*256) (x.1.2.take (done kept torn bytes x.2))) m).length=256*n:=by
  intro z
  induction z with
  |nil=>intro _ m hm;exact hm
  |cons y z ih=>
   intro hz m hm;have hy:=hu y.1 (hz y zW);refine ih (fun x hx=>hz x (by simp [hx])) _ ?_;rw [yBL _ _ _ (by rw [zLg];omega)];exact hm
 exact this _ (fun x hx=>by obtain ⟨a,b⟩:=x;exact List.fst_mem_of_mem_zipIdx hx) img h
theorem Dsk.writeD_ok {D:Dsk} (h:D.ok) (i:Int) (s:zB):(D.writeD i s).ok:=by
 unfold Dsk.writeD;split
 ·exact h
 ·split
  ·rename_i hi;split
   ·rename_i hs;have js:0≤i∧i<D.n:=by simpa [Dsk.has] using hi
    have h1:({ D with und:=D.und++[(i.toNat,s)] }:Dsk).ok:=⟨h.n1,h.n2,h.len,by
     intro x hx;rcases List.mem_append.1 hx with hx|hx
     ·exact h.und x hx
     ·simp at hx;subst hx;exact ⟨by show i.toNat<D.n;omega,hs⟩,h.arm1,h.arm2⟩
    have h2:=Dsk.gone_ok h1;dsimp only;split
    ·exact h2
    ·exact ⟨h2.n1,h2.n2,h2.len,h2.und,h2.arm1,h2.arm2⟩
   ·exact h
  ·exact h
theorem Dsk.flushD_ok {D:Dsk} (h:D.ok):D.flushD.ok:=by
 unfold Dsk.flushD;split
 ·exact h
 ·split
  ·exact Dsk.gone_ok h
  ·have h2:=Dsk.gone_ok h;exact ⟨h2.n1,h2.n2,by show (yBD D.img D.und).length=256*D.gone.n;rw [Dsk.gone_n];exact yD2 _ _ _ h.len h.und,by simp,h2.arm1,h2.arm2⟩
theorem Dsk.arm_ok {D:Dsk} (h:D.ok) (k:Int) (hk:k≤9223372036854775807):(D.arm k).ok:=
 ⟨h.n1,h.n2,h.len,h.und,by show -1≤max k (-1);omega,by show max k (-1)≤_;omega⟩
theorem Dsk.crash_ok {D:Dsk} (h:D.ok) (kept:List Bool) (torn bytes:Int):(D.crash kept torn bytes).ok:=
 ⟨h.n1,h.n2,yDI _ _ _ _ _ _ h.len h.und,by simp [Dsk.crash],by simp [Dsk.crash],by simp [Dsk.crash]⟩
theorem Dsk.blank_ok (n:Nat) (h1:1≤n) (h2:n≤65536):(Dsk.blank n).ok:=⟨h1,h2,yFY _,by simp [Dsk.blank],by simp [Dsk.blank],by simp [Dsk.blank]⟩
theorem Dsk.clr_ok {D:Dsk} (h:D.ok):D.clr.ok:=⟨h.n1,h.n2,h.len,fun x hx=>(by cases hx),h.arm1,h.arm2⟩
section
variable {P:Program}
theorem yBG {ops:Array Oper} {rest:List Oper} {op:Oper} {a:Act} {w:World} {Q:Exit→Act→World→Prop} (bE:op.guard=none) (ty:TypeId) (x y:Operand) (ho:op.op=.store ty x y) (z cells:Array Value) (T:TypeId) (hx:a.eval x=.pointer (some ⟨w.heap.size,0,none⟩)) (hy:a.eval y=.agg cells) (hz:z.size=cells.size) (hi:(P.info? ty).map (·.size)=some cells.size) (h1:cells.all (·.oneCell')=true) (h:wpList P ops Q rest (a.put op.dst undef) (w.alloc (.cells cells T))):wpList P ops Q (op::rest) a (w.alloc (.cells z T)):=by
 refine wpList_store_row bE ty x y ho w.heap.size cells hx hy T z (heap_alloc_new w _) hi hz h1 ?_;rw [World.setRow_alloc_new];exact h
theorem yMp (l:zB):(bvs l).toArray.all (·.oneCell')=true:=by rw [Array.all_eq_true_iff_forall_mem];intro v hv;exact yFj l v (by simpa using hv)
theorem yDd {ops:Array Oper} {rest:List Oper} {op:Oper} {a:Act} {w:World} {Q:Exit→Act→World→Prop} (bE:op.guard=none) (src dst e:TypeId) (x:Operand) (ho:op.op=.convert src dst x) (hs:P.underlying src=some (.slice e)) (he:P.underlying e=some (.int .u8)) (hd:P.underlying dst=some .string) (b o n cap:Nat) (l:zB) (hx:a.eval x=.slice (some ⟨b,o,none⟩) n cap) (hn:n=l.length) (hc:w.rangeAt b o (bvs l)) (h:wpList P ops Q rest (a.put op.dst (.string ⟨l.toArray⟩)) w):wpList P ops Q (op::rest) a w:=by
 subst hn;refine wpList_plain bE fun K hK=>?_;have hr:=run_convert_bytes_back (P:=P) w src dst e ⟨b,o,none⟩ cap l hs he hd (fun j hj=>by rw [Addr.add_mid];exact hc j _ (by simp [bvs,bv,zLb hj]))
 unfold Oper.wp execOp;simp only [ho,hx,Sem.run_bind,Sem.run_pure,Result.andThen_ok,hr];exact hK _ _ h
theorem yMq {P:Program} (w:World) (t k e ty:TypeId) (ht:P.underlying t=some (.map k e)) (b:Nat) (es:Array MapEntry) (clock:Nat) (h:w.heap[b]? = some (.map es clock)) :(Builtin.clear_ #[t] ty #[.map (some b)]).run P w=.ok (.tuple #[]) { w with heap:=w.heap.setIfInBounds b (.map #[] clock) }:=by
 simp only [Builtin.clear_,List.getElem?_toArray,List.getElem?_cons_zero,Sem.run_bind,run_underlying ht w,Result.andThen_ok];simp [Go.getObj,Go.setObj,Sem.run,h]
theorem yJp {P:Program} {ops:Array Oper} {rest:List Oper} {o:Oper} {a:Act} {w:World} {Q:Exit→Act→World→Prop} (hg:o.guard=none) (m:Operand) (t k e:TypeId) (ht:P.underlying t=some (.map k e)) (ho:o.op=.call { callee:=.builtin .clear,args:=#[m],argTypes:=#[t] }) (b:Nat) (es:Array MapEntry) (clock:Nat) (hm:a.eval m=.map (some b)) (hb:w.heap[b]? = some (.map es clock)) (hK:wpList P ops Q rest (a.put o.dst (.tuple #[])) { w with heap:=w.heap.setIfInBounds b (.map #[] clock) }):wpList P ops Q (o::rest) a w:=by
 refine wpList_plain hg fun K hK'=>?_;have av:=yMq (P:=P) w t k e o.type ht b es clock hb;unfold Oper.wp;simp [execOp,ho,resolve,invoke,builtin,hm,av,Result.andThen];exact hK' _ _ hK
theorem yI4 {P:Program} (w:World) (dT sT ty elem:TypeId) (g o aU dA:Nat) (l:zB) (aw:List Value) (t:TypeId) (hu:P.underlying dT=some (.slice elem)) (hs:(P.info? elem).map (·.size)=some 1) (hg:Blk w g aw t) (ak:o+(l.take aU).length≤aw.length) :(Builtin.copy_ #[dT,sT] ty #[.slice (some ⟨g,o,none⟩) aU dA,.string ⟨l.toArray⟩]).run P w = .ok (goInt (l.take aU).length) (w.setRow g (lay aw o (bvs (l.take aU))).toArray):=by
 have aj:=run_storeCells_at P g o t (bvs (l.take aU)) 0 aw.toArray w hg (by simpa using ak) (yFj _);have dO:Nat.min l.length aU=(l.take aU).length:=by rw [zLg,Nat.min_comm]
 have bZ:List.take (l.take aU).length (List.map (fun b:UInt8=>Value.int IntKind.u8 (b.toNat:Int)) l)=bvs (l.take aU):=by show List.take _ (List.map bv l)=List.map bv (List.take aU l);rw [List.map_take,List.take_eq_take_iff];simp
 simp only [zLz] at aj;cases hq:P.info? elem with
 |none=>simp [hq] at hs
 |some i=>
  simp [Builtin.copy_,run_underlying hu,Builtin.lenOf,Builtin.firstCells,sizeOf,typeInfo,hq,ByteArray.size];rw [dO,bZ,aj];simp [Result.andThen,lay]
theorem yJT {P:Program} {ops:Array Oper} {rest:List Oper} {op:Oper} {a:Act} {w:World} {Q:Exit→Act→World→Prop} (bE:op.guard=none) (d s:Operand) (dT sT elem:TypeId) (ho:op.op=.call { callee:=.builtin .copy,args:=#[d,s],argTypes:=#[dT,sT] }) (hu:P.underlying dT=some (.slice elem)) (hs:(P.info? elem).map (·.size)=some 1) (g o aU dA:Nat) (l:zB) (aw:List Value) (t:TypeId) (hd:a.eval d=.slice (some ⟨g,o,none⟩) aU dA) (hx:a.eval s=.string ⟨l.toArray⟩) (hg:Blk w g aw t) (ak:o+(l.take aU).length≤aw.length) (h:wpList P ops Q rest (a.put op.dst (goInt (l.take aU).length)) (w.setRow g (lay aw o (bvs (l.take aU))).toArray)):wpList P ops Q (op::rest) a w:=
 Lib.wpList_copy_run w bE d s dT sT ho _ _ hd hx (yI4 w dT sT op.type elem g o aU dA l aw t hu hs hg ak) h
theorem yHi {P:Program} {ops:Array Oper} {rest:List Oper} {op:Oper} {a:Act} {w:World} {Q:Exit→Act→World→Prop} (bE:op.guard=none) (d s:Operand) (dT sT elem:TypeId) (ho:op.op=.call { callee:=.builtin .copy,args:=#[d,s],argTypes:=#[dT,sT] }) (hu:P.underlying dT=some (.slice elem)) (hs:(P.info? elem).map (·.size)=some 1) (o aU dA:Nat) (l:zB) (aw new:List Value) (t:TypeId) (hd:a.eval d=.slice (some ⟨w.heap.size,o,none⟩) aU dA) (hx:a.eval s=.string ⟨l.toArray⟩) (ak:o+(l.take aU).length≤aw.length) (hnew:lay aw o (bvs (l.take aU))=new) (h:wpList P ops Q rest (a.put op.dst (goInt (l.take aU).length)) (w.alloc (.cells new.toArray t))):wpList P ops Q (op::rest) a (w.alloc (.cells aw.toArray t)):=by
 refine yJT bE d s dT sT elem ho hu hs w.heap.size o aU dA l aw t hd hx (heap_alloc_new w _) ak ?_;rw [World.setRow_alloc_new,hnew];exact h
theorem yFZ {P:Program} {ops:Array Oper} {rest:List Oper} {op:Oper} {a:Act} {w:World} {Q:Exit→Act→World→Prop} (bE:op.guard=none) (t:TypeId) (parts:List (Nat × Operand)) (ho:op.op=.build t parts.toArray) (cells:Array Value) (hb:P.built t (parts.map fun (i,x)=>(i,a.eval x))=some cells) (h:wpList P ops Q rest (a.put op.dst (.agg cells)) w):wpList P ops Q (op::rest) a w:=by
 have e:(parts.toArray.map fun (i,x)=>(i,a.eval x)).toList=parts.map fun (i,x)=>(i,a.eval x):=zW;exact wpList_build bE t parts.toArray ho (by rw [e,hb];rfl) (by rw [e,hb];exact h)
theorem yMr (l:List Value):∀ (k:Nat) (base:Array Value),k+l.length≤base.size→((l.zipIdx k).foldl (fun (cs:Array Value) (x:Value × Nat)=>cs.setIfInBounds x.2 x.1) base).toList=base.toList.take k++(l++base.toList.drop (k+l.length)):=by
 induction l with
 |nil=>intro k base h;simp
 |cons v l ih=>
  intro k base h;simp only [zLj] at h;rw [List.zipIdx_cons,List.foldl_cons,ih (k+1) _ (by simp;omega)];simp only [Array.toList_setIfInBounds,zLj];have e1:(base.toList.set k v).take (k+1)=base.toList.take k++[v]:=by rw [List.take_set];rw [List.take_succ_eq_append_getElem (by simp;omega),List.set_append_right _ _ (by simp;omega)];simp [show min k base.size=k by omega]
  have e2:(base.toList.set k v).drop (k+1+l.length)=base.toList.drop (k+(l.length+1)):=by rw [List.drop_set_of_lt zO];congr 1;omega
  rw [e1,e2];simp
theorem yWB (size:Nat) (v:Value) (base:Array Value) (h1:v.cells.size=size) (h2:base.size=size) :Instr.fill (fun i=>some (i*size,size)) base [(0,v)]=some v.cells:=by
 simp only [Instr.fill];rw [if_neg (by simp [h1,h2])];congr 1;rw [← Array.toList_inj];have e:=yMr v.cells.toList 0 base (by simp;omega);simp only [List.take_zero,List.nil_append] at e;rw [List.drop_eq_nil_of_le (by simp;omega),zLs] at e;rw [← e];congr 1;rw [← Array.foldl_toList];simp only [Array.toList_zipIdx,Nat.zero_mul,zLq]
theorem yEA {P:Program} (w:World) (t e:TypeId) (i:TypeInfo) (z:Value) (v:Value) (ht:P.underlying t=some (.slice e)) (hi:P.info? e=some i) (hz:i.zero=some z) (hs:v.cells.size=i.size) (bu:i.size≤16777216) (h0:0<i.size) :(Instr.buildSlice t 1 #[(0,v)]).run P w=.ok (.slice (some ⟨w.heap.size,0,none⟩) 1 1) (w.alloc (.cells v.cells e)):=by
 have ao:¬ i.size=0:=zO;have hf:=yWB i.size v ((Array.range i.size).map fun x=>z.cells[x % z.cells.size]!) hs zW;simp [Instr.buildSlice,run_underlying ht,sizeOf,typeInfo,hi,zeroValue,hz,ao,show ¬ 16777216<i.size by omega,hf,newRow]
theorem yIz {P:Program} {op:Oper} {a:Act} {w:World} {K:Act→World→Prop} {Q:Exit→Act→World→Prop} (t e:TypeId) (x:Operand) (ho:op.op=.buildSlice t 1 #[(0,x)]) (ht:P.underlying t=some (.slice e)) (n:Nat) (hi:(P.info? e).map (fun i=>(i.zero.isSome,i.size))=some (true,n)) (v:Value) (hx:a.eval x=v) (cells:Array Value) (hc:v.cells=cells) (hs:cells.size=n) (hn:n≤16777216) (h0:0<n) (h:K (a.put op.dst (.slice (some ⟨w.heap.size,0,none⟩) 1 1)) (w.alloc (.cells cells e))):op.wp P a w K Q:=by
 subst hc;cases hq:P.info? e with
 |none=>simp [hq] at hi
 |some i=>
  simp [hq] at hi;obtain ⟨hi1,rfl⟩:=hi;cases hz:i.zero with
  |none=>simp [hz] at hi1
  |some z=>
   have hr:=yEA (P:=P) w t e i z v ht hq hz hs hn h0;unfold Oper.wp execOp;simp only [ho,List.map_toArray,List.map_cons,List.map_nil,hx,Sem.run_bind,Sem.run_pure,Result.andThen_ok,hr];exact h
theorem yLs {P:Program} {id:Nat} {Q:Exit→Act→World→Prop} {a:Act} {w:World} {l:List Oper} (n:Nat) (hm:P.follows .mixedOrders=true) (hB:Region.lexTailB .any l.toArray n=true) (h:wpStill P l.toArray w.drew (fun a'=>wpList P l.toArray Q (l.drop n) a' w.drew) (l.take n) a):(Code.region id l.toArray true).wp P Q a w:=
 wp_region_still_tail n hm hB h
theorem yEX {P:Program} {ops:Array Oper} {rest:List Oper} {op:Oper} {a:Act} {w:World} {Q:Exit→Act→World→Prop} (bE:op.guard=none) (s x:Operand) (t e:TypeId) (ho:op.op=.call { callee:=.builtin .append,args:=#[s,x],argTypes:=#[t,t] }) (ht:P.underlying t=some (.slice e)) (size bytes:Nat) (hi:(P.info? e).map (fun i=>(i.zero.map (·.cells.size),i.size,i.bytes))=some (some size,size,bytes)) (bu:0<size) (v:Value) (n:Nat) (xs:List Value) (hs:a.eval s=v) (aA:w.ownsRow 0 e size v n xs) (b o m c:Nat) (news:List Value) (hx:a.eval x=.slice (some ⟨b,o,none⟩) m c) (hl:news.length=m*size) (hnews:w.rangeAt b o news) (h1:∀ u ∈ news,u.oneCell'=true) (jo:n+m≤maxLen) (eL:(n+m)*bytes≤140737488355328) (h:∀ v' w',Go.RowKit.Hid (w'.ownsRow 0 e size v' (n+m) (xs++news)∧w.grownBy w' v.ownBlock∧(v'.ownBlock=v.ownBlock∨v'.ownBlock=some w.heap.size))→wpList P ops Q rest (a.put op.dst v') w'):wpList P ops Q (op::rest) a w:=by
 cases hq:P.info? e with
 |none=>simp [hq] at hi
 |some i=>
  simp [hq] at hi;obtain ⟨⟨z,hz,jT⟩,bM,bU⟩:=hi
  exact wpList_append_own_at w bE s x t ho 0 e i z size bytes ht hq hz bM bU jT bu v n xs hs aA ⟨b,o,none⟩ m c news hx hl (fun j u hj=>by rw [Addr.add_mid];exact hnews j u hj) h1 jo eL (zLA _)
   (fun v' w' r1 r2 _ r4=>h v' w' ⟨r1,r2,r4⟩)
theorem yFl {P:Program} (w:World) (g o:Nat) (ty:TypeId) (aw vs:List Value) (T:TypeId) (hg:Blk w g aw T) (ak:o+vs.length≤aw.length) (hi:(P.info? ty).map (·.size)=some vs.length) (h1:∀ v ∈ vs,v.oneCell'=true) :(Instr.storeAt ty (.pointer (some ⟨g,o,none⟩)) (.agg vs.toArray)).run P w=.ok () (w.setRow g (lay aw o vs).toArray):=by
 have aj:=run_storeCells_at P g o T vs 0 aw.toArray w hg (by simpa using ak) h1;cases hq:P.info? ty with
 |none=>simp [hq] at hi
 |some i=>
  have hs:vs.length=i.size:=by simp [hq] at hi;omega
  simp only [zLz] at aj;simp [Instr.storeAt,Instr.sureAddr,storeVar,sizeOf,typeInfo,hq,Value.cells,hs,aj,lay]
theorem yFM {P:Program} {ops:Array Oper} {rest:List Oper} {op:Oper} {a:Act} {w:World} {Q:Exit→Act→World→Prop} (bE:op.guard=none) (ty:TypeId) (x y:Operand) (ho:op.op=.store ty x y) (g o:Nat) (aw vs:List Value) (T:TypeId) (hx:a.eval x=.pointer (some ⟨g,o,none⟩)) (hy:a.eval y=.agg vs.toArray) (hg:Blk w g aw T) (ak:o+vs.length≤aw.length) (hi:(P.info? ty).map (·.size)=some vs.length) (h1:∀ v ∈ vs,v.oneCell'=true) (h:wpList P ops Q rest (a.put op.dst undef) (w.setRow g (lay aw o vs).toArray)):wpList P ops Q (op::rest) a w:=by
 refine wpList_plain bE fun K hK=>?_;have hr:=yFl (P:=P) w g o ty aw vs T hg ak hi h1;unfold Oper.wp execOp;simp only [ho,hx,hy,Sem.run_bind,Sem.run_pure,Result.andThen_ok,hr];exact hK _ _ h
theorem yO8 {P:Program} {ops:Array Oper} {rest:List Oper} {op:Oper} {a:Act} {w:World} {Q:Exit→Act→World→Prop} (bE:op.guard=none) (x y:Operand) (t1 t2:TypeId) (ho:op.op=.call { callee:=.builtin .max,args:=#[x,y],argTypes:=#[t1,t2] }) (a1 b1 m:Int) (hx:a.eval x=.int .i64 a1) (hy:a.eval y=.int .i64 b1) (hm:max a1 b1=m) (h:wpList P ops Q rest (a.put op.dst (zi m)) w):wpList P ops Q (op::rest) a w:=by
 refine wpList_plain bE fun K hK=>?_;have hr:=run_max_int2 (P:=P) w #[t1,t2] op.type .i64 .i64 a1 b1;rw [show (if b1>a1 then b1 else a1)=m by rw [← hm];split <;> omega] at hr;unfold Oper.wp execOp;simp only [ho,resolve,invoke,builtin,Sem.run_bind,Sem.run_pure,Result.andThen_ok,List.map_toArray,List.map_cons,List.map_nil,hx,hy,hr];exact hK _ _ h
theorem yO9 {P:Program} {ops:Array Oper} {rest:List Oper} {op:Oper} {a:Act} {w:World} {Q:Exit→Act→World→Prop} (bE:op.guard=none) (x y:Operand) (t1 t2:TypeId) (ho:op.op=.call { callee:=.builtin .min,args:=#[x,y],argTypes:=#[t1,t2] }) (a1 b1 m:Int) (hx:a.eval x=.int .i64 a1) (hy:a.eval y=.int .i64 b1) (hm:min a1 b1=m) (h:wpList P ops Q rest (a.put op.dst (zi m)) w):wpList P ops Q (op::rest) a w:=by
 refine wpList_plain bE fun K hK=>?_;have hr:=run_min_int2 (P:=P) w #[t1,t2] op.type .i64 .i64 a1 b1;rw [show (if b1<a1 then b1 else a1)=m by rw [← hm];split <;> omega] at hr;unfold Oper.wp execOp;simp only [ho,resolve,invoke,builtin,Sem.run_bind,Sem.run_pure,Result.andThen_ok,List.map_toArray,List.map_cons,List.map_nil,hx,hy,hr];exact hK _ _ h
theorem yJU {P:Program} {ops:Array Oper} {rest:List Oper} {op:Oper} {a:Act} {w:World} {Q:Exit→Act→World→Prop} (bE:op.guard=none) (d s:Operand) (dT sT elem:TypeId) (ho:op.op=.call { callee:=.builtin .copy,args:=#[d,s],argTypes:=#[dT,sT] }) (hu:P.underlying dT=some (.slice elem)) (hs:(P.info? elem).map (·.size)=some 1) (g o aU dA b so j6 sCap:Nat) (aw cs:List Value) (t:TypeId) (hd:a.eval d=.slice (some ⟨g,o,none⟩) aU dA) (hx:a.eval s=.slice (some ⟨b,so,none⟩) j6 sCap) (hg:Blk w g aw t) (hn:cs.length=Nat.min j6 aU) (dD:w.rangeAt b so cs) (ak:o+cs.length≤aw.length) (h1:∀ v ∈ cs,v.oneCell'=true) (h:wpList P ops Q rest (a.put op.dst (goInt cs.length)) (w.setRow g (lay aw o cs).toArray)):wpList P ops Q (op::rest) a w:=by
 have hr:=run_copy_row (P:=P) w dT sT op.type elem g o aU dA ⟨b,so,none⟩ j6 sCap aw.toArray t cs hu hs hg hn (fun j v hj=>by rw [Addr.add_mid];exact dD j v hj) (by simpa using ak) h1;refine Lib.wpList_copy_run w bE d s dT sT ho _ _ hd hx hr ?_;simpa [lay] using h
theorem yIA {P:Program} {ops:Array Oper} {rest:List Oper} {op:Oper} {a:Act} {w:World} {Q:Exit→Act→World→Prop} (bE:op.guard=none) (lo c:Operand) (t e:TypeId) (ho:op.op=Op.makeSlice t lo c) (ht:P.underlying t=some (.slice e)) (size bytes:Nat) (hi:(P.info? e).map (fun i=>(i.zero.map (·.cells.size),i.size,i.bytes))=some (some size,size,bytes)) (C:Int) (n:Nat) (hl:a.eval lo=.int .i64 0) (hc:a.eval c=.int .i64 C) (hC:C=(n:Int)) (hb:bytes*n≤281474976710656) (h3:n≤maxLen) (h:∀ w',Go.RowKit.Hid (w'.ownsRow 0 e size (.slice (some ⟨w.heap.size,0,none⟩) 0 n) 0 []∧w.grownBy w' none)→wpList P ops Q rest (a.put op.dst (.slice (some ⟨w.heap.size,0,none⟩) 0 n)) w'):wpList P ops Q (op::rest) a w:=by
 cases hq:P.info? e with
 |none=>simp [hq] at hi
 |some i=>
  simp [hq] at hi;obtain ⟨⟨z,hz,jT⟩,bM,bU⟩:=hi;exact wpList_make_own w bE lo c t ho 0 e i z size ht hq hz bM .i64 .i64 C n hl hc hC (by rw [bU];exact hb) h3 (zLA _) (fun w' r1 r2=>h w' ⟨r1,r2⟩)
theorem yJq {P:Program} {ops:Array Oper} {rest:List Oper} {op:Oper} {a:Act} {w:World} {Q:Exit→Act→World→Prop} (bE:op.guard=none) (lo c:Operand) (t e:TypeId) (ho:op.op=Op.makeSlice t lo c) (ht:P.underlying t=some (.slice e)) (size bytes:Nat) (zc:Array Value) (hi:(P.info? e).map (fun i=>(i.zero.map (·.cells),i.size,i.bytes))=some (some zc,size,bytes)) (C:Int) (n:Nat) (hl:a.eval lo=.int .i64 C) (hc:a.eval c=.int .i64 C) (hC:C=(n:Int)) (hb:bytes*n≤281474976710656) (h3:n≤maxLen) (h:∀ w',Go.RowKit.Hid (Blk w' w.heap.size (madeCells zc (n*size)).toList e∧w.grownBy w' none)→wpList P ops Q rest (a.put op.dst (.slice (some ⟨w.heap.size,0,none⟩) n n)) w'):wpList P ops Q (op::rest) a w:=by
 cases hq:P.info? e with
 |none=>simp [hq] at hi
 |some i=>
  simp [hq] at hi;obtain ⟨⟨z,hz,jT⟩,bM,bU⟩:=hi;refine wpList_make_full w bE lo c t ho 0 e i z size ht hq hz bM .i64 .i64 C C n hl hc hC hC (by rw [bU];exact hb) h3 (zLA _) (fun w' r1 r2=>h w' ⟨?_,r2⟩);rw [jT] at r1;rcases r1.2 with ⟨h1,_⟩|⟨g,cap,aw,hv,_,hh,_,_,bu,bZ⟩
  ·cases h1
  ·cases hv;unfold Blk;rw [hh];have:aw.toList=(madeCells zc (n*size)).toList:=by rw [← bZ,zLi (by simp [bu])]
   rw [← this]
theorem yLt {P:Program} (w:World) (T e:TypeId) (n:Nat) (hu:P.underlying T=some (.array n e)) (j9:(isAgg e).run P w=.ok false w) (hs:(P.info? e).map (·.size)=some 1) (cs:List Value) (j:Nat) (hj:j<n) (v:Value) (hv:cs[j]? = some v) :(Instr.index T (.agg cs.toArray) (zi j)).run P w=.ok v w:=by
 cases hq:P.info? e with
 |none=>simp [hq] at hs
 |some i=>
  have hi:i.size=1:=by simpa [hq] using hs
  simp [Instr.index,asIntOf,run_underlying hu,sizeOf,typeInfo,hq,hi,part,j9,hv,hj]
theorem yEY {P:Program} {ops:Array Oper} {rest:List Oper} {op:Oper} {a:Act} {w:World} {Q:Exit→Act→World→Prop} (bE:op.guard=none) (T e:TypeId) (x i:Operand) (ho:op.op=.index T x i) (n:Nat) (hu:P.underlying T=some (.array n e)) (j9:(isAgg e).run P w=.ok false w) (hs:(P.info? e).map (·.size)=some 1) (cs:List Value) (j:Nat) (hx:a.eval x=.agg cs.toArray) (hi:a.eval i=.int .i64 j) (hj:j<n) (v:Value) (hv:cs[j]? = some v) (h:wpList P ops Q rest (a.put op.dst v) w):wpList P ops Q (op::rest) a w:=by
 refine wpList_plain bE fun K hK=>?_;have hr:=yLt (P:=P) w T e n hu j9 hs cs j hj v hv;unfold Oper.wp execOp;simp only [ho,hx,hi,Sem.run_bind,Sem.run_pure,Result.andThen_ok,hr];exact hK _ _ h
end
end Go.Proofs.YtoipmnikdiogcaaGreatDoor
