/-
  RdW1, RdW2, TbP, TbW1, TbW2, TbW3.
-/
import Derived.Test.YtoipmnikdiogcaaGreatDoorYCY
set_option maxHeartbeats 64000000
namespace Go.Proofs.YtoipmnikdiogcaaGreatDoor
open Go Go.RowKit
open Go.Proofs.Tryz
abbrev xBF:Pl:=(po [0,1,2,3,4,5,6,7,8,9,10] .nil)
abbrev yB4:Pl:=(po [0,1,2] .nil)
abbrev yH6:Pl:=(po [0,1,2,3,4,5,6,7,8,9,10,11] .nil)
abbrev zTDE0:List (Nat×Pl):=[(5,yB4),(6,yH6),(8,yB4),(12,yB4)]
abbrev yQZ:Pl:=(po [0,1,2,3,4,5,6,7,8,9,10,11,12,13,14,15,16] (.ef 17 [] .nil))
abbrev zTDE1:List (Nat×Pl):=[(2,yB4),(7,yQZ)]
abbrev yC0:Pl:=(po [0,1,2,3,5,6,7,8] (.ef 4 [8,7,6,5] (.ef 9 [] (.op 10 .nil))))
abbrev yGf:Pl:=(po [0,1,2,3,4,5,6,7,8,9,10,11,12,13,14,15,16,17,18] (.ef 19 [11,10,9,8,7,6,5,4,3,2,1,0] (.ef 20 [] (.op 21 .nil))))
abbrev yGg:Pl:=(po [0,1,2,3,4,5,6,7,8,9,10,11,12,13,14,15,17,18,19,20,21,22,23,24,25,26,27,28,29,30,31] (.ef 16 [31,30,29,28,27,26,25,24,23,22,21,20,19,18,17] (.ef 32 [24,23,22,21,20,19,18,17] (.ef 33 [] (.op 34 .nil)))))
abbrev yGh:Pl:=(po [0,1,2,3,4,5,6,8,9,10,11,12,13,14,15,16,17,18,19] (.ef 7 [19,18,17,16,15,14,13,12,11,10,9,8] (.ef 20 [] (.op 21 .nil))))
abbrev yGi:Pl:=(po [0,1,2,3,4,5,6,8,9,10,11,12,13,14,15,16,17,18,19,20,21,22,23,24,25,26,27,28,29,30,31] (.ef 7 [31,30,29,28,27,26,25,24,23,22,21,20,19,18,17,16,15,14,13,12,11,10,9,8] (.ef 32 [15,14,13,12,11,10,9,8] (.ef 33 [] (.op 34 .nil)))))
abbrev zTDE2:List (Nat×Pl):=[(3,yC0),(4,yGf),(6,yGg),(8,yC0),(9,yGh),(11,yGi)]
abbrev yLP:Pl:=(po [0,1,2,3,4,5,7,8,9,10,11,12,13,14,15,16,17,18] (.ef 6 [18,17,16,15,14,13,12,11,10,9,8,7] (.ef 19 [] (.op 20 .nil))))
abbrev yIQ:Pl:=(po [0,1,2,3,4,5,6,7,8,9,10,11,12,13,14,15,16,17] (.ef 18 [11,10,9,8,7,6,5,4,3,2,1,0] (.ef 19 [] (.op 20 .nil))))
abbrev yIR:Pl:=(po [0,1,2,3,4,5,6,7,8,9] (.ef 10 [] (.op 11 .nil)))
abbrev zTDE3:List (Nat×Pl):=[(5,yLP),(7,yIQ),(8,yIR)]
abbrev rdP (p:Nat) (s:zB) (a:Nat):SP:=yAj p [strV s,zi (a:Nat)] 207
def rdE {α:Type}:Rd α→Nat
 |.bad e=>e
 |.ok _ _=>0
def rdN:Rd Nat→Nat
 |.bad _=>0
 |.ok x _=>x
def rdL:Rd Nat→Nat
 |.bad _=>0
 |.ok x _=>(vu x).length
section
variable {W:World} {F:Nat→Addr} {p:Nat} {s:zB} {a:Nat}
theorem yDK (s:zB):Ct prog W 90 [strV s] [] (fun p:Nat=>(zPp p)) (fun p=>[rdP p s 0]):=by
 refine zE func90 ntmps90 fun R=>?_;repeat' (first|refine zbx fun g=>?_|refine xst ?_|refine xsf ?_ ?_|intro _)
 all_goals (exact xdn g)
theorem yGK (ha:a≤s.length) (hs:s.length≤9223372036854775807):CtU prog W 144 [zPp p] [rdP p s a] (zi (s.length-a:Nat)) [rdP p s a]:=by refine zE func144 ntmps144 fun R=>?_;repeat' (first|refine yCj ?_;refine yAa (yBl (r:=((s.length-a:Nat):Int)) rfl rfl zO zO) ?_|refine xst ?_|refine xsf ?_ ?_|refine xdr 1 xBF ?_|exact xdn ()|apply zN|intro _)
theorem yEa (ha:a≤s.length) (hs:s.length≤9223372036854775807) (e1:W.cell? ⟨9,0,none⟩=some (yAy F 1)) (e2:W.cell? ⟨10,0,none⟩=some (yAy F 2)) (q:Rd Nat) (hq:ru (s.drop a)=q) :CtU prog W 91 [zPp p] [rdP p s a] (.tuple #[.int .u64 (rdN q:Nat),yAy F (rdE q)]) [rdP p s (a+rdL q)]:=by
 have cl:=yGK (W:=W) (p:=p) (s:=s) (a:=a) ha zO;have ju:(s.drop a).length=s.length-a:=zLf;refine zE func91 ntmps91 fun R=>?_;repeat' (first|refine xst ?_|refine xsf ?_ ?_|refine xdt zTDE0 ?_|apply zN|intro _)
 refine yAC (fun i:{i:Nat × Nat//RuI (s.drop a) i.1 i.2}=>[(0,zPp p),(4,.int .u64 (i.1.2:Nat)),(5,zi (i.1.1:Nat))])
  (fun i=>[rdP p s a]++R) (fun i=>10-i.1.1) ⟨(0,0),RuI.start _⟩ xB (xN) (fun ⟨(i,x),hi⟩=>?_)
 dsimp only at hi ⊢;have i9:=hi.i9;have kz:=hi.il;by_cases a7:i=s.length-a
 ·have az:=hi.short zO;rw [hq] at az;have qe:decide ((i:Int)=((s.length-a:Nat):Int))=true:=zY zO;repeat' (first|refine yAi ?_;refine yAa (yAm rfl e1) ?_|refine yAt ?_;refine yAa (yAe rfl rfl qe) ?_|refine xst ?_|refine xsf ?_ ?_|refine xdt zTDE0 ?_|apply zN|intro _)
  all_goals exact xdn () (hc:=by rw [az];rfl) (hE:=by rw [show a+rdL q=a by rw [az];rfl];exact (xN))
 have qe:decide ((i:Int)=((s.length-a:Nat):Int))=false:=zZ zO;obtain ⟨b,hb⟩:∃ b,(s.drop a)[i]? = some b:=⟨_,zLb zO⟩;have jq:s[a+i]? = some b:=by rw [← hb,zLC]
 have hbt:=zLy b;have eD:(i=9∧1<b.toNat)∨(i=9∧b.toNat=0)∨(i=9∧b.toNat=1)∨(i≠9∧b.toNat=0∧0<i)∨(i≠9∧b.toNat=0∧i=0)∨(i≠9∧0<b.toNat∧b.toNat<128)∨(i≠9∧¬ b.toNat<128):=zO;rcases eD with h9|h9|h9|h9|h9|h9|h9
 ·have az:=hi.bad hb h9;rw [hq] at az;have q9:decide ((i:Int)=9)=true:=zY zO;have qb:decide ((1:Int)<(b.toNat:Int))=true:=zY zO;repeat' (first|refine yAi ?_;refine yAa (yAm rfl e2) ?_|refine yAu ?_;refine yAa (yAg rfl c1) ?_|refine yAI ?_;refine yAa (yAp rfl rfl zO jq) ?_|refine zad (a+i) ?_|refine zad (a+(i+1)) ?_|refine zad (i+1) ?_|refine zml (7*i) ?_|refine yI9 ?_;refine yAa (yFC rfl rfl (yKx b)) ?_|refine yFp ?_;refine yAa (yCT rfl rfl fG) ?_|refine yCo ?_;refine yAa (yBI rfl rfl sh) ?_|(refine yAt ?_;first|refine yAa (yAe rfl rfl qe) ?_|refine yAa (yAe rfl rfl q9) ?_|refine yAa (yAe rfl rfl q0) ?_)|refine yAh ?_;refine yAa (yAc rfl rfl ql) ?_|refine yAq ?_;refine yAa (yAf rfl rfl qb) ?_|refine xst ?_|refine xsf ?_ ?_|refine xdt zTDE0 ?_|apply zN|intro _)
  all_goals exact xdn () (hc:=by rw [az];rfl) (hE:=by rw [show a+rdL q=a by rw [az];rfl];exact (xN))
 ·have az:=hi.nought hb zO zO;rw [hq] at az;have c1:IntKind.u64.wrap ((b.toNat % 128:Nat):Int)=((b.toNat % 128:Nat):Int):=yAx _ zO;have ak:=hi.fit (b:=b) zO;have sh:=yLO (b.toNat % 128) i i9 zO;have fG:=or7 x (b.toNat % 128) i hi.x7 ak;have ql:decide ((b.toNat:Int)<128)=true:=zY zO;have q9:decide ((i:Int)=9)=true:=zY zO;have qb:decide ((1:Int)<(b.toNat:Int))=false:=zZ zO;have q0:decide ((b.toNat:Int)=0)=true:=zY zO;have q1:decide ((0:Int)<(i:Int))=true:=zY zO;repeat' (first|refine yAi ?_;refine yAa (yAm rfl e2) ?_|refine yAu ?_;refine yAa (yAg rfl c1) ?_|refine yAI ?_;refine yAa (yAp rfl rfl zO jq) ?_|refine zad (a+i) ?_|refine zad (a+(i+1)) ?_|refine zad (i+1) ?_|refine zml (7*i) ?_|refine yI9 ?_;refine yAa (yFC rfl rfl (yKx b)) ?_|refine yFp ?_;refine yAa (yCT rfl rfl fG) ?_|refine yCo ?_;refine yAa (yBI rfl rfl sh) ?_|(refine yAt ?_;first|refine yAa (yAe rfl rfl qe) ?_|refine yAa (yAe rfl rfl q9) ?_|refine yAa (yAe rfl rfl q0) ?_)|refine yAh ?_;refine yAa (yAc rfl rfl ql) ?_|(refine yAq ?_;first|refine yAa (yAf rfl rfl q1) ?_|refine yAa (yAf rfl rfl qb) ?_)|refine xst ?_|refine xsf ?_ ?_|refine xdt zTDE0 ?_|apply zN|intro _)
  all_goals exact xdn () (hc:=by rw [az];rfl) (hE:=by rw [show a+rdL q=a by rw [az];rfl];exact (xN))
 ·have am:=hi.done hb zO zO zO;have ai:=RuI.len am zO;rw [hq] at am;have c1:IntKind.u64.wrap ((b.toNat % 128:Nat):Int)=((b.toNat % 128:Nat):Int):=yAx _ zO;have ak:=hi.fit (b:=b) zO;have sh:=yLO (b.toNat % 128) i i9 zO;have fG:=or7 x (b.toNat % 128) i hi.x7 ak;have ql:decide ((b.toNat:Int)<128)=true:=zY zO;have q9:decide ((i:Int)=9)=true:=zY zO;have qb:decide ((1:Int)<(b.toNat:Int))=false:=zZ zO;have q0:decide ((b.toNat:Int)=0)=false:=zZ zO;have hA:a+(i+1)=a+rdL q:=by rw [am];show _=a+(vu _).length;rw [ai]
  have hV:Value.tuple #[.int .u64 ((x+b.toNat % 128*2 ^ (7*i):Nat):Int),.nilIface]=.tuple #[.int .u64 (rdN q:Nat),yAy F (rdE q)]:=by rw [am];rfl
  repeat' (first|refine yAi ?_;refine yAa (yAm rfl e2) ?_|refine yAu ?_;refine yAa (yAg rfl c1) ?_|refine yAI ?_;refine yAa (yAp rfl rfl zO jq) ?_|refine zad (a+i) ?_|refine zad (a+(i+1)) ?_|refine zad (i+1) ?_|refine zml (7*i) ?_|refine yI9 ?_;refine yAa (yFC rfl rfl (yKx b)) ?_|refine yFp ?_;refine yAa (yCT rfl rfl fG) ?_|refine yCo ?_;refine yAa (yBI rfl rfl sh) ?_|(refine yAt ?_;first|refine yAa (yAe rfl rfl qe) ?_|refine yAa (yAe rfl rfl q9) ?_|refine yAa (yAe rfl rfl q0) ?_)|refine yAh ?_;refine yAa (yAc rfl rfl ql) ?_|refine yAq ?_;refine yAa (yAf rfl rfl qb) ?_|refine xst ?_|refine xsf ?_ ?_|refine xdt zTDE0 ?_|apply zN|intro _)
  all_goals rw [hA]
  all_goals exact xdn () (hc:=by exact hV)
 ·have az:=hi.nought hb zO zO;rw [hq] at az;have c1:IntKind.u64.wrap ((b.toNat % 128:Nat):Int)=((b.toNat % 128:Nat):Int):=yAx _ zO;have ak:=hi.fit (b:=b) zO;have sh:=yLO (b.toNat % 128) i i9 zO;have fG:=or7 x (b.toNat % 128) i hi.x7 ak;have ql:decide ((b.toNat:Int)<128)=true:=zY zO;have q9:decide ((i:Int)=9)=false:=zZ zO;have q0:decide ((b.toNat:Int)=0)=true:=zY zO;have q1:decide ((0:Int)<(i:Int))=true:=zY zO;repeat' (first|refine yAi ?_;refine yAa (yAm rfl e2) ?_|refine yAu ?_;refine yAa (yAg rfl c1) ?_|refine yAI ?_;refine yAa (yAp rfl rfl zO jq) ?_|refine zad (a+i) ?_|refine zad (a+(i+1)) ?_|refine zad (i+1) ?_|refine zml (7*i) ?_|refine yI9 ?_;refine yAa (yFC rfl rfl (yKx b)) ?_|refine yFp ?_;refine yAa (yCT rfl rfl fG) ?_|refine yCo ?_;refine yAa (yBI rfl rfl sh) ?_|(refine yAt ?_;first|refine yAa (yAe rfl rfl qe) ?_|refine yAa (yAe rfl rfl q9) ?_|refine yAa (yAe rfl rfl q0) ?_)|refine yAh ?_;refine yAa (yAc rfl rfl ql) ?_|(refine yAq ?_;first|refine yAa (yAf rfl rfl q1) ?_|refine yAa (yAf rfl rfl qb) ?_)|refine xst ?_|refine xsf ?_ ?_|refine xdt zTDE0 ?_|apply zN|intro _)
  all_goals exact xdn () (hc:=by rw [az];rfl) (hE:=by rw [show a+rdL q=a by rw [az];rfl];exact (xN))
 ·have am:=hi.done hb zO zO zO;have ai:=RuI.len am zO;rw [hq] at am;have c1:IntKind.u64.wrap ((b.toNat % 128:Nat):Int)=((b.toNat % 128:Nat):Int):=yAx _ zO;have ak:=hi.fit (b:=b) zO;have sh:=yLO (b.toNat % 128) i i9 zO;have fG:=or7 x (b.toNat % 128) i hi.x7 ak;have ql:decide ((b.toNat:Int)<128)=true:=zY zO;have q9:decide ((i:Int)=9)=false:=zZ zO;have q0:decide ((b.toNat:Int)=0)=true:=zY zO;have q1:decide ((0:Int)<(i:Int))=false:=zZ zO;have hA:a+(i+1)=a+rdL q:=by rw [am];show _=a+(vu _).length;rw [ai]
  have hV:Value.tuple #[.int .u64 ((x+b.toNat % 128*2 ^ (7*i):Nat):Int),.nilIface]=.tuple #[.int .u64 (rdN q:Nat),yAy F (rdE q)]:=by rw [am];rfl
  repeat' (first|refine yAi ?_;refine yAa (yAm rfl e2) ?_|refine yAu ?_;refine yAa (yAg rfl c1) ?_|refine yAI ?_;refine yAa (yAp rfl rfl zO jq) ?_|refine zad (a+i) ?_|refine zad (a+(i+1)) ?_|refine zad (i+1) ?_|refine zml (7*i) ?_|refine yI9 ?_;refine yAa (yFC rfl rfl (yKx b)) ?_|refine yFp ?_;refine yAa (yCT rfl rfl fG) ?_|refine yCo ?_;refine yAa (yBI rfl rfl sh) ?_|(refine yAt ?_;first|refine yAa (yAe rfl rfl qe) ?_|refine yAa (yAe rfl rfl q9) ?_|refine yAa (yAe rfl rfl q0) ?_)|refine yAh ?_;refine yAa (yAc rfl rfl ql) ?_|(refine yAq ?_;first|refine yAa (yAf rfl rfl q1) ?_|refine yAa (yAf rfl rfl qb) ?_)|refine xst ?_|refine xsf ?_ ?_|refine xdt zTDE0 ?_|apply zN|intro _)
  all_goals rw [hA]
  all_goals exact xdn () (hc:=by exact hV)
 ·have am:=hi.done hb zO zO zO;have ai:=RuI.len am zO;rw [hq] at am;have c1:IntKind.u64.wrap ((b.toNat % 128:Nat):Int)=((b.toNat % 128:Nat):Int):=yAx _ zO;have ak:=hi.fit (b:=b) zO;have sh:=yLO (b.toNat % 128) i i9 zO;have fG:=or7 x (b.toNat % 128) i hi.x7 ak;have ql:decide ((b.toNat:Int)<128)=true:=zY zO;have q9:decide ((i:Int)=9)=false:=zZ zO;have q0:decide ((b.toNat:Int)=0)=false:=zZ zO;have hA:a+(i+1)=a+rdL q:=by rw [am];show _=a+(vu _).length;rw [ai]
  have hV:Value.tuple #[.int .u64 ((x+b.toNat % 128*2 ^ (7*i):Nat):Int),.nilIface]=.tuple #[.int .u64 (rdN q:Nat),yAy F (rdE q)]:=by rw [am];rfl
  repeat' (first|refine yAi ?_;refine yAa (yAm rfl e2) ?_|refine yAu ?_;refine yAa (yAg rfl c1) ?_|refine yAI ?_;refine yAa (yAp rfl rfl zO jq) ?_|refine zad (a+i) ?_|refine zad (a+(i+1)) ?_|refine zad (i+1) ?_|refine zml (7*i) ?_|refine yI9 ?_;refine yAa (yFC rfl rfl (yKx b)) ?_|refine yFp ?_;refine yAa (yCT rfl rfl fG) ?_|refine yCo ?_;refine yAa (yBI rfl rfl sh) ?_|(refine yAt ?_;first|refine yAa (yAe rfl rfl qe) ?_|refine yAa (yAe rfl rfl q9) ?_|refine yAa (yAe rfl rfl q0) ?_)|refine yAh ?_;refine yAa (yAc rfl rfl ql) ?_|refine yAq ?_;refine yAa (yAf rfl rfl qb) ?_|refine xst ?_|refine xsf ?_ ?_|refine xdt zTDE0 ?_|apply zN|intro _)
  all_goals rw [hA]
  all_goals exact xdn () (hc:=by exact hV)
 ·have ax:=hi.next hb zO h9.2;have c1:IntKind.u64.wrap ((b.toNat % 128:Nat):Int)=((b.toNat % 128:Nat):Int):=yAx _ zO;have ak:=hi.fit (b:=b) zO;have sh:=yLO (b.toNat % 128) i i9 zO;have fG:=or7 x (b.toNat % 128) i hi.x7 ak;have ql:decide ((b.toNat:Int)<128)=false:=zZ zO;have q9:decide ((i:Int)=9)=false:=zZ zO;repeat' (first|refine yAi ?_;refine yAa (yAm rfl e2) ?_|refine yAu ?_;refine yAa (yAg rfl c1) ?_|refine yAI ?_;refine yAa (yAp rfl rfl zO jq) ?_|refine zad (a+i) ?_|refine zad (a+(i+1)) ?_|refine zad (i+1) ?_|refine zml (7*i) ?_|refine yI9 ?_;refine yAa (yFC rfl rfl (yKx b)) ?_|refine yFp ?_;refine yAa (yCT rfl rfl fG) ?_|refine yCo ?_;refine yAa (yBI rfl rfl sh) ?_|(refine yAt ?_;first|refine yAa (yAe rfl rfl qe) ?_|refine yAa (yAe rfl rfl q9) ?_|refine yAa (yAe rfl rfl q0) ?_)|refine yAh ?_;refine yAa (yAc rfl rfl ql) ?_|refine yAq ?_;refine yAa (yAf rfl rfl qb) ?_|refine xst ?_|refine xsf ?_ ?_|refine xdt zTDE0 ?_|apply zN|intro _)
  all_goals refine yAs ⟨(i+1,x+b.toNat % 128*2 ^ (7*i)),ax⟩ (by show 10-(i+1)<10-i;omega) xB (xN)
end
theorem yH7 {F : Nat → Addr} {e : Nat} (h : e ≠ 0) : yJQ (.interface #[("Error", 47)]) (yAy F e) .nilIface = some false := by rw [yD3 F e zO]; rfl
theorem xDp (b:UInt8):ShlF .u64 (b.toNat:Int) 0 (b.toNat:Int):=by have hb:=zLy b;refine ⟨zO,?_⟩;show IntKind.u64.wrap ((b.toNat:Int)*2 ^ 0)=_;rw [show ((b.toNat:Int)*2 ^ 0)=((b.toNat:Nat):Int) by simp];exact yAx _ zO
theorem or0 (b:UInt8):OrF .u64 0 (b.toNat:Int) (b.toNat:Int):=by have hb:=zLy b;have:=or7 0 b.toNat 0 zW zO;have e:((b.toNat*2 ^ (7*0):Nat):Int)=(b.toNat:Int):=zW;have e2:((0+b.toNat*2 ^ (7*0):Nat):Int)=(b.toNat:Int):=zW;rw [e,e2] at this;exact this
def yHx (most:Nat):Rd Nat→Nat
 |.bad e=>e
 |.ok x _=>if most<x then 3 else 0
def yOU (most:Nat):Rd Nat→Nat
 |.bad _=>0
 |.ok x _=>if most<x then 0 else x
def yOV (most:Nat):Rd Nat→Nat
 |.bad _=>0
 |.ok x _=>if most<x then 0 else (vu x).length
section
variable {W:World} {F:Nat→Addr} {p:Nat} {s:zB} {a:Nat}
theorem yZU (ha:a=s.length) (hs:s.length≤9223372036854775807) (e1:W.cell? ⟨9,0,none⟩=some (yAy F 1)) :CtU prog W 226 [zPp p,zi 1] [rdP p s a] (.tuple #[.int .u64 0,yAy F 1]) [rdP p s a]:=by
 have cl:=yGK (W:=W) (p:=p) (s:=s) (a:=a) zO zO;have ql:decide (((s.length-a:Nat):Int)<1)=true:=zY zO;refine zE func226 ntmps226 fun R=>?_;repeat' (first|refine xqa ?_|refine xsf ?_ ?_|refine xdt zTDE1 ?_|exact xdn ()|apply zN|intro _)
theorem yZV {b:UInt8} (hb:s[a]? = some b) (hs:s.length≤9223372036854775807) :CtU prog W 226 [zPp p,zi 1] [rdP p s a] (.tuple #[.int .u64 (b.toNat:Int),.nilIface]) [rdP p s (a+1)]:=by
 have hlt:=(zLc.1 hb).1;have hbt:=zLy b;have cl:=yGK (W:=W) (p:=p) (s:=s) (a:=a) zO zO;have ql:decide (((s.length-a:Nat):Int)<1)=false:=zZ zO;refine zE func226 ntmps226 fun R=>?_;repeat' (first|refine xqa ?_|refine xsf ?_ ?_|refine xdt zTDE1 ?_|apply zN|intro _)
 refine yAC (fun i:{i:Nat × Nat//(i.1=0∧i.2=0)∨(i.1=1∧i.2=b.toNat)}=>[(0,zPp p),(1,zi 1),(6,.int .u64 (i.1.2:Nat)),(13,zi 1),(14,zi (i.1.1:Nat))])
  (fun i=>[rdP p s a]++R) (fun i=>1-i.1.1) ⟨(0,0),.inl ⟨rfl,rfl⟩⟩ xB (xN) (fun ⟨(i,x),hi⟩=>?_)
 dsimp only at hi ⊢;rcases hi with ⟨rfl,rfl⟩|⟨rfl,rfl⟩
 ·have q1:decide (((0:Nat):Int)<1)=true:=rfl;have jd:s[Int.toNat ((a:Nat):Int)]? = some b:=by simpa using hb
  have c1:IntKind.u64.wrap ((b.toNat:Nat):Int)=((b.toNat:Nat):Int):=yAx _ zO;repeat' (first|refine zad 1 ?_|refine zad a ?_|refine yBN ?_;refine yAa (yAX (r:=0) rfl rfl zO zO) ?_|refine yFp ?_;refine yAa (yCT rfl rfl (or0 b)) ?_|refine yCo ?_;refine yAa (yBI rfl rfl (xDp b)) ?_|refine xqa ?_|refine xsf ?_ ?_|refine xdt zTDE1 ?_|apply zN|intro _)
  all_goals refine yAs ⟨(1,b.toNat),.inr ⟨rfl,rfl⟩⟩ (by show 1-1<1-0;omega) xB (xN)
 ·have q1:decide (((1:Nat):Int)<1)=false:=rfl;repeat' (first|refine zad (a+1) ?_|refine xqa ?_|refine xsf ?_ ?_|refine xdt zTDE1 ?_|exact xdn ()|apply zN|intro _)
theorem yXo (ha:a=s.length) (hs:s.length≤9223372036854775807) (e1:W.cell? ⟨9,0,none⟩=some (yAy F 1)) :CtU prog W 191 [zPp p] [rdP p s a] (.tuple #[bv 0,yAy F 1]) [rdP p s a]:=by
 have cl:=yZU (W:=W) (F:=F) (p:=p) (s:=s) (a:=a) ha hs e1;refine zE func191 ntmps191 fun R=>?_;repeat' (first|refine yAu ?_;refine yAa (yAg (j:=0) rfl rfl) ?_|refine xst ?_|refine xsf ?_ ?_|exact xdn ()|intro _)
theorem yM3 {b:UInt8} (hb:s[a]? = some b) (hs:s.length≤9223372036854775807) :CtU prog W 191 [zPp p] [rdP p s a] (.tuple #[bv b,.nilIface]) [rdP p s (a+1)]:=by
 have hbt:=zLy b;have cl:=yZV (W:=W) (p:=p) (s:=s) (a:=a) hb hs;have c1:IntKind.u8.wrap ((b.toNat:Nat):Int)=((b.toNat:Nat):Int):=by rw [yKs];congr 1;omega
 refine zE func191 ntmps191 fun R=>?_;repeat' (first|refine xqa ?_|refine xsf ?_ ?_|exact xdn ()|intro _)
theorem yDL (ha:a≤s.length) (hs:s.length≤9223372036854775807) (e5:W.cell? ⟨13,0,none⟩=some (yAy F 5)) :CtU prog W 94 [zPp p] [rdP p s a] (yAy F (if a<s.length then 5 else 0)) [rdP p s a]:=by
 have cl:=yGK (W:=W) (p:=p) (s:=s) (a:=a) ha zO;by_cases h:a<s.length
 ·have ql:decide ((0:Int)<((s.length-a:Nat):Int))=true:=zY zO;rw [if_pos h];refine zE func94 ntmps94 fun R=>?_;repeat' (first|refine xqa ?_|refine xsf ?_ ?_|exact xdn ()|intro _)
 ·have ql:decide ((0:Int)<((s.length-a:Nat):Int))=false:=zZ zO;rw [if_neg h];refine zE func94 ntmps94 fun R=>?_;repeat' (first|refine xqa ?_|refine xsf ?_ ?_|exact xdn ()|intro _)
theorem yXp (br bm most:Nat) (hm:most≤9223372036854775807) (ha:a≤s.length) (hs:s.length≤9223372036854775807) (e1:W.cell? ⟨9,0,none⟩=some (yAy F 1)) (e2:W.cell? ⟨10,0,none⟩=some (yAy F 2)) (e3:W.cell? ⟨11,0,none⟩=some (yAy F 3)) (q:Rd Nat) (hq:ru (s.drop a)=q) :Ct prog W 146 [zPp br,zPp bm] [rdP p s a,yAj br [zPp p] 144,yAj bm [zi (most:Nat)] 3] (fun _:Unit=>.tuple #[zi (IntKind.i64.wrap (rdN q:Nat)),yAy F (yHx most q)]) (fun _=>[rdP p s (a+rdL q),yAj br [zPp p] 144,yAj bm [zi (most:Nat)] 3]):=by
 have cu:=yEa (W:=W) (F:=F) (p:=p) (s:=s) (a:=a) ha hs e1 e2 q hq;have cm:IntKind.u64.wrap ((most:Nat):Int)=((most:Nat):Int):=yAx _ zO;have q0:decide ((most:Int)<0)=false:=zZ zO;cases q with
 |bad e=>
  have ao:e≠0:=by rcases yDB hq with h|h <;> omega
  have hn:=yH7 (F:=F) ao;refine zE func146 ntmps146 fun R=>?_;repeat' (first|refine yAt ?_;refine yAa (yJR rfl hn) ?_|refine xst ?_|refine xsf ?_ ?_|exact xdn ()|intro _)
 |ok x t=>
  have hx:=(yHV hq).2;by_cases hl:most<x
  ·have qg:decide (((most:Nat):Int)<((x:Nat):Int))=true:=zY zO;have he:yHx most (.ok x t)=3:=if_pos hl;rw [he];refine zE func146 ntmps146 fun R=>?_;repeat' (first|refine yAi ?_;refine yAa (yAm rfl e3) ?_|refine yAu ?_;refine yAa (yAg rfl cm) ?_|refine yAh ?_;refine yAa (yAc rfl rfl q0) ?_|refine yAq ?_;refine yAa (yAf rfl rfl qg) ?_|refine xst ?_|refine xsf ?_ ?_|exact xdn ()|intro _)
  ·have qg:decide (((most:Nat):Int)<((x:Nat):Int))=false:=zZ zO;have he:yHx most (.ok x t)=0:=if_neg hl;rw [he];refine zE func146 ntmps146 fun R=>?_;repeat' (first|refine yAu ?_;refine yAa (yAg rfl cm) ?_|refine yAh ?_;refine yAa (yAc rfl rfl q0) ?_|refine yAq ?_;refine yAa (yAf rfl rfl qg) ?_|refine xst ?_|refine xsf ?_ ?_|exact xdn ()|intro _)
end
structure Nd where
 b:Nat
 k:zB
 v:zB
 l:Option Addr
 r:Option Addr
 h:Nat
 s:Nat
def ndC (x:Nd):List Value:=[strV x.k,strV x.v,.pointer x.l,.pointer x.r,zi (x.h:Nat),zi (x.s:Nat)]
def arP (N:List Nd):SP:=⟨50,0,fun h=>∀ x ∈ N,h x.b=some (.cells (ndC x).toArray 243 (0,0))⟩
theorem yYQ {N:List Nd}:∀ h g,Hl.le h g→(arP N).ok h→(arP N).ok g:=fun _ _ le q x hx=>le _ _ (q x hx)
def TrAt (N:List Nd):Option Addr→Tr→Prop
 |a,.nil=>a=none
 |a,.node l k v r h s=>∃ b al ar,a=some ⟨b,0,none⟩∧⟨b,k,v,al,ar,h,s⟩ ∈ N∧TrAt N al l∧TrAt N ar r
theorem TrAt.mono {N N':List Nd} (h:∀ x ∈ N,x ∈ N'):∀ {t:Tr} {a:Option Addr},TrAt N a t→TrAt N' a t
 |.nil,_,q=>q
 |.node _ _ _ _ _ _,_,⟨b,al,ar,e,hm,q1,q2⟩=>⟨b,al,ar,e,h _ hm,q1.mono h,q2.mono h⟩
section
variable {P:Program} {W:World} {n d:Nat} {E:Env} {H H' R R':List SP} {k:KK} {t u e:TypeId} {x y z:Operand}
theorem yAB {nd:Nd} {N:List Nd} {j:Nat} {v:Value} (hx:Env.ev E x=some (.pointer (some ⟨nd.b,j,none⟩))) [hu:ScIs P t] (hs:Sel (arP N) H R) (hn:nd ∈ N) (hv:(ndC nd)[j]? = some v):Ev P W n E H (.load t x) v:=
 Ev.mk fun op dE ac w p s=>by
  obtain ⟨dd,hu,hd⟩:=hu.h;obtain ⟨h,ha,l⟩:=s.sel hs yYQ;have hb:=(l nd.b _ (ha nd hn)).2;have hc:w.cell? ⟨nd.b,j,none⟩=some v:=by have gZ:Blk w nd.b (ndC nd) 243:=hb;rw [gZ.cell];exact hv
  simp [execOp,dE,p.ev hx,yCg w hc hu hd,Result.andThen]
theorem ySr {N:List Nd} {nd:Nd}:∀ g,yAH (yAj nd.b (ndC nd) 243::arP N::H) g→yAH (arP (nd::N)::H) g:=fun g q=>by
 obtain ⟨h1,h2,dj,l1,l2,hA,hH⟩:=(yBj (A:=[yAj nd.b (ndC nd) 243,arP N]) (B:=H) g).1 q;refine ⟨h1,h2,dj,l1,l2,?_,hH⟩;obtain ⟨k1,k2,_,m1,m2,c1,c2⟩:=hA;intro x hx;rcases zLm.1 hx with e|e
 ·subst e;exact m1 _ _ c1
 ·exact m2 _ _ (starL_one' yYQ c2 x e)
theorem KJ.arAdd {N:List Nd} (nd:Nd) {g:Nat} {cs:List Value} {T:TypeId} (hg:nd.b=g) (dx:ndC nd=cs) (hT:T=243) (p:Pick [yAj g cs T,arP N] H R) (h:KJ W n k E (arP (nd::N)::R)):KJ W n k E H:=by subst hg dx hT;exact ⟨fun a w q s=>h.go a w q ((s.perm (p.perm.append_right _)).mono ySr)⟩
theorem ySs:∀ g,yAH H g→yAH (arP []::H) g:=fun g q=>⟨fun _=>none,g,(fun _ _ q=>by cases q),(fun _ _ q=>by cases q),.rfl,(by intro x hx;cases hx),q⟩
theorem KJ.arNil (h:KJ W n k E (arP []::H)):KJ W n k E H:=⟨fun a w q s=>h.go a w q (s.mono ySs)⟩
end
abbrev xCt (N:List Nd) (t:Tr):Type:={x:List Nd × Option Addr//(∀ y ∈ N,y ∈ x.1)∧TrAt x.1 x.2 t}
theorem xCu (a c:zB):(Op.bytesLess a c=true∧Op.bytesLess c a=false)∨(Op.bytesLess a c=false∧Op.bytesLess c a=true)∨(Op.bytesLess a c=false∧Op.bytesLess c a=false):=by
 cases h:Op.bytesLess a c with
 |true=>exact .inl ⟨rfl,yGb h⟩
 |false=>cases h2:Op.bytesLess c a with
  |true=>exact .inr (.inl ⟨rfl,rfl⟩)
  |false=>exact .inr (.inr ⟨rfl,rfl⟩)
section
variable {W:World}
def ySt (a c:zB):Int:=if Op.bytesLess a c=true then -1 else if Op.bytesLess c a=true then 1 else 0
instance:FnIs prog 214:=⟨zK⟩
instance:FnIs prog 171:=⟨zK⟩
theorem yQ0 (a:zB):CtU prog W 214 [strV a] [] (.bool false) []:=by refine zE func214 ntmps214 fun R=>?_;repeat' (first|refine yAo ?_;refine yAa (yDO rfl rfl rfl) ?_|refine xst ?_|refine xsf ?_ ?_|exact xdn ()|intro _)
theorem yIS (a c:zB):CtU prog W 171 [strV a,strV c] [] (zi (ySt a c)) []:=by
 have c1:=yQ0 (W:=W) a;have c2:=yQ0 (W:=W) c;have hg:(!(Op.bytesLess a c || decide (a=c)))=Op.bytesLess c a:=by rw [yHp,Bool.not_not]
 rcases xCu a c with ⟨h1,h2⟩|⟨h1,h2⟩|⟨h1,h2⟩
 ·have e:ySt a c=-1:=by unfold ySt;rw [if_pos h1]
  rw [e];refine zE func171 ntmps171 fun R=>?_;repeat' (first|refine xqa ?_|refine xsf ?_ ?_|exact xdn ()|intro _)
 ·have e:ySt a c=1:=by unfold ySt;rw [if_neg (by rw [h1];decide),if_pos h2]
  rw [e];rw [h2] at hg;refine zE func171 ntmps171 fun R=>?_;repeat' (first|refine xqa ?_|refine xsf ?_ ?_|exact xdn ()|intro _)
 ·have e:ySt a c=0:=by unfold ySt;rw [if_neg (by rw [h1];decide),if_neg (by rw [h2];decide)]
  rw [e];rw [h2] at hg;refine zE func171 ntmps171 fun R=>?_;repeat' (first|refine xqa ?_|refine xsf ?_ ?_|exact xdn ()|intro _)
end
section
variable {W:World} {N:List Nd} {a c:Option Addr} {l r t:Tr} {k v:zB}
theorem yGj (hT:TrAt N a t):CtU prog W 227 [.pointer a] [arP N] (zi (t.tall:Nat)) [arP N]:=by
 cases t with
 |nil=>
  cases hT;refine zE func227 ntmps227 fun R=>?_;repeat' (first|refine xst ?_|refine xsf ?_ ?_|exact xdn ()|intro _)
 |node tl tk tv tr th ts=>
  obtain ⟨b,al,ar,rfl,hm,-,-⟩:=hT;refine zE func227 ntmps227 fun R=>?_;repeat' (first|refine yAi ?_;refine yAa (yAB (nd:=⟨b,tk,tv,al,ar,th,ts⟩) rfl xS hm rfl) ?_|refine xst ?_|refine xsf ?_ ?_|exact xdn ()|intro _)
theorem yKz (hT:TrAt N a t):CtU prog W 160 [.pointer a] [arP N] (zi (t.cnt:Nat)) [arP N]:=by
 cases t with
 |nil=>
  cases hT;refine zE func160 ntmps160 fun R=>?_;repeat' (first|refine xst ?_|refine xsf ?_ ?_|exact xdn ()|intro _)
 |node tl tk tv tr th ts=>
  obtain ⟨b,al,ar,rfl,hm,-,-⟩:=hT;refine zE func160 ntmps160 fun R=>?_;repeat' (first|refine yAi ?_;refine yAa (yAB (nd:=⟨b,tk,tv,al,ar,th,ts⟩) rfl xS hm rfl) ?_|refine xst ?_|refine xsf ?_ ?_|exact xdn ()|intro _)
theorem yDH (hl:TrAt N a l) (hr:TrAt N c r) (h1:l.tall≤2305843009213693952) (h2:r.tall≤2305843009213693952) (h3:l.cnt≤2305843009213693952) (h4:r.cnt≤2305843009213693952) :Ct prog W 193 [.pointer a,strV k,strV v,.pointer c] [arP N] (fun x:xCt N (Tr.join l k v r)=>.pointer x.1.2) (fun x=>[arP x.1.1]):=by
 have c1:=yGj (W:=W) hl;have c2:=yGj (W:=W) hr;have c3:=yKz (W:=W) hl;have c4:=yKz (W:=W) hr;obtain ⟨tl,jU⟩:∃ x,x=l.tall:=⟨_,rfl⟩;obtain ⟨tr,htr⟩:∃ x,x=r.tall:=⟨_,rfl⟩;obtain ⟨nl,dJ⟩:∃ x,x=l.cnt:=⟨_,rfl⟩;obtain ⟨nr,hnr⟩:∃ x,x=r.cnt:=⟨_,rfl⟩;rw [← jU] at h1 c1;rw [← htr] at h2 c2;rw [← dJ] at h3 c3;rw [← hnr] at h4 c4;have hmx:max ((tl:Nat):Int) ((tr:Nat):Int)=((max tl tr:Nat):Int):=zO;refine zE func193 ntmps193 fun R=>?_;repeat' (first|refine yAW ?_;refine yAU rfl xF rfl (fun g=>?_);refine KJ.arAdd ⟨g,k,v,a,c,max tl tr+1,nl+nr+1⟩ rfl rfl rfl xP ?_|refine zad (nl+nr+1) ?_|refine zad (nl+nr) ?_|refine zad (max tl tr+1) ?_|refine xqa ?_|refine xsf ?_ ?_|intro _)
 all_goals (exact xdn ⟨(⟨g,k,v,a,c,max tl tr+1,nl+nr+1⟩::N,some ⟨g,0,none⟩),fun y hy=>List.mem_cons_of_mem _ hy,⟨g,a,c,rfl,by rw [jU,htr,dJ,hnr];exact List.mem_cons_self ..,hl.mono fun y hy=>List.mem_cons_of_mem _ hy,hr.mono fun y hy=>List.mem_cons_of_mem _ hy⟩⟩)
end
theorem Tr.child {l r:Tr} {k v:zB} {h s:Nat} (q:(Tr.node l k v r h s).Ok):l.Ok∧r.Ok∧l.tall≤h∧r.tall≤h∧l.cnt≤s∧r.cnt≤s:=⟨q.1,q.2.1,by have:=q.2.2.1;omega,by have:=q.2.2.1;omega,by have:=q.2.2.2.1;omega,by have:=q.2.2.2.1;omega⟩
theorem yE5 (l r:Tr) (k v:zB):(Tr.join l k v r).tall=max l.tall r.tall+1:=rfl
theorem yGL (l r:Tr) (k v:zB):(Tr.join l k v r).cnt=l.cnt+r.cnt+1:=rfl
section
variable {W:World} {N:List Nd} {a c:Option Addr} {l r t:Tr} {k v:zB}
theorem yH8 (hl:TrAt N a l) (hr:TrAt N c r) (ol:l.Ok) (or_:r.Ok) (h3:l.cnt≤576460752303423488) (h4:r.cnt≤576460752303423488) :Ct prog W 192 [.pointer a,strV k,strV v,.pointer c] [arP N] (fun x:xCt N (Tr.level l k v r)=>.pointer x.1.2) (fun x=>[arP x.1.1]):=by
 have h1:=Tr.tall_cnt ol;have h2:=Tr.tall_cnt or_;have c1:=yGj (W:=W) hl;have c2:=yGj (W:=W) hr;by_cases hc:r.tall+1<l.tall
 ·have fM:True:=trivial;cases l with
  |nil=>exact absurd hc (by simp only [Tr.t0];omega)
  |node tl yk yv tr yh ys=>
   obtain ⟨b,yl,yr,rfl,hm,fZ,gA⟩:=hl;have hN:TrAt N (zq b) (.node tl yk yv tr yh ys):=⟨b,yl,yr,rfl,hm,fZ,gA⟩;obtain ⟨k1,k2,k3,k4,k5,k6⟩:=Tr.child ol;rw [Tr.tn] at h1 c1;simp only [Tr.tn] at hc fM;have c3:=yGj (W:=W) fZ;have c4:=yGj (W:=W) gA;have h3:ys≤576460752303423488:=h3;have h1:yh≤ys:=h1;have q1:decide (((r.tall+1:Nat):Int)<((yh:Nat):Int))=true:=zY zO;by_cases dt:tr.tall≤tl.tall
   ·have q3:decide (((tr.tall:Nat):Int)≤((tl.tall:Nat):Int))=true:=zY zO;have he:Tr.level (.node tl yk yv tr yh ys) k v r=Tr.join tl yk yv (Tr.join tr k v r):=by unfold Tr.level;exact (if_pos (by simp only [Tr.tn];exact hc)).trans (if_pos dt)
    have b1:=yE5 tr r k v;have b2:=yGL tr r k v;rw [he];refine zE func192 ntmps192 fun R=>?_;repeat' (first|(refine yAb ?_;first|refine xca (yDH (W:=W) (gA) (hr) zO zO zO zO) fun x=>?_;obtain ⟨⟨N1,p1⟩,g1,t1⟩:=x;dsimp only at g1 t1 ⊢;refine yDw ?_|refine xca c4 fun _=>?_|refine xca c3 fun _=>?_|refine xca c2 fun _=>?_|refine xca c1 fun _=>?_)|refine yAi ?_;refine yAa (yAB (nd:=⟨b,yk,yv,yl,yr,yh,ys⟩) rfl xS hm rfl) ?_|refine yAr ?_;refine yAa (yAd (r:=((r.tall+1:Nat):Int)) rfl rfl zO zO) ?_|refine yAq ?_;refine yAa (yAf rfl rfl q1) ?_|refine yAJ ?_;refine yAa (yAl rfl rfl q3) ?_|refine xst ?_|refine xsf ?_ ?_|refine xdt zTDE2 ?_|apply zN|intro _)
    refine Hold.mk ?_;repeat' (first|refine xca (yDH (W:=W) (fZ.mono g1) (t1) zO zO zO zO) fun x=>?_;obtain ⟨⟨N2,p2⟩,g2,t2⟩:=x;dsimp only at g2 t2 ⊢|refine yAi ?_;refine yAa (yAB (nd:=⟨b,yk,yv,yl,yr,yh,ys⟩) rfl xS (g1 _ hm) rfl) ?_|refine xst ?_|refine xsf ?_ ?_|refine xdt zTDE2 ?_|apply zN|intro _)
    all_goals (exact xdn ⟨(N2,p2),fun y hy=>g2 y (g1 y hy),t2⟩)
   ·have q3:decide (((tr.tall:Nat):Int)≤((tl.tall:Nat):Int))=false:=zZ zO;cases tr with
    |nil=>exact absurd dt (by simp only [Tr.t0];omega)
    |node ml zk zv mr zh zs=>
     obtain ⟨d,zl,zr,hze,j',hzl,hzr⟩:=gA;subst hze;obtain ⟨m1,m2,m3,m4,m5,m6⟩:=Tr.child k2;rw [Tr.tn] at c4 q3;simp only [Tr.tn] at dt;have k4:zh≤yh:=k4;have k6:zs≤ys:=k6;have he:Tr.level (.node tl yk yv (.node ml zk zv mr zh zs) yh ys) k v r=Tr.join (Tr.join tl yk yv ml) zk zv (Tr.join mr k v r):=by unfold Tr.level;exact (if_pos (by simp only [Tr.tn];exact hc)).trans (if_neg (by simp only [Tr.tn];exact dt))
     have b1:=yE5 tl ml yk yv;have b2:=yGL tl ml yk yv;have b3:=yE5 mr r k v;have b4:=yGL mr r k v;rw [he];refine zE func192 ntmps192 fun R=>?_;repeat' (first|(refine yAb ?_;first|refine xca (yDH (W:=W) (fZ) (hzl) zO zO zO zO) fun x=>?_;obtain ⟨⟨N1,p1⟩,g1,t1⟩:=x;dsimp only at g1 t1 ⊢;refine yDw ?_|refine xca c4 fun _=>?_|refine xca c3 fun _=>?_|refine xca c2 fun _=>?_|refine xca c1 fun _=>?_)|(refine yAi ?_;first|refine yAa (yAB (nd:=⟨d,zk,zv,zl,zr,zh,zs⟩) rfl xS j' rfl) ?_|refine yAa (yAB (nd:=⟨b,yk,yv,yl,some ⟨d,0,none⟩,yh,ys⟩) rfl xS hm rfl) ?_)|refine yAr ?_;refine yAa (yAd (r:=((r.tall+1:Nat):Int)) rfl rfl zO zO) ?_|refine yAq ?_;refine yAa (yAf rfl rfl q1) ?_|refine yAJ ?_;refine yAa (yAl rfl rfl q3) ?_|refine xst ?_|refine xsf ?_ ?_|refine xdt zTDE2 ?_|apply zN|intro _)
     refine Hold.mk ?_;repeat' (first|refine xca (yDH (W:=W) (hzr.mono g1) (hr.mono g1) zO zO zO zO) fun x=>?_;obtain ⟨⟨N2,p2⟩,g2,t2⟩:=x;dsimp only at g2 t2 ⊢;refine yDw ?_|(refine yAi ?_;first|refine yAa (yAB (nd:=⟨d,zk,zv,zl,zr,zh,zs⟩) rfl xS (g1 _ j') rfl) ?_|refine yAa (yAB (nd:=⟨b,yk,yv,yl,some ⟨d,0,none⟩,yh,ys⟩) rfl xS (g1 _ hm) rfl) ?_)|refine xst ?_|refine xsf ?_ ?_|refine xdt zTDE2 ?_|apply zN|intro _)
     refine Hold.mk ?_;repeat' (first|refine xca (yDH (W:=W) (t1.mono g2) (t2) zO zO zO zO) fun x=>?_;obtain ⟨⟨N3,p3⟩,g3,t3⟩:=x;dsimp only at g3 t3 ⊢|(refine yAi ?_;first|refine yAa (yAB (nd:=⟨d,zk,zv,zl,zr,zh,zs⟩) rfl xS (g2 _ (g1 _ j')) rfl) ?_|refine yAa (yAB (nd:=⟨b,yk,yv,yl,some ⟨d,0,none⟩,yh,ys⟩) rfl xS (g2 _ (g1 _ hm)) rfl) ?_)|refine xst ?_|refine xsf ?_ ?_|refine xdt zTDE2 ?_|apply zN|intro _)
     all_goals (exact xdn ⟨(N3,p3),fun y hy=>g3 y (g2 y (g1 y hy)),t3⟩)
 have fM:=hc;clear hc;by_cases hc:l.tall+1<r.tall
 ·
  cases r with
  |nil=>exact absurd hc (by simp only [Tr.t0];omega)
  |node tl yk yv tr yh ys=>
   obtain ⟨b,yl,yr,rfl,hm,fZ,gA⟩:=hr;have hN:TrAt N (zq b) (.node tl yk yv tr yh ys):=⟨b,yl,yr,rfl,hm,fZ,gA⟩;obtain ⟨k1,k2,k3,k4,k5,k6⟩:=Tr.child or_;rw [Tr.tn] at h2 c2;simp only [Tr.tn] at hc fM;have c3:=yGj (W:=W) fZ;have c4:=yGj (W:=W) gA;have h4:ys≤576460752303423488:=h4;have h2:yh≤ys:=h2;have q1:decide (((yh+1:Nat):Int)<((l.tall:Nat):Int))=false:=zZ zO;have q2:decide (((l.tall+1:Nat):Int)<((yh:Nat):Int))=true:=zY zO;by_cases dt:tl.tall≤tr.tall
   ·have q3:decide (((tl.tall:Nat):Int)≤((tr.tall:Nat):Int))=true:=zY zO;have he:Tr.level l k v (.node tl yk yv tr yh ys)=Tr.join (Tr.join l k v tl) yk yv tr:=by unfold Tr.level;exact (if_neg (by simp only [Tr.tn];exact fM)).trans ((if_pos (by simp only [Tr.tn];exact hc)).trans (if_pos dt))
    have b1:=yE5 l tl k v;have b2:=yGL l tl k v;rw [he];refine zE func192 ntmps192 fun R=>?_;repeat' (first|(refine yAb ?_;first|refine xca (yDH (W:=W) (hl) (fZ) zO zO zO zO) fun x=>?_;obtain ⟨⟨N1,p1⟩,g1,t1⟩:=x;dsimp only at g1 t1 ⊢;refine yDw ?_|refine xca c4 fun _=>?_|refine xca c3 fun _=>?_|refine xca c2 fun _=>?_|refine xca c1 fun _=>?_)|refine yAi ?_;refine yAa (yAB (nd:=⟨b,yk,yv,yl,yr,yh,ys⟩) rfl xS hm rfl) ?_|(refine yAr ?_;first|refine yAa (yAd (r:=((l.tall+1:Nat):Int)) rfl rfl zO zO) ?_|refine yAa (yAd (r:=((yh+1:Nat):Int)) rfl rfl zO zO) ?_)|(refine yAq ?_;first|refine yAa (yAf rfl rfl q2) ?_|refine yAa (yAf rfl rfl q1) ?_)|refine yAJ ?_;refine yAa (yAl rfl rfl q3) ?_|refine xst ?_|refine xsf ?_ ?_|refine xdt zTDE2 ?_|apply zN|intro _)
    refine Hold.mk ?_;repeat' (first|refine xca (yDH (W:=W) (t1) (gA.mono g1) zO zO zO zO) fun x=>?_;obtain ⟨⟨N2,p2⟩,g2,t2⟩:=x;dsimp only at g2 t2 ⊢|refine yAi ?_;refine yAa (yAB (nd:=⟨b,yk,yv,yl,yr,yh,ys⟩) rfl xS (g1 _ hm) rfl) ?_|refine xst ?_|refine xsf ?_ ?_|refine xdt zTDE2 ?_|apply zN|intro _)
    all_goals (exact xdn ⟨(N2,p2),fun y hy=>g2 y (g1 y hy),t2⟩)
   ·have q3:decide (((tl.tall:Nat):Int)≤((tr.tall:Nat):Int))=false:=zZ zO;cases tl with
    |nil=>exact absurd dt (by simp only [Tr.t0];omega)
    |node ml zk zv mr zh zs=>
     obtain ⟨d,zl,zr,hze,j',hzl,hzr⟩:=fZ;subst hze;obtain ⟨m1,m2,m3,m4,m5,m6⟩:=Tr.child k1;rw [Tr.tn] at c3 q3;simp only [Tr.tn] at dt;have k3:zh≤yh:=k3;have k5:zs≤ys:=k5;have he:Tr.level l k v (.node (.node ml zk zv mr zh zs) yk yv tr yh ys)=Tr.join (Tr.join l k v ml) zk zv (Tr.join mr yk yv tr):=by unfold Tr.level;exact (if_neg (by simp only [Tr.tn];exact fM)).trans ((if_pos (by simp only [Tr.tn];exact hc)).trans (if_neg (by simp only [Tr.tn];exact dt)))
     have b1:=yE5 l ml k v;have b2:=yGL l ml k v;have b3:=yE5 mr tr yk yv;have b4:=yGL mr tr yk yv;rw [he];refine zE func192 ntmps192 fun R=>?_;repeat' (first|(refine yAb ?_;first|refine xca (yDH (W:=W) (hl) (hzl) zO zO zO zO) fun x=>?_;obtain ⟨⟨N1,p1⟩,g1,t1⟩:=x;dsimp only at g1 t1 ⊢;refine yDw ?_|refine xca c4 fun _=>?_|refine xca c3 fun _=>?_|refine xca c2 fun _=>?_|refine xca c1 fun _=>?_)|(refine yAi ?_;first|refine yAa (yAB (nd:=⟨d,zk,zv,zl,zr,zh,zs⟩) rfl xS j' rfl) ?_|refine yAa (yAB (nd:=⟨b,yk,yv,some ⟨d,0,none⟩,yr,yh,ys⟩) rfl xS hm rfl) ?_)|(refine yAr ?_;first|refine yAa (yAd (r:=((l.tall+1:Nat):Int)) rfl rfl zO zO) ?_|refine yAa (yAd (r:=((yh+1:Nat):Int)) rfl rfl zO zO) ?_)|(refine yAq ?_;first|refine yAa (yAf rfl rfl q2) ?_|refine yAa (yAf rfl rfl q1) ?_)|refine yAJ ?_;refine yAa (yAl rfl rfl q3) ?_|refine xst ?_|refine xsf ?_ ?_|refine xdt zTDE2 ?_|apply zN|intro _)
     refine Hold.mk ?_;repeat' (first|refine xca (yDH (W:=W) (hzr.mono g1) (gA.mono g1) zO zO zO zO) fun x=>?_;obtain ⟨⟨N2,p2⟩,g2,t2⟩:=x;dsimp only at g2 t2 ⊢;refine yDw ?_|(refine yAi ?_;first|refine yAa (yAB (nd:=⟨d,zk,zv,zl,zr,zh,zs⟩) rfl xS (g1 _ j') rfl) ?_|refine yAa (yAB (nd:=⟨b,yk,yv,some ⟨d,0,none⟩,yr,yh,ys⟩) rfl xS (g1 _ hm) rfl) ?_)|refine xst ?_|refine xsf ?_ ?_|refine xdt zTDE2 ?_|apply zN|intro _)
     refine Hold.mk ?_;repeat' (first|refine xca (yDH (W:=W) (t1.mono g2) (t2) zO zO zO zO) fun x=>?_;obtain ⟨⟨N3,p3⟩,g3,t3⟩:=x;dsimp only at g3 t3 ⊢|(refine yAi ?_;first|refine yAa (yAB (nd:=⟨d,zk,zv,zl,zr,zh,zs⟩) rfl xS (g2 _ (g1 _ j')) rfl) ?_|refine yAa (yAB (nd:=⟨b,yk,yv,some ⟨d,0,none⟩,yr,yh,ys⟩) rfl xS (g2 _ (g1 _ hm)) rfl) ?_)|refine xst ?_|refine xsf ?_ ?_|refine xdt zTDE2 ?_|apply zN|intro _)
     all_goals (exact xdn ⟨(N3,p3),fun y hy=>g3 y (g2 y (g1 y hy)),t3⟩)
 have he:Tr.level l k v r=Tr.join l k v r:=by unfold Tr.level;rw [if_neg fM,if_neg hc]
 have q1:decide (((r.tall+1:Nat):Int)<((l.tall:Nat):Int))=false:=zZ zO;have q2:decide (((l.tall+1:Nat):Int)<((r.tall:Nat):Int))=false:=zZ zO;rw [he];refine zE func192 ntmps192 fun R=>?_;repeat' (first|refine xca (yDH (W:=W) (hl) (hr) zO zO zO zO) fun x=>?_;obtain ⟨⟨N1,p1⟩,g1,t1⟩:=x;dsimp only at g1 t1 ⊢|refine xca c2 fun _=>?_|refine xca c1 fun _=>?_|(refine yAr ?_;first|refine yAa (yAd (r:=((l.tall+1:Nat):Int)) rfl rfl zO zO) ?_|refine yAa (yAd (r:=((r.tall+1:Nat):Int)) rfl rfl zO zO) ?_)|(refine yAq ?_;first|refine yAa (yAf rfl rfl q2) ?_|refine yAa (yAf rfl rfl q1) ?_)|refine xst ?_|refine xsf ?_ ?_|refine xdt zTDE2 ?_|apply zN|intro _)
 all_goals (exact xdn ⟨(N1,p1),g1,t1⟩)
end
def Tr.sz:Tr→Nat
 |.nil=>0
 |.node l _ _ r _ _=>l.sz+r.sz+1
theorem yXq {γ:Type} {f:γ→zB} (l:List γ) (x:γ):(yPE f l x).length=l.length+1:=by have:=yJh (f:=f) l (f x);rw [yIL];simp only [zLa,zLg,zLf,List.length_singleton];omega
theorem yM4 (r:Rows) (k v:zB):(yHW r k v).length≤r.length+1:=by
 unfold yHW;split
 ·rw [zLD];omega
 ·rw [yXq];exact Nat.le_refl _
theorem yU0 {t:Tr} (h:t.Ok) (hr:RisR t.rows) (k v:zB):(t.put k v).cnt≤t.cnt+1:=by obtain ⟨o,e,-,-⟩:=Tr.put_ok h hr k v;rw [Tr.cnt_rows o,e,Tr.cnt_rows h];exact yM4 _ _ _
theorem yIT {t:Tr} (h:t.Ok) (hr:RisR t.rows) (k:zB) (hk:(lk t.rows k).isSome=true):(t.remove k).cnt≤t.cnt:=by obtain ⟨o,e,-,-⟩:=Tr.remove_ok h hr k hk;rw [Tr.cnt_rows o,e,Tr.cnt_rows h];exact List.length_filter_le _ _
theorem yZW {a c:zB} (h:Op.bytesLess a c=true):ySt a c=-1:=by unfold ySt;rw [if_pos h]
theorem yZX {a c:zB} (h:Op.bytesLess a c=false) (h2:Op.bytesLess c a=true):ySt a c=1:=by unfold ySt;rw [if_neg (by rw [h];decide),if_pos h2]
theorem yZY {a c:zB} (h:Op.bytesLess a c=false) (h2:Op.bytesLess c a=false):ySt a c=0:=by unfold ySt;rw [if_neg (by rw [h];decide),if_neg (by rw [h2];decide)]
theorem xCW {l r:Tr} {k v x:zB} {h s:Nat} (c:Op.bytesLess x k=true):(Tr.node l k v r h s).get x=l.get x:=if_pos c
theorem xCX {l r:Tr} {k v x:zB} {h s:Nat} (c:Op.bytesLess x k=false) (c2:Op.bytesLess k x=true):(Tr.node l k v r h s).get x=r.get x:=(if_neg (by rw [c];decide)).trans (if_pos c2)
theorem xCY {l r:Tr} {k v x:zB} {h s:Nat} (c:Op.bytesLess x k=false) (c2:Op.bytesLess k x=false):(Tr.node l k v r h s).get x=some v:=(if_neg (by rw [c];decide)).trans (if_neg (by rw [c2];decide))
section
variable {W:World} {N:List Nd}
theorem yPP {a:Option Addr} {t:Tr} (hT:TrAt N a t) (x:zB) :CtU prog W 126 [.pointer a,strV x] [arP N] (.tuple #[strV ((t.get x).getD []),.bool (t.get x).isSome]) [arP N]:=by
 refine zE func126 ntmps126 fun R=>?_;repeat' (first|refine xst ?_|refine xsf ?_ ?_|intro _)
 refine yAC (fun i:{i:Option Addr × Tr//TrAt N i.1 i.2∧i.2.get x=t.get x}=>[(0,.pointer i.1.1),(1,strV x)])
  (fun _=>[arP N]++R) (fun i=>i.1.2.sz) ⟨(a,t),hT,rfl⟩ xB (xN) (fun ⟨(b,u),hb,hu⟩=>?_)
 dsimp only at hb hu ⊢;cases u with
 |nil=>
  cases hb;repeat' (first|refine xst ?_|refine xsf ?_ ?_|intro _)
  all_goals exact xdn () (hc:=by rw [← hu];rfl)
 |node yl yk yv yr yh ys=>
  obtain ⟨b,al,ar,rfl,hm,bF,d8⟩:=hb;have cc:=yIS (W:=W) x yk;rcases xCu x yk with ⟨h1,h2⟩|⟨h1,h2⟩|⟨h1,h2⟩
  ·rw [yZW h1] at cc;rw [xCW h1] at hu;have q1:decide ((-1:Int)<0)=true:=rfl;repeat' (first|refine yAi ?_;refine yAa (yAB (nd:=⟨b,yk,yv,al,ar,yh,ys⟩) rfl xS hm rfl) ?_|refine xqa ?_|refine xsf ?_ ?_|intro _)
   all_goals refine yAs ⟨(al,yl),bF,hu⟩ (by show yl.sz<yl.sz+yr.sz+1;omega) xB (xN)
  ·rw [yZX h1 h2] at cc;rw [xCX h1 h2] at hu;have q1:decide ((1:Int)<0)=false:=rfl;have q2:decide ((0:Int)<1)=true:=rfl;repeat' (first|refine yAi ?_;refine yAa (yAB (nd:=⟨b,yk,yv,al,ar,yh,ys⟩) rfl xS hm rfl) ?_|refine xqa ?_|refine xsf ?_ ?_|intro _)
   all_goals refine yAs ⟨(ar,yr),d8,hu⟩ (by show yr.sz<yl.sz+yr.sz+1;omega) xB (xN)
  ·rw [yZY h1 h2] at cc;rw [xCY h1 h2] at hu;have q1:decide ((0:Int)<0)=false:=rfl;repeat' (first|refine yAi ?_;refine yAa (yAB (nd:=⟨b,yk,yv,al,ar,yh,ys⟩) rfl xS hm rfl) ?_|refine xqa ?_|refine xsf ?_ ?_|intro _)
   all_goals exact xdn () (hc:=by rw [← hu];rfl)
theorem yZZ (x y:zB):∀ (t:Tr) {N:List Nd} {a:Option Addr},TrAt N a t→t.Ok→RisR t.rows→t.cnt≤288230376151711744→Ct prog W 159 [.pointer a,strV x,strV y] [arP N] (fun z:xCt N (t.put x y)=>.pointer z.1.2) (fun z=>[arP z.1.1]):=by
 intro t
 induction t with
 |nil=>
  intro N a hT ho hr hc;cases hT;have cj:=yDH (W:=W) (N:=N) (a:=none) (c:=none) (l:=.nil) (r:=.nil) (k:=x) (v:=y) rfl rfl zX zX zX zX;refine zE func159 ntmps159 fun R=>?_;repeat' (first|refine xca (cj) fun x=>?_;obtain ⟨⟨N1,p1⟩,g1,t1⟩:=x;dsimp only at g1 t1 ⊢|refine xst ?_|refine xsf ?_ ?_|refine xdt zTDE3 ?_|apply zN|intro _)
  all_goals (exact xdn ⟨(N1,p1),g1,t1⟩)
 |node yl yk yv yr yh ys ihl ihr=>
  intro N a hT ho hr hc;obtain ⟨b,al,ar,rfl,hm,bF,d8⟩:=hT;obtain ⟨r1,r2,r3,r4⟩:=ris_mid.1 (show RisR (yl.rows++(yk,yv)::yr.rows) from hr);obtain ⟨k1,k2,k3,k4,k5,k6⟩:=Tr.child ho;have hc:ys≤288230376151711744:=hc;have u1:=Tr.tall_cnt k1;have u2:=Tr.tall_cnt k2;have cc:=yIS (W:=W) x yk;rcases xCu x yk with ⟨h1,h2⟩|⟨h1,h2⟩|⟨h1,h2⟩
  ·rw [yZW h1] at cc;have q1:decide ((-1:Int)<0)=true:=rfl;have cp:=ihl bF k1 r1 zO;have he:(Tr.node yl yk yv yr yh ys).put x y=Tr.level (yl.put x y) yk yv yr:=if_pos h1;obtain ⟨iR,-⟩:=Tr.put_ok k1 r1 x y;have pc:=yU0 k1 r1 x y;rw [he];refine zE func159 ntmps159 fun R=>?_;repeat' (first|refine xca (cp) fun x=>?_;obtain ⟨⟨N1,p1⟩,g1,t1⟩:=x;dsimp only at g1 t1 ⊢;refine yDw ?_|refine yAi ?_;refine yAa (yAB (nd:=⟨b,yk,yv,al,ar,yh,ys⟩) rfl xS (hm) rfl) ?_|refine xqa ?_|refine xsf ?_ ?_|refine xdt zTDE3 ?_|apply zN|intro _)
   refine Hold.mk ?_;repeat' (first|refine xca (yH8 (W:=W) t1 (d8.mono g1) iR k2 zO zO) fun x=>?_;obtain ⟨⟨N2,p2⟩,g2,t2⟩:=x;dsimp only at g2 t2 ⊢|refine yAi ?_;refine yAa (yAB (nd:=⟨b,yk,yv,al,ar,yh,ys⟩) rfl xS (g1 _ hm) rfl) ?_|refine xst ?_|refine xsf ?_ ?_|refine xdt zTDE3 ?_|apply zN|intro _)
   all_goals (exact xdn ⟨(N2,p2),fun y hy=>g2 y (g1 y hy),t2⟩)
  ·rw [yZX h1 h2] at cc;have q1:decide ((1:Int)<0)=false:=rfl;have q2:decide ((0:Int)<1)=true:=rfl;have cp:=ihr d8 k2 r2 zO;have he:(Tr.node yl yk yv yr yh ys).put x y=Tr.level yl yk yv (yr.put x y):=(if_neg (by rw [h1];decide)).trans (if_pos h2);obtain ⟨iR,-⟩:=Tr.put_ok k2 r2 x y;have pc:=yU0 k2 r2 x y;rw [he];refine zE func159 ntmps159 fun R=>?_;repeat' (first|refine xca (cp) fun x=>?_;obtain ⟨⟨N1,p1⟩,g1,t1⟩:=x;dsimp only at g1 t1 ⊢;refine yDw ?_|refine yAi ?_;refine yAa (yAB (nd:=⟨b,yk,yv,al,ar,yh,ys⟩) rfl xS (hm) rfl) ?_|refine xqa ?_|refine xsf ?_ ?_|refine xdt zTDE3 ?_|apply zN|intro _)
   refine Hold.mk ?_;repeat' (first|refine xca (yH8 (W:=W) (bF.mono g1) t1 k1 iR zO zO) fun x=>?_;obtain ⟨⟨N2,p2⟩,g2,t2⟩:=x;dsimp only at g2 t2 ⊢|refine yAi ?_;refine yAa (yAB (nd:=⟨b,yk,yv,al,ar,yh,ys⟩) rfl xS (g1 _ hm) rfl) ?_|refine xst ?_|refine xsf ?_ ?_|refine xdt zTDE3 ?_|apply zN|intro _)
   all_goals (exact xdn ⟨(N2,p2),fun y hy=>g2 y (g1 y hy),t2⟩)
  ·rw [yZY h1 h2] at cc;have q1:decide ((0:Int)<0)=false:=rfl;have he:(Tr.node yl yk yv yr yh ys).put x y=Tr.join yl x y yr:=(if_neg (by rw [h1];decide)).trans (if_neg (by rw [h2];decide));rw [he];refine zE func159 ntmps159 fun R=>?_;repeat' (first|refine xca (yDH (W:=W) bF d8 zO zO zO zO) fun x=>?_;obtain ⟨⟨N1,p1⟩,g1,t1⟩:=x;dsimp only at g1 t1 ⊢|refine yAi ?_;refine yAa (yAB (nd:=⟨b,yk,yv,al,ar,yh,ys⟩) rfl xS (hm) rfl) ?_|refine xqa ?_|refine xsf ?_ ?_|refine xdt zTDE3 ?_|apply zN|intro _)
   all_goals (exact xdn ⟨(N1,p1),g1,t1⟩)
end
end Go.Proofs.YtoipmnikdiogcaaGreatDoor
