/-
  WpW1, PoD1, PoD2, JRf0, JRf1, JEa.
-/
import Derived.Test.YtoipmnikdiogcaaGreatDoorYGL
set_option maxHeartbeats 64000000
namespace Go.Proofs.YtoipmnikdiogcaaGreatDoor
open Go Go.RowKit
open Go.Proofs.Tryz
section
variable {P:Program} {W:World} {n:Nat} {E:Env} {H:List SP} {t u:TypeId} {x y:Operand} {kd:IntKind}
theorem yX2 {i j:Int} {r:Nat} (hx:Env.ev E x=some (.int kd i)) (hy:Env.ev E y=some (.int kd j)) (hb:0≤i∧0<j) (h:i / j=(r:Int)) (hw:kd.wrap ((r:Nat):Int)=(r:Int)):Ev P W n E H (.binOp .quo t x y u) (.int kd ((r:Nat):Int)):=by
 have e:kd.wrap (i.tdiv j)=((r:Nat):Int):=by rw [Int.tdiv_eq_ediv_of_nonneg hb.1,h,hw]
 rw [← e];exact yTA hx hy zO
end
section
variable {W:World}
theorem yFK (x:Nat) (hx:x<18446744073709551616):CtU prog W 81 [.int .u64 (x:Nat)] [] (strV (vu x)) []:=by
 refine zE func81 ntmps81 fun R=>?_;repeat' (first|refine xst ?_|refine xsf ?_ ?_|intro _)
 refine yAC (fun i:{i:zB × Nat × Nat//VuI [] x i}=>[(0,.int .u64 (i.1.2.1:Nat)),(3,strV i.1.1)])
  (fun _=>[]++R) (fun i=>i.1.2.2) ⟨([],x,9),VuI.start [] hx⟩ xB (xN) (fun ⟨(l,y,f),hi⟩=>?_)
 dsimp only at hi ⊢;have ai:=hi.len;have hv:=yCe x;have hyx:=hi.2.2.1;dsimp only [List.length_nil] at ai hyx;have bl:l.length+([UInt8.ofNat y]:zB).length≤9223372036854775807:=by simp;omega
 by_cases hlt:y<128
 ·have ql:decide ((127:Int)<(y:Nat))=false:=zZ zO;have w1:IntKind.u8.wrap ((y:Nat):Int)=((UInt8.ofNat y).toNat:Int):=xB2 y;have bg:=hi.last hlt;rw [List.nil_append] at bg;repeat' (first|refine yAD ?_;refine yAK rfl xF (by rfl) zO rfl (fun gb=>?_)|refine yAu ?_;refine yAa (yJb (l:=[UInt8.ofNat y]) rfl xS rfl) ?_|refine yAr ?_;refine yAa (yFk (a:=l) (b:=[UInt8.ofNat y]) rfl rfl bl) ?_|refine xqa ?_|refine xsf ?_ ?_|intro _)
  all_goals rw [bg]
  all_goals (exact xdn ())
 ·have ql:decide ((127:Int)<(y:Nat))=true:=zY zO;obtain ⟨f',rfl,ax⟩:=hi.next hlt;have w1:IntKind.u8.wrap ((y % 128+128:Nat):Int)=((UInt8.ofNat (y % 128+128)).toNat:Int):=xB2 (y % 128+128);have w3:IntKind.u64.wrap (((y % 128:Nat):Int)+128)=((y % 128+128:Nat):Int):=by rw [show ((y % 128:Nat):Int)+128=((y % 128+128:Nat):Int) by omega];exact yAx _ zO
  have w4:IntKind.u64.wrap ((y / 128:Nat):Int)=((y / 128:Nat):Int):=yAx _ zO;have m1:((y:Nat):Int) % 128=((y % 128:Nat):Int):=zO;have m2:((y:Nat):Int) / 128=((y / 128:Nat):Int):=zO;have bl2:l.length+([UInt8.ofNat (y % 128+128)]:zB).length≤9223372036854775807:=by simp;omega
  repeat' (first|refine yAD ?_;refine yAK rfl xF (by rfl) zO rfl (fun gb=>?_)|refine yAu ?_;refine yAa (yJb (l:=[UInt8.ofNat (y % 128+128)]) rfl xS rfl) ?_|refine yAr ?_;refine yAa (yFk (a:=l) (b:=[UInt8.ofNat (y % 128+128)]) rfl rfl bl2) ?_|refine yEm ?_;refine yAa (yX2 rfl rfl zO m2 w4) ?_|refine xqa ?_|refine xsf ?_ ?_|intro _)
  all_goals refine yAs ⟨(l++[UInt8.ofNat (y % 128+128)],y / 128,f'),ax⟩ (by show f'<f'+1;omega) xB (xN)
theorem yRo (s:zB) (hs:s.length≤2000000):CtU prog W 173 [strV s] [] (strV (tx s)) []:=by
 have cu:=yFK (W:=W) s.length zO;have w2:IntKind.u64.wrap ((s.length:Nat):Int)=((s.length:Nat):Int):=yAx _ zO;have bl:(vu s.length).length+s.length≤9223372036854775807:=by have:=yCe s.length;omega
 refine zE func173 ntmps173 fun R=>?_;repeat' (first|refine yAr ?_;refine yAa (yFk (a:=vu s.length) (b:=s) rfl rfl bl) ?_|refine xqa ?_|refine xsf ?_ ?_|exact xdn ()|intro _)
end
section
variable {W:World} {s:zB} {a:Nat}
theorem yGt (ha:a≤s.length) (hs:s.length≤9223372036854775807) (q:Rd Nat) (hq:ru (s.drop a)=q) :CtU prog W 219 [strV s,zi (a:Nat)] [] (.tuple #[.int .u64 (rdN q:Nat),zi ((a+rdL q:Nat):Int),zi (rdE q:Nat)]) []:=by
 have ju:(s.drop a).length=s.length-a:=zLf;refine zE func219 ntmps219 fun R=>?_;repeat' (first|refine xst ?_|refine xsf ?_ ?_|intro _)
 refine yAC (fun i:{i:Nat × Nat//RuI (s.drop a) i.1 i.2}=>[(0,strV s),(1,zi (a:Nat)),(7,.int .u64 (i.1.2:Nat)),(8,zi (i.1.1:Nat))])
  (fun _=>[]++R) (fun i=>10-i.1.1) ⟨(0,0),RuI.start _⟩ xB (xN) (fun ⟨(i,x),hi⟩=>?_)
 dsimp only at hi ⊢;have i9:=hi.i9;have kz:=hi.il;by_cases a7:i=s.length-a
 ·have az:=hi.short zO;rw [hq] at az;have qe:decide (((s.length:Nat):Int)≤((a+i:Nat):Int))=true:=zY zO;subst az;repeat' (first|refine zad (a+i) ?_|refine yAJ ?_;refine yAa (yAl rfl rfl qe) ?_|refine xst ?_|refine xsf ?_ ?_|exact xdn ()|intro _)
 have qe:decide (((s.length:Nat):Int)≤((a+i:Nat):Int))=false:=zZ zO;obtain ⟨b,hb⟩:∃ b,(s.drop a)[i]? = some b:=⟨_,zLb zO⟩;have jq:s[a+i]? = some b:=by rw [← hb,zLC]
 have hbt:=zLy b;have eD:(i=9∧1<b.toNat)∨(i=9∧b.toNat=0)∨(i=9∧b.toNat=1)∨(i≠9∧b.toNat=0∧0<i)∨(i≠9∧b.toNat=0∧i=0)∨(i≠9∧0<b.toNat∧b.toNat<128∧i=0)∨(i≠9∧0<b.toNat∧b.toNat<128∧0<i)∨(i≠9∧¬ b.toNat<128∧i=0)∨(i≠9∧¬ b.toNat<128∧0<i):=zO;rcases eD with h9|h9|h9|h9|h9|h9|h9|h9|h9
 ·
  have az:=hi.bad hb h9;rw [hq] at az;subst az;have q9:decide ((i:Int)=9)=true:=zY zO;have qb:decide ((1:Int)<(b.toNat:Int))=true:=zY zO;repeat' (first|refine yAI ?_;refine yAa (yAp rfl rfl zO jq) ?_|refine zad (a+i) ?_|refine yAt ?_;refine yAa (yAe rfl rfl q9) ?_|refine yAq ?_;refine yAa (yAf rfl rfl qb) ?_|refine yAJ ?_;refine yAa (yAl rfl rfl qe) ?_|refine xst ?_|refine xsf ?_ ?_|exact xdn ()|intro _)
 ·
  have az:=hi.nought hb zO zO;rw [hq] at az;subst az;have c1:IntKind.u64.wrap ((b.toNat % 128:Nat):Int)=((b.toNat % 128:Nat):Int):=yAx _ zO;have ak:=hi.fit (b:=b) zO;have sh:=yLO (b.toNat % 128) i i9 zO;have fG:=or7 x (b.toNat % 128) i hi.x7 ak;have ql:decide ((b.toNat:Int)<128)=true:=zY zO;have q9:decide ((i:Int)=9)=true:=zY zO;have qb:decide ((1:Int)<(b.toNat:Int))=false:=zZ zO;have q0:decide ((b.toNat:Int)=0)=true:=zY zO;have q1:decide ((0:Int)<(i:Int))=true:=zY zO;repeat' (first|refine yAu ?_;refine yAa (yAg rfl c1) ?_|refine yAI ?_;refine yAa (yAp rfl rfl zO jq) ?_|refine zad (a+i) ?_|refine zad (a+i+1) ?_|refine zad (i+1) ?_|refine zml (7*i) ?_|refine yBu ?_;refine yAa (yBc (r:=((b.toNat % 128:Nat):Int)) rfl rfl zO zO) ?_|refine yFp ?_;refine yAa (yCT rfl rfl fG) ?_|refine yCo ?_;refine yAa (yBI rfl rfl sh) ?_|(refine yAt ?_;first|refine yAa (yAe rfl rfl q0) ?_|refine yAa (yAe rfl rfl q9) ?_)|refine yAh ?_;refine yAa (yAc rfl rfl ql) ?_|(refine yAq ?_;first|refine yAa (yAf rfl rfl q1) ?_|refine yAa (yAf rfl rfl qb) ?_)|refine yAJ ?_;refine yAa (yAl rfl rfl qe) ?_|refine xst ?_|refine xsf ?_ ?_|exact xdn ()|intro _)
 ·
  have c1:IntKind.u64.wrap ((b.toNat % 128:Nat):Int)=((b.toNat % 128:Nat):Int):=yAx _ zO;have ak:=hi.fit (b:=b) zO;have sh:=yLO (b.toNat % 128) i i9 zO;have fG:=or7 x (b.toNat % 128) i hi.x7 ak;have ql:decide ((b.toNat:Int)<128)=true:=zY zO;have am:=hi.done hb zO zO zO;have ai:=RuI.len am zO;rw [hq] at am;have hA:a+i+1=a+rdL q:=by rw [am];show _=a+(vu _).length;rw [ai];omega
  have hV:((x+b.toNat % 128*2 ^ (7*i):Nat):Int)=((rdN q:Nat):Int):=by rw [am];rfl
  have hZ:(0:Int)=((rdE q:Nat):Int):=by rw [am];rfl
  have q9:decide ((i:Int)=9)=true:=zY zO;have qb:decide ((1:Int)<(b.toNat:Int))=false:=zZ zO;have q0:decide ((b.toNat:Int)=0)=false:=zZ zO;have q1:decide ((0:Int)<(i:Int))=true:=zY zO;repeat' (first|refine yAu ?_;refine yAa (yAg rfl c1) ?_|refine yAI ?_;refine yAa (yAp rfl rfl zO jq) ?_|refine zad (a+i) ?_|refine zad (a+i+1) ?_|refine zad (i+1) ?_|refine zml (7*i) ?_|refine yBu ?_;refine yAa (yBc (r:=((b.toNat % 128:Nat):Int)) rfl rfl zO zO) ?_|refine yFp ?_;refine yAa (yCT rfl rfl fG) ?_|refine yCo ?_;refine yAa (yBI rfl rfl sh) ?_|(refine yAt ?_;first|refine yAa (yAe rfl rfl q0) ?_|refine yAa (yAe rfl rfl q9) ?_)|refine yAh ?_;refine yAa (yAc rfl rfl ql) ?_|(refine yAq ?_;first|refine yAa (yAf rfl rfl q1) ?_|refine yAa (yAf rfl rfl qb) ?_)|refine yAJ ?_;refine yAa (yAl rfl rfl qe) ?_|refine xst ?_|refine xsf ?_ ?_|intro _)
  all_goals rw [hA,hV]
  all_goals exact xdn () (hc:=by rw [← hZ];rfl)
 ·
  have az:=hi.nought hb zO zO;rw [hq] at az;subst az;have c1:IntKind.u64.wrap ((b.toNat % 128:Nat):Int)=((b.toNat % 128:Nat):Int):=yAx _ zO;have ak:=hi.fit (b:=b) zO;have sh:=yLO (b.toNat % 128) i i9 zO;have fG:=or7 x (b.toNat % 128) i hi.x7 ak;have ql:decide ((b.toNat:Int)<128)=true:=zY zO;have q9:decide ((i:Int)=9)=false:=zZ zO;have q0:decide ((b.toNat:Int)=0)=true:=zY zO;have q1:decide ((0:Int)<(i:Int))=true:=zY zO;repeat' (first|refine yAu ?_;refine yAa (yAg rfl c1) ?_|refine yAI ?_;refine yAa (yAp rfl rfl zO jq) ?_|refine zad (a+i) ?_|refine zad (a+i+1) ?_|refine zad (i+1) ?_|refine zml (7*i) ?_|refine yBu ?_;refine yAa (yBc (r:=((b.toNat % 128:Nat):Int)) rfl rfl zO zO) ?_|refine yFp ?_;refine yAa (yCT rfl rfl fG) ?_|refine yCo ?_;refine yAa (yBI rfl rfl sh) ?_|(refine yAt ?_;first|refine yAa (yAe rfl rfl q0) ?_|refine yAa (yAe rfl rfl q9) ?_)|refine yAh ?_;refine yAa (yAc rfl rfl ql) ?_|refine yAq ?_;refine yAa (yAf rfl rfl q1) ?_|refine yAJ ?_;refine yAa (yAl rfl rfl qe) ?_|refine xst ?_|refine xsf ?_ ?_|exact xdn ()|intro _)
 ·
  have c1:IntKind.u64.wrap ((b.toNat % 128:Nat):Int)=((b.toNat % 128:Nat):Int):=yAx _ zO;have ak:=hi.fit (b:=b) zO;have sh:=yLO (b.toNat % 128) i i9 zO;have fG:=or7 x (b.toNat % 128) i hi.x7 ak;have ql:decide ((b.toNat:Int)<128)=true:=zY zO;have am:=hi.done hb zO zO zO;have ai:=RuI.len am zO;rw [hq] at am;have hA:a+i+1=a+rdL q:=by rw [am];show _=a+(vu _).length;rw [ai];omega
  have hV:((x+b.toNat % 128*2 ^ (7*i):Nat):Int)=((rdN q:Nat):Int):=by rw [am];rfl
  have hZ:(0:Int)=((rdE q:Nat):Int):=by rw [am];rfl
  have q9:decide ((i:Int)=9)=false:=zZ zO;have q0:decide ((b.toNat:Int)=0)=true:=zY zO;have q1:decide ((0:Int)<(i:Int))=false:=zZ zO;repeat' (first|refine yAu ?_;refine yAa (yAg rfl c1) ?_|refine yAI ?_;refine yAa (yAp rfl rfl zO jq) ?_|refine zad (a+i) ?_|refine zad (a+i+1) ?_|refine zad (i+1) ?_|refine zml (7*i) ?_|refine yBu ?_;refine yAa (yBc (r:=((b.toNat % 128:Nat):Int)) rfl rfl zO zO) ?_|refine yFp ?_;refine yAa (yCT rfl rfl fG) ?_|refine yCo ?_;refine yAa (yBI rfl rfl sh) ?_|(refine yAt ?_;first|refine yAa (yAe rfl rfl q0) ?_|refine yAa (yAe rfl rfl q9) ?_)|refine yAh ?_;refine yAa (yAc rfl rfl ql) ?_|refine yAq ?_;refine yAa (yAf rfl rfl q1) ?_|refine yAJ ?_;refine yAa (yAl rfl rfl qe) ?_|refine xst ?_|refine xsf ?_ ?_|intro _)
  all_goals rw [hA,hV]
  all_goals exact xdn () (hc:=by rw [← hZ];rfl)
 ·
  have c1:IntKind.u64.wrap ((b.toNat % 128:Nat):Int)=((b.toNat % 128:Nat):Int):=yAx _ zO;have ak:=hi.fit (b:=b) zO;have sh:=yLO (b.toNat % 128) i i9 zO;have fG:=or7 x (b.toNat % 128) i hi.x7 ak;have ql:decide ((b.toNat:Int)<128)=true:=zY zO;have am:=hi.done hb zO zO zO;have ai:=RuI.len am zO;rw [hq] at am;have hA:a+i+1=a+rdL q:=by rw [am];show _=a+(vu _).length;rw [ai];omega
  have hV:((x+b.toNat % 128*2 ^ (7*i):Nat):Int)=((rdN q:Nat):Int):=by rw [am];rfl
  have hZ:(0:Int)=((rdE q:Nat):Int):=by rw [am];rfl
  have q9:decide ((i:Int)=9)=false:=zZ zO;have q0:decide ((b.toNat:Int)=0)=false:=zZ zO;repeat' (first|refine yAu ?_;refine yAa (yAg rfl c1) ?_|refine yAI ?_;refine yAa (yAp rfl rfl zO jq) ?_|refine zad (a+i) ?_|refine zad (a+i+1) ?_|refine zad (i+1) ?_|refine zml (7*i) ?_|refine yBu ?_;refine yAa (yBc (r:=((b.toNat % 128:Nat):Int)) rfl rfl zO zO) ?_|refine yFp ?_;refine yAa (yCT rfl rfl fG) ?_|refine yCo ?_;refine yAa (yBI rfl rfl sh) ?_|(refine yAt ?_;first|refine yAa (yAe rfl rfl q0) ?_|refine yAa (yAe rfl rfl q9) ?_)|refine yAh ?_;refine yAa (yAc rfl rfl ql) ?_|refine yAJ ?_;refine yAa (yAl rfl rfl qe) ?_|refine xst ?_|refine xsf ?_ ?_|intro _)
  all_goals rw [hA,hV]
  all_goals exact xdn () (hc:=by rw [← hZ];rfl)
 ·
  have c1:IntKind.u64.wrap ((b.toNat % 128:Nat):Int)=((b.toNat % 128:Nat):Int):=yAx _ zO;have ak:=hi.fit (b:=b) zO;have sh:=yLO (b.toNat % 128) i i9 zO;have fG:=or7 x (b.toNat % 128) i hi.x7 ak;have ql:decide ((b.toNat:Int)<128)=true:=zY zO;have am:=hi.done hb zO zO zO;have ai:=RuI.len am zO;rw [hq] at am;have hA:a+i+1=a+rdL q:=by rw [am];show _=a+(vu _).length;rw [ai];omega
  have hV:((x+b.toNat % 128*2 ^ (7*i):Nat):Int)=((rdN q:Nat):Int):=by rw [am];rfl
  have hZ:(0:Int)=((rdE q:Nat):Int):=by rw [am];rfl
  have q9:decide ((i:Int)=9)=false:=zZ zO;have q0:decide ((b.toNat:Int)=0)=false:=zZ zO;repeat' (first|refine yAu ?_;refine yAa (yAg rfl c1) ?_|refine yAI ?_;refine yAa (yAp rfl rfl zO jq) ?_|refine zad (a+i) ?_|refine zad (a+i+1) ?_|refine zad (i+1) ?_|refine zml (7*i) ?_|refine yBu ?_;refine yAa (yBc (r:=((b.toNat % 128:Nat):Int)) rfl rfl zO zO) ?_|refine yFp ?_;refine yAa (yCT rfl rfl fG) ?_|refine yCo ?_;refine yAa (yBI rfl rfl sh) ?_|(refine yAt ?_;first|refine yAa (yAe rfl rfl q0) ?_|refine yAa (yAe rfl rfl q9) ?_)|refine yAh ?_;refine yAa (yAc rfl rfl ql) ?_|refine yAJ ?_;refine yAa (yAl rfl rfl qe) ?_|refine xst ?_|refine xsf ?_ ?_|intro _)
  all_goals rw [hA,hV]
  all_goals exact xdn () (hc:=by rw [← hZ];rfl)
 ·
  have c1:IntKind.u64.wrap ((b.toNat % 128:Nat):Int)=((b.toNat % 128:Nat):Int):=yAx _ zO;have ak:=hi.fit (b:=b) zO;have sh:=yLO (b.toNat % 128) i i9 zO;have fG:=or7 x (b.toNat % 128) i hi.x7 ak;have ql:decide ((b.toNat:Int)<128)=false:=zZ zO;have ax:=hi.next hb zO zO;have q9:decide ((i:Int)=9)=false:=zZ zO;repeat' (first|refine yAu ?_;refine yAa (yAg rfl c1) ?_|refine yAI ?_;refine yAa (yAp rfl rfl zO jq) ?_|refine zad (a+i) ?_|refine zad (a+i+1) ?_|refine zad (i+1) ?_|refine zml (7*i) ?_|refine yBu ?_;refine yAa (yBc (r:=((b.toNat % 128:Nat):Int)) rfl rfl zO zO) ?_|refine yFp ?_;refine yAa (yCT rfl rfl fG) ?_|refine yCo ?_;refine yAa (yBI rfl rfl sh) ?_|refine yAt ?_;refine yAa (yAe rfl rfl q9) ?_|refine yAh ?_;refine yAa (yAc rfl rfl ql) ?_|refine yAJ ?_;refine yAa (yAl rfl rfl qe) ?_|refine xst ?_|refine xsf ?_ ?_|intro _)
  all_goals refine yAs ⟨(i+1,x+b.toNat % 128*2 ^ (7*i)),ax⟩ (by show 10-(i+1)<10-i;omega) xB (xN)
 ·
  have c1:IntKind.u64.wrap ((b.toNat % 128:Nat):Int)=((b.toNat % 128:Nat):Int):=yAx _ zO;have ak:=hi.fit (b:=b) zO;have sh:=yLO (b.toNat % 128) i i9 zO;have fG:=or7 x (b.toNat % 128) i hi.x7 ak;have ql:decide ((b.toNat:Int)<128)=false:=zZ zO;have ax:=hi.next hb zO zO;have q9:decide ((i:Int)=9)=false:=zZ zO;repeat' (first|refine yAu ?_;refine yAa (yAg rfl c1) ?_|refine yAI ?_;refine yAa (yAp rfl rfl zO jq) ?_|refine zad (a+i) ?_|refine zad (a+i+1) ?_|refine zad (i+1) ?_|refine zml (7*i) ?_|refine yBu ?_;refine yAa (yBc (r:=((b.toNat % 128:Nat):Int)) rfl rfl zO zO) ?_|refine yFp ?_;refine yAa (yCT rfl rfl fG) ?_|refine yCo ?_;refine yAa (yBI rfl rfl sh) ?_|refine yAt ?_;refine yAa (yAe rfl rfl q9) ?_|refine yAh ?_;refine yAa (yAc rfl rfl ql) ?_|refine yAJ ?_;refine yAa (yAl rfl rfl qe) ?_|refine xst ?_|refine xsf ?_ ?_|intro _)
  all_goals refine yAs ⟨(i+1,x+b.toNat % 128*2 ^ (7*i)),ax⟩ (by show 10-(i+1)<10-i;omega) xB (xN)
theorem yFc (most:Nat) (hm:most≤4611686018427387904) (ha:a≤s.length) (hs:s.length≤9223372036854775807) (q:Rd Nat) (hq:rup most (s.drop a)=q) :CtU prog W 220 [strV s,zi (a:Nat),zi (most:Nat)] [] (.tuple #[zi (rdN q:Nat),zi ((a+rdL q:Nat):Int),zi (rdE q:Nat)]) []:=by
 have cn0:=fun w hw=>yGt (W:=W) (s:=s) (a:=a) ha hs w hw;have q0:decide (((most:Nat):Int)<0)=false:=zZ zO;have w1:IntKind.u64.wrap ((most:Nat):Int)=((most:Nat):Int):=yAx _ zO;unfold rup at hq;cases h:ru (s.drop a) with
 |bad e=>
  rw [h] at hq;subst hq;have cn:=cn0 _ h;have ao:decide (((e:Nat):Int)≠0)=true:=zY (by have:=yDB h;omega);rw [show rdN (.bad e)=0 from rfl,show rdL (.bad e)=0 from rfl,show rdE (α:=Nat) (.bad e)=e from rfl,zLz] at cn ⊢;refine zE func220 ntmps220 fun R=>?_;repeat' (first|refine xca cn fun _=>?_|refine xqa ?_|refine xsf ?_ ?_|exact xdn ()|intro _)
 |ok n t=>
  rw [h] at hq;dsimp only at hq;have cn:=cn0 _ h;have ao:decide (((0:Nat):Int)≠0)=false:=rfl;rw [show rdN (.ok n t)=n from rfl,show rdL (.ok n t)=(vu n).length from rfl,show rdE (.ok n t)=0 from rfl] at cn;obtain ⟨a1,bi⟩:∃ a1,a1=a+(vu n).length:=⟨_,rfl⟩;rw [← bi] at cn;by_cases hx:most<n
  ·rw [if_pos hx] at hq;subst hq;have qg:decide (((most:Nat):Int)<((n:Nat):Int))=true:=zY zO;rw [show rdN (.bad 3)=0 from rfl,show rdL (.bad 3)=0 from rfl,show rdE (α:=Nat) (.bad 3)=3 from rfl,zLz];refine zE func220 ntmps220 fun R=>?_;repeat' (first|refine xca cn fun _=>?_|refine xqa ?_|refine xsf ?_ ?_|exact xdn ()|intro _)
  ·rw [if_neg hx] at hq;subst hq;have qg:decide (((most:Nat):Int)<((n:Nat):Int))=false:=zZ zO;have w2:IntKind.i64.wrap ((n:Nat):Int)=((n:Nat):Int):=yDa _ zO;rw [show rdN (.ok n t)=n from rfl,show rdL (.ok n t)=(vu n).length from rfl,show rdE (.ok n t)=0 from rfl,← bi];refine zE func220 ntmps220 fun R=>?_;repeat' (first|refine xca cn fun _=>?_|refine xqa ?_|refine xsf ?_ ?_|exact xdn ()|intro _)
theorem yIp (most:Nat) (hm:most≤4611686018427387904) (ha:a≤s.length) (hs:s.length≤9223372036854775807) (q:Rd zB) (hq:rtx most (s.drop a)=q) :CtU prog W 221 [strV s,zi (a:Nat),zi (most:Nat)] [] (.tuple #[strV (rdS q),zi ((a+rdT q:Nat):Int),zi (rdE q:Nat)]) []:=by
 rcases yIg most (s.drop a) with ⟨e,h1,h2,h3⟩|⟨n,t,h1,h4,h2,h3⟩|⟨n,t,h1,h4,h5,h2,h3⟩|⟨n,t,h1,h4,h5,h2,h3⟩
 ·rw [hq] at h2;subst h2;have cn:=yFc (W:=W) (s:=s) (a:=a) most hm ha zO (.bad e) (by unfold rup;rw [h1]);have ao:decide (((e:Nat):Int)≠0)=true:=zY (by have:=yDB h1;omega);rw [show rdN (.bad e)=0 from rfl,show rdL (.bad e)=0 from rfl,show rdE (α:=Nat) (.bad e)=e from rfl,zLz] at cn;rw [show rdS (.bad e)=[] from rfl,show rdT (.bad e)=0 from rfl,show rdE (α:=zB) (.bad e)=e from rfl,zLz];refine zE func221 ntmps221 fun R=>?_;repeat' (first|refine xqa ?_|refine xsf ?_ ?_|exact xdn ()|intro _)
 ·rw [hq] at h2;subst h2;have cn:=yFc (W:=W) (s:=s) (a:=a) most hm ha zO (.bad 3) (by unfold rup;rw [h1];dsimp only;rw [if_pos h4]);have ao:decide (((3:Nat):Int)≠0)=true:=rfl;rw [show rdN (.bad 3)=0 from rfl,show rdL (.bad 3)=0 from rfl,show rdE (α:=Nat) (.bad 3)=3 from rfl,zLz] at cn;rw [show rdS (.bad 3)=[] from rfl,show rdT (.bad 3)=0 from rfl,show rdE (α:=zB) (.bad 3)=3 from rfl,zLz];refine zE func221 ntmps221 fun R=>?_;repeat' (first|refine xqa ?_|refine xsf ?_ ?_|exact xdn ()|intro _)
 ·have cn:=yFc (W:=W) (s:=s) (a:=a) most hm ha zO (.ok n t) (by unfold rup;rw [h1];dsimp only;rw [if_neg h4]);have ao:decide (((0:Nat):Int)≠0)=false:=rfl;rw [show rdN (.ok n t)=n from rfl,show rdL (.ok n t)=(vu n).length from rfl,show rdE (.ok n t)=0 from rfl] at cn;have hf:=yEL h1;have dM:=yDs h1;have ht:=congrArg List.length dM;rw [zLf] at ht;obtain ⟨a1,bi⟩:∃ a1,a1=a+(vu n).length:=⟨_,rfl⟩;rw [← bi] at cn hf ht dM;rw [hq] at h2;subst h2;have qg:decide ((((s.length:Nat):Int)-((a1:Nat):Int))<((n:Nat):Int))=true:=zY zO;have qs:((s.length:Nat):Int)-((a1:Nat):Int)=((s.length-a1:Nat):Int):=zO;rw [show rdS (.bad 1)=[] from rfl,show rdT (.bad 1)=0 from rfl,show rdE (α:=zB) (.bad 1)=1 from rfl,zLz];refine zE func221 ntmps221 fun R=>?_;repeat' (first|refine yCj ?_;refine yAa (yBl rfl rfl rfl zO) ?_|refine xqa ?_|refine xsf ?_ ?_|exact xdn ()|intro _)
 ·have hxA:=(yU4 h2).symm.trans h3;have cn:=yFc (W:=W) (s:=s) (a:=a) most hm ha zO (.ok n t) (by unfold rup;rw [h1];dsimp only;rw [if_neg h4]);have ao:decide (((0:Nat):Int)≠0)=false:=rfl;rw [show rdN (.ok n t)=n from rfl,show rdL (.ok n t)=(vu n).length from rfl,show rdE (.ok n t)=0 from rfl] at cn;have hf:=yEL h1;have dM:=yDs h1;have ht:=congrArg List.length dM;rw [zLf] at ht;obtain ⟨a1,bi⟩:∃ a1,a1=a+(vu n).length:=⟨_,rfl⟩;rw [← bi] at cn hf ht dM;rw [hq] at h2;subst h2;have qg:decide ((((s.length:Nat):Int)-((a1:Nat):Int))<((n:Nat):Int))=false:=zZ zO;have dw:(s.take (Int.toNat ((a1+n:Nat):Int))).drop (Int.toNat ((a1:Nat):Int))=t.take n:=by rw [zLe,zLe,dM,List.drop_take];congr 1;omega
  have hA:a+rdT (.ok (t.take n) (t.drop n))=a1+n:=by show a+(tx (t.take n)).length=_;rw [hxA,bi];omega
  rw [hA,show rdS (.ok (t.take n) (t.drop n))=t.take n from rfl,show rdE (.ok (t.take n) (t.drop n))=0 from rfl];refine zE func221 ntmps221 fun R=>?_;repeat' (first|refine yBb ?_;refine yAa (yFI rfl rfl rfl zO dw) ?_|refine zad (a1+n) ?_|refine yCj ?_;refine yAa (yBl rfl rfl rfl zO) ?_|refine xqa ?_|refine xsf ?_ ?_|exact xdn ()|intro _)
end
def yFT (q:zB):Nat:=(q.getD 1 0).toNat+(q.getD 2 0).toNat*256+(q.getD 3 0).toNat*65536+(q.getD 4 0).toNat*16777216
theorem yIX (q:zB):yDz q 4=(yFT q:Int):=by have b1:=zLy (q.getD 1 0);have b2:=zLy (q.getD 2 0);have b3:=zLy (q.getD 3 0);have s0:=yCS q 0 0 zO zX rfl;have s1:=yCS q 1 _ zO (by show 0+(q.getD 1 0).toNat*1<256;omega) s0;have s2:=yCS q 2 _ zO (by show 0+(q.getD 1 0).toNat*1+(q.getD 2 0).toNat*256<65536;omega) s1;have s3:=yCS q 3 _ zO (by show 0+(q.getD 1 0).toNat*1+(q.getD 2 0).toNat*256+(q.getD 3 0).toNat*65536<16777216;omega) s2;rw [s3];show (((0+(q.getD 1 0).toNat*1+(q.getD 2 0).toNat*256+(q.getD 3 0).toNat*65536+(q.getD 4 0).toNat*16777216:Nat)):Int)=((yFT q:Nat):Int);unfold yFT;omega
def txt:List zB→zB
 |[]=>[]
 |q::r=>q.drop 5++r.flatMap (·.drop 1)
theorem yX3 (P:List zB) (h:P≠[]) (q:zB):txt (P++[q])=txt P++q.drop 1:=by
 cases P with
 |nil=>exact absurd rfl h
 |cons p r=>simp [txt,List.flatMap_append]
theorem ySV:∀ (f:Nat) (l:zB),l.length≤233*f→(yBH f l).flatMap (·.drop 1)=l:=by
 intro f
 induction f with
 |zero=>intro l h;have:l=[]:=List.length_eq_zero_iff.1 zO;subst this;rfl
 |succ f ih=>
  intro l h;by_cases h0:l=[]
  ·subst h0;rw [yCR];rfl
  ·rw [yCr _ _ h0,zLr,ih _ (by rw [zLf];omega)];show l.take 233++l.drop 233=l;exact zLu _ _
theorem xAF (s:zB):txt (yBw s)=s:=by show (yE2 s.length++s.take 229).drop 5++(yBH s.length (s.drop 229)).flatMap (·.drop 1)=s;rw [ySV _ _ (by rw [zLf];omega)];show s.take 229++s.drop 229=s;exact zLu _ _
theorem xAG (s:zB) (j:Nat) (p:zB) (h:(yBw s)[j]? = some p):1≤p.length:=by
 cases j with
 |zero=>
  have h':some (yE2 s.length++s.take 229)=some p:=h;cases h';rw [zLa];show 1≤5+_;omega
 |succ j=>
  have h':(yBH s.length (s.drop 229))[j]? = some p:=h;have key:∀ (f:Nat) (l:zB),∀ p ∈ yBH f l,1≤p.length:=by
   intro f
   induction f with
   |zero=>intro l p hp;cases hp
   |succ f ih=>
    intro l p hp;by_cases h0:l=[]
    ·subst h0;rw [yCR] at hp;cases hp
    ·rw [yCr _ _ h0] at hp;rcases zLm.1 hp with rfl|hp
     ·rw [zLj];omega
     ·exact ih _ _ hp
  exact key _ _ _ (zLk h')
section
variable {D:Dsk} {at_ n:Int} {ver:Nat}
theorem yVJ (i:Nat) (L:Nat):∀ (f:Nat) (k:Nat) (out s:zB),out.length≤L→(L-out.length+232) / 233=f→yFy D at_ n ver i (L:Int) f k out=some s→∃ l:zB,s=out++l∧out.length+l.length=L∧∀ (F:Nat),l.length≤233*F→∀ j p,(yBH F l)[j]? = some p→yDT D at_ n ver (i+k+j)=some p:=by
 intro f
 induction f with
 |zero=>
  intro k out s h1 h2 h;have h:some out=some s:=h;cases h;exact ⟨[],by simp,by simp;omega,fun F _ j p hp=>by rw [yCR] at hp;simp at hp⟩
 |succ f ih=>
  intro k out s h1 h2 h;have aG:yFy D at_ n ver i (L:Int) (f+1) k out=match yDT D at_ n ver (i+k) with
   |none=>none
   |some q=>if (q.length:Int)≠1+min ((L:Int)-out.length) 233 then none else if q.getD 0 0≠0 then none else yFy D at_ n ver i (L:Int) f (k+1) (out++q.drop 1):=rfl
  rw [aG] at h;clear aG;cases hq:yDT D at_ n ver (i+k) with
  |none=>rw [hq] at h;cases h
  |some q=>
   rw [hq] at h;dsimp only at h;split at h
   ·cases h
   rename_i hl;split at h
   ·cases h
   rename_i h0;have hl:(q.length:Int)=1+min ((L:Int)-out.length) 233:=by simpa using hl
   have h0:q.getD 0 0=0:=by simpa using h0
   have hd:(q.drop 1).length=min (L-out.length) 233:=by rw [zLf];omega
   obtain ⟨l',e1,e2,e3⟩:=ih (k+1) (out++q.drop 1) s (by rw [zLa,hd];omega) (by rw [zLa,hd];omega) h;rw [zLa,hd] at e2;refine ⟨q.drop 1++l',by rw [e1,zLd],by rw [zLa,hd];omega,fun F hF j p hp=>?_⟩;rw [zLa,hd] at hF;obtain ⟨F',rfl⟩:∃ F',F=F'+1:=⟨F-1,zO⟩;have ao:q.drop 1++l'≠[]:=by intro e;have:=congrArg List.length e;rw [zLa,hd] at this;simp at this;omega
   have hqc:q=0::q.drop 1:=by
    cases q with
    |nil=>simp at hl;omega
    |cons c q=>
     have:c=0:=h0;subst this;rfl
   have bZ:(q.drop 1++l').take 233=q.drop 1∧(q.drop 1++l').drop 233=l':=by
    by_cases hb:233≤L-out.length
    ·have:(q.drop 1).length=233:=by omega
     exact ⟨by rw [List.take_append_of_le_length zO,zLi zO],by rw [List.drop_append_of_le_length zO,zLl zO];rfl⟩
    ·have:l'=[]:=List.length_eq_zero_iff.1 zO;subst this;rw [zLs];exact ⟨zLi zO,zLl zO⟩
   rw [yCr _ _ ao,bZ.1,bZ.2,← hqc] at hp;cases j with
   |zero=>cases hp;rw [zLz];exact hq
   |succ j=>
    have:=e3 F' zO j p (by simpa using hp)
    rwa [show i+(k+1)+j=i+k+(j+1) by omega] at this
theorem ySW (q:zB) (h5:5≤q.length) (h1:q.getD 0 0=1):yE2 (yFT q)=q.take 5:=by
 obtain ⟨c0,q,rfl⟩:=List.exists_cons_of_length_pos (l:=q) zO;obtain ⟨c1,q,rfl⟩:=List.exists_cons_of_length_pos (l:=q) (by simp at h5;omega);obtain ⟨c2,q,rfl⟩:=List.exists_cons_of_length_pos (l:=q) (by simp at h5;omega);obtain ⟨c3,q,rfl⟩:=List.exists_cons_of_length_pos (l:=q) (by simp at h5;omega);obtain ⟨c4,q,rfl⟩:=List.exists_cons_of_length_pos (l:=q) (by simp at h5;omega);have h1:c0=1:=h1;subst h1;have b1:=zLy c1;have b2:=zLy c2;have b3:=zLy c3;have b4:=zLy c4;obtain ⟨m,hm⟩:∃ m,m=yFT (1::c1::c2::c3::c4::q):=⟨_,rfl⟩;have hz:m=c1.toNat+c2.toNat*256+c3.toNat*65536+c4.toNat*16777216:=hm;rw [← hm];have key:∀ (c:UInt8) (m:Nat),m=c.toNat→UInt8.ofNat m=c:=fun c m h=>by rw [h];exact UInt8.ofNat_toNat
 have e1:UInt8.ofNat (m % 256)=c1:=key _ _ zO;have e2:UInt8.ofNat (m / 256 % 256)=c2:=key _ _ zO;have e3:UInt8.ofNat (m / 65536 % 256)=c3:=key _ _ zO;have e4:UInt8.ofNat (m / 16777216 % 256)=c4:=key _ _ zO;unfold yE2;rw [e1,e2,e3,e4];rfl
theorem yNk {i:Nat} {s:zB} {u:Int} (h:yFV D at_ n ver i=some (s,u)):∃ q,yDT D at_ n ver i=some q∧yDz q 4=(s.length:Nat)∧u=yBQ s.length∧∀ j p,(yBw s)[j]? = some p→yDT D at_ n ver (i+j)=some p:=by
 unfold yFV at h;cases hq:yDT D at_ n ver i with
 |none=>rw [hq] at h;cases h
 |some q=>
  rw [hq] at h;dsimp only at h;split at h
  ·cases h
  rename_i h5;split at h
  ·cases h
  rename_i h1;split at h
  ·cases h
  split at h
  ·cases h
  rename_i hl;rw [yIX] at h hl;obtain ⟨Z,hZ⟩:∃ Z,Z=yFT q:=⟨_,rfl⟩;rw [← hZ] at h hl;have hl:((q.drop 5).length:Int)=min ((Z:Nat):Int) 229:=by simpa using hl
  have h1:q.getD 0 0=1:=by simpa using h1
  cases hg:yFy D at_ n ver i ((Z:Nat):Int) (yBQ (Z:Nat)-1).toNat 1 (q.drop 5) with
  |none=>rw [hg] at h;cases h
  |some s'=>
   rw [hg] at h;simp only [Option.some.injEq,Prod.mk.injEq] at h;obtain ⟨rfl,rfl⟩:=h;have hcnt:(Z-(q.drop 5).length+232) / 233=(yBQ (Z:Nat)-1).toNat:=by
    unfold yBQ;split
    ·omega
    split <;> omega
   obtain ⟨l,e1,e2,e3⟩:=yVJ i (Z) _ 1 (q.drop 5) s' zO hcnt hg;have hs:s'.length=Z:=by rw [e1,zLa];exact e2
   refine ⟨q,rfl,by rw [yIX,hs,hZ],by rw [hs],fun j p hp=>?_⟩;have bZ:s'.take 229=q.drop 5∧s'.drop 229=l:=by
    rw [e1];by_cases hb:229≤Z
    ·have:(q.drop 5).length=229:=by omega
     exact ⟨by rw [List.take_append_of_le_length zO,zLi zO],by rw [List.drop_append_of_le_length zO,zLl zO];rfl⟩
    ·have:l=[]:=List.length_eq_zero_iff.1 zO;subst this;rw [zLs];exact ⟨zLi zO,zLl zO⟩
   have aM:yE2 s'.length=q.take 5:=by rw [hs,hZ];exact ySW q zO h1
   unfold yBw at hp;rw [bZ.1,bZ.2,aM,zLu] at hp;cases j with
   |zero=>cases hp;exact hq
   |succ j=>
    have:=e3 s'.length zO j p (by simpa using hp)
    rwa [show i+1+j=i+(j+1) by omega] at this
end
section
variable {D:Dsk} {at_ n:Int} {ver:Nat}
theorem yVK {i:Nat} {s:zB} {u:Int} (h:yFV D at_ n ver i=some (s,u)) (P:List zB) (hp:∀ j p,P[j]? = some p→yDT D at_ n ver (i+j)=some p) (hl:(P.length:Int)≤u):P=(yBw s).take P.length:=by
 obtain ⟨q,-,-,hu,aI⟩:=yNk h;have hL:=yB2 s;apply List.ext_getElem?;intro j;by_cases hj:j<P.length
 ·rw [List.getElem?_take,if_pos hj];have h1:=hp j _ (zLb hj);have hj2:j<(yBw s).length:=zO;have h2:=aI j _ (zLb hj2);rw [h1] at h2;rw [zLb hj,zLb hj2];exact h2
 ·rw [List.getElem?_eq_none zO,List.getElem?_eq_none (by rw [zLg];omega)]
theorem yK9 {i:Nat} {s:zB} {u:Int} {q:zB} (h:yFV D at_ n ver i=some (s,u)) (hq:yDT D at_ n ver i=some q):yFT q=s.length∧u=yBQ (yFT q:Nat)∧((yBw s).length:Int)=u:=by obtain ⟨q',h1,h2,h3,-⟩:=yNk h;rw [hq] at h1;cases h1;rw [yIX] at h2;have e:yFT q=s.length:=zO;exact ⟨e,by rw [e];exact h3,by rw [yB2,h3]⟩
theorem yJJ {i:Nat} (h:∀ s u,yFV D at_ n ver i=some (s,u)→False):yFV D at_ n ver i=none:=by
 cases hr:yFV D at_ n ver i with
 |none=>rfl
 |some su=>exact (h su.1 su.2 (by rw [hr])).elim
theorem yX4 {i k:Nat} {q:zB} (hq:yDT D at_ n ver i=some q) (hk:(k:Int)<yBQ (yFT q:Nat)) (h:∀ p,yDT D at_ n ver (i+k)=some p→p.length<1):yFV D at_ n ver i=none:=by refine yJJ fun s u hr=>?_;obtain ⟨e1,e2,e3⟩:=yK9 hr hq;obtain ⟨-,-,-,-,aI⟩:=yNk hr;have hj:k<(yBw s).length:=zO;have h1:=aI k _ (zLb hj);have h2:=xAG s k _ (zLb hj);have:=h _ h1;omega
theorem yX5 {i:Nat} {q:zB} {P:List zB} (hq:yDT D at_ n ver i=some q) (hp:∀ j p,P[j]? = some p→yDT D at_ n ver (i+j)=some p) (hl:(P.length:Int)=yBQ (yFT q:Nat)) {s:zB} {u:Int} (h:yFV D at_ n ver i=some (s,u)):P=yBw s∧txt P=s∧s.length=yFT q:=by obtain ⟨e1,e2,e3⟩:=yK9 h hq;have:=yVK h P hp zO;rw [zLi zO] at this;exact ⟨this,by rw [this];exact xAF s,e1.symm⟩
theorem yX6 {i:Nat} {s:zB} (hs:s.length<2147483648) (hp:∀ j p,(yBw s)[j]? = some p→yDT D at_ n ver (i+j)=some p) (hn:(i:Int)+(yBw s).length≤n):yFV D at_ n ver i=some (s,((yBw s).length:Int)):=by
 rcases yUF (D:=D) (at_:=at_) (n:=n) (ver:=ver) i s hs (fun j p h=>.inl (hp j p h)) hn with ⟨h,-⟩|⟨-,j,hj,h⟩
 ·exact h
 ·have:=hp j _ (zLb hj);rw [h] at this;cases this
theorem ySX {i:Nat} {q:zB} (hq:yDT D at_ n ver i=some q) (h:q.length<5):yFV D at_ n ver i=none:=by unfold yFV;rw [hq];dsimp only;rw [if_pos h]
theorem yVL {i:Nat} {q:zB} (hq:yDT D at_ n ver i=some q) (h:q.getD 0 0≠1):yFV D at_ n ver i=none:=by
 unfold yFV;rw [hq];dsimp only;split
 ·rfl
 ·first|rfl|rw [if_pos h]
theorem yVM {i:Nat} {q:zB} (hq:yDT D at_ n ver i=some q) (h:n-(i:Int)<yBQ (yFT q:Nat)):yFV D at_ n ver i=none:=by refine yJJ fun s u hr=>?_;obtain ⟨e1,e2,e3⟩:=yK9 hr hq;have:=(yGa hr).2;omega
end
theorem KJ.fact {W:World} {n:Nat} {k:KK} {E:Env} {H R:List SP} {p:Prop} (hs:Sel (yGZ p) H R) (h:p→KJ W n k E H):KJ W n k E H:=⟨fun a w q s=>(h (s.left.fact hs)).go a w q s⟩
end Go.Proofs.YtoipmnikdiogcaaGreatDoor
