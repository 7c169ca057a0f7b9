/-
  PoD1, PoD2.
-/
import Derived.Test.YtlnbkbfblhofbaaGreatDoorVHT
set_option maxHeartbeats 64000000
namespace Go.Proofs.YtlnbkbfblhofbaaGreatDoor
open Go Go.RowKit
open Go.Proofs.Tryz
section
variable {W:World}
theorem yEW (x:Nat) (hx:x<18446744073709551616):CtU prog W 76 [.int .u64 (x:Nat)] [] (strV (vu x)) []:=by
 refine Ct.enter func76 rfl ntmps76 zW (fun R=>?_)
 repeat' (first|refine xst ?_|refine xsa ?_;intro _|refine xsb ?_ ?_<;>intro _<;>try omega|refine xsc ?_|fail)
 refine yAz (fun i:{i:List UInt8 × Nat × Nat//VuI [] x i}=>[(0,.int .u64 (i.1.2.1:Nat)),(3,strV i.1.1)])
  (fun _=>[]++R) (fun i=>i.1.2.2) ⟨([],x,9),VuI.start [] hx⟩ xB (xN) (fun ⟨(l,y,f),hi⟩=>?_)
 dsimp only at hi ⊢
 have hlen:=hi.len
 have hv:=yBO x
 have hyx:=hi.2.2.1
 dsimp only [List.length_nil] at hlen hyx
 have bl:l.length+([UInt8.ofNat y]:List UInt8).length≤9223372036854775807:=by simp;omega
 by_cases hlt:y<128
 ·have ql:decide ((127:Int)<(y:Nat))=false:=zZ zO
  have w1:IntKind.u8.wrap ((y:Nat):Int)=((UInt8.ofNat y).toNat:Int):=yZy y
  have hlast:=hi.last hlt
  rw [List.nil_append] at hlast
  repeat' (first|refine yAF ?_;refine yAI rfl xF (by rfl) zO rfl (fun gb=>?_)|(refine yEf ?_;first|refine yAa (yAg rfl w1) ?_|refine yAa (yIa (l:=[UInt8.ofNat y]) rfl xS rfl) ?_)|refine yWf ?_;refine yAa (yE7 (a:=l) (b:=[UInt8.ofNat y]) rfl rfl bl) ?_|refine yF5 ?_;refine yAa (yAe rfl rfl ql) ?_|refine xst ?_|refine xsa ?_;intro _|refine xsb ?_ ?_<;>intro _<;>try omega|refine xsc ?_|fail)
  all_goals rw [hlast]
  all_goals (exact xdn ())
 ·have ql:decide ((127:Int)<(y:Nat))=true:=zY zO
  obtain ⟨f',rfl,hnx⟩:=hi.next hlt
  have w1:IntKind.u8.wrap ((y % 128+128:Nat):Int)=((UInt8.ofNat (y % 128+128)).toNat:Int):=yZy (y % 128+128)
  have w3:IntKind.u64.wrap (((y % 128:Nat):Int)+128)=((y % 128+128:Nat):Int):=by rw [show ((y % 128:Nat):Int)+128=((y % 128+128:Nat):Int) by omega];exact yAo _ zO
  have w4:IntKind.u64.wrap ((y / 128:Nat):Int)=((y / 128:Nat):Int):=yAo _ zO
  have m1:((y:Nat):Int) % 128=((y % 128:Nat):Int):=zO
  have m2:((y:Nat):Int) / 128=((y / 128:Nat):Int):=zO
  have bl2:l.length+([UInt8.ofNat (y % 128+128)]:List UInt8).length≤9223372036854775807:=by simp;omega
  repeat' (first|refine yAF ?_;refine yAI rfl xF (by rfl) zO rfl (fun gb=>?_)|(refine yEf ?_;first|refine yAa (yAg rfl w1) ?_|refine yAa (yIa (l:=[UInt8.ofNat (y % 128+128)]) rfl xS rfl) ?_)|(refine yWf ?_;first|refine yAa (yB8 rfl rfl w3) ?_|refine yAa (yE7 (a:=l) (b:=[UInt8.ofNat (y % 128+128)]) rfl rfl bl2) ?_)|refine yDK ?_;refine yAa (yVC rfl rfl zO m2 w4) ?_|refine yYY ?_;refine yAa (yAZ rfl rfl zO m1) ?_|refine yF5 ?_;refine yAa (yAe rfl rfl ql) ?_|refine xst ?_|refine xsa ?_;intro _|refine xsb ?_ ?_<;>intro _<;>try omega|refine xsc ?_|fail)
  all_goals refine yAp ⟨(l++[UInt8.ofNat (y % 128+128)],y / 128,f'),hnx⟩ (by show f'<f'+1;omega) xB (xN)
theorem yPF (s:List UInt8) (hs:s.length≤2000000):CtU prog W 125 [strV s] [] (strV (tx s)) []:=by
 have cu:=yEW (W:=W) s.length zO
 have w2:IntKind.u64.wrap ((s.length:Nat):Int)=((s.length:Nat):Int):=yAo _ zO
 have bl:(vu s.length).length+s.length≤9223372036854775807:=by have:=yBO s.length;omega
 refine Ct.enter func125 rfl ntmps125 zW (fun R=>?_)
 repeat' (first|refine yAb ?_;refine xca cu fun _=>?_|refine yEf ?_;refine yAa (yAg rfl w2) ?_|refine yWf ?_;refine yAa (yE7 (a:=vu s.length) (b:=s) rfl rfl bl) ?_|refine xst ?_|refine xsa ?_;intro _|refine xsb ?_ ?_<;>intro _<;>try omega|refine xsc ?_|exact xdn ()|fail)
end
section
variable {W:World} {s:List UInt8} {a:Nat}
theorem yFC (ha:a≤s.length) (hs:s.length≤9223372036854775807) (q:Rd Nat) (hq:ru (s.drop a)=q) :
 CtU prog W 149 [strV s,.int .i64 (a:Nat)] [] (.tuple #[.int .u64 (rdN q:Nat),.int .i64 ((a+rdL q:Nat):Int),.int .i64 (rdE q:Nat)]) []:=by
 have hdl:(s.drop a).length=s.length-a:=zLf
 refine Ct.enter func149 rfl ntmps149 zW (fun R=>?_)
 repeat' (first|refine xst ?_|refine xsa ?_;intro _|refine xsb ?_ ?_<;>intro _<;>try omega|refine xsc ?_|fail)
 refine yAz (fun i:{i:Nat × Nat//RuI (s.drop a) i.1 i.2}=>[(0,strV s),(1,.int .i64 (a:Nat)),(7,.int .u64 (i.1.2:Nat)),(8,.int .i64 (i.1.1:Nat))])
  (fun _=>[]++R) (fun i=>10-i.1.1) ⟨(0,0),RuI.start _⟩ xB (xN) (fun ⟨(i,x),hi⟩=>?_)
 dsimp only at hi ⊢
 have i9:=hi.i9
 have hil:=hi.il
 by_cases hend:i=s.length-a
 ·have hbad:=hi.short zO
  rw [hq] at hbad
  have qe:decide (((s.length:Nat):Int)≤((a+i:Nat):Int))=true:=zY zO
  subst hbad
  repeat' (first|refine yWf ?_;refine yAa (yAd (r:=((a+i:Nat):Int)) rfl rfl zO zO) ?_|refine yIR ?_;refine yAa (yAm rfl rfl qe) ?_|refine xst ?_|refine xsa ?_;intro _|refine xsb ?_ ?_<;>intro _<;>try omega|refine xsc ?_|exact xdn ()|fail)
 have qe:decide (((s.length:Nat):Int)≤((a+i:Nat):Int))=false:=zZ zO
 obtain ⟨b,hb⟩:∃ b,(s.drop a)[i]? = some b:=⟨_,zLb zO⟩
 have hbs:s[a+i]? = some b:=by rw [← hb,zLC]
 have hbt:=zLy b
 have hcase:(i=9∧1<b.toNat)∨(i=9∧b.toNat=0)∨(i=9∧b.toNat=1)∨(i≠9∧b.toNat=0∧0<i)∨(i≠9∧b.toNat=0∧i=0)∨(i≠9∧0<b.toNat∧b.toNat<128∧i=0)∨(i≠9∧0<b.toNat∧b.toNat<128∧0<i)∨(i≠9∧¬ b.toNat<128∧i=0)∨(i≠9∧¬ b.toNat<128∧0<i):=zO
 rcases hcase with h9|h9|h9|h9|h9|h9|h9|h9|h9
 ·
  have hbad:=hi.bad hb h9
  rw [hq] at hbad
  subst hbad
  have q9:decide ((i:Int)=9)=true:=zY zO
  have qb:decide ((1:Int)<(b.toNat:Int))=true:=zY zO
  repeat' (first|refine yOV ?_;refine yAa (yAk rfl rfl zO hbs) ?_|refine yWf ?_;refine yAa (yAd (r:=((a+i:Nat):Int)) rfl rfl zO zO) ?_|refine yDe ?_;refine yAa (yAf rfl rfl q9) ?_|refine yF5 ?_;refine yAa (yAe rfl rfl qb) ?_|refine yIR ?_;refine yAa (yAm rfl rfl qe) ?_|refine xst ?_|refine xsa ?_;intro _|refine xsb ?_ ?_<;>intro _<;>try omega|refine xsc ?_|exact xdn ()|fail)
 ·
  have hbad:=hi.nought hb zO zO
  rw [hq] at hbad
  subst hbad
  have c1:IntKind.u64.wrap ((b.toNat % 128:Nat):Int)=((b.toNat % 128:Nat):Int):=yAo _ zO
  have hfit:=hi.fit (b:=b) zO
  have sh:=yKo (b.toNat % 128) i i9 zO
  have orr:=or7 x (b.toNat % 128) i hi.x7 hfit
  have ql:decide ((b.toNat:Int)<128)=true:=zY zO
  have q9:decide ((i:Int)=9)=true:=zY zO
  have qb:decide ((1:Int)<(b.toNat:Int))=false:=zZ zO
  have q0:decide ((b.toNat:Int)=0)=true:=zY zO
  have q1:decide ((0:Int)<(i:Int))=true:=zY zO
  repeat' (first|refine yEf ?_;refine yAa (yAg rfl c1) ?_|refine yOV ?_;refine yAa (yAk rfl rfl zO hbs) ?_|(refine yWf ?_;first|refine yAa (yAd (r:=((a+i:Nat):Int)) rfl rfl zO zO) ?_|refine yAa (yAd (r:=((a+i+1:Nat):Int)) rfl rfl zO zO) ?_|refine yAa (yAd (r:=((i+1:Nat):Int)) rfl rfl zO zO) ?_)|refine yRP ?_;refine yAa (yAG (r:=((7*i:Nat):Int)) rfl rfl zO zO) ?_|refine yYY ?_;refine yAa (yAZ (r:=((b.toNat % 128:Nat):Int)) rfl rfl zO zO) ?_|refine yYZ ?_;refine yAa (yCj rfl rfl orr) ?_|refine yY0 ?_;refine yAa (yBk rfl rfl sh) ?_|(refine yDe ?_;first|refine yAa (yAf rfl rfl q0) ?_|refine yAa (yAf rfl rfl q9) ?_)|refine yFg ?_;refine yAa (yAc rfl rfl ql) ?_|(refine yF5 ?_;first|refine yAa (yAe rfl rfl q1) ?_|refine yAa (yAe rfl rfl qb) ?_)|refine yIR ?_;refine yAa (yAm rfl rfl qe) ?_|refine xst ?_|refine xsa ?_;intro _|refine xsb ?_ ?_<;>intro _<;>try omega|refine xsc ?_|exact xdn ()|fail)
 ·
  have c1:IntKind.u64.wrap ((b.toNat % 128:Nat):Int)=((b.toNat % 128:Nat):Int):=yAo _ zO
  have hfit:=hi.fit (b:=b) zO
  have sh:=yKo (b.toNat % 128) i i9 zO
  have orr:=or7 x (b.toNat % 128) i hi.x7 hfit
  have ql:decide ((b.toNat:Int)<128)=true:=zY zO
  have hok:=hi.done hb zO zO zO
  have hlen:=RuI.len hok zO
  rw [hq] at hok
  have hA:a+i+1=a+rdL q:=by rw [hok];show _=a+(vu _).length;rw [hlen];omega
  have hV:((x+b.toNat % 128*2 ^ (7*i):Nat):Int)=((rdN q:Nat):Int):=by rw [hok];rfl
  have hZ:(0:Int)=((rdE q:Nat):Int):=by rw [hok];rfl
  have q9:decide ((i:Int)=9)=true:=zY zO
  have qb:decide ((1:Int)<(b.toNat:Int))=false:=zZ zO
  have q0:decide ((b.toNat:Int)=0)=false:=zZ zO
  have q1:decide ((0:Int)<(i:Int))=true:=zY zO
  repeat' (first|refine yEf ?_;refine yAa (yAg rfl c1) ?_|refine yOV ?_;refine yAa (yAk rfl rfl zO hbs) ?_|(refine yWf ?_;first|refine yAa (yAd (r:=((a+i:Nat):Int)) rfl rfl zO zO) ?_|refine yAa (yAd (r:=((a+i+1:Nat):Int)) rfl rfl zO zO) ?_|refine yAa (yAd (r:=((i+1:Nat):Int)) rfl rfl zO zO) ?_)|refine yRP ?_;refine yAa (yAG (r:=((7*i:Nat):Int)) rfl rfl zO zO) ?_|refine yYY ?_;refine yAa (yAZ (r:=((b.toNat % 128:Nat):Int)) rfl rfl zO zO) ?_|refine yYZ ?_;refine yAa (yCj rfl rfl orr) ?_|refine yY0 ?_;refine yAa (yBk rfl rfl sh) ?_|(refine yDe ?_;first|refine yAa (yAf rfl rfl q0) ?_|refine yAa (yAf rfl rfl q9) ?_)|refine yFg ?_;refine yAa (yAc rfl rfl ql) ?_|(refine yF5 ?_;first|refine yAa (yAe rfl rfl q1) ?_|refine yAa (yAe rfl rfl qb) ?_)|refine yIR ?_;refine yAa (yAm rfl rfl qe) ?_|refine xst ?_|refine xsa ?_;intro _|refine xsb ?_ ?_<;>intro _<;>try omega|refine xsc ?_|fail)
  all_goals rw [hA,hV]
  all_goals exact xdn () (hc:=by rw [← hZ];rfl)
 ·
  have hbad:=hi.nought hb zO zO
  rw [hq] at hbad
  subst hbad
  have c1:IntKind.u64.wrap ((b.toNat % 128:Nat):Int)=((b.toNat % 128:Nat):Int):=yAo _ zO
  have hfit:=hi.fit (b:=b) zO
  have sh:=yKo (b.toNat % 128) i i9 zO
  have orr:=or7 x (b.toNat % 128) i hi.x7 hfit
  have ql:decide ((b.toNat:Int)<128)=true:=zY zO
  have q9:decide ((i:Int)=9)=false:=zZ zO
  have q0:decide ((b.toNat:Int)=0)=true:=zY zO
  have q1:decide ((0:Int)<(i:Int))=true:=zY zO
  repeat' (first|refine yEf ?_;refine yAa (yAg rfl c1) ?_|refine yOV ?_;refine yAa (yAk rfl rfl zO hbs) ?_|(refine yWf ?_;first|refine yAa (yAd (r:=((a+i:Nat):Int)) rfl rfl zO zO) ?_|refine yAa (yAd (r:=((a+i+1:Nat):Int)) rfl rfl zO zO) ?_|refine yAa (yAd (r:=((i+1:Nat):Int)) rfl rfl zO zO) ?_)|refine yRP ?_;refine yAa (yAG (r:=((7*i:Nat):Int)) rfl rfl zO zO) ?_|refine yYY ?_;refine yAa (yAZ (r:=((b.toNat % 128:Nat):Int)) rfl rfl zO zO) ?_|refine yYZ ?_;refine yAa (yCj rfl rfl orr) ?_|refine yY0 ?_;refine yAa (yBk rfl rfl sh) ?_|(refine yDe ?_;first|refine yAa (yAf rfl rfl q0) ?_|refine yAa (yAf rfl rfl q9) ?_)|refine yFg ?_;refine yAa (yAc rfl rfl ql) ?_|refine yF5 ?_;refine yAa (yAe rfl rfl q1) ?_|refine yIR ?_;refine yAa (yAm rfl rfl qe) ?_|refine xst ?_|refine xsa ?_;intro _|refine xsb ?_ ?_<;>intro _<;>try omega|refine xsc ?_|exact xdn ()|fail)
 ·
  have c1:IntKind.u64.wrap ((b.toNat % 128:Nat):Int)=((b.toNat % 128:Nat):Int):=yAo _ zO
  have hfit:=hi.fit (b:=b) zO
  have sh:=yKo (b.toNat % 128) i i9 zO
  have orr:=or7 x (b.toNat % 128) i hi.x7 hfit
  have ql:decide ((b.toNat:Int)<128)=true:=zY zO
  have hok:=hi.done hb zO zO zO
  have hlen:=RuI.len hok zO
  rw [hq] at hok
  have hA:a+i+1=a+rdL q:=by rw [hok];show _=a+(vu _).length;rw [hlen];omega
  have hV:((x+b.toNat % 128*2 ^ (7*i):Nat):Int)=((rdN q:Nat):Int):=by rw [hok];rfl
  have hZ:(0:Int)=((rdE q:Nat):Int):=by rw [hok];rfl
  have q9:decide ((i:Int)=9)=false:=zZ zO
  have q0:decide ((b.toNat:Int)=0)=true:=zY zO
  have q1:decide ((0:Int)<(i:Int))=false:=zZ zO
  repeat' (first|refine yEf ?_;refine yAa (yAg rfl c1) ?_|refine yOV ?_;refine yAa (yAk rfl rfl zO hbs) ?_|(refine yWf ?_;first|refine yAa (yAd (r:=((a+i:Nat):Int)) rfl rfl zO zO) ?_|refine yAa (yAd (r:=((a+i+1:Nat):Int)) rfl rfl zO zO) ?_|refine yAa (yAd (r:=((i+1:Nat):Int)) rfl rfl zO zO) ?_)|refine yRP ?_;refine yAa (yAG (r:=((7*i:Nat):Int)) rfl rfl zO zO) ?_|refine yYY ?_;refine yAa (yAZ (r:=((b.toNat % 128:Nat):Int)) rfl rfl zO zO) ?_|refine yYZ ?_;refine yAa (yCj rfl rfl orr) ?_|refine yY0 ?_;refine yAa (yBk rfl rfl sh) ?_|(refine yDe ?_;first|refine yAa (yAf rfl rfl q0) ?_|refine yAa (yAf rfl rfl q9) ?_)|refine yFg ?_;refine yAa (yAc rfl rfl ql) ?_|refine yF5 ?_;refine yAa (yAe rfl rfl q1) ?_|refine yIR ?_;refine yAa (yAm rfl rfl qe) ?_|refine xst ?_|refine xsa ?_;intro _|refine xsb ?_ ?_<;>intro _<;>try omega|refine xsc ?_|fail)
  all_goals rw [hA,hV]
  all_goals exact xdn () (hc:=by rw [← hZ];rfl)
 ·
  have c1:IntKind.u64.wrap ((b.toNat % 128:Nat):Int)=((b.toNat % 128:Nat):Int):=yAo _ zO
  have hfit:=hi.fit (b:=b) zO
  have sh:=yKo (b.toNat % 128) i i9 zO
  have orr:=or7 x (b.toNat % 128) i hi.x7 hfit
  have ql:decide ((b.toNat:Int)<128)=true:=zY zO
  have hok:=hi.done hb zO zO zO
  have hlen:=RuI.len hok zO
  rw [hq] at hok
  have hA:a+i+1=a+rdL q:=by rw [hok];show _=a+(vu _).length;rw [hlen];omega
  have hV:((x+b.toNat % 128*2 ^ (7*i):Nat):Int)=((rdN q:Nat):Int):=by rw [hok];rfl
  have hZ:(0:Int)=((rdE q:Nat):Int):=by rw [hok];rfl
  have q9:decide ((i:Int)=9)=false:=zZ zO
  have q0:decide ((b.toNat:Int)=0)=false:=zZ zO
  repeat' (first|refine yEf ?_;refine yAa (yAg rfl c1) ?_|refine yOV ?_;refine yAa (yAk rfl rfl zO hbs) ?_|(refine yWf ?_;first|refine yAa (yAd (r:=((a+i:Nat):Int)) rfl rfl zO zO) ?_|refine yAa (yAd (r:=((a+i+1:Nat):Int)) rfl rfl zO zO) ?_|refine yAa (yAd (r:=((i+1:Nat):Int)) rfl rfl zO zO) ?_)|refine yRP ?_;refine yAa (yAG (r:=((7*i:Nat):Int)) rfl rfl zO zO) ?_|refine yYY ?_;refine yAa (yAZ (r:=((b.toNat % 128:Nat):Int)) rfl rfl zO zO) ?_|refine yYZ ?_;refine yAa (yCj rfl rfl orr) ?_|refine yY0 ?_;refine yAa (yBk rfl rfl sh) ?_|(refine yDe ?_;first|refine yAa (yAf rfl rfl q0) ?_|refine yAa (yAf rfl rfl q9) ?_)|refine yFg ?_;refine yAa (yAc rfl rfl ql) ?_|refine yIR ?_;refine yAa (yAm rfl rfl qe) ?_|refine xst ?_|refine xsa ?_;intro _|refine xsb ?_ ?_<;>intro _<;>try omega|refine xsc ?_|fail)
  all_goals rw [hA,hV]
  all_goals exact xdn () (hc:=by rw [← hZ];rfl)
 ·
  have c1:IntKind.u64.wrap ((b.toNat % 128:Nat):Int)=((b.toNat % 128:Nat):Int):=yAo _ zO
  have hfit:=hi.fit (b:=b) zO
  have sh:=yKo (b.toNat % 128) i i9 zO
  have orr:=or7 x (b.toNat % 128) i hi.x7 hfit
  have ql:decide ((b.toNat:Int)<128)=true:=zY zO
  have hok:=hi.done hb zO zO zO
  have hlen:=RuI.len hok zO
  rw [hq] at hok
  have hA:a+i+1=a+rdL q:=by rw [hok];show _=a+(vu _).length;rw [hlen];omega
  have hV:((x+b.toNat % 128*2 ^ (7*i):Nat):Int)=((rdN q:Nat):Int):=by rw [hok];rfl
  have hZ:(0:Int)=((rdE q:Nat):Int):=by rw [hok];rfl
  have q9:decide ((i:Int)=9)=false:=zZ zO
  have q0:decide ((b.toNat:Int)=0)=false:=zZ zO
  repeat' (first|refine yEf ?_;refine yAa (yAg rfl c1) ?_|refine yOV ?_;refine yAa (yAk rfl rfl zO hbs) ?_|(refine yWf ?_;first|refine yAa (yAd (r:=((a+i:Nat):Int)) rfl rfl zO zO) ?_|refine yAa (yAd (r:=((a+i+1:Nat):Int)) rfl rfl zO zO) ?_|refine yAa (yAd (r:=((i+1:Nat):Int)) rfl rfl zO zO) ?_)|refine yRP ?_;refine yAa (yAG (r:=((7*i:Nat):Int)) rfl rfl zO zO) ?_|refine yYY ?_;refine yAa (yAZ (r:=((b.toNat % 128:Nat):Int)) rfl rfl zO zO) ?_|refine yYZ ?_;refine yAa (yCj rfl rfl orr) ?_|refine yY0 ?_;refine yAa (yBk rfl rfl sh) ?_|(refine yDe ?_;first|refine yAa (yAf rfl rfl q0) ?_|refine yAa (yAf rfl rfl q9) ?_)|refine yFg ?_;refine yAa (yAc rfl rfl ql) ?_|refine yIR ?_;refine yAa (yAm rfl rfl qe) ?_|refine xst ?_|refine xsa ?_;intro _|refine xsb ?_ ?_<;>intro _<;>try omega|refine xsc ?_|fail)
  all_goals rw [hA,hV]
  all_goals exact xdn () (hc:=by rw [← hZ];rfl)
 ·
  have c1:IntKind.u64.wrap ((b.toNat % 128:Nat):Int)=((b.toNat % 128:Nat):Int):=yAo _ zO
  have hfit:=hi.fit (b:=b) zO
  have sh:=yKo (b.toNat % 128) i i9 zO
  have orr:=or7 x (b.toNat % 128) i hi.x7 hfit
  have ql:decide ((b.toNat:Int)<128)=false:=zZ zO
  have hnx:=hi.next hb zO zO
  have q9:decide ((i:Int)=9)=false:=zZ zO
  repeat' (first|refine yEf ?_;refine yAa (yAg rfl c1) ?_|refine yOV ?_;refine yAa (yAk rfl rfl zO hbs) ?_|(refine yWf ?_;first|refine yAa (yAd (r:=((a+i:Nat):Int)) rfl rfl zO zO) ?_|refine yAa (yAd (r:=((a+i+1:Nat):Int)) rfl rfl zO zO) ?_|refine yAa (yAd (r:=((i+1:Nat):Int)) rfl rfl zO zO) ?_)|refine yRP ?_;refine yAa (yAG (r:=((7*i:Nat):Int)) rfl rfl zO zO) ?_|refine yYY ?_;refine yAa (yAZ (r:=((b.toNat % 128:Nat):Int)) rfl rfl zO zO) ?_|refine yYZ ?_;refine yAa (yCj rfl rfl orr) ?_|refine yY0 ?_;refine yAa (yBk rfl rfl sh) ?_|refine yDe ?_;refine yAa (yAf rfl rfl q9) ?_|refine yFg ?_;refine yAa (yAc rfl rfl ql) ?_|refine yIR ?_;refine yAa (yAm rfl rfl qe) ?_|refine xst ?_|refine xsa ?_;intro _|refine xsb ?_ ?_<;>intro _<;>try omega|refine xsc ?_|fail)
  all_goals refine yAp ⟨(i+1,x+b.toNat % 128*2 ^ (7*i)),hnx⟩ (by show 10-(i+1)<10-i;omega) xB (xN)
 ·
  have c1:IntKind.u64.wrap ((b.toNat % 128:Nat):Int)=((b.toNat % 128:Nat):Int):=yAo _ zO
  have hfit:=hi.fit (b:=b) zO
  have sh:=yKo (b.toNat % 128) i i9 zO
  have orr:=or7 x (b.toNat % 128) i hi.x7 hfit
  have ql:decide ((b.toNat:Int)<128)=false:=zZ zO
  have hnx:=hi.next hb zO zO
  have q9:decide ((i:Int)=9)=false:=zZ zO
  repeat' (first|refine yEf ?_;refine yAa (yAg rfl c1) ?_|refine yOV ?_;refine yAa (yAk rfl rfl zO hbs) ?_|(refine yWf ?_;first|refine yAa (yAd (r:=((a+i:Nat):Int)) rfl rfl zO zO) ?_|refine yAa (yAd (r:=((a+i+1:Nat):Int)) rfl rfl zO zO) ?_|refine yAa (yAd (r:=((i+1:Nat):Int)) rfl rfl zO zO) ?_)|refine yRP ?_;refine yAa (yAG (r:=((7*i:Nat):Int)) rfl rfl zO zO) ?_|refine yYY ?_;refine yAa (yAZ (r:=((b.toNat % 128:Nat):Int)) rfl rfl zO zO) ?_|refine yYZ ?_;refine yAa (yCj rfl rfl orr) ?_|refine yY0 ?_;refine yAa (yBk rfl rfl sh) ?_|refine yDe ?_;refine yAa (yAf rfl rfl q9) ?_|refine yFg ?_;refine yAa (yAc rfl rfl ql) ?_|refine yIR ?_;refine yAa (yAm rfl rfl qe) ?_|refine xst ?_|refine xsa ?_;intro _|refine xsb ?_ ?_<;>intro _<;>try omega|refine xsc ?_|fail)
  all_goals refine yAp ⟨(i+1,x+b.toNat % 128*2 ^ (7*i)),hnx⟩ (by show 10-(i+1)<10-i;omega) xB (xN)
theorem yEA (most:Nat) (hm:most≤4611686018427387904) (ha:a≤s.length) (hs:s.length≤9223372036854775807) (q:Rd Nat) (hq:rup most (s.drop a)=q) :
 CtU prog W 150 [strV s,.int .i64 (a:Nat),.int .i64 (most:Nat)] [] (.tuple #[.int .i64 (rdN q:Nat),.int .i64 ((a+rdL q:Nat):Int),.int .i64 (rdE q:Nat)]) []:=by
 have cn0:=fun w hw=>yFC (W:=W) (s:=s) (a:=a) ha hs w hw
 have q0:decide (((most:Nat):Int)<0)=false:=zZ zO
 have w1:IntKind.u64.wrap ((most:Nat):Int)=((most:Nat):Int):=yAo _ zO
 unfold rup at hq
 cases h:ru (s.drop a) with
 |bad e=>
  rw [h] at hq
  subst hq
  have cn:=cn0 _ h
  have hne:decide (((e:Nat):Int)≠0)=true:=zY (by have:=yC2 h;omega)
  rw [show rdN (.bad e)=0 from rfl,show rdL (.bad e)=0 from rfl,show rdE (α:=Nat) (.bad e)=e from rfl,zLz] at cn ⊢
  refine Ct.enter func150 rfl ntmps150 zW (fun R=>?_)
  repeat' (first|refine yAb ?_;refine xca cn fun _=>?_|refine yD3 ?_;refine yAa (yAl rfl rfl hne) ?_|refine xst ?_|refine xsa ?_;intro _|refine xsb ?_ ?_<;>intro _<;>try omega|refine xsc ?_|exact xdn ()|fail)
 |ok n t=>
  rw [h] at hq
  dsimp only at hq
  have cn:=cn0 _ h
  have hne:decide (((0:Nat):Int)≠0)=false:=rfl
  rw [show rdN (.ok n t)=n from rfl,show rdL (.ok n t)=(vu n).length from rfl,show rdE (.ok n t)=0 from rfl] at cn
  obtain ⟨a1,ha1⟩:∃ a1,a1=a+(vu n).length:=⟨_,rfl⟩
  rw [← ha1] at cn
  by_cases hx:most<n
  ·rw [if_pos hx] at hq
   subst hq
   have qg:decide (((most:Nat):Int)<((n:Nat):Int))=true:=zY zO
   rw [show rdN (.bad 3)=0 from rfl,show rdL (.bad 3)=0 from rfl,show rdE (α:=Nat) (.bad 3)=3 from rfl,zLz]
   refine Ct.enter func150 rfl ntmps150 zW (fun R=>?_)
   repeat' (first|refine yAb ?_;refine xca cn fun _=>?_|refine yEf ?_;refine yAa (yAg rfl w1) ?_|refine yD3 ?_;refine yAa (yAl rfl rfl hne) ?_|refine yFg ?_;refine yAa (yAc rfl rfl q0) ?_|refine yF5 ?_;refine yAa (yAe rfl rfl qg) ?_|refine xst ?_|refine xsa ?_;intro _|refine xsb ?_ ?_<;>intro _<;>try omega|refine xsc ?_|exact xdn ()|fail)
  ·rw [if_neg hx] at hq
   subst hq
   have qg:decide (((most:Nat):Int)<((n:Nat):Int))=false:=zZ zO
   have w2:IntKind.i64.wrap ((n:Nat):Int)=((n:Nat):Int):=yCF _ zO
   rw [show rdN (.ok n t)=n from rfl,show rdL (.ok n t)=(vu n).length from rfl,show rdE (.ok n t)=0 from rfl,← ha1]
   refine Ct.enter func150 rfl ntmps150 zW (fun R=>?_)
   repeat' (first|refine yAb ?_;refine xca cn fun _=>?_|(refine yEf ?_;first|refine yAa (yAg rfl w2) ?_|refine yAa (yAg rfl w1) ?_)|refine yD3 ?_;refine yAa (yAl rfl rfl hne) ?_|refine yFg ?_;refine yAa (yAc rfl rfl q0) ?_|refine yF5 ?_;refine yAa (yAe rfl rfl qg) ?_|refine xst ?_|refine xsa ?_;intro _|refine xsb ?_ ?_<;>intro _<;>try omega|refine xsc ?_|exact xdn ()|fail)
theorem yHn (most:Nat) (hm:most≤4611686018427387904) (ha:a≤s.length) (hs:s.length≤9223372036854775807) (q:Rd (List UInt8)) (hq:rtx most (s.drop a)=q) :
 CtU prog W 152 [strV s,.int .i64 (a:Nat),.int .i64 (most:Nat)] [] (.tuple #[strV (rdS q),.int .i64 ((a+rdT q:Nat):Int),.int .i64 (rdE q:Nat)]) []:=by
 rcases yHa most (s.drop a) with ⟨e,h1,h2,h3⟩|⟨n,t,h1,h4,h2,h3⟩|⟨n,t,h1,h4,h5,h2,h3⟩|⟨n,t,h1,h4,h5,h2,h3⟩
 ·rw [hq] at h2
  subst h2
  have cn:=yEA (W:=W) (s:=s) (a:=a) most hm ha zO (.bad e) (by unfold rup;rw [h1])
  have hne:decide (((e:Nat):Int)≠0)=true:=zY (by have:=yC2 h1;omega)
  rw [show rdN (.bad e)=0 from rfl,show rdL (.bad e)=0 from rfl,show rdE (α:=Nat) (.bad e)=e from rfl,zLz] at cn
  rw [show rdS (.bad e)=[] from rfl,show rdT (.bad e)=0 from rfl,show rdE (α:=List UInt8) (.bad e)=e from rfl,zLz]
  refine Ct.enter func152 rfl ntmps152 zW (fun R=>?_)
  repeat' (first|refine yAb ?_;refine xca cn fun _=>?_|refine yD3 ?_;refine yAa (yAl rfl rfl hne) ?_|refine xst ?_|refine xsa ?_;intro _|refine xsb ?_ ?_<;>intro _<;>try omega|refine xsc ?_|exact xdn ()|fail)
 ·rw [hq] at h2
  subst h2
  have cn:=yEA (W:=W) (s:=s) (a:=a) most hm ha zO (.bad 3) (by unfold rup;rw [h1];dsimp only;rw [if_pos h4])
  have hne:decide (((3:Nat):Int)≠0)=true:=rfl
  rw [show rdN (.bad 3)=0 from rfl,show rdL (.bad 3)=0 from rfl,show rdE (α:=Nat) (.bad 3)=3 from rfl,zLz] at cn
  rw [show rdS (.bad 3)=[] from rfl,show rdT (.bad 3)=0 from rfl,show rdE (α:=List UInt8) (.bad 3)=3 from rfl,zLz]
  refine Ct.enter func152 rfl ntmps152 zW (fun R=>?_)
  repeat' (first|refine yAb ?_;refine xca cn fun _=>?_|refine yD3 ?_;refine yAa (yAl rfl rfl hne) ?_|refine xst ?_|refine xsa ?_;intro _|refine xsb ?_ ?_<;>intro _<;>try omega|refine xsc ?_|exact xdn ()|fail)
 ·have cn:=yEA (W:=W) (s:=s) (a:=a) most hm ha zO (.ok n t) (by unfold rup;rw [h1];dsimp only;rw [if_neg h4])
  have hne:decide (((0:Nat):Int)≠0)=false:=rfl
  rw [show rdN (.ok n t)=n from rfl,show rdL (.ok n t)=(vu n).length from rfl,show rdE (.ok n t)=0 from rfl] at cn
  have hf:=yEc h1
  have htd:=yCX h1
  have ht:=congrArg List.length htd
  rw [zLf] at ht
  obtain ⟨a1,ha1⟩:∃ a1,a1=a+(vu n).length:=⟨_,rfl⟩
  rw [← ha1] at cn hf ht htd
  rw [hq] at h2
  subst h2
  have qg:decide ((((s.length:Nat):Int)-((a1:Nat):Int))<((n:Nat):Int))=true:=zY zO
  have qs:((s.length:Nat):Int)-((a1:Nat):Int)=((s.length-a1:Nat):Int):=zO
  rw [show rdS (.bad 1)=[] from rfl,show rdT (.bad 1)=0 from rfl,show rdE (α:=List UInt8) (.bad 1)=1 from rfl,zLz]
  refine Ct.enter func152 rfl ntmps152 zW (fun R=>?_)
  repeat' (first|refine yAb ?_;refine xca cn fun _=>?_|refine yYX ?_;refine yAa (yBG rfl rfl rfl zO) ?_|refine yD3 ?_;refine yAa (yAl rfl rfl hne) ?_|refine yFg ?_;refine yAa (yAc rfl rfl qg) ?_|refine xst ?_|refine xsa ?_;intro _|refine xsb ?_ ?_<;>intro _<;>try omega|refine xsc ?_|exact xdn ()|fail)
 ·have hxA:=(yS4 h2).symm.trans h3
  have cn:=yEA (W:=W) (s:=s) (a:=a) most hm ha zO (.ok n t) (by unfold rup;rw [h1];dsimp only;rw [if_neg h4])
  have hne:decide (((0:Nat):Int)≠0)=false:=rfl
  rw [show rdN (.ok n t)=n from rfl,show rdL (.ok n t)=(vu n).length from rfl,show rdE (.ok n t)=0 from rfl] at cn
  have hf:=yEc h1
  have htd:=yCX h1
  have ht:=congrArg List.length htd
  rw [zLf] at ht
  obtain ⟨a1,ha1⟩:∃ a1,a1=a+(vu n).length:=⟨_,rfl⟩
  rw [← ha1] at cn hf ht htd
  rw [hq] at h2
  subst h2
  have qg:decide ((((s.length:Nat):Int)-((a1:Nat):Int))<((n:Nat):Int))=false:=zZ zO
  have hsl:(s.take (Int.toNat ((a1+n:Nat):Int))).drop (Int.toNat ((a1:Nat):Int))=t.take n:=by
   rw [zLe,zLe,htd,List.drop_take]
   congr 1;omega
  have hA:a+rdT (.ok (t.take n) (t.drop n))=a1+n:=by show a+(tx (t.take n)).length=_;rw [hxA,ha1];omega
  rw [hA,show rdS (.ok (t.take n) (t.drop n))=t.take n from rfl,show rdE (.ok (t.take n) (t.drop n))=0 from rfl]
  refine Ct.enter func152 rfl ntmps152 zW (fun R=>?_)
  repeat' (first|refine yAb ?_;refine xca cn fun _=>?_|refine yAQ ?_;refine yAa (yET rfl rfl rfl zO hsl) ?_|refine yWf ?_;refine yAa (yAd (r:=((a1+n:Nat):Int)) rfl rfl zO zO) ?_|refine yYX ?_;refine yAa (yBG rfl rfl rfl zO) ?_|refine yD3 ?_;refine yAa (yAl rfl rfl hne) ?_|refine yFg ?_;refine yAa (yAc rfl rfl qg) ?_|refine xst ?_|refine xsa ?_;intro _|refine xsb ?_ ?_<;>intro _<;>try omega|refine xsc ?_|exact xdn ()|fail)
end
end Go.Proofs.YtlnbkbfblhofbaaGreatDoor
