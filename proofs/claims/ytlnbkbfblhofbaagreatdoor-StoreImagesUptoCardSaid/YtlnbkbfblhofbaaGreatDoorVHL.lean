/-
  RrR1, RrR2, RrR3.
-/
import Derived.Test.YtlnbkbfblhofbaaGreatDoorVEG
set_option maxHeartbeats 64000000
namespace Go.Proofs.YtlnbkbfblhofbaaGreatDoor
open Go Go.RowKit
open Go.Proofs.Tryz
abbrev yCx:Pl:=(.op 0 (.op 1 (.op 2 (.op 3 (.op 4 (.op 5 (.op 6 (.op 7 (.op 8 (.op 9 (.op 10 (.op 11 .nil))))))))))))
abbrev yPK:Pl:=(.op 0 (.op 1 (.op 2 (.op 3 (.op 4 (.op 5 (.op 6 (.op 7 (.op 8 (.op 9 (.op 10 (.op 11 (.op 12 (.op 13 (.op 14 (.op 15 (.op 16 (.op 17 (.op 18 (.op 19 .nil))))))))))))))))))))
abbrev yPL:Pl:=(.op 0 (.op 1 (.op 2 (.op 3 (.op 4 (.op 5 (.op 6 (.op 7 (.op 8 (.op 9 (.op 10 (.op 11 (.op 12 (.op 13 (.op 14 (.op 15 (.op 16 .nil)))))))))))))))))
abbrev yB0:Pl:=(.op 0 (.op 1 (.op 2 (.op 3 (.op 4 (.op 5 (.op 6 (.op 7 (.op 8 (.op 9 .nil))))))))))
abbrev yHq:Pl:=(.op 0 (.op 1 (.op 2 (.op 3 (.op 4 (.op 5 .nil))))))
abbrev drP (p:Nat) (s:List UInt8) (a:Nat) (e:Int):SP:=yAi p [strV s,.int .i64 (a:Nat),.int .i64 e] 238
section
variable {W:World} {p:Nat} {s:List UInt8} {a:Nat}
theorem yLV (ha:a≤s.length) (hs:s.length≤9223372036854775800) (q:Rd Nat) (hq:ru (s.drop a)=q) :
 CtU prog W 155 [zPp p] [drP p s a 0] (.int .u64 (rdN q:Nat)) [drP p s (a+rdL q) (rdE q:Nat)]:=by
 have hdl:(s.drop a).length=s.length-a:=zLf
 have qz:decide ((0:Int)=0)=true:=rfl
 refine Ct.enter func155 rfl ntmps155 zW (fun R=>?_)
 repeat' (first|refine xst ?_|refine xsa ?_;intro _|refine xsb ?_ ?_<;>intro _<;>try omega|refine xsc ?_|refine xdr 5 yCx ?_|refine xdr 8 yCx ?_|refine xsd ?_ ?_|exact Rech.nil|fail)
 refine yAz (fun i:{i:Nat × Nat//RuI (s.drop a) i.1 i.2}=>[(0,zPp p),(3,.int .u64 (i.1.2:Nat)),(4,.int .i64 (i.1.1:Nat))])
  (fun i=>[drP p s a 0]++R) (fun i=>10-i.1.1) ⟨(0,0),RuI.start _⟩ xB (xN) (fun ⟨(i,x),hi⟩=>?_)
 dsimp only at hi ⊢
 have i9:=hi.i9
 have hil:=hi.il
 by_cases hend:i=s.length-a
 ·have hbad:=hi.short zO
  rw [hq] at hbad
  have qe:decide (((s.length:Nat):Int)≤((a+i:Nat):Int))=true:=zY zO
  subst hbad
  repeat' (first|refine yWf ?_;refine yAa (yAd (r:=((a+i:Nat):Int)) rfl rfl zO zO) ?_|refine yDe ?_;refine yAa (yAf rfl rfl qz) ?_|refine yIR ?_;refine yAa (yAm rfl rfl qe) ?_|refine xst ?_|refine xsa ?_;intro _|refine xsb ?_ ?_<;>intro _<;>try omega|refine xsc ?_|refine xdr 5 yCx ?_|refine xdr 8 yCx ?_|refine xsd ?_ ?_|exact Rech.nil|fail)
  all_goals rw [show a+rdL (Rd.bad 1)=a from rfl]
  all_goals (exact xdn ())
 have qe:decide (((s.length:Nat):Int)≤((a+i:Nat):Int))=false:=zZ zO
 obtain ⟨b,hb⟩:∃ b,(s.drop a)[i]? = some b:=⟨_,zLb zO⟩
 have hbs:s[a+i]? = some b:=by rw [← hb,zLC]
 have hbt:=zLy b
 have hcase:(i=9∧1<b.toNat)∨(i=9∧b.toNat=0)∨(i=9∧b.toNat=1)∨(i≠9∧b.toNat=0∧0<i)∨(i≠9∧b.toNat=0∧i=0)∨(i≠9∧0<b.toNat∧b.toNat<128∧i=0)∨(i≠9∧0<b.toNat∧b.toNat<128∧0<i)∨(i≠9∧¬ b.toNat<128∧i=0)∨(i≠9∧¬ b.toNat<128∧0<i):=zO
 rcases hcase with h9|h9|h9|h9|h9|h9|h9|h9|h9
 ·
  have hbad:=hi.bad hb h9
  rw [hq] at hbad
  subst hbad
  have q9:decide ((i:Int)=9)=true:=zY zO
  have qb:decide ((1:Int)<(b.toNat:Int))=true:=zY zO
  repeat' (first|refine yOV ?_;refine yAa (yAk rfl rfl zO hbs) ?_|refine yWf ?_;refine yAa (yAd (r:=((a+i:Nat):Int)) rfl rfl zO zO) ?_|(refine yDe ?_;first|refine yAa (yAf rfl rfl qz) ?_|refine yAa (yAf rfl rfl q9) ?_)|refine yF5 ?_;refine yAa (yAe rfl rfl qb) ?_|refine yIR ?_;refine yAa (yAm rfl rfl qe) ?_|refine xst ?_|refine xsa ?_;intro _|refine xsb ?_ ?_<;>intro _<;>try omega|refine xsc ?_|refine xdr 5 yCx ?_|refine xdr 8 yCx ?_|refine xsd ?_ ?_|exact Rech.nil|fail)
  all_goals rw [show a+rdL (Rd.bad 2)=a from rfl]
  all_goals (exact xdn ())
 ·
  have hbad:=hi.nought hb zO zO
  rw [hq] at hbad
  subst hbad
  have q9:decide ((i:Int)=9)=true:=zY zO
  have qb:decide ((1:Int)<(b.toNat:Int))=false:=zZ zO
  have q0:decide ((b.toNat:Int)=0)=true:=zY zO
  have q1:decide ((0:Int)<(i:Int))=true:=zY zO
  repeat' (first|refine yOV ?_;refine yAa (yAk rfl rfl zO hbs) ?_|refine yWf ?_;refine yAa (yAd (r:=((a+i:Nat):Int)) rfl rfl zO zO) ?_|(refine yDe ?_;first|refine yAa (yAf rfl rfl qz) ?_|refine yAa (yAf rfl rfl q0) ?_|refine yAa (yAf rfl rfl q9) ?_)|(refine yF5 ?_;first|refine yAa (yAe rfl rfl q1) ?_|refine yAa (yAe rfl rfl qb) ?_)|refine yIR ?_;refine yAa (yAm rfl rfl qe) ?_|refine xst ?_|refine xsa ?_;intro _|refine xsb ?_ ?_<;>intro _<;>try omega|refine xsc ?_|refine xdr 5 yCx ?_|refine xdr 8 yCx ?_|refine xsd ?_ ?_|exact Rech.nil|fail)
  all_goals rw [show a+rdL (Rd.bad 2)=a from rfl]
  all_goals (exact xdn ())
 ·
  have c1:IntKind.u64.wrap ((b.toNat % 128:Nat):Int)=((b.toNat % 128:Nat):Int):=yAo _ zO
  have hfit:=hi.fit (b:=b) zO
  have sh:=yKo (b.toNat % 128) i i9 zO
  have hsum:IntKind.u64.wrap (((x:Nat):Int)+((b.toNat % 128*2 ^ (7*i):Nat):Int))=((x+b.toNat % 128*2 ^ (7*i):Nat):Int):=by rw [← Int.natCast_add];exact yAo _ zO
  have ql:decide ((b.toNat:Int)<128)=true:=zY zO
  have hok:=hi.done hb zO zO zO
  have hlen:=RuI.len hok zO
  rw [hq] at hok
  have hA:a+(i+1)=a+rdL q:=by rw [hok];show _=a+(vu _).length;rw [hlen]
  have hV:Value.int .u64 ((x+b.toNat % 128*2 ^ (7*i):Nat):Int)=.int .u64 (rdN q:Nat):=by rw [hok];rfl
  have hZ:((rdE q:Nat):Int)=0:=by rw [hok];rfl
  have q9:decide ((i:Int)=9)=true:=zY zO
  have qb:decide ((1:Int)<(b.toNat:Int))=false:=zZ zO
  have q0:decide ((b.toNat:Int)=0)=false:=zZ zO
  have q1:decide ((0:Int)<(i:Int))=true:=zY zO
  repeat' (first|refine yEf ?_;refine yAa (yAg rfl c1) ?_|refine yOV ?_;refine yAa (yAk rfl rfl zO hbs) ?_|(refine yWf ?_;first|refine yAa (yB8 rfl rfl hsum) ?_|refine yAa (yAd (r:=((a+i:Nat):Int)) rfl rfl zO zO) ?_|refine yAa (yAd (r:=((a+(i+1):Nat):Int)) rfl rfl zO zO) ?_|refine yAa (yAd (r:=((i+1:Nat):Int)) rfl rfl zO zO) ?_)|refine yRP ?_;refine yAa (yAG (r:=((7*i:Nat):Int)) rfl rfl zO zO) ?_|refine yYY ?_;refine yAa (yAZ (r:=((b.toNat % 128:Nat):Int)) rfl rfl zO zO) ?_|refine yY0 ?_;refine yAa (yBk rfl rfl sh) ?_|(refine yDe ?_;first|refine yAa (yAf rfl rfl qz) ?_|refine yAa (yAf rfl rfl q0) ?_|refine yAa (yAf rfl rfl q9) ?_)|refine yFg ?_;refine yAa (yAc rfl rfl ql) ?_|(refine yF5 ?_;first|refine yAa (yAe rfl rfl q1) ?_|refine yAa (yAe rfl rfl qb) ?_)|refine yIR ?_;refine yAa (yAm rfl rfl qe) ?_|refine xst ?_|refine xsa ?_;intro _|refine xsb ?_ ?_<;>intro _<;>try omega|refine xsc ?_|refine xdr 5 yCx ?_|refine xdr 8 yCx ?_|refine xsd ?_ ?_|exact Rech.nil|fail)
  all_goals rw [hA,hZ]
  all_goals exact xdn () (hc:=by exact hV)
 ·
  have hbad:=hi.nought hb zO zO
  rw [hq] at hbad
  subst hbad
  have q9:decide ((i:Int)=9)=false:=zZ zO
  have q0:decide ((b.toNat:Int)=0)=true:=zY zO
  have q1:decide ((0:Int)<(i:Int))=true:=zY zO
  repeat' (first|refine yOV ?_;refine yAa (yAk rfl rfl zO hbs) ?_|refine yWf ?_;refine yAa (yAd (r:=((a+i:Nat):Int)) rfl rfl zO zO) ?_|(refine yDe ?_;first|refine yAa (yAf rfl rfl qz) ?_|refine yAa (yAf rfl rfl q0) ?_|refine yAa (yAf rfl rfl q9) ?_)|refine yF5 ?_;refine yAa (yAe rfl rfl q1) ?_|refine yIR ?_;refine yAa (yAm rfl rfl qe) ?_|refine xst ?_|refine xsa ?_;intro _|refine xsb ?_ ?_<;>intro _<;>try omega|refine xsc ?_|refine xdr 5 yCx ?_|refine xdr 8 yCx ?_|refine xsd ?_ ?_|exact Rech.nil|fail)
  all_goals rw [show a+rdL (Rd.bad 2)=a from rfl]
  all_goals (exact xdn ())
 ·
  have c1:IntKind.u64.wrap ((b.toNat % 128:Nat):Int)=((b.toNat % 128:Nat):Int):=yAo _ zO
  have hfit:=hi.fit (b:=b) zO
  have sh:=yKo (b.toNat % 128) i i9 zO
  have hsum:IntKind.u64.wrap (((x:Nat):Int)+((b.toNat % 128*2 ^ (7*i):Nat):Int))=((x+b.toNat % 128*2 ^ (7*i):Nat):Int):=by rw [← Int.natCast_add];exact yAo _ zO
  have ql:decide ((b.toNat:Int)<128)=true:=zY zO
  have hok:=hi.done hb zO zO zO
  have hlen:=RuI.len hok zO
  rw [hq] at hok
  have hA:a+(i+1)=a+rdL q:=by rw [hok];show _=a+(vu _).length;rw [hlen]
  have hV:Value.int .u64 ((x+b.toNat % 128*2 ^ (7*i):Nat):Int)=.int .u64 (rdN q:Nat):=by rw [hok];rfl
  have hZ:((rdE q:Nat):Int)=0:=by rw [hok];rfl
  have q9:decide ((i:Int)=9)=false:=zZ zO
  have q1:decide ((0:Int)<(i:Int))=false:=zZ zO
  repeat' (first|refine yEf ?_;refine yAa (yAg rfl c1) ?_|refine yOV ?_;refine yAa (yAk rfl rfl zO hbs) ?_|(refine yWf ?_;first|refine yAa (yB8 rfl rfl hsum) ?_|refine yAa (yAd (r:=((a+i:Nat):Int)) rfl rfl zO zO) ?_|refine yAa (yAd (r:=((a+(i+1):Nat):Int)) rfl rfl zO zO) ?_|refine yAa (yAd (r:=((i+1:Nat):Int)) rfl rfl zO zO) ?_)|refine yRP ?_;refine yAa (yAG (r:=((7*i:Nat):Int)) rfl rfl zO zO) ?_|refine yYY ?_;refine yAa (yAZ (r:=((b.toNat % 128:Nat):Int)) rfl rfl zO zO) ?_|refine yY0 ?_;refine yAa (yBk rfl rfl sh) ?_|(refine yDe ?_;first|refine yAa (yAf rfl rfl qz) ?_|refine yAa (yAf rfl rfl q9) ?_)|refine yFg ?_;refine yAa (yAc rfl rfl ql) ?_|refine yF5 ?_;refine yAa (yAe rfl rfl q1) ?_|refine yIR ?_;refine yAa (yAm rfl rfl qe) ?_|refine xst ?_|refine xsa ?_;intro _|refine xsb ?_ ?_<;>intro _<;>try omega|refine xsc ?_|refine xdr 5 yCx ?_|refine xdr 8 yCx ?_|refine xsd ?_ ?_|exact Rech.nil|fail)
  all_goals rw [hA,hZ]
  all_goals exact xdn () (hc:=by exact hV)
 ·
  have c1:IntKind.u64.wrap ((b.toNat % 128:Nat):Int)=((b.toNat % 128:Nat):Int):=yAo _ zO
  have hfit:=hi.fit (b:=b) zO
  have sh:=yKo (b.toNat % 128) i i9 zO
  have hsum:IntKind.u64.wrap (((x:Nat):Int)+((b.toNat % 128*2 ^ (7*i):Nat):Int))=((x+b.toNat % 128*2 ^ (7*i):Nat):Int):=by rw [← Int.natCast_add];exact yAo _ zO
  have ql:decide ((b.toNat:Int)<128)=true:=zY zO
  have hok:=hi.done hb zO zO zO
  have hlen:=RuI.len hok zO
  rw [hq] at hok
  have hA:a+(i+1)=a+rdL q:=by rw [hok];show _=a+(vu _).length;rw [hlen]
  have hV:Value.int .u64 ((x+b.toNat % 128*2 ^ (7*i):Nat):Int)=.int .u64 (rdN q:Nat):=by rw [hok];rfl
  have hZ:((rdE q:Nat):Int)=0:=by rw [hok];rfl
  have q9:decide ((i:Int)=9)=false:=zZ zO
  have q1:decide ((0:Int)<(i:Int))=false:=zZ zO
  repeat' (first|refine yEf ?_;refine yAa (yAg rfl c1) ?_|refine yOV ?_;refine yAa (yAk rfl rfl zO hbs) ?_|(refine yWf ?_;first|refine yAa (yB8 rfl rfl hsum) ?_|refine yAa (yAd (r:=((a+i:Nat):Int)) rfl rfl zO zO) ?_|refine yAa (yAd (r:=((a+(i+1):Nat):Int)) rfl rfl zO zO) ?_|refine yAa (yAd (r:=((i+1:Nat):Int)) rfl rfl zO zO) ?_)|refine yRP ?_;refine yAa (yAG (r:=((7*i:Nat):Int)) rfl rfl zO zO) ?_|refine yYY ?_;refine yAa (yAZ (r:=((b.toNat % 128:Nat):Int)) rfl rfl zO zO) ?_|refine yY0 ?_;refine yAa (yBk rfl rfl sh) ?_|(refine yDe ?_;first|refine yAa (yAf rfl rfl qz) ?_|refine yAa (yAf rfl rfl q9) ?_)|refine yFg ?_;refine yAa (yAc rfl rfl ql) ?_|refine yF5 ?_;refine yAa (yAe rfl rfl q1) ?_|refine yIR ?_;refine yAa (yAm rfl rfl qe) ?_|refine xst ?_|refine xsa ?_;intro _|refine xsb ?_ ?_<;>intro _<;>try omega|refine xsc ?_|refine xdr 5 yCx ?_|refine xdr 8 yCx ?_|refine xsd ?_ ?_|exact Rech.nil|fail)
  all_goals rw [hA,hZ]
  all_goals exact xdn () (hc:=by exact hV)
 ·
  have c1:IntKind.u64.wrap ((b.toNat % 128:Nat):Int)=((b.toNat % 128:Nat):Int):=yAo _ zO
  have hfit:=hi.fit (b:=b) zO
  have sh:=yKo (b.toNat % 128) i i9 zO
  have hsum:IntKind.u64.wrap (((x:Nat):Int)+((b.toNat % 128*2 ^ (7*i):Nat):Int))=((x+b.toNat % 128*2 ^ (7*i):Nat):Int):=by rw [← Int.natCast_add];exact yAo _ zO
  have ql:decide ((b.toNat:Int)<128)=true:=zY zO
  have hok:=hi.done hb zO zO zO
  have hlen:=RuI.len hok zO
  rw [hq] at hok
  have hA:a+(i+1)=a+rdL q:=by rw [hok];show _=a+(vu _).length;rw [hlen]
  have hV:Value.int .u64 ((x+b.toNat % 128*2 ^ (7*i):Nat):Int)=.int .u64 (rdN q:Nat):=by rw [hok];rfl
  have hZ:((rdE q:Nat):Int)=0:=by rw [hok];rfl
  have q9:decide ((i:Int)=9)=false:=zZ zO
  have q0:decide ((b.toNat:Int)=0)=false:=zZ zO
  have q1:decide ((0:Int)<(i:Int))=true:=zY zO
  repeat' (first|refine yEf ?_;refine yAa (yAg rfl c1) ?_|refine yOV ?_;refine yAa (yAk rfl rfl zO hbs) ?_|(refine yWf ?_;first|refine yAa (yB8 rfl rfl hsum) ?_|refine yAa (yAd (r:=((a+i:Nat):Int)) rfl rfl zO zO) ?_|refine yAa (yAd (r:=((a+(i+1):Nat):Int)) rfl rfl zO zO) ?_|refine yAa (yAd (r:=((i+1:Nat):Int)) rfl rfl zO zO) ?_)|refine yRP ?_;refine yAa (yAG (r:=((7*i:Nat):Int)) rfl rfl zO zO) ?_|refine yYY ?_;refine yAa (yAZ (r:=((b.toNat % 128:Nat):Int)) rfl rfl zO zO) ?_|refine yY0 ?_;refine yAa (yBk rfl rfl sh) ?_|(refine yDe ?_;first|refine yAa (yAf rfl rfl qz) ?_|refine yAa (yAf rfl rfl q0) ?_|refine yAa (yAf rfl rfl q9) ?_)|refine yFg ?_;refine yAa (yAc rfl rfl ql) ?_|refine yF5 ?_;refine yAa (yAe rfl rfl q1) ?_|refine yIR ?_;refine yAa (yAm rfl rfl qe) ?_|refine xst ?_|refine xsa ?_;intro _|refine xsb ?_ ?_<;>intro _<;>try omega|refine xsc ?_|refine xdr 5 yCx ?_|refine xdr 8 yCx ?_|refine xsd ?_ ?_|exact Rech.nil|fail)
  all_goals rw [hA,hZ]
  all_goals exact xdn () (hc:=by exact hV)
 ·
  have c1:IntKind.u64.wrap ((b.toNat % 128:Nat):Int)=((b.toNat % 128:Nat):Int):=yAo _ zO
  have hfit:=hi.fit (b:=b) zO
  have sh:=yKo (b.toNat % 128) i i9 zO
  have hsum:IntKind.u64.wrap (((x:Nat):Int)+((b.toNat % 128*2 ^ (7*i):Nat):Int))=((x+b.toNat % 128*2 ^ (7*i):Nat):Int):=by rw [← Int.natCast_add];exact yAo _ zO
  have ql:decide ((b.toNat:Int)<128)=false:=zZ zO
  have hnx:=hi.next hb zO zO
  have q9:decide ((i:Int)=9)=false:=zZ zO
  have q1:decide ((0:Int)<(i:Int))=false:=zZ zO
  repeat' (first|refine yEf ?_;refine yAa (yAg rfl c1) ?_|refine yOV ?_;refine yAa (yAk rfl rfl zO hbs) ?_|(refine yWf ?_;first|refine yAa (yB8 rfl rfl hsum) ?_|refine yAa (yAd (r:=((a+i:Nat):Int)) rfl rfl zO zO) ?_|refine yAa (yAd (r:=((a+(i+1):Nat):Int)) rfl rfl zO zO) ?_|refine yAa (yAd (r:=((i+1:Nat):Int)) rfl rfl zO zO) ?_)|refine yRP ?_;refine yAa (yAG (r:=((7*i:Nat):Int)) rfl rfl zO zO) ?_|refine yYY ?_;refine yAa (yAZ (r:=((b.toNat % 128:Nat):Int)) rfl rfl zO zO) ?_|refine yY0 ?_;refine yAa (yBk rfl rfl sh) ?_|(refine yDe ?_;first|refine yAa (yAf rfl rfl qz) ?_|refine yAa (yAf rfl rfl q9) ?_)|refine yFg ?_;refine yAa (yAc rfl rfl ql) ?_|refine yF5 ?_;refine yAa (yAe rfl rfl q1) ?_|refine yIR ?_;refine yAa (yAm rfl rfl qe) ?_|refine xst ?_|refine xsa ?_;intro _|refine xsb ?_ ?_<;>intro _<;>try omega|refine xsc ?_|refine xdr 5 yCx ?_|refine xdr 8 yCx ?_|refine xsd ?_ ?_|exact Rech.nil|fail)
  all_goals refine yAp ⟨(i+1,x+b.toNat % 128*2 ^ (7*i)),hnx⟩ (by show 10-(i+1)<10-i;omega) xB (xN)
 ·
  have c1:IntKind.u64.wrap ((b.toNat % 128:Nat):Int)=((b.toNat % 128:Nat):Int):=yAo _ zO
  have hfit:=hi.fit (b:=b) zO
  have sh:=yKo (b.toNat % 128) i i9 zO
  have hsum:IntKind.u64.wrap (((x:Nat):Int)+((b.toNat % 128*2 ^ (7*i):Nat):Int))=((x+b.toNat % 128*2 ^ (7*i):Nat):Int):=by rw [← Int.natCast_add];exact yAo _ zO
  have ql:decide ((b.toNat:Int)<128)=false:=zZ zO
  have hnx:=hi.next hb zO zO
  have q9:decide ((i:Int)=9)=false:=zZ zO
  have q0:decide ((b.toNat:Int)=0)=false:=zZ zO
  have q1:decide ((0:Int)<(i:Int))=true:=zY zO
  repeat' (first|refine yEf ?_;refine yAa (yAg rfl c1) ?_|refine yOV ?_;refine yAa (yAk rfl rfl zO hbs) ?_|(refine yWf ?_;first|refine yAa (yB8 rfl rfl hsum) ?_|refine yAa (yAd (r:=((a+i:Nat):Int)) rfl rfl zO zO) ?_|refine yAa (yAd (r:=((a+(i+1):Nat):Int)) rfl rfl zO zO) ?_|refine yAa (yAd (r:=((i+1:Nat):Int)) rfl rfl zO zO) ?_)|refine yRP ?_;refine yAa (yAG (r:=((7*i:Nat):Int)) rfl rfl zO zO) ?_|refine yYY ?_;refine yAa (yAZ (r:=((b.toNat % 128:Nat):Int)) rfl rfl zO zO) ?_|refine yY0 ?_;refine yAa (yBk rfl rfl sh) ?_|(refine yDe ?_;first|refine yAa (yAf rfl rfl qz) ?_|refine yAa (yAf rfl rfl q0) ?_|refine yAa (yAf rfl rfl q9) ?_)|refine yFg ?_;refine yAa (yAc rfl rfl ql) ?_|refine yF5 ?_;refine yAa (yAe rfl rfl q1) ?_|refine yIR ?_;refine yAa (yAm rfl rfl qe) ?_|refine xst ?_|refine xsa ?_;intro _|refine xsb ?_ ?_<;>intro _<;>try omega|refine xsc ?_|refine xdr 5 yCx ?_|refine xdr 8 yCx ?_|refine xsd ?_ ?_|exact Rech.nil|fail)
  all_goals refine yAp ⟨(i+1,x+b.toNat % 128*2 ^ (7*i)),hnx⟩ (by show 10-(i+1)<10-i;omega) xB (xN)
theorem yKG (ha:a≤s.length) (hs:s.length≤9223372036854775800) (e:Nat) (hq:rtx 2147483647 (s.drop a)=.bad e) :
 Ct prog W 192 [zPp p] [drP p s a 0] (fun _:Nat=>strV []) (fun a'=>[drP p s a' (e:Nat)]):=by
 have cn0:=fun q hq=>yLV (W:=W) (p:=p) (s:=s) (a:=a) ha hs q hq
 have qz:decide ((0:Int)=0)=true:=rfl
 rcases yHa 2147483647 (s.drop a) with ⟨e',h1,h2,h3⟩|⟨n,t,h1,h4,h2,h3⟩|⟨n,t,h1,h4,h5,h2,h3⟩|⟨n,t,h1,h4,h5,h2,h3⟩
 ·rw [hq] at h2
  cases h2
  have cn:=cn0 _ h1
  have hne:e≠0:=by rcases yC2 h1 with h|h <;> omega
  have qe:decide (((e:Nat):Int)=0)=false:=zZ zO
  have qn:decide (((e:Nat):Int)≠0)=true:=zY zO
  rw [show rdL (.bad e)=0 from rfl,show rdE (α:=Nat) (.bad e)=e from rfl,show rdN (.bad e)=0 from rfl,zLz] at cn
  refine Ct.enter func192 rfl ntmps192 zW (fun R=>?_)
  repeat' (first|refine yAb ?_;refine xca cn fun _=>?_|refine yDe ?_;refine yAa (yAf rfl rfl qe) ?_|refine yD3 ?_;refine yAa (yAl rfl rfl qn) ?_|refine xst ?_|refine xsa ?_;intro _|refine xsb ?_ ?_<;>intro _<;>try omega|refine xsc ?_|refine xdr 4 yPK ?_|refine xdr 9 yPL ?_|refine xsd ?_ ?_|exact Rech.nil|fail)
  all_goals (exact xdn a)
 ·rw [hq] at h2
  cases h2
  have cn:=cn0 _ h1
  rw [show rdL (.ok n t)=(vu n).length from rfl,show rdE (.ok n t)=0 from rfl,show rdN (.ok n t)=n from rfl] at cn
  have qg:decide ((2147483647:Int)<((n:Nat):Int))=true:=zY zO
  have q3:decide ((3:Int)=0)=false:=rfl
  have q3n:decide ((3:Int)≠0)=true:=rfl
  have qz:decide (((0:Nat):Int)=0)=true:=rfl
  refine Ct.enter func192 rfl ntmps192 zW (fun R=>?_)
  repeat' (first|refine yAb ?_;refine xca cn fun _=>?_|(refine yDe ?_;first|refine yAa (yAf rfl rfl q3) ?_|refine yAa (yAf rfl rfl qz) ?_)|refine yD3 ?_;refine yAa (yAl rfl rfl q3n) ?_|refine yF5 ?_;refine yAa (yAe rfl rfl qg) ?_|refine xst ?_|refine xsa ?_;intro _|refine xsb ?_ ?_<;>intro _<;>try omega|refine xsc ?_|refine xdr 4 yPK ?_|refine xdr 9 yPL ?_|refine xsd ?_ ?_|exact Rech.nil|fail)
  all_goals (exact xdn (a+(vu n).length))
 ·rw [hq] at h2
  cases h2
  have cn:=cn0 _ h1
  have hf:=yEc h1
  have ht:=congrArg List.length (yCX h1)
  rw [zLf] at ht
  rw [show rdL (.ok n t)=(vu n).length from rfl,show rdE (.ok n t)=0 from rfl,show rdN (.ok n t)=n from rfl] at cn
  obtain ⟨a1,ha1⟩:∃ a1,a1=a+(vu n).length:=⟨_,rfl⟩
  rw [← ha1] at cn hf ht
  have qg:decide ((2147483647:Int)<((n:Nat):Int))=false:=zZ zO
  have qg2:decide (((s.length-a1:Nat):Int)<((n:Nat):Int))=true:=zY zO
  have q3:decide ((1:Int)=0)=false:=rfl
  have q3n:decide ((1:Int)≠0)=true:=rfl
  have qz:decide (((0:Nat):Int)=0)=true:=rfl
  have cv:IntKind.u64.wrap ((s.length-a1:Nat):Int)=((s.length-a1:Nat):Int):=yAo _ zO
  refine Ct.enter func192 rfl ntmps192 zW (fun R=>?_)
  repeat' (first|refine yAb ?_;refine xca cn fun _=>?_|refine yEf ?_;refine yAa (yAg rfl cv) ?_|refine yYX ?_;refine yAa (yBG (r:=((s.length-a1:Nat):Int)) rfl rfl zO zO) ?_|(refine yDe ?_;first|refine yAa (yAf rfl rfl q3) ?_|refine yAa (yAf rfl rfl qz) ?_)|refine yD3 ?_;refine yAa (yAl rfl rfl q3n) ?_|(refine yF5 ?_;first|refine yAa (yAe rfl rfl qg2) ?_|refine yAa (yAe rfl rfl qg) ?_)|refine xst ?_|refine xsa ?_;intro _|refine xsb ?_ ?_<;>intro _<;>try omega|refine xsc ?_|refine xdr 4 yPK ?_|refine xdr 9 yPL ?_|refine xsd ?_ ?_|exact Rech.nil|fail)
  all_goals (exact xdn a1)
 ·rw [hq] at h2;cases h2
theorem yJO (ha:a≤s.length) (hs:s.length≤9223372036854775800) (y t':List UInt8) (hq:rtx 2147483647 (s.drop a)=.ok y t') :
 CtU prog W 192 [zPp p] [drP p s a 0] (strV y) [drP p s (a+(tx y).length) 0]:=by
 have hxA:=yS4 hq
 rcases yHa 2147483647 (s.drop a) with ⟨e',h1,h2,h3⟩|⟨n,t,h1,h4,h2,h3⟩|⟨n,t,h1,h4,h5,h2,h3⟩|⟨n,t,h1,h4,h5,h2,h3⟩
 ·rw [hq] at h2;cases h2
 ·rw [hq] at h2;cases h2
 ·rw [hq] at h2;cases h2
 ·have cn:=yLV (W:=W) (p:=p) (s:=s) (a:=a) ha hs _ h1
  rw [← hxA,h3,← Nat.add_assoc]
  rw [hq] at h2
  cases h2
  have hf:=yEc h1
  have htd:=yCX h1
  have ht:=congrArg List.length htd
  rw [zLf] at ht
  rw [show rdL (.ok n t)=(vu n).length from rfl,show rdE (.ok n t)=0 from rfl,show rdN (.ok n t)=n from rfl] at cn
  obtain ⟨a1,ha1⟩:∃ a1,a1=a+(vu n).length:=⟨_,rfl⟩
  rw [← ha1] at cn hf ht htd ⊢
  have qg:decide ((2147483647:Int)<((n:Nat):Int))=false:=zZ zO
  have qg2:decide (((s.length-a1:Nat):Int)<((n:Nat):Int))=false:=zZ zO
  have qz:decide (((0:Nat):Int)=0)=true:=rfl
  have qzn:decide (((0:Nat):Int)≠0)=false:=rfl
  have cv:IntKind.u64.wrap ((s.length-a1:Nat):Int)=((s.length-a1:Nat):Int):=yAo _ zO
  have cn2:IntKind.i64.wrap ((n:Nat):Int)=((n:Nat):Int):=by
   simp only [IntKind.wrap,IntKind.signed,IntKind.bits]
   simp
   omega
  have hsl:(s.take (Int.toNat ((a1+n:Nat):Int))).drop (Int.toNat ((a1:Nat):Int))=t.take n:=by
   rw [zLe,zLe,htd,List.drop_take]
   congr 1;omega
  refine Ct.enter func192 rfl ntmps192 zW (fun R=>?_)
  repeat' (first|refine yAb ?_;refine xca cn fun _=>?_|(refine yEf ?_;first|refine yAa (yAg rfl cv) ?_|refine yAa (yAg rfl cn2) ?_)|refine yAQ ?_;refine yAa (yET rfl rfl rfl zO hsl) ?_|refine yWf ?_;refine yAa (yAd (r:=((a1+n:Nat):Int)) rfl rfl zO zO) ?_|(refine yYX ?_;first|refine yAa (yBG (r:=((s.length-a1:Nat):Int)) rfl rfl zO zO) ?_|refine yAa (yBG (r:=((a1:Nat):Int)) rfl rfl zO zO) ?_)|refine yDe ?_;refine yAa (yAf rfl rfl qz) ?_|refine yD3 ?_;refine yAa (yAl rfl rfl qzn) ?_|(refine yF5 ?_;first|refine yAa (yAe rfl rfl qg2) ?_|refine yAa (yAe rfl rfl qg) ?_)|refine xst ?_|refine xsa ?_;intro _|refine xsb ?_ ?_<;>intro _<;>try omega|refine xsc ?_|refine xdr 4 yPK ?_|refine xdr 9 yPL ?_|refine xsd ?_ ?_|exact Rech.nil|exact xdn ()|fail)
end
section
variable {W:World} {p:Nat} {s:List UInt8} {a:Nat}
theorem yV5 (ha:a≤s.length) (hs:s.length≤9223372036854775800) (first:Bool) (last:List UInt8) (e:Nat) (hq:yHs first last (s.drop a)=.bad e) :
 Ct prog W 156 [zPp p,.bool first,strV last] [drP p s a 0] (fun x:BOp × Nat=>.agg (opC x.1).toArray) (fun x=>[drP p s x.2 (e:Nat)]):=by
 have qz:decide ((0:Int)=0)=true:=rfl
 rcases yFT first last (s.drop a) with ⟨hl,h1⟩|⟨b,t,hl,hb,h1⟩|⟨b,t,hl,hb,hk⟩
 ·rw [hq] at h1
  cases h1
  have han:a=s.length:=by have:=congrArg List.length hl;rw [zLf,List.length_nil] at this;omega
  have ql:decide (((s.length:Nat):Int)≤((a:Nat):Int))=true:=zY zO
  refine Ct.enter func156 rfl ntmps156 zW (fun R=>?_)
  repeat' (first|refine yAs ?_;refine yAq rfl (fun g=>?_)|refine yAB ?_;refine yAa (yAC xV xW) ?_|refine yIR ?_;refine yAa (yAm rfl rfl ql) ?_|refine xst ?_|refine xsa ?_;intro _|refine xsb ?_ ?_<;>intro _<;>try omega|refine xsc ?_|refine xdr 2 yB0 ?_|refine xdr 5 yB0 ?_|refine xsd ?_ ?_|exact Rech.nil|fail)
  all_goals (refine yCy ?_;exact yAR (by first|exact Or.inl rfl|exact Or.inr rfl) rfl (Rvs.agg (T:=60) rfl inferInstance inferInstance xS xC Rvs.nil) (⟨false,[],[]⟩,a) (by rfl) (xN))
 ·rw [hq] at h1
  cases h1
  have hb0:s[a]? = some b:=by have:=congrArg (fun l=>l[0]?) hl;simpa [zLC] using this
  have hlt:=(zLc.1 hb0).1
  have ht:t=s.drop (a+1):=by rw [← List.drop_drop,hl];rfl
  have hb2:s[Int.toNat ((a:Nat):Int)]? = some b:=by rw [zLe];exact hb0
  have ql:decide (((s.length:Nat):Int)≤((a:Nat):Int))=false:=zZ zO
  have qb:decide ((1:Int)<(b.toNat:Int))=true:=zY zO
  refine Ct.enter func156 rfl ntmps156 zW (fun R=>?_)
  repeat' (first|refine yAs ?_;refine yAq rfl (fun g=>?_)|refine yOV ?_;refine yAa (yAk rfl rfl zO hb2) ?_|refine yAB ?_;refine yAa (yAC xV xW) ?_|refine yWf ?_;refine yAa (yAd (r:=((a+1:Nat):Int)) rfl rfl zO zO) ?_|refine yF5 ?_;refine yAa (yAe rfl rfl qb) ?_|refine yIR ?_;refine yAa (yAm rfl rfl ql) ?_|refine xst ?_|refine xsa ?_;intro _|refine xsb ?_ ?_<;>intro _<;>try omega|refine xsc ?_|refine xdr 2 yB0 ?_|refine xdr 5 yB0 ?_|refine xsd ?_ ?_|exact Rech.nil|fail)
  all_goals (refine yCy ?_;exact yAR (by first|exact Or.inl rfl|exact Or.inr rfl) rfl (Rvs.agg (T:=60) rfl inferInstance inferInstance xS xC Rvs.nil) (⟨false,[],[]⟩,a+1) (by rfl) (xN))
 ·
  have hb0:s[a]? = some b:=by have:=congrArg (fun l=>l[0]?) hl;simpa [zLC] using this
  have hlt:=(zLc.1 hb0).1
  have ht:t=s.drop (a+1):=by rw [← List.drop_drop,hl];rfl
  have hb2:s[Int.toNat ((a:Nat):Int)]? = some b:=by rw [zLe];exact hb0
  have ql:decide (((s.length:Nat):Int)≤((a:Nat):Int))=false:=zZ zO
  have qb:decide ((1:Int)<(b.toNat:Int))=false:=zZ zO
  obtain ⟨d,hd⟩:∃ d,decide ((b.toNat:Int)=1)=d:=⟨_,rfl⟩
  rw [ht] at hk
  rcases hk with ⟨e',hk,h1⟩|⟨k,u,hk,hk2⟩
  ·rw [hq] at h1
   cases h1
   have ck:=yKG (W:=W) (p:=p) (s:=s) (a:=a+1) zO hs e hk
   have qe:decide (((e:Nat):Int)=0)=false:=zZ (by have:=yEj hk;omega)
   refine Ct.enter func156 rfl ntmps156 zW (fun R=>?_)
   repeat' (first|refine yAs ?_;refine yAq rfl (fun g=>?_)|refine yAb ?_;refine xca ck fun a3=>?_|refine yOV ?_;refine yAa (yAk rfl rfl zO hb2) ?_|refine yAB ?_;refine yAa (yAC xV xW) ?_|refine yWf ?_;refine yAa (yAd (r:=((a+1:Nat):Int)) rfl rfl zO zO) ?_|(refine yDe ?_;first|refine yAa (yAf rfl rfl hd) ?_|refine yAa (yAf rfl rfl qe) ?_)|refine yF5 ?_;refine yAa (yAe rfl rfl qb) ?_|refine yIR ?_;refine yAa (yAm rfl rfl ql) ?_|refine xst ?_|refine xsa ?_;intro _|refine xsb ?_ ?_<;>intro _<;>try omega|refine xsc ?_|refine xdr 2 yB0 ?_|refine xdr 5 yB0 ?_|refine xsd ?_ ?_|exact Rech.nil|fail)
   all_goals (refine yCy ?_;exact yAR (by first|exact Or.inl rfl|exact Or.inr rfl) rfl (Rvs.agg (T:=60) rfl inferInstance inferInstance xS xC Rvs.nil) (⟨d,[],[]⟩,a3) (by rfl) (xN))
  have ck:=yJO (W:=W) (p:=p) (s:=s) (a:=a+1) zO hs k u hk
  have hkf:=yES hk
  have hu:=yDy hk
  obtain ⟨a2,ha2⟩:∃ a2,a2=a+1+(tx k).length:=⟨_,rfl⟩
  rw [← ha2] at ck hkf hu
  have hle:=yHL k last
  have q4:decide ((4:Int)=0)=false:=rfl
  rcases hk2 with ⟨rfl,hle2,h1⟩|⟨hor,hk2⟩
  ·rw [hq] at h1
   cases h1
   rw [hle2,Bool.not_false] at hle
   refine Ct.enter func156 rfl ntmps156 zW (fun R=>?_)
   repeat' (first|refine yAs ?_;refine yAq rfl (fun g=>?_)|refine yAb ?_;refine xca ck fun _=>?_|refine yOV ?_;refine yAa (yAk rfl rfl zO hb2) ?_|refine yAB ?_;refine yAa (yAC xV xW) ?_|refine yWf ?_;refine yAa (yAd (r:=((a+1:Nat):Int)) rfl rfl zO zO) ?_|(refine yDe ?_;first|refine yAa (yAf rfl rfl qz) ?_|refine yAa (yAf rfl rfl hd) ?_|refine yAa (yAf rfl rfl q4) ?_)|refine yMe ?_;refine yAa (yBb rfl rfl hle) ?_|refine yF5 ?_;refine yAa (yAe rfl rfl qb) ?_|refine yIR ?_;refine yAa (yAm rfl rfl ql) ?_|refine xst ?_|refine xsa ?_;intro _|refine xsb ?_ ?_<;>intro _<;>try omega|refine xsc ?_|refine xdr 2 yB0 ?_|refine xdr 5 yB0 ?_|refine xsd ?_ ?_|exact Rech.nil|fail)
   all_goals (refine yCy ?_;exact yAR (by first|exact Or.inl rfl|exact Or.inr rfl) rfl (Rvs.agg (T:=60) rfl inferInstance inferInstance xS xC Rvs.nil) (⟨d,k,[]⟩,a2) (by rfl) (xN))
  rcases hk2 with ⟨hb1,h1⟩|⟨hb1,e',hv,h1⟩|⟨hb1,v,w,hv,h1⟩
  ·rw [hq] at h1;cases h1
  ·rw [hq] at h1
   cases h1
   rw [hu] at hv
   have cv:=yKG (W:=W) (p:=p) (s:=s) (a:=a2) hkf hs e hv
   have hd0:d=false:=by rw [← hd];exact zZ zO
   subst hd0
   rcases hor with rfl|hlt2
   ·
    refine Ct.enter func156 rfl ntmps156 zW (fun R=>?_)
    repeat' (first|refine yAs ?_;refine yAq rfl (fun g=>?_)|(refine yAb ?_;first|refine xca cv fun a3=>?_|refine xca ck fun _=>?_)|refine yOV ?_;refine yAa (yAk rfl rfl zO hb2) ?_|refine yAB ?_;refine yAa (yAC xV xW) ?_|refine yWf ?_;refine yAa (yAd (r:=((a+1:Nat):Int)) rfl rfl zO zO) ?_|(refine yDe ?_;first|refine yAa (yAf rfl rfl qz) ?_|refine yAa (yAf rfl rfl hd) ?_)|refine yF5 ?_;refine yAa (yAe rfl rfl qb) ?_|refine yIR ?_;refine yAa (yAm rfl rfl ql) ?_|refine xst ?_|refine xsa ?_;intro _|refine xsb ?_ ?_<;>intro _<;>try omega|refine xsc ?_|refine xdr 2 yB0 ?_|refine xdr 5 yB0 ?_|refine xsd ?_ ?_|exact Rech.nil|fail)
    all_goals (refine yCy ?_;exact yAR (by first|exact Or.inl rfl|exact Or.inr rfl) rfl (Rvs.agg (T:=60) rfl inferInstance inferInstance xS xC Rvs.nil) (⟨false,k,[]⟩,a3) (by rfl) (xN))
   ·rw [hlt2,Bool.not_true] at hle
    cases first
    ·
     refine Ct.enter func156 rfl ntmps156 zW (fun R=>?_)
     repeat' (first|refine yAs ?_;refine yAq rfl (fun g=>?_)|(refine yAb ?_;first|refine xca cv fun a3=>?_|refine xca ck fun _=>?_)|refine yOV ?_;refine yAa (yAk rfl rfl zO hb2) ?_|refine yAB ?_;refine yAa (yAC xV xW) ?_|refine yWf ?_;refine yAa (yAd (r:=((a+1:Nat):Int)) rfl rfl zO zO) ?_|(refine yDe ?_;first|refine yAa (yAf rfl rfl qz) ?_|refine yAa (yAf rfl rfl hd) ?_)|refine yMe ?_;refine yAa (yBb rfl rfl hle) ?_|refine yF5 ?_;refine yAa (yAe rfl rfl qb) ?_|refine yIR ?_;refine yAa (yAm rfl rfl ql) ?_|refine xst ?_|refine xsa ?_;intro _|refine xsb ?_ ?_<;>intro _<;>try omega|refine xsc ?_|refine xdr 2 yB0 ?_|refine xdr 5 yB0 ?_|refine xsd ?_ ?_|exact Rech.nil|fail)
     all_goals (refine yCy ?_;exact yAR (by first|exact Or.inl rfl|exact Or.inr rfl) rfl (Rvs.agg (T:=60) rfl inferInstance inferInstance xS xC Rvs.nil) (⟨false,k,[]⟩,a3) (by rfl) (xN))
    ·
     refine Ct.enter func156 rfl ntmps156 zW (fun R=>?_)
     repeat' (first|refine yAs ?_;refine yAq rfl (fun g=>?_)|(refine yAb ?_;first|refine xca cv fun a3=>?_|refine xca ck fun _=>?_)|refine yOV ?_;refine yAa (yAk rfl rfl zO hb2) ?_|refine yAB ?_;refine yAa (yAC xV xW) ?_|refine yWf ?_;refine yAa (yAd (r:=((a+1:Nat):Int)) rfl rfl zO zO) ?_|(refine yDe ?_;first|refine yAa (yAf rfl rfl qz) ?_|refine yAa (yAf rfl rfl hd) ?_)|refine yMe ?_;refine yAa (yBb rfl rfl hle) ?_|refine yF5 ?_;refine yAa (yAe rfl rfl qb) ?_|refine yIR ?_;refine yAa (yAm rfl rfl ql) ?_|refine xst ?_|refine xsa ?_;intro _|refine xsb ?_ ?_<;>intro _<;>try omega|refine xsc ?_|refine xdr 2 yB0 ?_|refine xdr 5 yB0 ?_|refine xsd ?_ ?_|exact Rech.nil|fail)
     all_goals (refine yCy ?_;exact yAR (by first|exact Or.inl rfl|exact Or.inr rfl) rfl (Rvs.agg (T:=60) rfl inferInstance inferInstance xS xC Rvs.nil) (⟨false,k,[]⟩,a3) (by rfl) (xN))
  ·rw [hq] at h1;cases h1
theorem yYw (_ha:a≤s.length) (hs:s.length≤9223372036854775800) (first:Bool) (last:List UInt8) (op:BOp) (t':List UInt8) (hq:yHs first last (s.drop a)=.ok op t') :
 CtU prog W 156 [zPp p,.bool first,strV last] [drP p s a 0] (.agg (opC op).toArray) [drP p s (a+(yDw op).length) 0]:=by
 have qz:decide ((0:Int)=0)=true:=rfl
 rcases yFT first last (s.drop a) with ⟨hl,h1⟩|⟨b,t,hl,hb,h1⟩|⟨b,t,hl,hb,hk⟩
 ·rw [hq] at h1;cases h1
 ·rw [hq] at h1;cases h1
 ·
  have hb0:s[a]? = some b:=by have:=congrArg (fun l=>l[0]?) hl;simpa [zLC] using this
  have hlt:=(zLc.1 hb0).1
  have ht:t=s.drop (a+1):=by rw [← List.drop_drop,hl];rfl
  have hb2:s[Int.toNat ((a:Nat):Int)]? = some b:=by rw [zLe];exact hb0
  have ql:decide (((s.length:Nat):Int)≤((a:Nat):Int))=false:=zZ zO
  have qb:decide ((1:Int)<(b.toNat:Int))=false:=zZ zO
  rw [ht] at hk
  rcases hk with ⟨e',hk,h1⟩|⟨k,u,hk,hk2⟩
  ·rw [hq] at h1;cases h1
  have ck:=yJO (W:=W) (p:=p) (s:=s) (a:=a+1) zO hs k u hk
  have hkf:=yES hk
  have hu:=yDy hk
  have hle:=yHL k last
  rcases hk2 with ⟨rfl,hle2,h1⟩|⟨hor,hk2⟩
  ·rw [hq] at h1;cases h1
  rcases hk2 with ⟨hb1,h1⟩|⟨hb1,e',hv,h1⟩|⟨hb1,v,w,hv,h1⟩
  ·rw [hq] at h1
   cases h1
   have hd:decide ((b.toNat:Int)=1)=true:=zY zO
   have hA:a+(yDw ⟨true,k,[]⟩).length=a+1+(tx k).length:=by rw [yJf,zLj];omega
   rw [hA]
   obtain ⟨a2,ha2⟩:∃ a2,a2=a+1+(tx k).length:=⟨_,rfl⟩
   rw [← ha2] at ck hkf hu ⊢
   rcases hor with rfl|hlt2
   ·
    refine Ct.enter func156 rfl ntmps156 zW (fun R=>?_)
    repeat' (first|refine yAs ?_;refine yAq rfl (fun g=>?_)|refine yAb ?_;refine xca ck fun _=>?_|refine yOV ?_;refine yAa (yAk rfl rfl zO hb2) ?_|refine yAB ?_;refine yAa (yAC xV xW) ?_|refine yWf ?_;refine yAa (yAd (r:=((a+1:Nat):Int)) rfl rfl zO zO) ?_|(refine yDe ?_;first|refine yAa (yAf rfl rfl qz) ?_|refine yAa (yAf rfl rfl hd) ?_)|refine yF5 ?_;refine yAa (yAe rfl rfl qb) ?_|refine yIR ?_;refine yAa (yAm rfl rfl ql) ?_|refine xst ?_|refine xsa ?_;intro _|refine xsb ?_ ?_<;>intro _<;>try omega|refine xsc ?_|refine xdr 2 yB0 ?_|refine xdr 5 yB0 ?_|refine xsd ?_ ?_|exact Rech.nil|fail)
    all_goals (refine yCy ?_;exact yAR (by first|exact Or.inl rfl|exact Or.inr rfl) rfl (Rvs.agg (T:=60) rfl inferInstance inferInstance xS xC Rvs.nil) () (by rfl) (xN))
   ·rw [hlt2,Bool.not_true] at hle
    cases first
    ·
     refine Ct.enter func156 rfl ntmps156 zW (fun R=>?_)
     repeat' (first|refine yAs ?_;refine yAq rfl (fun g=>?_)|refine yAb ?_;refine xca ck fun _=>?_|refine yOV ?_;refine yAa (yAk rfl rfl zO hb2) ?_|refine yAB ?_;refine yAa (yAC xV xW) ?_|refine yWf ?_;refine yAa (yAd (r:=((a+1:Nat):Int)) rfl rfl zO zO) ?_|(refine yDe ?_;first|refine yAa (yAf rfl rfl qz) ?_|refine yAa (yAf rfl rfl hd) ?_)|refine yMe ?_;refine yAa (yBb rfl rfl hle) ?_|refine yF5 ?_;refine yAa (yAe rfl rfl qb) ?_|refine yIR ?_;refine yAa (yAm rfl rfl ql) ?_|refine xst ?_|refine xsa ?_;intro _|refine xsb ?_ ?_<;>intro _<;>try omega|refine xsc ?_|refine xdr 2 yB0 ?_|refine xdr 5 yB0 ?_|refine xsd ?_ ?_|exact Rech.nil|fail)
     all_goals (refine yCy ?_;exact yAR (by first|exact Or.inl rfl|exact Or.inr rfl) rfl (Rvs.agg (T:=60) rfl inferInstance inferInstance xS xC Rvs.nil) () (by rfl) (xN))
    ·
     refine Ct.enter func156 rfl ntmps156 zW (fun R=>?_)
     repeat' (first|refine yAs ?_;refine yAq rfl (fun g=>?_)|refine yAb ?_;refine xca ck fun _=>?_|refine yOV ?_;refine yAa (yAk rfl rfl zO hb2) ?_|refine yAB ?_;refine yAa (yAC xV xW) ?_|refine yWf ?_;refine yAa (yAd (r:=((a+1:Nat):Int)) rfl rfl zO zO) ?_|(refine yDe ?_;first|refine yAa (yAf rfl rfl qz) ?_|refine yAa (yAf rfl rfl hd) ?_)|refine yMe ?_;refine yAa (yBb rfl rfl hle) ?_|refine yF5 ?_;refine yAa (yAe rfl rfl qb) ?_|refine yIR ?_;refine yAa (yAm rfl rfl ql) ?_|refine xst ?_|refine xsa ?_;intro _|refine xsb ?_ ?_<;>intro _<;>try omega|refine xsc ?_|refine xdr 2 yB0 ?_|refine xdr 5 yB0 ?_|refine xsd ?_ ?_|exact Rech.nil|fail)
     all_goals (refine yCy ?_;exact yAR (by first|exact Or.inl rfl|exact Or.inr rfl) rfl (Rvs.agg (T:=60) rfl inferInstance inferInstance xS xC Rvs.nil) () (by rfl) (xN))
  ·rw [hq] at h1;cases h1
  ·rw [hq] at h1
   cases h1
   rw [hu] at hv
   have hd:decide ((b.toNat:Int)=1)=false:=zZ zO
   have cv:=yJO (W:=W) (p:=p) (s:=s) (a:=a+1+(tx k).length) hkf hs v t' hv
   have hA:a+(yDw ⟨false,k,v⟩).length=a+1+(tx k).length+(tx v).length:=by rw [yJg,zLj,zLa];omega
   rw [hA]
   obtain ⟨a2,ha2⟩:∃ a2,a2=a+1+(tx k).length:=⟨_,rfl⟩
   rw [← ha2] at ck hkf hu cv ⊢
   rcases hor with rfl|hlt2
   ·
    refine Ct.enter func156 rfl ntmps156 zW (fun R=>?_)
    repeat' (first|refine yAs ?_;refine yAq rfl (fun g=>?_)|(refine yAb ?_;first|refine xca cv fun _=>?_|refine xca ck fun _=>?_)|refine yOV ?_;refine yAa (yAk rfl rfl zO hb2) ?_|refine yAB ?_;refine yAa (yAC xV xW) ?_|refine yWf ?_;refine yAa (yAd (r:=((a+1:Nat):Int)) rfl rfl zO zO) ?_|(refine yDe ?_;first|refine yAa (yAf rfl rfl qz) ?_|refine yAa (yAf rfl rfl hd) ?_)|refine yF5 ?_;refine yAa (yAe rfl rfl qb) ?_|refine yIR ?_;refine yAa (yAm rfl rfl ql) ?_|refine xst ?_|refine xsa ?_;intro _|refine xsb ?_ ?_<;>intro _<;>try omega|refine xsc ?_|refine xdr 2 yB0 ?_|refine xdr 5 yB0 ?_|refine xsd ?_ ?_|exact Rech.nil|fail)
    all_goals (refine yCy ?_;exact yAR (by first|exact Or.inl rfl|exact Or.inr rfl) rfl (Rvs.agg (T:=60) rfl inferInstance inferInstance xS xC Rvs.nil) () (by rfl) (xN))
   ·rw [hlt2,Bool.not_true] at hle
    cases first
    ·
     refine Ct.enter func156 rfl ntmps156 zW (fun R=>?_)
     repeat' (first|refine yAs ?_;refine yAq rfl (fun g=>?_)|(refine yAb ?_;first|refine xca cv fun _=>?_|refine xca ck fun _=>?_)|refine yOV ?_;refine yAa (yAk rfl rfl zO hb2) ?_|refine yAB ?_;refine yAa (yAC xV xW) ?_|refine yWf ?_;refine yAa (yAd (r:=((a+1:Nat):Int)) rfl rfl zO zO) ?_|(refine yDe ?_;first|refine yAa (yAf rfl rfl qz) ?_|refine yAa (yAf rfl rfl hd) ?_)|refine yMe ?_;refine yAa (yBb rfl rfl hle) ?_|refine yF5 ?_;refine yAa (yAe rfl rfl qb) ?_|refine yIR ?_;refine yAa (yAm rfl rfl ql) ?_|refine xst ?_|refine xsa ?_;intro _|refine xsb ?_ ?_<;>intro _<;>try omega|refine xsc ?_|refine xdr 2 yB0 ?_|refine xdr 5 yB0 ?_|refine xsd ?_ ?_|exact Rech.nil|fail)
     all_goals (refine yCy ?_;exact yAR (by first|exact Or.inl rfl|exact Or.inr rfl) rfl (Rvs.agg (T:=60) rfl inferInstance inferInstance xS xC Rvs.nil) () (by rfl) (xN))
    ·
     refine Ct.enter func156 rfl ntmps156 zW (fun R=>?_)
     repeat' (first|refine yAs ?_;refine yAq rfl (fun g=>?_)|(refine yAb ?_;first|refine xca cv fun _=>?_|refine xca ck fun _=>?_)|refine yOV ?_;refine yAa (yAk rfl rfl zO hb2) ?_|refine yAB ?_;refine yAa (yAC xV xW) ?_|refine yWf ?_;refine yAa (yAd (r:=((a+1:Nat):Int)) rfl rfl zO zO) ?_|(refine yDe ?_;first|refine yAa (yAf rfl rfl qz) ?_|refine yAa (yAf rfl rfl hd) ?_)|refine yMe ?_;refine yAa (yBb rfl rfl hle) ?_|refine yF5 ?_;refine yAa (yAe rfl rfl qb) ?_|refine yIR ?_;refine yAa (yAm rfl rfl ql) ?_|refine xst ?_|refine xsa ?_;intro _|refine xsb ?_ ?_<;>intro _<;>try omega|refine xsc ?_|refine xdr 2 yB0 ?_|refine xdr 5 yB0 ?_|refine xsd ?_ ?_|exact Rech.nil|fail)
     all_goals (refine yCy ?_;exact yAR (by first|exact Or.inl rfl|exact Or.inr rfl) rfl (Rvs.agg (T:=60) rfl inferInstance inferInstance xS xC Rvs.nil) () (by rfl) (xN))
end
structure RefI (s:List UInt8) (n:Nat) (R:Rd (List BOp)) (i:Nat) (acc:List BOp) (last:List UInt8) (a e:Nat):Prop where
 good:e=0→RopI s n R i acc last a
 bad:e≠0→R=.bad e
 small:acc.length≤s.length+1
section
variable {W:World}
theorem yFX (s:List UInt8) (hs:s.length≤4398046511104) :
 Ct prog W 112 [strV s] [] (fun x:Option Addr × Nat=>.tuple #[.slice x.1 (yAE s).1.length x.2,.int .i64 ((yAE s).2:Nat)]) (fun x=>[lsP opC 60 3 (.slice x.1 (yAE s).1.length x.2) (yAE s).1]):=by
 have cu0:=fun p q hq=>yLV (W:=W) (p:=p) (s:=s) (a:=0) zO zO q hq
 rw [zLo] at cu0
 refine Ct.enter func112 rfl ntmps112 zW (fun R=>?_)
 cases hn:ru s with
 |bad e=>
  have cu:=fun p=>cu0 p _ hn
  rw [show rdL (.bad e)=0 from rfl,show rdN (.bad e)=0 from rfl,show rdE (α:=Nat) (.bad e)=e from rfl] at cu
  have hne:e≠0:=by rcases yC2 hn with h|h <;> omega
  have hd:=yKw hn
  have qe:decide (((e:Nat):Int)=0)=false:=zZ zO
  have qn:decide (((e:Nat):Int)≠0)=true:=zY zO
  have ql:decide (((0:Nat):Int)<((0:Nat):Int))=false:=rfl
  repeat' (first|refine yA4 ?_;refine yA3 rfl xF rfl (fun p=>?_)|refine yAb ?_;refine xca (cu _) fun _=>?_|refine yAF ?_;refine yDB rfl (fun g0=>?_)|refine yAB ?_;refine yAa (yAC xV xW) ?_|refine xst ?_|refine xsa ?_;intro _|refine xsb ?_ ?_<;>intro _<;>try omega|refine xsc ?_|refine xdr 14 yHq ?_|refine xsd ?_ ?_|exact Rech.nil|fail)
  refine yAz (fun x:Unit=>[(4,zPp p),(5,.int .u64 ((0:Nat):Int)),(8,.int .u64 ((0:Nat):Int))])
   (fun x=>[drP p s 0 e]++R) (fun x=>0) () xB (xN) (fun _=>?_)
  repeat' (first|refine yDe ?_;refine yAa (yAf rfl rfl qe) ?_|refine yD3 ?_;refine yAa (yAl rfl rfl qn) ?_|refine yFg ?_;refine yAa (yAc rfl rfl ql) ?_|refine xst ?_|refine xsa ?_;intro _|refine xsb ?_ ?_<;>intro _<;>try omega|refine xsc ?_|refine xdr 14 yHq ?_|refine xsd ?_ ?_|exact Rech.nil|fail)
  all_goals rw [hd]
  all_goals refine KJ.nilrow 60 3 ?_
  all_goals (exact xdn (none,0))
 |ok n t=>
  have cu:=fun p=>cu0 p _ hn
  have hf:=yEc (a:=0) (s:=s) (by rw [zLo];exact hn)
  have htd:=yCX (a:=0) (s:=s) (by rw [zLo];exact hn)
  have hno:n<18446744073709551616:=(yGO hn).2
  rw [show rdL (.ok n t)=(vu n).length from rfl,show rdN (.ok n t)=n from rfl,show rdE (.ok n t)=0 from rfl] at cu
  obtain ⟨a0,ha0⟩:∃ a0,a0=0+(vu n).length:=⟨_,rfl⟩
  rw [← ha0] at hf htd cu
  repeat' (first|refine yA4 ?_;refine yA3 rfl xF rfl (fun p=>?_)|refine yAb ?_;refine xca (cu _) fun _=>?_|refine yAF ?_;refine yDB rfl (fun g0=>?_)|refine yAB ?_;refine yAa (yAC xV xW) ?_|refine xst ?_|refine xsa ?_;intro _|refine xsb ?_ ?_<;>intro _<;>try omega|refine xsc ?_|refine xdr 14 yHq ?_|refine xsd ?_ ?_|exact Rech.nil|fail)
  refine yAz (fun x:{x:Nat × List BOp × List UInt8 × Nat × Nat × Option Addr × Nat//RefI s n (yDj n true [] t) x.1 x.2.1 x.2.2.1 x.2.2.2.1 x.2.2.2.2.1}=>[(0,strV s),(4,zPp p),(5,.int .u64 (n:Nat)),(6,.slice x.1.2.2.2.2.2.1 x.1.2.1.length x.1.2.2.2.2.2.2),(7,strV x.1.2.2.1),(8,.int .u64 (x.1.1:Nat))])
   (fun x=>[drP p s x.1.2.2.2.1 (x.1.2.2.2.2.1:Nat),lsP opC 60 3 (.slice x.1.2.2.2.2.2.1 x.1.2.1.length x.1.2.2.2.2.2.2) x.1.2.1]++R) (fun x=>if x.1.2.2.2.2.1=0 then n-x.1.1+1 else 0) ⟨(0,[],[],a0,0,some ⟨g0,0,none⟩,0),⟨fun _=>RopI.start hf htd,fun h=>absurd rfl h,zLA _⟩⟩ xB (xN) (fun ⟨(i,acc,last,a,e,sa,sc),hi⟩=>?_)
  dsimp only at hi ⊢
  by_cases he:e=0
  ·subst he
   have hg:=hi.good rfl
   have hlen:=hg.len
   have htwo:=hg.two
   have hfit:=hg.fit
   have qz:decide (((0:Nat):Int)=0)=true:=rfl
   by_cases hlt:i<n
   ·have ql:decide (((i:Nat):Int)<((n:Nat):Int))=true:=zY zO
    have qf:decide (((i:Nat):Int)=0)=decide (i=0):=by by_cases h:i=0 <;> simp [h]
    have b1:(acc.length+1)*40≤140737488355328:=zO
    have b2:acc.length+1≤9223372036854775807:=zO
    have ha:IntKind.u64.wrap ((i:Int)+1)=((i+1:Nat):Int):=by
     rw [show (i:Int)+1=((i+1:Nat):Int) by omega];exact yAo _ zO
    cases hq:yHs (decide (i=0)) last (s.drop a) with
    |bad e=>
     have hb:=hg.bad hlt hq
     have hne:e≠0:=by have:=yLz hq;omega
     have co:=yV5 (W:=W) (p:=p) (s:=s) (a:=a) hfit zO (decide (i=0)) last e hq
     repeat' (first|refine yAs ?_;refine yAq rfl (fun g=>?_)|refine yAb ?_;refine xca co fun x=>?_;obtain ⟨o',a'⟩:=x|refine yAH ?_;refine yBV (a:=o') yBy rfl rfl rfl xS xS b1 b2 rfl (fun g1 c1=>?_)|refine yAF ?_;refine yAI rfl xF (by rfl) zO rfl (fun gb=>?_)|refine yWf ?_;refine yAa (yB8 rfl rfl ha) ?_|(refine yDe ?_;first|refine yAa (yAf rfl rfl qf) ?_|refine yAa (yAf rfl rfl qz) ?_)|refine yFg ?_;refine yAa (yAc rfl rfl ql) ?_|refine xst ?_|refine xsa ?_;intro _|refine xsb ?_ ?_<;>intro _<;>try omega|refine xsc ?_|refine xdr 14 yHq ?_|refine xsd ?_ ?_|exact Rech.nil|fail)
     all_goals refine yAp ⟨(i+1,acc++[o'],o'.key,a',e,some ⟨g1,0,none⟩,c1),⟨fun h=>absurd h hne,fun _=>hb,by dsimp only;rw [zLa];show acc.length+1≤_;omega⟩⟩ (by dsimp only;rw [if_neg hne,if_pos rfl];omega) xB (xN)
    |ok o u=>
     have hnx:=hg.next hlt hq
     have co:=yYw (W:=W) (p:=p) (s:=s) (a:=a) hfit zO (decide (i=0)) last o u hq
     repeat' (first|refine yAs ?_;refine yAq rfl (fun g=>?_)|refine yAb ?_;refine xca co fun _=>?_|refine yAH ?_;refine yBV (a:=o) yBy rfl rfl rfl xS xS b1 b2 rfl (fun g1 c1=>?_)|refine yAF ?_;refine yAI rfl xF (by rfl) zO rfl (fun gb=>?_)|refine yWf ?_;refine yAa (yB8 rfl rfl ha) ?_|(refine yDe ?_;first|refine yAa (yAf rfl rfl qf) ?_|refine yAa (yAf rfl rfl qz) ?_)|refine yFg ?_;refine yAa (yAc rfl rfl ql) ?_|refine xst ?_|refine xsa ?_;intro _|refine xsb ?_ ?_<;>intro _<;>try omega|refine xsc ?_|refine xdr 14 yHq ?_|refine xsd ?_ ?_|exact Rech.nil|fail)
     all_goals refine yAp ⟨(i+1,acc++[o],o.key,a+(yDw o).length,0,some ⟨g1,0,none⟩,c1),⟨fun _=>hnx,fun h=>absurd rfl h,by dsimp only;rw [zLa];show acc.length+1≤_;omega⟩⟩ (by dsimp only;rw [if_pos rfl,if_pos rfl];omega) xB (xN)
   ·have ql:decide (((i:Nat):Int)<((n:Nat):Int))=false:=zZ zO
    have hst:=hg.stop hlt
    by_cases hend:a<s.length
    ·have hd:=yJy hn hst (by intro h;have:=congrArg List.length h;rw [zLf,List.length_nil] at this;omega)
     have qa:decide (((a:Nat):Int)<((s.length:Nat):Int))=true:=zY zO
     have q5:decide ((5:Int)≠0)=true:=rfl
     repeat' (first|refine yDe ?_;refine yAa (yAf rfl rfl qz) ?_|refine yD3 ?_;refine yAa (yAl rfl rfl q5) ?_|(refine yFg ?_;first|refine yAa (yAc rfl rfl qa) ?_|refine yAa (yAc rfl rfl ql) ?_)|refine xst ?_|refine xsa ?_;intro _|refine xsb ?_ ?_<;>intro _<;>try omega|refine xsc ?_|refine xdr 14 yHq ?_|refine xsd ?_ ?_|exact Rech.nil|fail)
     all_goals rw [hd]
     all_goals refine KJ.nilrow 60 3 ?_
     all_goals (exact xdn (none,0))
    ·have hd:=yMW hn hst (zLl zO)
     have qa:decide (((a:Nat):Int)<((s.length:Nat):Int))=false:=zZ zO
     have q5:decide (((0:Nat):Int)≠0)=false:=rfl
     repeat' (first|refine yDe ?_;refine yAa (yAf rfl rfl qz) ?_|refine yD3 ?_;refine yAa (yAl rfl rfl q5) ?_|(refine yFg ?_;first|refine yAa (yAc rfl rfl qa) ?_|refine yAa (yAc rfl rfl ql) ?_)|refine xst ?_|refine xsa ?_;intro _|refine xsb ?_ ?_<;>intro _<;>try omega|refine xsc ?_|refine xdr 14 yHq ?_|refine xsd ?_ ?_|exact Rech.nil|fail)
     all_goals rw [hd]
     all_goals (exact xdn (sa,sc))
  ·have hb:=hi.bad he
   have hd:=yJx hn hb
   have qe:decide (((e:Nat):Int)=0)=false:=zZ zO
   have qn:decide (((e:Nat):Int)≠0)=true:=zY zO
   by_cases hlt:i<n
   ·have ql:decide (((i:Nat):Int)<((n:Nat):Int))=true:=zY zO
    repeat' (first|refine yDe ?_;refine yAa (yAf rfl rfl qe) ?_|refine yD3 ?_;refine yAa (yAl rfl rfl qn) ?_|refine yFg ?_;refine yAa (yAc rfl rfl ql) ?_|refine xst ?_|refine xsa ?_;intro _|refine xsb ?_ ?_<;>intro _<;>try omega|refine xsc ?_|refine xdr 14 yHq ?_|refine xsd ?_ ?_|exact Rech.nil|fail)
    all_goals rw [hd]
    all_goals refine KJ.nilrow 60 3 ?_
    all_goals (exact xdn (none,0))
   ·have ql:decide (((i:Nat):Int)<((n:Nat):Int))=false:=zZ zO
    repeat' (first|refine yDe ?_;refine yAa (yAf rfl rfl qe) ?_|refine yD3 ?_;refine yAa (yAl rfl rfl qn) ?_|refine yFg ?_;refine yAa (yAc rfl rfl ql) ?_|refine xst ?_|refine xsa ?_;intro _|refine xsb ?_ ?_<;>intro _<;>try omega|refine xsc ?_|refine xdr 14 yHq ?_|refine xsd ?_ ?_|exact Rech.nil|fail)
    all_goals rw [hd]
    all_goals refine KJ.nilrow 60 3 ?_
    all_goals (exact xdn (none,0))
end
end Go.Proofs.YtlnbkbfblhofbaaGreatDoor
