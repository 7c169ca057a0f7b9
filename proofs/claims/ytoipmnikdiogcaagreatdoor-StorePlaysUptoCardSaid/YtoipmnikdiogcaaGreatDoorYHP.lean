/-
  StD5, RrR1, RrR2, RrR3.
-/
import Derived.Test.YtoipmnikdiogcaaGreatDoorYHL
set_option maxHeartbeats 64000000
namespace Go.Proofs.YtoipmnikdiogcaaGreatDoor
open Go Go.RowKit
open Go.Proofs.Tryz
abbrev yZb:Pl:=(po [0,1,2,3,4,5,6,7,8] (.ef 9 [] (.op 10 .nil)))
abbrev yV5:Pl:=(po [0,1,2,4,5,6,7,8] (.ef 3 [8,7,6,5,4,0] (.ef 9 [] (.op 10 .nil))))
abbrev yC2:Pl:=(po [0,1,2,3,4,5,6,7,8,9,10,11] .nil)
abbrev zTHP0:List (Nat×Pl):=[(5,yC2),(8,yC2)]
abbrev yRv:Pl:=(po [0,1,2,3,4,5,6,7,8,9,10,11,12,13,14,15,16,17,18,19] .nil)
abbrev yRw:Pl:=(po [0,1,2,3,4,5,6,7,8,9,10,11,12,13,14,15,16] .nil)
abbrev zTHP1:List (Nat×Pl):=[(4,yRv),(9,yRw)]
abbrev yCt:Pl:=(po [0,1,2,3,4,5,6,7,8,9] .nil)
abbrev zTHP2:List (Nat×Pl):=[(2,yCt),(5,yCt)]
abbrev yIr:Pl:=(po [0,1,2,3,4,5] .nil)
section
variable {W:World} {p n:Nat} {D:Dsk} {r:Rows}
instance xCe:FnIs prog 68:=⟨zK⟩
theorem yL5 (A:SP) (a:Option Addr) (c:Nat) (hA:Lv W rC 2 A a r) (h1:64≤n) (h2:n≤65536) (aj:Still D) (hn:D.n=n) (v w:Nat) (hw:w=v+1) (hv:w≤1099511627776) (ah:(yAk r).length≤234*yAA n) (cM:(yAk r).length≤1000000) :CtU prog W 68 [zPp p,.agg (yOj n).toArray,.slice a r.length c,zi (w:Nat)] [A,yA1 p D] (zi (yDW D n v r:Nat)) [A,yA1 p (yCk D n v r)]:=by
 subst hw;obtain ⟨w,hw⟩:∃ w,w=v+1:=⟨_,rfl⟩;have fB:yAA n≤65536:=by unfold yAA;omega
 obtain ⟨f1,f2,f3,f4⟩:=yBf h1 (v+1);obtain ⟨a1,a2,a3,a4,a5⟩:=yIf aj (yAG n (v+1)) (yAA n) (v+1) (yAk r) zO zO ah fB;have iC:(yBJ n (yAk r).length).length≤234:=Nat.le_trans (yDc _ _) zO;have hA2:(yBF D (yAG n (v+1)) (yAA n) ((v+1:Nat):Int) (yAk r)).2=yDt D n (v+1) r:=rfl;have cs:=yS2 (W:=W) A a c r hA cM;have dX:=yEd (W:=W) (n:=n) (v+1);have kL:=ySU (W:=W) (p:=p) (D:=D) aj.ok (by rw [aj.und];simp) (yAG n (v+1):Nat) (yAA n:Nat) (v+1) zO (yAk r);have wv:IntKind.u64.wrap ((v+1:Nat):Int)=((v+1:Nat):Int):=yAx _ zO;rw [hA2] at a2 a3 a5 kL;rcases a1 with ⟨e0,s0,-,-⟩|⟨e0,o1,-⟩;rotate_left
 ·have eE:yDW D n v r=12:=by unfold yDW;rw [if_pos (by rw [e0];simp),e0]
  have eW:yCk D n v r=yDt D n (v+1) r:=by unfold yCk;rw [if_pos (by rw [e0];simp)]
  rw [eE,eW];rw [e0] at kL;obtain ⟨S,hS⟩:∃ S,S=yAk r:=⟨_,rfl⟩;obtain ⟨D1,aL⟩:∃ D1,D1=yDt D n (v+1) r:=⟨_,rfl⟩;rw [← hS] at cs kL;rw [← aL] at kL ⊢;clear hS aL eE eW;refine zE func68 ntmps68 fun R=>?_;repeat' (first|refine zbx fun g5=>?_|refine yAo ?_;refine yAa (yAn (q:=true) rfl rfl rfl) ?_|refine yBS ?_;(refine yBn (X:=Unit) xE dX xP rfl ?_)|refine xqa ?_|refine xsf ?_ ?_|refine xdr 2 yZb ?_|exact xdn ()|apply zN|intro _)
 have eE:yDW D n v r=yB1 (yDt D n (v+1) r) 0 ((v+1:Nat):Int) (yBJ n (yAk r).length):=by unfold yDW;rw [if_neg (by rw [e0];simp)]
 have eW:yCk D n v r=yFG D n (v+1) r:=by unfold yCk;rw [if_neg (by rw [e0];simp)]
 have hD:yBB (yDt D n (v+1) r) ((0:Nat):Int) ((v+1:Nat):Int) (yBJ n (yAk r).length)=yFG D n (v+1) r:=rfl;rw [hA2] at s0;rw [e0] at kL;obtain ⟨D1,aL⟩:∃ D1,D1=yDt D n (v+1) r:=⟨_,rfl⟩;rw [← aL] at kL s0 a2 a3 a5 eE hD;clear aL;obtain ⟨m,hm⟩:∃ m:Nat,((v+1:Nat):Int) % 2=(m:Nat):=⟨(v+1) % 2,zO⟩;have gQ:D1.roomB ((0:Nat):Int)=true:=by unfold Dsk.roomB;exact zY zO
 have fj:yCQ D1 ((0:Nat):Int) ((v+1:Nat):Int)=true:=by unfold yCQ;rw [gQ,zY (show (1:Int)≤((v+1:Nat):Int) by omega),zY (show ((v+1:Nat):Int)≤1099511627776 by omega)];rfl
 have hi:(((0:Nat):Int)+((v+1:Nat):Int) % 2)=(m:Nat):=zO;obtain ⟨hd,aM⟩:∃ hd,hd=yBJ n (yAk r).length:=⟨_,rfl⟩;rw [← aM] at eE hD iC;obtain ⟨raw,aV⟩:∃ raw,raw=yAF ((v+1:Nat):Int) hd:=⟨_,rfl⟩;have eS:yB1 D1 ((0:Nat):Int) ((v+1:Nat):Int) hd=if D1.writeE (m:Nat) raw≠0 then D1.writeE (m:Nat) raw else (D1.writeD (m:Nat) raw).flushE:=by unfold yB1 yDq;rw [if_neg (by rw [fj];simp),if_neg zO,hi,← aV]
 have eT:yBB D1 ((0:Nat):Int) ((v+1:Nat):Int) hd=if D1.writeE (m:Nat) raw≠0 then D1.writeD (m:Nat) raw else (D1.writeD (m:Nat) raw).flushD:=by unfold yBB yDq;rw [if_neg (by rw [fj];simp),if_neg zO,hi,← aV]
 have eE:yDW D n v r=if D1.writeE (m:Nat) raw≠0 then D1.writeE (m:Nat) raw else (D1.writeD (m:Nat) raw).flushE:=by rw [← eS];exact eE
 rw [eE,eW,← hD,eT];clear eE eW hD eS eT;have cT:=yJI (W:=W) (v+1) zO zO hd iC;rw [← aV] at cT;have cu1:=yFK (W:=W) n zO;have kF:=yFK (W:=W) (yAk r).length zO;have w1:IntKind.u64.wrap ((n:Nat):Int)=((n:Nat):Int):=yAx _ zO;have w2:IntKind.u64.wrap (((yAk r).length:Nat):Int)=(((yAk r).length:Nat):Int):=yAx _ zO;have hhd2:vu n++vu (yAk r).length=hd:=by rw [aM];rfl
 have bl:(vu n).length+(vu (yAk r).length).length≤9223372036854775807:=by have:=yCe n;have:=yCe (yAk r).length;omega
 have hund1:D1.und.length<1073741824:=by rw [s0.und];simp
 have cw:=yK6 (W:=W) (p:=p) (D:=D1) s0.ok (m:Nat) raw hund1;have ic:=Dsk.writeD_ok s0.ok (m:Nat) raw;have hund2:(D1.writeD (m:Nat) raw).und.length<1073741824:=by have:=yDE D1 (m:Nat) raw;rw [s0.und] at this;simp at this;omega
 have cfl:=yK8 (W:=W) (p:=p) (D:=D1.writeD (m:Nat) raw) ic hund2;obtain ⟨D2,aF⟩:∃ D2,D2=D1.writeD (m:Nat) raw:=⟨_,rfl⟩;obtain ⟨we,hwe⟩:∃ we,we=D1.writeE (m:Nat) raw:=⟨_,rfl⟩;rw [← aF,← hwe];rw [← aF,← hwe] at cw;rw [← aF] at cfl;obtain ⟨D3,d9⟩:∃ D3,D3=D2.flushD:=⟨_,rfl⟩;obtain ⟨fe,kG⟩:∃ fe,fe=D2.flushE:=⟨_,rfl⟩;rw [← d9,← kG];rw [← d9,← kG] at cfl;have cN:D1.n=n:=by rw [a2,hn]
 have hD1off:=s0.on;have bl2:(yAk r).length≤1000000:=cM;obtain ⟨S,hS⟩:∃ S,S=yAk r:=⟨_,rfl⟩;rw [← hS] at cs kL kF w2 hhd2 bl;clear hS aF hwe d9 kG aM aV fj gQ hi aj a3 a5 f1 f2 f3 f4 a4;refine zE func68 ntmps68 fun R=>?_;repeat' (first|refine yAE (id:=5) ?_;refine yDw ?_|refine zbx fun g5=>?_|refine znf ?_|refine yBS ?_;(refine yBn (X:=Unit) xE dX xP rfl ?_)|refine xqa ?_|refine xsf ?_ ?_|refine xdr 2 yZb ?_|apply zN|intro _)
 refine Hold.mk ?_;refine KJ.unpack_at (F:=yCE p D1) xS (fun x=>?_);obtain ⟨sv,wv2⟩:=x;rw [yAZ,cN];refine KJ.row_slice xS (fun sa sc e=>?_);subst e;repeat' (first|refine yAE (id:=8) ?_;refine yDw ?_|refine yAr ?_;refine yAa ((hhd2 ▸ yFk (a:=vu n) (b:=vu S.length) rfl rfl bl)) ?_|refine znf ?_|refine xqa ?_|refine xsf ?_ ?_|refine xdr 2 yV5 ?_|apply zN|intro _)
 refine Hold.mk ?_;refine KJ.pack (tag:=21) (key:=p) (F:=yCE p D1) (.slice sa n sc,wv2) (by rw [yAZ,cN];exact xP) ?_;by_cases h0:we=0
 ·subst h0;rw [if_neg zW,if_neg zW];repeat' (first|refine znf ?_|refine xqa ?_|refine xsf ?_ ?_|refine xdr 2 yV5 ?_|exact xdn ()|apply zN|intro _)
 ·have q0:decide (((we:Nat):Int)≠0)=true:=zY zO;rw [if_pos h0,if_pos h0];repeat' (first|refine xqa ?_|refine xsf ?_ ?_|refine xdr 2 yV5 ?_|exact xdn ()|apply zN|intro _)
end
abbrev drP (p:Nat) (s:zB) (a:Nat) (e:Int):SP:=yAj p [strV s,zi (a:Nat),zi e] 288
section
variable {W:World} {p:Nat} {s:zB} {a:Nat}
theorem yNm (ha:a≤s.length) (hs:s.length≤9223372036854775800) (q:Rd Nat) (hq:ru (s.drop a)=q) :CtU prog W 223 [zPp p] [drP p s a 0] (.int .u64 (rdN q:Nat)) [drP p s (a+rdL q) (rdE q:Nat)]:=by
 have ju:(s.drop a).length=s.length-a:=zLf;have qz:decide ((0:Int)=0)=true:=rfl;refine zE func223 ntmps223 fun R=>?_;repeat' (first|refine xst ?_|refine xsf ?_ ?_|refine xdt zTHP0 ?_|apply zN|intro _)
 refine yAC (fun i:{i:Nat × Nat//RuI (s.drop a) i.1 i.2}=>[(0,zPp p),(3,.int .u64 (i.1.2:Nat)),(4,zi (i.1.1:Nat))])
  (fun i=>[drP p s a 0]++R) (fun i=>10-i.1.1) ⟨(0,0),RuI.start _⟩ xB (xN) (fun ⟨(i,x),hi⟩=>?_)
 dsimp only at hi ⊢;have i9:=hi.i9;have kz:=hi.il;by_cases a7:i=s.length-a
 ·have az:=hi.short zO;rw [hq] at az;have qe:decide (((s.length:Nat):Int)≤((a+i:Nat):Int))=true:=zY zO;subst az;repeat' (first|refine zad (a+i) ?_|refine yAt ?_;refine yAa (yAe rfl rfl qz) ?_|refine yAJ ?_;refine yAa (yAl rfl rfl qe) ?_|refine xst ?_|refine xsf ?_ ?_|refine xdt zTHP0 ?_|apply zN|intro _)
  all_goals rw [show a+rdL (Rd.bad 1)=a from rfl]
  all_goals (exact xdn ())
 have qe:decide (((s.length:Nat):Int)≤((a+i:Nat):Int))=false:=zZ zO;obtain ⟨b,hb⟩:∃ b,(s.drop a)[i]? = some b:=⟨_,zLb zO⟩;have jq:s[a+i]? = some b:=by rw [← hb,zLC]
 have hbt:=zLy b;have eD:(i=9∧1<b.toNat)∨(i=9∧b.toNat=0)∨(i=9∧b.toNat=1)∨(i≠9∧b.toNat=0∧0<i)∨(i≠9∧b.toNat=0∧i=0)∨(i≠9∧0<b.toNat∧b.toNat<128∧i=0)∨(i≠9∧0<b.toNat∧b.toNat<128∧0<i)∨(i≠9∧¬ b.toNat<128∧i=0)∨(i≠9∧¬ b.toNat<128∧0<i):=zO;rcases eD with h9|h9|h9|h9|h9|h9|h9|h9|h9
 ·
  have az:=hi.bad hb h9;rw [hq] at az;subst az;have q9:decide ((i:Int)=9)=true:=zY zO;have qb:decide ((1:Int)<(b.toNat:Int))=true:=zY zO;repeat' (first|refine yAI ?_;refine yAa (yAp rfl rfl zO jq) ?_|refine zad (a+i) ?_|(refine yAt ?_;first|refine yAa (yAe rfl rfl qz) ?_|refine yAa (yAe rfl rfl q9) ?_)|refine yAq ?_;refine yAa (yAf rfl rfl qb) ?_|refine yAJ ?_;refine yAa (yAl rfl rfl qe) ?_|refine xst ?_|refine xsf ?_ ?_|refine xdt zTHP0 ?_|apply zN|intro _)
  all_goals rw [show a+rdL (Rd.bad 2)=a from rfl]
  all_goals (exact xdn ())
 ·
  have az:=hi.nought hb zO zO;rw [hq] at az;subst az;have q9:decide ((i:Int)=9)=true:=zY zO;have qb:decide ((1:Int)<(b.toNat:Int))=false:=zZ zO;have q0:decide ((b.toNat:Int)=0)=true:=zY zO;have q1:decide ((0:Int)<(i:Int))=true:=zY zO;repeat' (first|refine yAI ?_;refine yAa (yAp rfl rfl zO jq) ?_|refine zad (a+i) ?_|(refine yAt ?_;first|refine yAa (yAe rfl rfl qz) ?_|refine yAa (yAe rfl rfl q0) ?_|refine yAa (yAe rfl rfl q9) ?_)|(refine yAq ?_;first|refine yAa (yAf rfl rfl q1) ?_|refine yAa (yAf rfl rfl qb) ?_)|refine yAJ ?_;refine yAa (yAl rfl rfl qe) ?_|refine xst ?_|refine xsf ?_ ?_|refine xdt zTHP0 ?_|apply zN|intro _)
  all_goals rw [show a+rdL (Rd.bad 2)=a from rfl]
  all_goals (exact xdn ())
 ·
  have c1:IntKind.u64.wrap ((b.toNat % 128:Nat):Int)=((b.toNat % 128:Nat):Int):=yAx _ zO;have ak:=hi.fit (b:=b) zO;have sh:=yLO (b.toNat % 128) i i9 zO;have iB:IntKind.u64.wrap (((x:Nat):Int)+((b.toNat % 128*2 ^ (7*i):Nat):Int))=((x+b.toNat % 128*2 ^ (7*i):Nat):Int):=by rw [← Int.natCast_add];exact yAx _ zO
  have ql:decide ((b.toNat:Int)<128)=true:=zY zO;have am:=hi.done hb zO zO zO;have ai:=RuI.len am zO;rw [hq] at am;have hA:a+(i+1)=a+rdL q:=by rw [am];show _=a+(vu _).length;rw [ai]
  have hV:Value.int .u64 ((x+b.toNat % 128*2 ^ (7*i):Nat):Int)=.int .u64 (rdN q:Nat):=by rw [am];rfl
  have hZ:((rdE q:Nat):Int)=0:=by rw [am];rfl
  have q9:decide ((i:Int)=9)=true:=zY zO;have qb:decide ((1:Int)<(b.toNat:Int))=false:=zZ zO;have q0:decide ((b.toNat:Int)=0)=false:=zZ zO;have q1:decide ((0:Int)<(i:Int))=true:=zY zO;repeat' (first|refine yAu ?_;refine yAa (yAg rfl c1) ?_|refine yAI ?_;refine yAa (yAp rfl rfl zO jq) ?_|refine yAr ?_;refine yAa (yCF rfl rfl iB) ?_|refine zad (a+i) ?_|refine zad (a+(i+1)) ?_|refine zad (i+1) ?_|refine zml (7*i) ?_|refine yBu ?_;refine yAa (yBc (r:=((b.toNat % 128:Nat):Int)) rfl rfl zO zO) ?_|refine yCo ?_;refine yAa (yBI rfl rfl sh) ?_|(refine yAt ?_;first|refine yAa (yAe rfl rfl qz) ?_|refine yAa (yAe rfl rfl q0) ?_|refine yAa (yAe rfl rfl q9) ?_)|refine yAh ?_;refine yAa (yAc rfl rfl ql) ?_|(refine yAq ?_;first|refine yAa (yAf rfl rfl q1) ?_|refine yAa (yAf rfl rfl qb) ?_)|refine yAJ ?_;refine yAa (yAl rfl rfl qe) ?_|refine xst ?_|refine xsf ?_ ?_|refine xdt zTHP0 ?_|apply zN|intro _)
  all_goals rw [hA,hZ]
  all_goals exact xdn () (hc:=by exact hV)
 ·
  have az:=hi.nought hb zO zO;rw [hq] at az;subst az;have q9:decide ((i:Int)=9)=false:=zZ zO;have q0:decide ((b.toNat:Int)=0)=true:=zY zO;have q1:decide ((0:Int)<(i:Int))=true:=zY zO;repeat' (first|refine yAI ?_;refine yAa (yAp rfl rfl zO jq) ?_|refine zad (a+i) ?_|(refine yAt ?_;first|refine yAa (yAe rfl rfl qz) ?_|refine yAa (yAe rfl rfl q0) ?_|refine yAa (yAe rfl rfl q9) ?_)|refine yAq ?_;refine yAa (yAf rfl rfl q1) ?_|refine yAJ ?_;refine yAa (yAl rfl rfl qe) ?_|refine xst ?_|refine xsf ?_ ?_|refine xdt zTHP0 ?_|apply zN|intro _)
  all_goals rw [show a+rdL (Rd.bad 2)=a from rfl]
  all_goals (exact xdn ())
 ·
  have c1:IntKind.u64.wrap ((b.toNat % 128:Nat):Int)=((b.toNat % 128:Nat):Int):=yAx _ zO;have ak:=hi.fit (b:=b) zO;have sh:=yLO (b.toNat % 128) i i9 zO;have iB:IntKind.u64.wrap (((x:Nat):Int)+((b.toNat % 128*2 ^ (7*i):Nat):Int))=((x+b.toNat % 128*2 ^ (7*i):Nat):Int):=by rw [← Int.natCast_add];exact yAx _ zO
  have ql:decide ((b.toNat:Int)<128)=true:=zY zO;have am:=hi.done hb zO zO zO;have ai:=RuI.len am zO;rw [hq] at am;have hA:a+(i+1)=a+rdL q:=by rw [am];show _=a+(vu _).length;rw [ai]
  have hV:Value.int .u64 ((x+b.toNat % 128*2 ^ (7*i):Nat):Int)=.int .u64 (rdN q:Nat):=by rw [am];rfl
  have hZ:((rdE q:Nat):Int)=0:=by rw [am];rfl
  have q9:decide ((i:Int)=9)=false:=zZ zO;have q1:decide ((0:Int)<(i:Int))=false:=zZ zO;repeat' (first|refine yAu ?_;refine yAa (yAg rfl c1) ?_|refine yAI ?_;refine yAa (yAp rfl rfl zO jq) ?_|refine yAr ?_;refine yAa (yCF rfl rfl iB) ?_|refine zad (a+i) ?_|refine zad (a+(i+1)) ?_|refine zad (i+1) ?_|refine zml (7*i) ?_|refine yBu ?_;refine yAa (yBc (r:=((b.toNat % 128:Nat):Int)) rfl rfl zO zO) ?_|refine yCo ?_;refine yAa (yBI rfl rfl sh) ?_|(refine yAt ?_;first|refine yAa (yAe rfl rfl qz) ?_|refine yAa (yAe rfl rfl q9) ?_)|refine yAh ?_;refine yAa (yAc rfl rfl ql) ?_|refine yAq ?_;refine yAa (yAf rfl rfl q1) ?_|refine yAJ ?_;refine yAa (yAl rfl rfl qe) ?_|refine xst ?_|refine xsf ?_ ?_|refine xdt zTHP0 ?_|apply zN|intro _)
  all_goals rw [hA,hZ]
  all_goals exact xdn () (hc:=by exact hV)
 ·
  have c1:IntKind.u64.wrap ((b.toNat % 128:Nat):Int)=((b.toNat % 128:Nat):Int):=yAx _ zO;have ak:=hi.fit (b:=b) zO;have sh:=yLO (b.toNat % 128) i i9 zO;have iB:IntKind.u64.wrap (((x:Nat):Int)+((b.toNat % 128*2 ^ (7*i):Nat):Int))=((x+b.toNat % 128*2 ^ (7*i):Nat):Int):=by rw [← Int.natCast_add];exact yAx _ zO
  have ql:decide ((b.toNat:Int)<128)=true:=zY zO;have am:=hi.done hb zO zO zO;have ai:=RuI.len am zO;rw [hq] at am;have hA:a+(i+1)=a+rdL q:=by rw [am];show _=a+(vu _).length;rw [ai]
  have hV:Value.int .u64 ((x+b.toNat % 128*2 ^ (7*i):Nat):Int)=.int .u64 (rdN q:Nat):=by rw [am];rfl
  have hZ:((rdE q:Nat):Int)=0:=by rw [am];rfl
  have q9:decide ((i:Int)=9)=false:=zZ zO;have q1:decide ((0:Int)<(i:Int))=false:=zZ zO;repeat' (first|refine yAu ?_;refine yAa (yAg rfl c1) ?_|refine yAI ?_;refine yAa (yAp rfl rfl zO jq) ?_|refine yAr ?_;refine yAa (yCF rfl rfl iB) ?_|refine zad (a+i) ?_|refine zad (a+(i+1)) ?_|refine zad (i+1) ?_|refine zml (7*i) ?_|refine yBu ?_;refine yAa (yBc (r:=((b.toNat % 128:Nat):Int)) rfl rfl zO zO) ?_|refine yCo ?_;refine yAa (yBI rfl rfl sh) ?_|(refine yAt ?_;first|refine yAa (yAe rfl rfl qz) ?_|refine yAa (yAe rfl rfl q9) ?_)|refine yAh ?_;refine yAa (yAc rfl rfl ql) ?_|refine yAq ?_;refine yAa (yAf rfl rfl q1) ?_|refine yAJ ?_;refine yAa (yAl rfl rfl qe) ?_|refine xst ?_|refine xsf ?_ ?_|refine xdt zTHP0 ?_|apply zN|intro _)
  all_goals rw [hA,hZ]
  all_goals exact xdn () (hc:=by exact hV)
 ·
  have c1:IntKind.u64.wrap ((b.toNat % 128:Nat):Int)=((b.toNat % 128:Nat):Int):=yAx _ zO;have ak:=hi.fit (b:=b) zO;have sh:=yLO (b.toNat % 128) i i9 zO;have iB:IntKind.u64.wrap (((x:Nat):Int)+((b.toNat % 128*2 ^ (7*i):Nat):Int))=((x+b.toNat % 128*2 ^ (7*i):Nat):Int):=by rw [← Int.natCast_add];exact yAx _ zO
  have ql:decide ((b.toNat:Int)<128)=true:=zY zO;have am:=hi.done hb zO zO zO;have ai:=RuI.len am zO;rw [hq] at am;have hA:a+(i+1)=a+rdL q:=by rw [am];show _=a+(vu _).length;rw [ai]
  have hV:Value.int .u64 ((x+b.toNat % 128*2 ^ (7*i):Nat):Int)=.int .u64 (rdN q:Nat):=by rw [am];rfl
  have hZ:((rdE q:Nat):Int)=0:=by rw [am];rfl
  have q9:decide ((i:Int)=9)=false:=zZ zO;have q0:decide ((b.toNat:Int)=0)=false:=zZ zO;have q1:decide ((0:Int)<(i:Int))=true:=zY zO;repeat' (first|refine yAu ?_;refine yAa (yAg rfl c1) ?_|refine yAI ?_;refine yAa (yAp rfl rfl zO jq) ?_|refine yAr ?_;refine yAa (yCF rfl rfl iB) ?_|refine zad (a+i) ?_|refine zad (a+(i+1)) ?_|refine zad (i+1) ?_|refine zml (7*i) ?_|refine yBu ?_;refine yAa (yBc (r:=((b.toNat % 128:Nat):Int)) rfl rfl zO zO) ?_|refine yCo ?_;refine yAa (yBI rfl rfl sh) ?_|(refine yAt ?_;first|refine yAa (yAe rfl rfl qz) ?_|refine yAa (yAe rfl rfl q0) ?_|refine yAa (yAe rfl rfl q9) ?_)|refine yAh ?_;refine yAa (yAc rfl rfl ql) ?_|refine yAq ?_;refine yAa (yAf rfl rfl q1) ?_|refine yAJ ?_;refine yAa (yAl rfl rfl qe) ?_|refine xst ?_|refine xsf ?_ ?_|refine xdt zTHP0 ?_|apply zN|intro _)
  all_goals rw [hA,hZ]
  all_goals exact xdn () (hc:=by exact hV)
 ·
  have c1:IntKind.u64.wrap ((b.toNat % 128:Nat):Int)=((b.toNat % 128:Nat):Int):=yAx _ zO;have ak:=hi.fit (b:=b) zO;have sh:=yLO (b.toNat % 128) i i9 zO;have iB:IntKind.u64.wrap (((x:Nat):Int)+((b.toNat % 128*2 ^ (7*i):Nat):Int))=((x+b.toNat % 128*2 ^ (7*i):Nat):Int):=by rw [← Int.natCast_add];exact yAx _ zO
  have ql:decide ((b.toNat:Int)<128)=false:=zZ zO;have ax:=hi.next hb zO zO;have q9:decide ((i:Int)=9)=false:=zZ zO;have q1:decide ((0:Int)<(i:Int))=false:=zZ zO;repeat' (first|refine yAu ?_;refine yAa (yAg rfl c1) ?_|refine yAI ?_;refine yAa (yAp rfl rfl zO jq) ?_|refine yAr ?_;refine yAa (yCF rfl rfl iB) ?_|refine zad (a+i) ?_|refine zad (a+(i+1)) ?_|refine zad (i+1) ?_|refine zml (7*i) ?_|refine yBu ?_;refine yAa (yBc (r:=((b.toNat % 128:Nat):Int)) rfl rfl zO zO) ?_|refine yCo ?_;refine yAa (yBI rfl rfl sh) ?_|(refine yAt ?_;first|refine yAa (yAe rfl rfl qz) ?_|refine yAa (yAe rfl rfl q9) ?_)|refine yAh ?_;refine yAa (yAc rfl rfl ql) ?_|refine yAq ?_;refine yAa (yAf rfl rfl q1) ?_|refine yAJ ?_;refine yAa (yAl rfl rfl qe) ?_|refine xst ?_|refine xsf ?_ ?_|refine xdt zTHP0 ?_|apply zN|intro _)
  all_goals refine yAs ⟨(i+1,x+b.toNat % 128*2 ^ (7*i)),ax⟩ (by show 10-(i+1)<10-i;omega) xB (xN)
 ·
  have c1:IntKind.u64.wrap ((b.toNat % 128:Nat):Int)=((b.toNat % 128:Nat):Int):=yAx _ zO;have ak:=hi.fit (b:=b) zO;have sh:=yLO (b.toNat % 128) i i9 zO;have iB:IntKind.u64.wrap (((x:Nat):Int)+((b.toNat % 128*2 ^ (7*i):Nat):Int))=((x+b.toNat % 128*2 ^ (7*i):Nat):Int):=by rw [← Int.natCast_add];exact yAx _ zO
  have ql:decide ((b.toNat:Int)<128)=false:=zZ zO;have ax:=hi.next hb zO zO;have q9:decide ((i:Int)=9)=false:=zZ zO;have q0:decide ((b.toNat:Int)=0)=false:=zZ zO;have q1:decide ((0:Int)<(i:Int))=true:=zY zO;repeat' (first|refine yAu ?_;refine yAa (yAg rfl c1) ?_|refine yAI ?_;refine yAa (yAp rfl rfl zO jq) ?_|refine yAr ?_;refine yAa (yCF rfl rfl iB) ?_|refine zad (a+i) ?_|refine zad (a+(i+1)) ?_|refine zad (i+1) ?_|refine zml (7*i) ?_|refine yBu ?_;refine yAa (yBc (r:=((b.toNat % 128:Nat):Int)) rfl rfl zO zO) ?_|refine yCo ?_;refine yAa (yBI rfl rfl sh) ?_|(refine yAt ?_;first|refine yAa (yAe rfl rfl qz) ?_|refine yAa (yAe rfl rfl q0) ?_|refine yAa (yAe rfl rfl q9) ?_)|refine yAh ?_;refine yAa (yAc rfl rfl ql) ?_|refine yAq ?_;refine yAa (yAf rfl rfl q1) ?_|refine yAJ ?_;refine yAa (yAl rfl rfl qe) ?_|refine xst ?_|refine xsf ?_ ?_|refine xdt zTHP0 ?_|apply zN|intro _)
  all_goals refine yAs ⟨(i+1,x+b.toNat % 128*2 ^ (7*i)),ax⟩ (by show 10-(i+1)<10-i;omega) xB (xN)
theorem yL6 (ha:a≤s.length) (hs:s.length≤9223372036854775800) (e:Nat) (hq:rtx 2147483647 (s.drop a)=.bad e) :Ct prog W 235 [zPp p] [drP p s a 0] (fun _:Nat=>strV []) (fun a'=>[drP p s a' (e:Nat)]):=by
 have cn0:=fun q hq=>yNm (W:=W) (p:=p) (s:=s) (a:=a) ha hs q hq;have qz:decide ((0:Int)=0)=true:=rfl;rcases yIg 2147483647 (s.drop a) with ⟨e',h1,h2,h3⟩|⟨n,t,h1,h4,h2,h3⟩|⟨n,t,h1,h4,h5,h2,h3⟩|⟨n,t,h1,h4,h5,h2,h3⟩
 ·rw [hq] at h2;cases h2;have cn:=cn0 _ h1;have ao:e≠0:=by rcases yDB h1 with h|h <;> omega
  have qe:decide (((e:Nat):Int)=0)=false:=zZ zO;have qn:decide (((e:Nat):Int)≠0)=true:=zY zO;rw [show rdL (.bad e)=0 from rfl,show rdE (α:=Nat) (.bad e)=e from rfl,show rdN (.bad e)=0 from rfl,zLz] at cn;refine zE func235 ntmps235 fun R=>?_;repeat' (first|refine xca cn fun _=>?_|refine xqa ?_|refine xsf ?_ ?_|refine xdt zTHP1 ?_|apply zN|intro _)
  all_goals (exact xdn a)
 ·rw [hq] at h2;cases h2;have cn:=cn0 _ h1;rw [show rdL (.ok n t)=(vu n).length from rfl,show rdE (.ok n t)=0 from rfl,show rdN (.ok n t)=n from rfl] at cn;have qg:decide ((2147483647:Int)<((n:Nat):Int))=true:=zY zO;have q3:decide ((3:Int)=0)=false:=rfl;have q3n:decide ((3:Int)≠0)=true:=rfl;have qz:decide (((0:Nat):Int)=0)=true:=rfl;refine zE func235 ntmps235 fun R=>?_;repeat' (first|refine xca cn fun _=>?_|refine xqa ?_|refine xsf ?_ ?_|refine xdt zTHP1 ?_|apply zN|intro _)
  all_goals (exact xdn (a+(vu n).length))
 ·rw [hq] at h2;cases h2;have cn:=cn0 _ h1;have hf:=yEL h1;have ht:=congrArg List.length (yDs h1);rw [zLf] at ht;rw [show rdL (.ok n t)=(vu n).length from rfl,show rdE (.ok n t)=0 from rfl,show rdN (.ok n t)=n from rfl] at cn;obtain ⟨a1,bi⟩:∃ a1,a1=a+(vu n).length:=⟨_,rfl⟩;rw [← bi] at cn hf ht;have qg:decide ((2147483647:Int)<((n:Nat):Int))=false:=zZ zO;have qg2:decide (((s.length-a1:Nat):Int)<((n:Nat):Int))=true:=zY zO;have q3:decide ((1:Int)=0)=false:=rfl;have q3n:decide ((1:Int)≠0)=true:=rfl;have qz:decide (((0:Nat):Int)=0)=true:=rfl;have cv:IntKind.u64.wrap ((s.length-a1:Nat):Int)=((s.length-a1:Nat):Int):=yAx _ zO;refine zE func235 ntmps235 fun R=>?_;repeat' (first|refine xca cn fun _=>?_|refine yCj ?_;refine yAa (yBl (r:=((s.length-a1:Nat):Int)) rfl rfl zO zO) ?_|refine xqa ?_|refine xsf ?_ ?_|refine xdt zTHP1 ?_|apply zN|intro _)
  all_goals (exact xdn a1)
 ·rw [hq] at h2;cases h2
theorem yLf (ha:a≤s.length) (hs:s.length≤9223372036854775800) (y t':zB) (hq:rtx 2147483647 (s.drop a)=.ok y t') :CtU prog W 235 [zPp p] [drP p s a 0] (strV y) [drP p s (a+(tx y).length) 0]:=by
 have hxA:=yU4 hq;rcases yIg 2147483647 (s.drop a) with ⟨e',h1,h2,h3⟩|⟨n,t,h1,h4,h2,h3⟩|⟨n,t,h1,h4,h5,h2,h3⟩|⟨n,t,h1,h4,h5,h2,h3⟩
 ·rw [hq] at h2;cases h2
 ·rw [hq] at h2;cases h2
 ·rw [hq] at h2;cases h2
 ·have cn:=yNm (W:=W) (p:=p) (s:=s) (a:=a) ha hs _ h1;rw [← hxA,h3,← Nat.add_assoc];rw [hq] at h2;cases h2;have hf:=yEL h1;have dM:=yDs h1;have ht:=congrArg List.length dM;rw [zLf] at ht;rw [show rdL (.ok n t)=(vu n).length from rfl,show rdE (.ok n t)=0 from rfl,show rdN (.ok n t)=n from rfl] at cn;obtain ⟨a1,bi⟩:∃ a1,a1=a+(vu n).length:=⟨_,rfl⟩;rw [← bi] at cn hf ht dM ⊢;have qg:decide ((2147483647:Int)<((n:Nat):Int))=false:=zZ zO;have qg2:decide (((s.length-a1:Nat):Int)<((n:Nat):Int))=false:=zZ zO;have qz:decide (((0:Nat):Int)=0)=true:=rfl;have qzn:decide (((0:Nat):Int)≠0)=false:=rfl;have cv:IntKind.u64.wrap ((s.length-a1:Nat):Int)=((s.length-a1:Nat):Int):=yAx _ zO;have cn2:IntKind.i64.wrap ((n:Nat):Int)=((n:Nat):Int):=by simp only [IntKind.wrap,IntKind.signed,IntKind.bits];simp;omega
  have dw:(s.take (Int.toNat ((a1+n:Nat):Int))).drop (Int.toNat ((a1:Nat):Int))=t.take n:=by rw [zLe,zLe,dM,List.drop_take];congr 1;omega
  refine zE func235 ntmps235 fun R=>?_;repeat' (first|refine yBb ?_;refine yAa (yFI rfl rfl rfl zO dw) ?_|refine zad (a1+n) ?_|(refine yCj ?_;first|refine yAa (yBl (r:=((s.length-a1:Nat):Int)) rfl rfl zO zO) ?_|refine yAa (yBl (r:=((a1:Nat):Int)) rfl rfl zO zO) ?_)|refine xqa ?_|refine xsf ?_ ?_|refine xdt zTHP1 ?_|exact xdn ()|apply zN|intro _)
end
section
variable {W:World} {p:Nat} {s:zB} {a:Nat}
theorem yYe (ha:a≤s.length) (hs:s.length≤9223372036854775800) (first:Bool) (last:zB) (e:Nat) (hq:yIv first last (s.drop a)=.bad e) :Ct prog W 224 [zPp p,.bool first,strV last] [drP p s a 0] (fun x:BOp × Nat=>.agg (opC x.1).toArray) (fun x=>[drP p s x.2 (e:Nat)]):=by
 have qz:decide ((0:Int)=0)=true:=rfl;rcases yGT first last (s.drop a) with ⟨hl,h1⟩|⟨b,t,hl,hb,h1⟩|⟨b,t,hl,hb,hk⟩
 ·rw [hq] at h1;cases h1;have han:a=s.length:=by have:=congrArg List.length hl;rw [zLf,List.length_nil] at this;omega
  have ql:decide (((s.length:Nat):Int)≤((a:Nat):Int))=true:=zY zO;refine zE func224 ntmps224 fun R=>?_;repeat' (first|refine zal fun g=>?_|refine xqa ?_|refine xsf ?_ ?_|refine xdt zTHP2 ?_|apply zN|intro _)
  all_goals (refine yCu ?_;exact yA5 zor rfl (Rvs.agg (T:=58) rfl inferInstance inferInstance xS xC Rvs.nil) (⟨false,[],[]⟩,a) (by rfl) (xN))
 ·rw [hq] at h1;cases h1;have cS:s[a]? = some b:=by have:=congrArg (fun l=>l[0]?) hl;simpa [zLC] using this
  have hlt:=(zLc.1 cS).1;have ht:t=s.drop (a+1):=by rw [← List.drop_drop,hl];rfl
  have jd:s[Int.toNat ((a:Nat):Int)]? = some b:=by rw [zLe];exact cS
  have ql:decide (((s.length:Nat):Int)≤((a:Nat):Int))=false:=zZ zO;have qb:decide ((1:Int)<(b.toNat:Int))=true:=zY zO;refine zE func224 ntmps224 fun R=>?_;repeat' (first|refine zal fun g=>?_|refine zad (a+1) ?_|refine xqa ?_|refine xsf ?_ ?_|refine xdt zTHP2 ?_|apply zN|intro _)
  all_goals (refine yCu ?_;exact yA5 zor rfl (Rvs.agg (T:=58) rfl inferInstance inferInstance xS xC Rvs.nil) (⟨false,[],[]⟩,a+1) (by rfl) (xN))
 ·
  have cS:s[a]? = some b:=by have:=congrArg (fun l=>l[0]?) hl;simpa [zLC] using this
  have hlt:=(zLc.1 cS).1;have ht:t=s.drop (a+1):=by rw [← List.drop_drop,hl];rfl
  have jd:s[Int.toNat ((a:Nat):Int)]? = some b:=by rw [zLe];exact cS
  have ql:decide (((s.length:Nat):Int)≤((a:Nat):Int))=false:=zZ zO;have qb:decide ((1:Int)<(b.toNat:Int))=false:=zZ zO;obtain ⟨d,hd⟩:∃ d,decide ((b.toNat:Int)=1)=d:=⟨_,rfl⟩;rw [ht] at hk;rcases hk with ⟨e',hk,h1⟩|⟨k,u,hk,aW⟩
  ·rw [hq] at h1;cases h1;have ck:=yL6 (W:=W) (p:=p) (s:=s) (a:=a+1) zO hs e hk;have qe:decide (((e:Nat):Int)=0)=false:=zZ (by have:=yES hk;omega);refine zE func224 ntmps224 fun R=>?_;repeat' (first|refine zal fun g=>?_|refine xca ck fun a3=>?_|refine zad (a+1) ?_|refine xqa ?_|refine xsf ?_ ?_|refine xdt zTHP2 ?_|apply zN|intro _)
   all_goals (refine yCu ?_;exact yA5 zor rfl (Rvs.agg (T:=58) rfl inferInstance inferInstance xS xC Rvs.nil) (⟨d,[],[]⟩,a3) (by rfl) (xN))
  have ck:=yLf (W:=W) (p:=p) (s:=s) (a:=a+1) zO hs k u hk;have fS:=yFD hk;have hu:=yD9 hk;obtain ⟨a2,bx⟩:∃ a2,a2=a+1+(tx k).length:=⟨_,rfl⟩;rw [← bx] at ck fS hu;have bI:=yHp k last;have q4:decide ((4:Int)=0)=false:=rfl;rcases aW with ⟨rfl,eR,h1⟩|⟨fy,aW⟩
  ·rw [hq] at h1;cases h1;rw [eR,Bool.not_false] at bI;refine zE func224 ntmps224 fun R=>?_;repeat' (first|refine zal fun g=>?_|refine zad (a+1) ?_|refine xqa ?_|refine xsf ?_ ?_|refine xdt zTHP2 ?_|apply zN|intro _)
   all_goals (refine yCu ?_;exact yA5 zor rfl (Rvs.agg (T:=58) rfl inferInstance inferInstance xS xC Rvs.nil) (⟨d,k,[]⟩,a2) (by rfl) (xN))
  rcases aW with ⟨bU,h1⟩|⟨bU,e',hv,h1⟩|⟨bU,v,w,hv,h1⟩
  ·rw [hq] at h1;cases h1
  ·rw [hq] at h1;cases h1;rw [hu] at hv;have cv:=yL6 (W:=W) (p:=p) (s:=s) (a:=a2) fS hs e hv;have fU:d=false:=by rw [← hd];exact zZ zO
   subst fU;rcases fy with rfl|hlt2
   ·
    refine zE func224 ntmps224 fun R=>?_;repeat' (first|refine zal fun g=>?_|refine xca cv fun a3=>?_|refine zad (a+1) ?_|refine xqa ?_|refine xsf ?_ ?_|refine xdt zTHP2 ?_|apply zN|intro _)
    all_goals (refine yCu ?_;exact yA5 zor rfl (Rvs.agg (T:=58) rfl inferInstance inferInstance xS xC Rvs.nil) (⟨false,k,[]⟩,a3) (by rfl) (xN))
   ·rw [hlt2,Bool.not_true] at bI;cases first
    ·
     refine zE func224 ntmps224 fun R=>?_;repeat' (first|refine zal fun g=>?_|refine xca cv fun a3=>?_|refine zad (a+1) ?_|refine xqa ?_|refine xsf ?_ ?_|refine xdt zTHP2 ?_|apply zN|intro _)
     all_goals (refine yCu ?_;exact yA5 zor rfl (Rvs.agg (T:=58) rfl inferInstance inferInstance xS xC Rvs.nil) (⟨false,k,[]⟩,a3) (by rfl) (xN))
    ·
     refine zE func224 ntmps224 fun R=>?_;repeat' (first|refine zal fun g=>?_|refine xca cv fun a3=>?_|refine zad (a+1) ?_|refine xqa ?_|refine xsf ?_ ?_|refine xdt zTHP2 ?_|apply zN|intro _)
     all_goals (refine yCu ?_;exact yA5 zor rfl (Rvs.agg (T:=58) rfl inferInstance inferInstance xS xC Rvs.nil) (⟨false,k,[]⟩,a3) (by rfl) (xN))
  ·rw [hq] at h1;cases h1
theorem xAO (_ha:a≤s.length) (hs:s.length≤9223372036854775800) (first:Bool) (last:zB) (op:BOp) (t':zB) (hq:yIv first last (s.drop a)=.ok op t') :CtU prog W 224 [zPp p,.bool first,strV last] [drP p s a 0] (.agg (opC op).toArray) [drP p s (a+(yD7 op).length) 0]:=by
 have qz:decide ((0:Int)=0)=true:=rfl;rcases yGT first last (s.drop a) with ⟨hl,h1⟩|⟨b,t,hl,hb,h1⟩|⟨b,t,hl,hb,hk⟩
 ·rw [hq] at h1;cases h1
 ·rw [hq] at h1;cases h1
 ·
  have cS:s[a]? = some b:=by have:=congrArg (fun l=>l[0]?) hl;simpa [zLC] using this
  have hlt:=(zLc.1 cS).1;have ht:t=s.drop (a+1):=by rw [← List.drop_drop,hl];rfl
  have jd:s[Int.toNat ((a:Nat):Int)]? = some b:=by rw [zLe];exact cS
  have ql:decide (((s.length:Nat):Int)≤((a:Nat):Int))=false:=zZ zO;have qb:decide ((1:Int)<(b.toNat:Int))=false:=zZ zO;rw [ht] at hk;rcases hk with ⟨e',hk,h1⟩|⟨k,u,hk,aW⟩
  ·rw [hq] at h1;cases h1
  have ck:=yLf (W:=W) (p:=p) (s:=s) (a:=a+1) zO hs k u hk;have fS:=yFD hk;have hu:=yD9 hk;have bI:=yHp k last;rcases aW with ⟨rfl,eR,h1⟩|⟨fy,aW⟩
  ·rw [hq] at h1;cases h1
  rcases aW with ⟨bU,h1⟩|⟨bU,e',hv,h1⟩|⟨bU,v,w,hv,h1⟩
  ·rw [hq] at h1;cases h1;have hd:decide ((b.toNat:Int)=1)=true:=zY zO;have hA:a+(yD7 ⟨true,k,[]⟩).length=a+1+(tx k).length:=by rw [yH3,zLj];omega
   rw [hA];obtain ⟨a2,bx⟩:∃ a2,a2=a+1+(tx k).length:=⟨_,rfl⟩;rw [← bx] at ck fS hu ⊢;rcases fy with rfl|hlt2
   ·
    refine zE func224 ntmps224 fun R=>?_;repeat' (first|refine zal fun g=>?_|refine xca ck fun _=>?_|refine yAI ?_;refine yAa (yAp rfl rfl zO jd) ?_|refine zad (a+1) ?_|(refine yAt ?_;first|refine yAa (yAe rfl rfl qz) ?_|refine yAa (yAe rfl rfl hd) ?_)|refine yAq ?_;refine yAa (yAf rfl rfl qb) ?_|refine yAJ ?_;refine yAa (yAl rfl rfl ql) ?_|refine xst ?_|refine xsf ?_ ?_|refine xdt zTHP2 ?_|apply zN|intro _)
    all_goals (refine yCu ?_;exact yA5 zor rfl (Rvs.agg (T:=58) rfl inferInstance inferInstance xS xC Rvs.nil) () (by rfl) (xN))
   ·rw [hlt2,Bool.not_true] at bI;cases first
    ·
     refine zE func224 ntmps224 fun R=>?_;repeat' (first|refine zal fun g=>?_|refine xca ck fun _=>?_|refine yAI ?_;refine yAa (yAp rfl rfl zO jd) ?_|refine zad (a+1) ?_|(refine yAt ?_;first|refine yAa (yAe rfl rfl qz) ?_|refine yAa (yAe rfl rfl hd) ?_)|refine yBz ?_;refine yAa (yBq rfl rfl bI) ?_|refine yAq ?_;refine yAa (yAf rfl rfl qb) ?_|refine yAJ ?_;refine yAa (yAl rfl rfl ql) ?_|refine xst ?_|refine xsf ?_ ?_|refine xdt zTHP2 ?_|apply zN|intro _)
     all_goals (refine yCu ?_;exact yA5 zor rfl (Rvs.agg (T:=58) rfl inferInstance inferInstance xS xC Rvs.nil) () (by rfl) (xN))
    ·
     refine zE func224 ntmps224 fun R=>?_;repeat' (first|refine zal fun g=>?_|refine xca ck fun _=>?_|refine yAI ?_;refine yAa (yAp rfl rfl zO jd) ?_|refine zad (a+1) ?_|(refine yAt ?_;first|refine yAa (yAe rfl rfl qz) ?_|refine yAa (yAe rfl rfl hd) ?_)|refine yBz ?_;refine yAa (yBq rfl rfl bI) ?_|refine yAq ?_;refine yAa (yAf rfl rfl qb) ?_|refine yAJ ?_;refine yAa (yAl rfl rfl ql) ?_|refine xst ?_|refine xsf ?_ ?_|refine xdt zTHP2 ?_|apply zN|intro _)
     all_goals (refine yCu ?_;exact yA5 zor rfl (Rvs.agg (T:=58) rfl inferInstance inferInstance xS xC Rvs.nil) () (by rfl) (xN))
  ·rw [hq] at h1;cases h1
  ·rw [hq] at h1;cases h1;rw [hu] at hv;have hd:decide ((b.toNat:Int)=1)=false:=zZ zO;have cv:=yLf (W:=W) (p:=p) (s:=s) (a:=a+1+(tx k).length) fS hs v t' hv;have hA:a+(yD7 ⟨false,k,v⟩).length=a+1+(tx k).length+(tx v).length:=by rw [yH4,zLj,zLa];omega
   rw [hA];obtain ⟨a2,bx⟩:∃ a2,a2=a+1+(tx k).length:=⟨_,rfl⟩;rw [← bx] at ck fS hu cv ⊢;rcases fy with rfl|hlt2
   ·
    refine zE func224 ntmps224 fun R=>?_;repeat' (first|refine zal fun g=>?_|refine xca cv fun _=>?_|refine xca ck fun _=>?_|refine yAI ?_;refine yAa (yAp rfl rfl zO jd) ?_|refine zad (a+1) ?_|(refine yAt ?_;first|refine yAa (yAe rfl rfl qz) ?_|refine yAa (yAe rfl rfl hd) ?_)|refine yAq ?_;refine yAa (yAf rfl rfl qb) ?_|refine yAJ ?_;refine yAa (yAl rfl rfl ql) ?_|refine xst ?_|refine xsf ?_ ?_|refine xdt zTHP2 ?_|apply zN|intro _)
    all_goals (refine yCu ?_;exact yA5 zor rfl (Rvs.agg (T:=58) rfl inferInstance inferInstance xS xC Rvs.nil) () (by rfl) (xN))
   ·rw [hlt2,Bool.not_true] at bI;cases first
    ·
     refine zE func224 ntmps224 fun R=>?_;repeat' (first|refine zal fun g=>?_|refine xca cv fun _=>?_|refine xca ck fun _=>?_|refine yAI ?_;refine yAa (yAp rfl rfl zO jd) ?_|refine zad (a+1) ?_|(refine yAt ?_;first|refine yAa (yAe rfl rfl qz) ?_|refine yAa (yAe rfl rfl hd) ?_)|refine yBz ?_;refine yAa (yBq rfl rfl bI) ?_|refine yAq ?_;refine yAa (yAf rfl rfl qb) ?_|refine yAJ ?_;refine yAa (yAl rfl rfl ql) ?_|refine xst ?_|refine xsf ?_ ?_|refine xdt zTHP2 ?_|apply zN|intro _)
     all_goals (refine yCu ?_;exact yA5 zor rfl (Rvs.agg (T:=58) rfl inferInstance inferInstance xS xC Rvs.nil) () (by rfl) (xN))
    ·
     refine zE func224 ntmps224 fun R=>?_;repeat' (first|refine zal fun g=>?_|refine xca cv fun _=>?_|refine xca ck fun _=>?_|refine yAI ?_;refine yAa (yAp rfl rfl zO jd) ?_|refine zad (a+1) ?_|(refine yAt ?_;first|refine yAa (yAe rfl rfl qz) ?_|refine yAa (yAe rfl rfl hd) ?_)|refine yBz ?_;refine yAa (yBq rfl rfl bI) ?_|refine yAq ?_;refine yAa (yAf rfl rfl qb) ?_|refine yAJ ?_;refine yAa (yAl rfl rfl ql) ?_|refine xst ?_|refine xsf ?_ ?_|refine xdt zTHP2 ?_|apply zN|intro _)
     all_goals (refine yCu ?_;exact yA5 zor rfl (Rvs.agg (T:=58) rfl inferInstance inferInstance xS xC Rvs.nil) () (by rfl) (xN))
end
structure RefI (s:zB) (n:Nat) (R:Rd (List BOp)) (i:Nat) (an:List BOp) (last:zB) (a e:Nat):Prop where
 good:e=0→RopI s n R i an last a
 bad:e≠0→R=.bad e
 small:an.length≤s.length+1
section
variable {W:World}
theorem yGX (s:zB) (hs:s.length≤4398046511104) :Ct prog W 182 [strV s] [] (fun x:Option Addr × Nat=>.tuple #[.slice x.1 (yAV s).1.length x.2,zi ((yAV s).2:Nat)]) (fun x=>[lsP opC 58 3 (.slice x.1 (yAV s).1.length x.2) (yAV s).1]):=by
 have fE:=fun p q hq=>yNm (W:=W) (p:=p) (s:=s) (a:=0) zO zO q hq;rw [zLo] at fE;refine zE func182 ntmps182 fun R=>?_;cases hn:ru s with
 |bad e=>
  have cu:=fun p=>fE p _ hn;rw [show rdL (.bad e)=0 from rfl,show rdN (.bad e)=0 from rfl,show rdE (α:=Nat) (.bad e)=e from rfl] at cu;have ao:e≠0:=by rcases yDB hn with h|h <;> omega
  have hd:=yL0 hn;have qe:decide (((e:Nat):Int)=0)=false:=zZ zO;have qn:decide (((e:Nat):Int)≠0)=true:=zY zO;have ql:decide (((0:Nat):Int)<((0:Nat):Int))=false:=rfl;repeat' (first|refine zbx fun p=>?_|refine xca (cu _) fun _=>?_|refine yAD ?_;refine yCC rfl (fun g0=>?_)|refine xst ?_|refine xsf ?_ ?_|refine xdr 14 yIr ?_|apply zN|intro _)
  refine yAC (fun x:Unit=>[(4,zPp p),(5,.int .u64 ((0:Nat):Int)),(8,.int .u64 ((0:Nat):Int))])
   (fun x=>[drP p s 0 e]++R) (fun x=>0) () xB (xN) (fun _=>?_)
  repeat' (first|refine xqa ?_|refine xsf ?_ ?_|refine xdr 14 yIr ?_|apply zN|intro _)
  all_goals rw [hd]
  all_goals refine KJ.nilrow 58 3 ?_
  all_goals (exact xdn (none,0))
 |ok n t=>
  have cu:=fun p=>fE p _ hn;have hf:=yEL (a:=0) (s:=s) (by rw [zLo];exact hn);have dM:=yDs (a:=0) (s:=s) (by rw [zLo];exact hn);have bX:n<18446744073709551616:=(yHV hn).2;rw [show rdL (.ok n t)=(vu n).length from rfl,show rdN (.ok n t)=n from rfl,show rdE (.ok n t)=0 from rfl] at cu;obtain ⟨a0,gi⟩:∃ a0,a0=0+(vu n).length:=⟨_,rfl⟩;rw [← gi] at hf dM cu;repeat' (first|refine zbx fun p=>?_|refine xca (cu _) fun _=>?_|refine yAD ?_;refine yCC rfl (fun g0=>?_)|refine xst ?_|refine xsf ?_ ?_|refine xdr 14 yIr ?_|apply zN|intro _)
  refine yAC (fun x:{x:Nat × List BOp × zB × Nat × Nat × Option Addr × Nat//RefI s n (yDU n true [] t) x.1 x.2.1 x.2.2.1 x.2.2.2.1 x.2.2.2.2.1}=>[(0,strV s),(4,zPp p),(5,.int .u64 (n:Nat)),(6,.slice x.1.2.2.2.2.2.1 x.1.2.1.length x.1.2.2.2.2.2.2),(7,strV x.1.2.2.1),(8,.int .u64 (x.1.1:Nat))])
   (fun x=>[drP p s x.1.2.2.2.1 (x.1.2.2.2.2.1:Nat),lsP opC 58 3 (.slice x.1.2.2.2.2.2.1 x.1.2.1.length x.1.2.2.2.2.2.2) x.1.2.1]++R) (fun x=>if x.1.2.2.2.2.1=0 then n-x.1.1+1 else 0) ⟨(0,[],[],a0,0,some ⟨g0,0,none⟩,0),⟨fun _=>RopI.start hf dM,fun h=>absurd rfl h,zLA _⟩⟩ xB (xN) (fun ⟨(i,an,last,a,e,sa,sc),hi⟩=>?_)
  dsimp only at hi ⊢;by_cases he:e=0
  ·subst he;have hg:=hi.good rfl;have ai:=hg.len;have htwo:=hg.two;have ak:=hg.fit;have qz:decide (((0:Nat):Int)=0)=true:=rfl;by_cases hlt:i<n
   ·have ql:decide (((i:Nat):Int)<((n:Nat):Int))=true:=zY zO;have qf:decide (((i:Nat):Int)=0)=decide (i=0):=by by_cases h:i=0 <;> simp [h]
    have b1:(an.length+1)*40≤140737488355328:=zO;have b2:an.length+1≤9223372036854775807:=zO;have ha:IntKind.u64.wrap ((i:Int)+1)=((i+1:Nat):Int):=by rw [show (i:Int)+1=((i+1:Nat):Int) by omega];exact yAx _ zO
    cases hq:yIv (decide (i=0)) last (s.drop a) with
    |bad e=>
     have hb:=hg.bad hlt hq;have ao:e≠0:=by have:=yM2 hq;omega
     have co:=yYe (W:=W) (p:=p) (s:=s) (a:=a) ak zO (decide (i=0)) last e hq;repeat' (first|refine zal fun g=>?_|refine xca co fun x=>?_;obtain ⟨o',a'⟩:=x|refine yAQ ?_;refine yBm (a:=o') yAY rfl rfl rfl xS xS b1 b2 rfl (fun g1 c1=>?_)|refine yAD ?_;refine yAK rfl xF (by rfl) zO rfl (fun gb=>?_)|refine xqa ?_|refine xsf ?_ ?_|refine xdr 14 yIr ?_|apply zN|intro _)
     all_goals refine yAs ⟨(i+1,an++[o'],o'.key,a',e,some ⟨g1,0,none⟩,c1),⟨fun h=>absurd h ao,fun _=>hb,by dsimp only;rw [zLa];show an.length+1≤_;omega⟩⟩ (by dsimp only;rw [if_neg ao,if_pos rfl];omega) xB (xN)
    |ok o u=>
     have ax:=hg.next hlt hq;have co:=xAO (W:=W) (p:=p) (s:=s) (a:=a) ak zO (decide (i=0)) last o u hq;repeat' (first|refine zal fun g=>?_|refine yAQ ?_;refine yBm (a:=o) yAY rfl rfl rfl xS xS b1 b2 rfl (fun g1 c1=>?_)|refine yAD ?_;refine yAK rfl xF (by rfl) zO rfl (fun gb=>?_)|refine xqa ?_|refine xsf ?_ ?_|refine xdr 14 yIr ?_|apply zN|intro _)
     all_goals refine yAs ⟨(i+1,an++[o],o.key,a+(yD7 o).length,0,some ⟨g1,0,none⟩,c1),⟨fun _=>ax,fun h=>absurd rfl h,by dsimp only;rw [zLa];show an.length+1≤_;omega⟩⟩ (by dsimp only;rw [if_pos rfl,if_pos rfl];omega) xB (xN)
   ·have ql:decide (((i:Nat):Int)<((n:Nat):Int))=false:=zZ zO;have aj:=hg.stop hlt;by_cases a7:a<s.length
    ·have hd:=yKW hn aj (by intro h;have:=congrArg List.length h;rw [zLf,List.length_nil] at this;omega);have qa:decide (((a:Nat):Int)<((s.length:Nat):Int))=true:=zY zO;have q5:decide ((5:Int)≠0)=true:=rfl;repeat' (first|refine xqa ?_|refine xsf ?_ ?_|refine xdr 14 yIr ?_|apply zN|intro _)
     all_goals rw [hd]
     all_goals refine KJ.nilrow 58 3 ?_
     all_goals (exact xdn (none,0))
    ·have hd:=yOv hn aj (zLl zO);have qa:decide (((a:Nat):Int)<((s.length:Nat):Int))=false:=zZ zO;have q5:decide (((0:Nat):Int)≠0)=false:=rfl;repeat' (first|refine xqa ?_|refine xsf ?_ ?_|refine xdr 14 yIr ?_|apply zN|intro _)
     all_goals rw [hd]
     all_goals (exact xdn (sa,sc))
  ·have hb:=hi.bad he;have hd:=yKV hn hb;have qe:decide (((e:Nat):Int)=0)=false:=zZ zO;have qn:decide (((e:Nat):Int)≠0)=true:=zY zO;by_cases hlt:i<n
   ·have ql:decide (((i:Nat):Int)<((n:Nat):Int))=true:=zY zO;repeat' (first|refine xqa ?_|refine xsf ?_ ?_|refine xdr 14 yIr ?_|apply zN|intro _)
    all_goals rw [hd]
    all_goals refine KJ.nilrow 58 3 ?_
    all_goals (exact xdn (none,0))
   ·have ql:decide (((i:Nat):Int)<((n:Nat):Int))=false:=zZ zO;repeat' (first|refine xqa ?_|refine xsf ?_ ?_|refine xdr 14 yIr ?_|apply zN|intro _)
    all_goals rw [hd]
    all_goals refine KJ.nilrow 58 3 ?_
    all_goals (exact xdn (none,0))
end
end Go.Proofs.YtoipmnikdiogcaaGreatDoor
