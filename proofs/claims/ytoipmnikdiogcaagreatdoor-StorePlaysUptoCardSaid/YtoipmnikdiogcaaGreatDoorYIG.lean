/-
  StY7, CmR, StY8, SuE.
-/
import Derived.Test.YtoipmnikdiogcaaGreatDoorYIC
set_option maxRecDepth 100000
set_option maxHeartbeats 64000000
namespace Go.Proofs.YtoipmnikdiogcaaGreatDoor
open Go Go.RowKit
open Go.Proofs.Tryz
abbrev yWm:Pl:=(po [0,1,2,3,4,5,6,7,8,9,10,11,12,13,14,15,16] .nil)
section
variable {W:World} {F:Nat→Addr} {n m s d q:Nat} {r:Rows} {D:Dsk}
instance xAS:FnIs prog 33:=⟨zK⟩
theorem yOL (v:Int) (lg:Option Addr) (life:Int) (dead:Bool) (h:yBi D life dead=true):CtU prog W 57 [zPp s] [stP s d q n v lg life dead,DiskP d D] (.bool true) [stP s d q n v lg life true,DiskP d D]:=by
 have c2:CtU prog W 88 [zPp d] [DiskP d D] (zi D.life) [DiskP d D]:=yJ4;cases ho:D.off with
 |true=>
  have c1:CtU prog W 46 [zPp d] [DiskP d D] (.bool true) [DiskP d D]:=by rw [← ho];exact yDy
  refine zE func57 ntmps57 fun R=>?_;repeat' (first|(refine yBS ?_;first|(refine yBn (X:=Unit) xE c1 xP rfl ?_)|(refine yCl (X:=Unit) rfl rfl xE c1 xP rfl ?_)|(refine yBn (X:=Unit) xE c2 xP rfl ?_)|(refine yCl (X:=Unit) rfl rfl xE c2 xP rfl ?_))|refine xst ?_|refine xsf ?_ ?_|refine xdr 1 yWm ?_|exact xdn ()|apply zN|intro _)
 |false=>
  have c1:CtU prog W 46 [zPp d] [DiskP d D] (.bool false) [DiskP d D]:=by rw [← ho];exact yDy
  by_cases hl:D.life=life
  ·have hd:dead=true:=by unfold yBi at h;rw [ho,hl] at h;simpa using h
   subst hd;refine zE func57 ntmps57 fun R=>?_;repeat' (first|(refine yBS ?_;first|(refine yBn (X:=Unit) xE c1 xP rfl ?_)|(refine yCl (X:=Unit) rfl rfl xE c1 xP rfl ?_)|(refine yBn (X:=Unit) xE c2 xP rfl ?_)|(refine yCl (X:=Unit) rfl rfl xE c2 xP rfl ?_))|refine xqa ?_|refine xsf ?_ ?_|refine xdr 1 yWm ?_|exact xdn ()|apply zN|intro _)
  ·have ql:decide (D.life≠life)=true:=zY hl;refine zE func57 ntmps57 fun R=>?_;repeat' (first|(refine yBS ?_;first|(refine yBn (X:=Unit) xE c1 xP rfl ?_)|(refine yCl (X:=Unit) rfl rfl xE c1 xP rfl ?_)|(refine yBn (X:=Unit) xE c2 xP rfl ?_)|(refine yCl (X:=Unit) rfl rfl xE c2 xP rfl ?_))|refine xqa ?_|refine xsf ?_ ?_|refine xdr 1 yWm ?_|exact xdn ()|apply zN|intro _)
theorem yQh (ay:ErrsOn L8 W F) (v:Int) (lg:Option Addr) (life:Int) (dead:Bool) (h:yBi D life dead=true) (A:SP) (oa:Option Addr) (ol oc:Nat):CtU prog W 20 [zPp s,.slice oa ol oc] [A,stP s d q n v lg life dead,DiskP d D] (yAy F 12) [A,stP s d q n v lg life true,DiskP d D]:=by have dV:W.cell? ⟨2,0,none⟩=some (yAy F 12):=ay.at_ 12 zX;have cd:=yOL (W:=W) (s:=s) (d:=d) (q:=q) (n:=n) v lg life dead h;refine zE func20 ntmps20 fun R=>?_;repeat' (first|refine xqa ?_|refine xsf ?_ ?_|exact xdn ()|intro _)
theorem yOM (ay:ErrsOn L8 W F) (v:Int) (lg:Option Addr) (life:Int) (dead:Bool) (h:yBi D life dead=true):CtU prog W 33 [zPp s] [stP s d q n v lg life dead,DiskP d D] (yAy F 12) [stP s d q n v lg life true,DiskP d D]:=by have dV:W.cell? ⟨2,0,none⟩=some (yAy F 12):=ay.at_ 12 zX;have cd:=yOL (W:=W) (s:=s) (d:=d) (q:=q) (n:=n) v lg life dead h;refine zE func33 ntmps33 fun R=>?_;repeat' (first|refine xqa ?_|refine xsf ?_ ?_|exact xdn ()|intro _)
end
section
variable {W:World} {F:Nat→Addr} {N:List Nd} {a:Option Addr} {r:Rows} {q s d n g0:Nat} {tb:Int} {D:Dsk}
theorem yQi (hE:ErrsAt W F) (hN:NibAt W) (h1:64≤n) (h2:n≤3000) (aj:Still D) (hn:D.n=n) (hT:TbOk N a r) (ah:(yAk r).length≤234*yAA n) (v u:Nat) (hv:1≤v∧v≤1099511627776) (d4:u≤yA7 n) (A:SP) (oa:Option Addr) (oc:Nat) (ops:List BOp) (hL:Lv W opC 3 A oa ops) (ho:ops.length≤100000000) (hb:(yBx (yAR ops)).length≤100000000000000) (f9:(yAk (yAP r (yAR ops))).length≤4611686018427387904) {o:CmO} (hO:o=cmO n D r v u ops) :Ct prog W 20 [zPp s,.slice oa ops.length oc] [A,stP s d q n (v:Nat) (zq g0) D.life false,DiskP d D,tbP q a tb,arP N,yPX g0 d n v u D.life] (fun _:TbQ N o.r × Nat=>yAy F o.e) (fun x=>[A,stP s d q n (o.v:Nat) (some ⟨x.2,0,none⟩) D.life o.dead,DiskP d o.D,tbP q x.1.1.2.1 x.1.1.2.2,arP x.1.1.1,ifP o.dead (yPX x.2 d n o.v o.u D.life)]):=by
 have aq:ErrsOn L16 W F:=hE.to16;have ay:ErrsOn L8 W F:=aq.to8;have dV:W.cell? ⟨2,0,none⟩=some (yAy F 12):=ay.at_ 12 zX;have fX:W.cell? ⟨4,0,none⟩=some (yAy F 17):=aq.at_ 17 zX;have e18:W.cell? ⟨5,0,none⟩=some (yAy F 18):=aq.at_ 18 zX;have n12:=yH7 (F:=F) (e:=12) zO;have n16:=yH7 (F:=F) (e:=16) zO;obtain ⟨du,jp⟩:=yIh ah zO;have hr:=hT.ris;have hA:=yBr (n:=n) zO;have cP:1≤yA7 n∧yA7 n≤65536:=by unfold yA7 yAA;omega
 obtain ⟨f1,f2,f3,f4⟩:=yBf h1 v;have bz:yBi D D.life false=false:=by unfold yBi;rw [aj.on];simp
 have j0:=yKK (W:=W) (s:=s) (d:=d) (q:=q) (n:=n) (v:Nat) (zq g0) D.life bz;have cq:=yGP (W:=W) A oa oc ops hL zO;have dJ:(yAR ops).length≤ops.length:=yKF ops;have dF:=yGo ops;have aX:yE6 n r ops=if yAR ops=[] then 0 else if yA2 (yA7 n:Nat)<((yBx (yAR ops)).length:Nat) then 18 else if 234*yAA n<(yAk (yAP r (yAR ops))).length then 17 else 0:=rfl
 have bJ:=yDj hr (yAR ops);unfold cmO at hO;obtain ⟨ce,fm⟩:∃ e,e=yE6 n r ops:=⟨_,rfl⟩;obtain ⟨os,cQ⟩:∃ os,os=yAR ops:=⟨_,rfl⟩;rw [← fm] at aX hO;rw [← cQ] at cq dJ dF aX hb f9 bJ hO;have aA:∀ xa xc,Lv W opC 3 (lsP opC 58 3 (.slice xa os.length xc) os) xa os:=fun xa xc=>Lv.own yAY rfl;have bV:=fun xa xc=>yGO (W:=W) (F:=F) _ xa xc os (aA xa xc) zO zO (fun h=>by rw [dF] at h;cases h) (fun h=>by rw [dF] at h;cases h);rw [dF] at bV;by_cases hz:os=[]
 ·have q0:decide (((os.length:Nat):Int)=0)=true:=zY (by rw [hz];rfl);rw [if_pos hz] at aX;rw [if_pos (.inl hz),aX] at hO;subst hO;refine zE func20 ntmps20 fun R=>?_;repeat' (first|refine xca (bV _ _) fun _=>?_|refine xca cq fun x=>?_;obtain ⟨xa,xc⟩:=x|refine xqa ?_|refine xsf ?_ ?_|intro _)
  all_goals (exact xdn (⟨(N,a,tb),fun _ h=>h,hT⟩,g0))
 rw [if_neg hz] at aX;have q0:decide (((os.length:Nat):Int)=0)=false:=zZ (by have:=zLv.2 hz;omega)
 have clg:=yEv (W:=W) (s:=s) (d:=d) (q:=q) (n:=n) (v:Nat) (zq g0) D.life false zO;have bL:=yCw (W:=W) (s:=s) (d:=d) (q:=q) (n:=n) (v:Nat) (zq g0) D.life false zO;have gE:=fun xa xc=>yGn (W:=W) (s:=s) (d:=d) (q:=q) (n:=n) (b:=tb) (v:Nat) (zq g0) D.life false hT _ xa xc os (aA xa xc) zO f9;obtain ⟨r2,aN⟩:∃ r2,r2=yAP r os:=⟨_,rfl⟩;obtain ⟨b,cS⟩:∃ b,b=yBx os:=⟨_,rfl⟩;have bP:=fun (M:List Nd) (hM:∀ y ∈ N,y ∈ M) xa xc=>yC4 (W:=W) (p:=q) (tb:=tb) (hT.mono hM) _ xa xc os (aA xa xc) zO;simp only [← aN] at gE bP;rw [← aN] at f9 aX bJ hO;rw [← cS] at aX bV hb hO;have hlv:=yFH cP.1 cP.2;have bk:=yB2 b;by_cases hg:yA2 (yA7 n:Nat)<(b.length:Nat)
 ·have q1:decide (yA2 (yA7 n:Nat)<(b.length:Nat))=true:=zY hg;rw [if_pos hg] at aX;rw [if_pos (.inr zO),aX] at hO;subst hO;refine zE func20 ntmps20 fun R=>?_;repeat' (first|refine xca (bV _ _) fun _=>?_|refine xca cq fun x=>?_;obtain ⟨xa,xc⟩:=x|refine xqa ?_|refine xsf ?_ ?_|intro _)
  all_goals (exact xdn (⟨(N,a,tb),fun _ h=>h,hT⟩,g0))
 have q1:decide (yA2 (yA7 n:Nat)<(b.length:Nat))=false:=zZ hg;have dS:=yGQ cP.1 cP.2 (show (b.length:Int)≤yA2 (yA7 n:Nat) by omega);rw [if_neg hg] at aX;by_cases hm:234*yAA n<(yAk r2).length
 ·have q2:decide (((234*yAA n:Nat):Int)<((yAk r2).length:Nat))=true:=zY zO;rw [if_pos hm] at aX;rw [if_pos (.inr zO),aX] at hO;subst hO;refine zE func20 ntmps20 fun R=>?_;repeat' (first|refine xca (gE _ _) fun M=>?_;obtain ⟨M,hM⟩:=M;dsimp only at hM ⊢|refine xca (bV _ _) fun _=>?_|refine xca cq fun x=>?_;obtain ⟨xa,xc⟩:=x|refine xqa ?_|refine xsf ?_ ?_|intro _)
  all_goals (exact xdn (⟨(M,a,tb),hM,hT.mono hM⟩,g0))
 have q2:decide (((234*yAA n:Nat):Int)<((yAk r2).length:Nat))=false:=zZ zO;rw [if_neg hm] at aX;rw [if_neg (fun h=>h.elim hz (fun h=>h aX))] at hO;have iV:=yMT (W:=W) (p:=d) (g:=g0) (yAN n:Nat) (yA7 n:Nat) (v:Nat) (u:Nat) D.life false b.length zO ⟨zO,zO⟩ ⟨zO,zO⟩;have dG:b.length≤1048576:=by
  have:yA7 n≤1004:=by unfold yA7 yAA;omega
  omega
 clear fm cQ dF;refine zE func20 ntmps20 fun R=>?_
 apply yHm (fun K=>∀ (xa:Option Addr) (xc:Nat) (M:List Nd) (D1:Dsk) (w k g:Nat),(∀ y ∈ N,y ∈ M)→o=cmJ n D1 r r2 v w k b→Still D1→D1.n=n→D1.life=D.life→(1≤w∧w≤1099511627776)→k+(yBw b).length≤yA7 n→
  KJ W 87 K [(0,zPp s),(1,.slice xa os.length xc),(5,strV b),(7,zi (v:Nat))] ([A,lsP opC 58 3 (.slice xa os.length xc) os,stP s d q n (w:Nat) (zq g) D.life false,DiskP d D1,tbP q a tb,arP M,yPX g d n w k D.life]++R))
 ·intro rest;by_cases ak:u+(yBw b).length≤yA7 n
  ·rw [if_pos ak] at hO;rw [show decide (0≤(b.length:Int)∧yBQ b.length≤(yA7 n:Nat)-(u:Nat))=true from zY ⟨zO,zO⟩] at iV;have bR:=fun xa xc M hM=>rest xa xc M D v u g0 hM hO aj hn rfl hv ak;repeat' (first|refine yAE (id:=18) ?_;exact KJ.weak (bR xa xc M hM) xB (xN)|refine xca (gE _ _) fun M=>?_;obtain ⟨M,hM⟩:=M;dsimp only at hM ⊢|refine xca (bV _ _) fun _=>?_|refine xca cq fun x=>?_;obtain ⟨xa,xc⟩:=x|refine xqa ?_|refine xsf ?_ ?_|intro _)
  rw [if_neg ak] at hO;rw [show decide (0≤(b.length:Int)∧yBQ b.length≤(yA7 n:Nat)-(u:Nat))=false from zZ (fun h=>by omega)] at iV;by_cases hw:1099511627776≤v
  ·rw [if_pos hw] at hO;subst hO;have fo:=fun (M:List Nd)=>yLe (W:=W) (F:=F) (s:=s) (d:=d) (q:=q) (n:=n) (D:=D) (N:=M) (a:=a) (b:=tb) aq (v:Nat) zO (zq g0) D.life false;repeat' (first|(refine yAb ?_;first|refine xca (fo M) fun _=>?_|refine xca (gE _ _) fun M=>?_;obtain ⟨M,hM⟩:=M;dsimp only at hM ⊢|refine xca (bV _ _) fun _=>?_|refine xca cq fun x=>?_;obtain ⟨xa,xc⟩:=x)|refine xqa ?_|refine xsf ?_ ?_|intro _)
   all_goals (exact xdn (⟨(M,a,tb),hM,hT.mono hM⟩,g0))
  rw [if_neg hw] at hO;have fw:=yC7 aj hn h1 zO v zO r ah;have fo:=fun (M:List Nd) (hM:TbOk M a r)=>yLd (W:=W) (F:=F) (s:=s) (d:=d) (q:=q) (b:=tb) (D:=D) (r:=r) ay hN h1 zO aj hn v zO (zq g0) D.life hM ah;have jG:=fw.nn;have gC:=fw.life;rcases fw.way with ⟨z0,zs⟩|⟨z0,zo⟩
  ·rw [if_pos z0] at hO;have fo0:=fun M hM=>(fo M hM).2 z0;simp only [gC] at fo0;have bR:=fun xa xc M hM g=>rest xa xc M (yCk D n v r) (v+1) 0 g hM hO zs jG gC zO zO;obtain ⟨D2,aF⟩:∃ D2,D2=yCk D n v r:=⟨_,rfl⟩;simp only [← aF] at bR fo0;repeat' (first|refine yAE (id:=18) ?_;exact KJ.weak (bR xa xc M hM g2) xB (xN)|(refine yAb ?_;first|refine xca (fo0 M (hT.mono hM)) fun g2=>?_|refine xca (gE _ _) fun M=>?_;obtain ⟨M,hM⟩:=M;dsimp only at hM ⊢|refine xca (bV _ _) fun _=>?_|refine xca cq fun x=>?_;obtain ⟨xa,xc⟩:=x)|refine xqa ?_|refine xsf ?_ ?_|intro _)
  ·rw [if_neg zO] at hO;have fo2:=fun M hM=>(fo M hM).1 z0;obtain ⟨D2,aF⟩:∃ D2,D2=yCk D n v r:=⟨_,rfl⟩;simp only [← aF] at fo2;rw [← aF] at hO;subst hO;repeat' (first|(refine yAb ?_;first|refine xca (fo2 M (hT.mono hM)) fun _=>?_|refine xca (gE _ _) fun M=>?_;obtain ⟨M,hM⟩:=M;dsimp only at hM ⊢|refine xca (bV _ _) fun _=>?_|refine xca cq fun x=>?_;obtain ⟨xa,xc⟩:=x)|refine xqa ?_|refine xsf ?_ ?_|intro _)
   all_goals refine KJ.noP ?_
   all_goals (exact xdn (⟨(M,a,tb),hM,hT.mono hM⟩,g0))
 intro xa xc M D1 w k g hM hJ bM cN hl1 hw hk;obtain ⟨iy,-⟩:=yJK (D0:=D) bM cN hl1 h1 zO hr bJ ah zO v w k hv hw b hk hJ;have kH:yBi D1 D.life false=false:=by unfold yBi;rw [bM.on,hl1];simp
 obtain ⟨way,life,und,ok,nn,-⟩:=yIt bM cN h1 w k b hk;have cap:=yKi (W:=W) (p:=d) (g:=g) (D:=D1) ay fX hN (yAN n:Nat) (yA7 n:Nat) D.life w k b zO kH ⟨zO,zO⟩ zO dG zO ⟨zO,zO⟩ hw (by rw [bM.und];simp);have db:((k:Nat):Int)+yBQ b.length=((k+(yBw b).length:Nat):Int):=zO;have bt:=fun h=>yPW (W:=W) (p:=d) (g:=g) (D:=(yBU (yAN n:Nat) w k (yBw b) 0 D1).2) ay (yAN n:Nat) (yA7 n:Nat) (w:Nat) ((k+(yBw b).length:Nat):Int) D.life h zO;have cb:=bP M hM xa xc;have up:(yBU (yAN n:Nat) w k (yBw b) 0 D1).1=true→yBi (yBU (yAN n:Nat) w k (yBw b) 0 D1).2 D.life false=false:=fun y1=>by
  rcases way with ⟨-,z,-⟩|⟨-,z,-⟩|⟨z,-⟩
  ·unfold yBi;rw [z,life,hl1];simp
  ·unfold yBi;rw [z,life,hl1];simp
  ·rw [y1] at z;cases z
 clear hO hJ way life und ok nn;rcases iy with ⟨y1,y3,hh⟩|⟨y1,y3,hh⟩|⟨y1,hh⟩
 ·have bt:=bt (up y1);clear up;rw [y1] at cap;rw [y3] at bt;simp only [if_true,Bool.not_true,db] at cap;simp only [if_true] at bt;subst hh;obtain ⟨D3,d9⟩:∃ D3,D3=(yBU (yAN n:Nat) w k (yBw b) 0 D1).2:=⟨_,rfl⟩;rw [← d9] at cap bt ⊢;repeat' (first|refine xca cb fun y=>?_;obtain ⟨⟨M2,a2,b2⟩,gM,be⟩:=y;dsimp only at gM be ⊢|refine xca bt fun _=>?_|refine xst ?_|refine xsf ?_ ?_|intro _)
  all_goals (exact xdn (⟨(M2,a2,b2),fun y hy=>gM y (hM y hy),by rw [aN];exact be⟩,g))
 ·have bt:=bt (up y1);clear up;rw [y1] at cap;rw [y3] at bt;simp only [if_true,Bool.not_true,db] at cap;rw [if_neg (by omega:¬ (12:Nat)=0)] at bt;subst hh;obtain ⟨D3,d9⟩:∃ D3,D3=(yBU (yAN n:Nat) w k (yBw b) 0 D1).2:=⟨_,rfl⟩;rw [← d9] at cap bt ⊢;repeat' (first|refine xca bt fun _=>?_|refine xqa ?_|refine xsf ?_ ?_|intro _)
  all_goals refine KJ.noP ?_
  all_goals (exact xdn (⟨(M,a,tb),hM,hT.mono hM⟩,g))
 ·clear up;rw [y1] at cap;rw [if_neg (by simp:¬ (false=true)),if_neg (by simp:¬ (false=true))] at cap;subst hh;obtain ⟨D3,d9⟩:∃ D3,D3=(yBU (yAN n:Nat) w k (yBw b) 0 D1).2:=⟨_,rfl⟩;rw [← d9] at cap ⊢;repeat' (first|refine xqa ?_|refine xsf ?_ ?_|intro _)
  all_goals refine KJ.noP ?_
  all_goals (exact xdn (⟨(M,a,tb),hM,hT.mono hM⟩,g))
end
section
variable {W:World} {F:Nat→Addr} {n m s:Nat} {r:Rows}
theorem yON {d q g v:Nat} {D D2:Dsk} {N:List Nd} {a:Option Addr} {b:Int} (aj:Still D) (dR:CtU prog W 51 [zPp s] [stP s d q n (v:Nat) (zq g) D.life false,DiskP d D,tbP q a b,arP N] (yAy F 12) [stP s d q n (v:Nat) (zq g) D.life true,DiskP d D2,tbP q a b,arP N]) :CtU prog W 33 [zPp s] [stP s d q n (v:Nat) (zq g) D.life false,DiskP d D,tbP q a b,arP N] (yAy F 12) [stP s d q n (v:Nat) (zq g) D.life true,DiskP d D2,tbP q a b,arP N]:=by
 have bz:yBi D D.life false=false:=by unfold yBi;rw [aj.on];simp
 have j0:=yKK (W:=W) (s:=s) (d:=d) (q:=q) (n:=n) (v:Nat) (zq g) D.life bz;refine zE func33 ntmps33 fun R=>?_;repeat' (first|refine xca dR fun x=>?_|refine xst ?_|refine xsf ?_ ?_|exact xdn ()|intro _)
theorem yOO {d q g v:Nat} {D D2:Dsk} {N:List Nd} {a:Option Addr} {b:Int} (aj:Still D) (dR:Ct prog W 51 [zPp s] [stP s d q n (v:Nat) (zq g) D.life false,DiskP d D,tbP q a b,arP N] (fun _:Nat=>.nilIface) (fun g2=>[stP s d q n ((v+1:Nat):Int) (zq g2) D.life false,DiskP d D2,tbP q a b,arP N,yWv g2 d n (v+1) D2.life])) :Ct prog W 33 [zPp s] [stP s d q n (v:Nat) (zq g) D.life false,DiskP d D,tbP q a b,arP N] (fun _:Nat=>.nilIface) (fun g2=>[stP s d q n ((v+1:Nat):Int) (zq g2) D.life false,DiskP d D2,tbP q a b,arP N,yWv g2 d n (v+1) D2.life]):=by
 have bz:yBi D D.life false=false:=by unfold yBi;rw [aj.on];simp
 have j0:=yKK (W:=W) (s:=s) (d:=d) (q:=q) (n:=n) (v:Nat) (zq g) D.life bz;refine zE func33 ntmps33 fun R=>?_;repeat' (first|refine xca dR fun x=>?_|refine xst ?_|refine xsf ?_ ?_|intro _)
 all_goals (exact xdn x)
end
inductive PyX where
 |no (D:Dsk)
 |live (D:Dsk) (s q gj t rj:Nat) (N:List Nd) (a:Option Addr) (b:Int) (r:Rows) (ra:Option Addr) (rc v used:Nat)
 |gone (D:Dsk) (s q t:Nat) (N:List Nd) (a:Option Addr) (b:Int) (r:Rows) (ra:Option Addr) (rc v:Nat) (life:Int) (dead:Bool) (lg dj:Option Addr)
def PyX.D:PyX→Dsk
 |.no D=>D
 |.live D ..=>D
 |.gone D ..=>D
def PyX.s:PyX→Option Addr
 |.no _=>none
 |.live _ s ..=>some ⟨s,0,none⟩
 |.gone _ s ..=>some ⟨s,0,none⟩
def PyX.t:PyX→Option Addr
 |.no _=>none
 |.live _ _ _ _ t ..=>some ⟨t,0,none⟩
 |.gone _ _ _ t ..=>some ⟨t,0,none⟩
abbrev yOP (n d p s q t:Nat) (N:List Nd) (a:Option Addr) (b:Int) (r:Rows) (ra:Option Addr) (rc v:Nat) (life:Int) (dead:Bool) (lg dj:Option Addr):List SP:=
 [stP s d q n (v:Nat) lg life dead,tbP q a b,arP N,rsP t p n ra r.length rc (v:Nat) dj life dead,yAO (ra,rc) r]
def pyR (n d p:Nat):PyX→List SP
 |.no _=>[]
 |.live D s q gj t rj N a b r ra rc v used=>yOP n d p s q t N a b r ra rc v D.life false (zq gj) (zq rj)++[yPX gj d n v used D.life,rjP rj p n v used false D.life]
 |.gone _ s q t N a b r ra rc v life dead lg dj=>yOP n d p s q t N a b r ra rc v life dead lg dj
structure DkOk (n i:Nat) (D:Dsk):Prop where
 ok:D.ok
 nn:D.n=n
 und:D.und.length≤65536
 way:D.off=true∨Still D
 life:0≤D.life∧D.life≤i
structure HeldOk (n:Nat) (N:List Nd) (a:Option Addr) (r:Rows) (v:Nat):Prop where
 h1:64≤n
 tab:TbOk N a r
 ris:RisR r
 room:(yAk r).length≤234*yAA n
 v1:1≤v∧v≤1099511627776
def PyOk (n i:Nat):PyX→Prop
 |.no D=>DkOk n i D
 |.live D _ _ _ _ _ N a _ r _ _ v used=>DkOk n i D∧HeldOk n N a r v∧Still D∧used≤yA7 n
 |.gone D _ _ _ N a _ r _ _ v life dead _ _=>DkOk n i D∧HeldOk n N a r v∧yBi D life dead=true∧life≤D.life
theorem PyOk.disk {n i:Nat} {x:PyX} (h:PyOk n i x):DkOk n i x.D:=by
 cases x with
 |no D=>exact h
 |live=>exact h.1
 |gone=>exact h.1
theorem DkOk.mono {n i j:Nat} {D:Dsk} (h:DkOk n i D) (hi:i≤j):DkOk n j D:=⟨h.ok,h.nn,h.und,h.way,h.life.1,by have:=h.life.2;omega⟩
theorem PyOk.mono {n i j:Nat} {x:PyX} (h:PyOk n i x) (hi:i≤j):PyOk n j x:=by
 cases x with
 |no D=>exact DkOk.mono h hi
 |live=>exact ⟨h.1.mono hi,h.2⟩
 |gone=>exact ⟨h.1.mono hi,h.2⟩
abbrev pyL (n g d p:Nat) (x:PyX):List SP:=[yDx 96 (pyR n d p x),yBK g d p x.s x.t,DiskP d x.D,yA1 p x.D]
def PyP (n g d p i:Nat):SP:=yHl 96 g (fun x:{x:PyX//PyOk n i x}=>pyL n g d p x.1)
theorem yYh {n g d p i:Nat} {x:PyX} (hx:PyOk n i x) {R:List SP}:∀ h,yAH (pyR n d p x++([yBK g d p x.s x.t,DiskP d x.D,yA1 p x.D]++R)) h→yAH (PyP n g d p i::R) h:=fun h q=>
 yDP (F:=fun x:{x:PyX//PyOk n i x}=>pyL n g d p x.1) ⟨x,hx⟩ h (yCn (key:=96) (L:=pyR n d p x) q)
theorem xCn {P:Program} {W:World} {f:FuncId} {args:List Value} {v:Value} {n g d p i j:Nat} (h:∀ x,PyOk n i x→∃ (X:Type) (y:X→{y:PyX//PyOk n j y}),Ct P W f args (pyR n d p x++[yBK g d p x.s x.t,DiskP d x.D,yA1 p x.D]) (fun _:X=>v) (fun z=>pyR n d p (y z).1++[yBK g d p (y z).1.s (y z).1.t,DiskP d (y z).1.D,yA1 p (y z).1.D])) :CtU P W f args [PyP n g d p i] v [PyP n g d p j]:=by
 refine yJ6 (Hs:=[]) fun ⟨x,hx⟩=>?_;obtain ⟨X,y,c⟩:=h x hx;refine (c.conv (A':=pyL n g d p x++[]) (fun R q s=>?_) (fun _ _ _ q=>q)).to (fun _=>()) (fun _=>rfl) (fun z R q s=>?_)
 ·have:=yCf (L:=pyR n d p x) (H:=[yBK g d p x.s x.t,DiskP d x.D,yA1 p x.D]++R) s;rw [zLd];exact this
 ·rw [zLd] at s;exact yYh (R:=R) (y z).2 q s
theorem yYi {D:Dsk} {n i:Nat} (h:DkOk n i D) (hi:i≤4000000):w64 (D.life+1)=D.life+1:=by have:=h.life;unfold w64 Go.RowKit.wrap64;omega
theorem DkOk.arm {n i:Nat} {D:Dsk} (h:DkOk n i D) (k:Int) (hk:k≤9223372036854775807):DkOk n i (D.arm k):=by
 refine ⟨Dsk.arm_ok h.ok k hk,h.nn,h.und,?_,h.life⟩;rcases h.way with q|q
 ·exact .inl q
 ·exact .inr (yN0 q k hk)
theorem DkOk.crash {n i:Nat} {D:Dsk} (h:DkOk n i D) (hi:i≤4000000) (kept:List Bool) (torn bytes:Int):DkOk n (i+1) (D.crash kept torn bytes)∧(D.crash kept torn bytes).life=D.life+1∧Still (D.crash kept torn bytes):=by have am:=Dsk.crash_ok h.ok kept torn bytes;have hl:(D.crash kept torn bytes).life=D.life+1:=yYi h hi;have hs:Still (D.crash kept torn bytes):=⟨rfl,rfl,am⟩;exact ⟨⟨am,h.nn,zLA _,.inr hs,by have:=h.life;omega⟩,hl,hs⟩
theorem yMa {D D2:Dsk} {life:Int} {dead:Bool} (hl:life≤D.life) (h2:D2.life=D.life+1):yBi D2 life dead=true:=by unfold yBi;have:D2.life≠life:=zO;simp [this]
end Go.Proofs.YtoipmnikdiogcaaGreatDoor
