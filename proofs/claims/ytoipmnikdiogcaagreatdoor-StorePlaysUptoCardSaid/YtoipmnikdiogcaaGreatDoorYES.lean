/-
  StP5, StWB, StWC, TxC, TxP3, TxL0, TxL1.
-/
import Derived.Test.YtoipmnikdiogcaaGreatDoorYEL
set_option maxRecDepth 100000
set_option maxHeartbeats 64000000
namespace Go.Proofs.YtoipmnikdiogcaaGreatDoor
open Go Go.RowKit
open Go.Proofs.Tryz
theorem yIc {D:Dsk} (h:yLr D) (i:Int) (s:zB):(D.writeD i s).flushes=D.flushes:=by
 have h1:yLr ({ D with und:=D.und++[(i.toNat,s)] }:Dsk):=h;unfold Dsk.writeD;simp only [yHR h1];repeat' split
 all_goals rfl
theorem yId {D:Dsk} (h:yLr D):D.flushD.flushes=w64 (D.flushes+1):=by unfold Dsk.flushD;rw [if_neg (by rw [h.1];simp),if_neg (by rw [yE1 h];simp)]
theorem xC7 (at_:Int) (ver used:Nat):∀ (ps:List zB) (i:Nat) (D:Dsk),yLr D→(yBU at_ ver used ps i D).2.flushes=D.flushes:=by
 intro ps
 induction ps with
 |nil=>intro i D _;rfl
 |cons p ps ih=>
  intro i D h;unfold yBU;split
  ·exact yIc h _ _
  ·rw [ih _ _ (yFv h _ _).1,yIc h]
theorem xC8 (at_ aa:Int):∀ (f:Nat) (D:Dsk) (i:Int) (v:zB),yLr D→(yDv at_ aa f D i v).1=0→(yDv at_ aa f D i v).2.flushes=w64 (D.flushes+1):=by
 intro f
 induction f with
 |zero=>intro D i v h _;exact yId h
 |succ f ih=>
  intro D i v h h0;unfold yDv at h0 ⊢;by_cases hv:v=[]
  ·rw [if_pos hv];exact yId h
  ·rw [if_neg hv] at h0 ⊢;by_cases hw:D.writeE (at_+i) (yAF aa (v.take 234))≠0
   ·rw [if_pos hw] at h0;exact absurd h0 hw
   ·rw [if_neg hw] at h0 ⊢;rw [ih _ _ _ (yFv h _ _).1 h0,yIc h]
theorem xAc {D:Dsk} (h:yLr D) (a n s:Int) (v:zB) (h0:(yBF D a n s v).1=0):(yBF D a n s v).2.flushes=w64 (D.flushes+1):=by
 unfold yBF at h0 ⊢;by_cases h1:D.mayB a n=false
 ·rw [if_pos h1] at h0;cases h0
 rw [if_neg h1] at h0 ⊢;by_cases h2:s=0
 ·rw [if_pos h2] at h0;cases h0
 rw [if_neg h2] at h0 ⊢;by_cases h3:yCI n<(v.length:Int)
 ·rw [if_pos h3] at h0;cases h0
 rw [if_neg h3] at h0 ⊢;have h4:¬ (D.off=true):=by rw [h.1];simp
 rw [if_neg h4] at h0 ⊢;exact xC8 _ _ _ _ _ _ h h0
theorem xAd {D:Dsk} (h:yLr D) (a v:Int) (s:zB) (h0:yB1 D a v s=0):(yBB D a v s).flushes=w64 (D.flushes+1):=by
 unfold yB1 at h0;unfold yBB;by_cases h1:yCQ D a v=false
 ·rw [if_pos h1] at h0;cases h0
 rw [if_neg h1] at h0 ⊢;by_cases h2:234<s.length
 ·rw [if_pos h2] at h0;cases h0
 rw [if_neg h2] at h0 ⊢;by_cases h3:D.writeE (a+v % 2) (yAF v s)≠0
 ·rw [if_pos h3] at h0;exact absurd h0 h3
 rw [if_neg h3];have hc:yLr (yDq D a v s):=(yFv h _ _).1;rw [yId hc];have e:(yDq D a v s).flushes=D.flushes:=yIc h _ _;rw [e]
theorem RdyS.log_fl {n v used:Nat} {D:Dsk} (h:RdyS n v D) (rc:zB):(yYV D n v used rc).flushes=w64 (D.flushes+1):=by unfold yYV;rw [yId (yQ5 _ _ _ _ _ _ h.rest.calm),xC7 _ _ _ _ _ _ h.rest.calm]
theorem RdyS.fold_fl {n v:Nat} {D:Dsk} (h:RdyS n v D) (r:Rows) (h1:64≤n) (h2:n≤65536) (hv:v+1≤1099511627776) (hr:(yAk r).length≤234*yAA n) :(yFG D n (v+1) r).flushes=w64 (w64 (D.flushes+1)+1):=by
 obtain ⟨f1,f2,f3,f4⟩:=yBf h1 (v+1);have hn:=h.nn;have hA:yAA n≤65536:=by unfold yAA;omega
 obtain ⟨a1,a2,a3,-,-,-⟩:=yKD h.rest (yAG n (v+1)) (yAA n) (v+1) (yAk r) zO zO hr zO;have e1:(yDt D n (v+1) r).flushes=w64 (D.flushes+1):=xAc h.rest.calm _ _ _ _ a1;have hh:(yBJ n (yAk r).length).length≤234:=Nat.le_trans (yDc _ _) zO;obtain ⟨b1,-,-,-,-⟩:=yGE (a:=0) (v:=v+1) a2 (s:=yBJ n (yAk r).length) zO zO hv hh;have e2:=xAd (D:=(yBF D (yAG n (v+1)) (yAA n) ((v+1:Nat):Int) (yAk r)).2) a2.calm _ _ _ b1;show (yBB (yDt D n (v+1) r) ((0:Nat):Int) ((v+1:Nat):Int) (yBJ n (yAk r).length)).flushes=_;rw [← e1];exact e2
structure StH where
 d:Nat
 q:Nat
 g:Nat
 v:Nat
 used:Nat
 D:Dsk
 N:List Nd
 a:Option Addr
 b:Int
structure StI (n m:Nat) (r:Rows) (x:StH):Prop where
 rdy:RdyS n x.v x.D
 v1:1≤x.v
 vm:x.v≤m
 used:x.used≤yA7 n
 tab:TbOk x.N x.a r
 room:(yAk r).length≤234*yAA n
abbrev stL (s n:Nat) (x:StH):List SP:=[stP s x.d x.q n (x.v:Nat) (some ⟨x.g,0,none⟩) x.D.life false,DiskP x.d x.D,tbP x.q x.a x.b,arP x.N,yPX x.g x.d n x.v x.used x.D.life]
structure StGo (x y:StH) (did:Bool):Prop where
 d:y.d=x.d
 sub:∀ z ∈ x.N,z ∈ y.N
 go:did=true→∃ k:Nat,k≤1∧y.v=x.v+k∧y.D.flushes=w64 (x.D.flushes+(1+2*(k:Nat)))
 no:did=false→y.v=x.v∧y.D=x.D
section
variable {W:World} {F:Nat→Addr} {r:Rows} {s n m:Nat}
theorem yPY (ay:ErrsOn L8 W F) (fX:W.cell? ⟨4,0,none⟩=some (yAy F 17)) (hN:NibAt W) (h1:64≤n) (h2:n≤65536) (x:StH) (hI:StI n m r x) (hm:m+1≤1099511627776) (A:SP) (oa:Option Addr) (oc:Nat) (ops:List BOp) (hL:Lv W opC 3 A oa ops) (ho:ops.length≤100000000) (ao:yAR ops≠[]) (hl:r.length≤100000000) (rc:zB) (hrc:rc=yBx (yAR ops)) (bu:rc.length≤1048576) (hlg:(rc.length:Int)≤yA2 (yA7 n:Nat)) (ak:¬ (x.used+(yBw rc).length≤yA7 n)) (ah:(yAk (yAP r (yAR ops))).length≤234*yAA n) :Ct prog W 20 [zPp s,.slice oa ops.length oc] (A::stL s n x) (fun _:{y:StH//StI n (m+1) (yAP r (yAR ops)) y∧StGo x y true}=>.nilIface) (fun y=>A::stL s n y.1):=by
 obtain ⟨d,q,g,v,used,D,N,a,b⟩:=x;obtain ⟨hR,v1,vm,d4,hT,jH⟩:=hI;dsimp only at hR v1 vm d4 hT jH ak ⊢;obtain ⟨f1,f2,f3,f4⟩:=yBf h1 v;have hA:=yBr h2;have cP:1≤yA7 n:=by unfold yA7 yAA;omega
 have bz:yBi D D.life false=false:=by unfold yBi;rw [hR.rest.calm.1];simp
 obtain ⟨k1,k2,k3,k4,k5,k6,k7⟩:=hR.fold r h1 h2 zO jH;have fp:(yYV (yFG D n (v+1) r) n (v+1) 0 rc).flushes=w64 (D.flushes+(1+2*((1:Nat):Int))):=by rw [k3.log_fl,hR.fold_fl r h1 h2 zO jH];unfold w64 Go.RowKit.wrap64;omega
 have bk:=yB2 rc;have dS:=yGQ cP zO hlg;have hz:0+(yBw rc).length≤yA7 n:=zO;obtain ⟨w1,w2⟩:=k3.log h1 rc hz;have jb:=k3.nn;obtain ⟨p1,p2,p3,p4,p5,p6,-,-,-,-⟩:=yPU k3.rest (at_:=yAN n) (v:=v+1) (used:=0) (yIH rc) zO;have j0:=yKK (W:=W) (s:=s) (d:=d) (q:=q) (n:=n) (v:Nat) (zq g) D.life bz;have cq:=yGP (W:=W) A oa oc ops hL zO;have dJ:(yAR ops).length≤ops.length:=yKF ops;have dF:=yGo ops;obtain ⟨os,cQ⟩:∃ os,os=yAR ops:=⟨_,rfl⟩;rw [← cQ] at cq dJ ao dF hrc ah ⊢;rw [← hrc] at dF;have aA:∀ xa xc,Lv W opC 3 (lsP opC 58 3 (.slice xa os.length xc) os) xa os:=fun xa xc=>Lv.own yAY rfl;have bV:=fun xa xc=>yGO (W:=W) (F:=F) _ xa xc os (aA xa xc) (by rw [← hrc];omega) zO (fun h=>by rw [dF] at h;cases h) (fun h=>by rw [dF] at h;cases h);rw [dF] at bV;have clg:=yEv (W:=W) (s:=s) (d:=d) (q:=q) (n:=n) (v:Nat) (zq g) D.life false h2;have bL:=yCw (W:=W) (s:=s) (d:=d) (q:=q) (n:=n) (v:Nat) (zq g) D.life false h2;have gE:=fun xa xc=>yGn (W:=W) (s:=s) (d:=d) (q:=q) (n:=n) (b:=b) (v:Nat) (zq g) D.life false hT _ xa xc os (aA xa xc) zO zO;have iV:=yMT (W:=W) (p:=d) (g:=g) (yAN n:Nat) (yA7 n:Nat) (v:Nat) (used:Nat) D.life false rc.length zO ⟨zO,zO⟩ ⟨zO,zO⟩;rw [show decide (0≤(rc.length:Int)∧yBQ rc.length≤(yA7 n:Nat)-(used:Nat))=false from zZ zO] at iV;have eG:=fun (N:List Nd) (hT:TbOk N a r)=>yH9 (W:=W) (s:=s) (d:=d) (q:=q) (b:=b) (D:=D) ay hN h1 h2 v zO (zq g) D.life false hT hR.nn jH (by rw [hR.rest.und];simp) k1 k5 k6 k2 k7 jb;obtain ⟨D2,aF⟩:∃ D2,D2=yFG D n (v+1) r:=⟨_,rfl⟩;rw [← aF] at k3 k4 w1 w2 jb p1 p2 p3 p4 p5 p6 fp;have cap:=fun g2=>yKi (W:=W) (p:=d) (g:=g2) (D:=D2) ay fX hN (yAN n:Nat) (yA7 n:Nat) D2.life (v+1) 0 rc zO (by unfold yBi;rw [k3.rest.calm.1];simp) ⟨zO,zO⟩ zO bu zO ⟨zO,zO⟩ ⟨zO,zO⟩ (by rw [k3.rest.und];simp);rw [p1] at cap;have db:((0:Nat):Int)+yBQ rc.length=(((yBw rc).length:Nat):Int):=zO;simp only [if_true,Bool.not_true,db] at cap;have bt:=fun g2=>yPW (W:=W) (p:=d) (g:=g2) (D:=(yBU (yAN n:Nat) (v+1) 0 (yBw rc) 0 D2).2) ay (yAN n:Nat) (yA7 n:Nat) ((v+1:Nat):Int) (((yBw rc).length:Nat):Int) D2.life (by unfold yBi;rw [p2,p3];simp) (by rw [p4];omega);rw [p6] at bt;simp only [if_true] at bt;have bg:(yBU (yAN n:Nat) (v+1) 0 (yBw rc) 0 D2).2.flushD=yYV D2 n (v+1) 0 rc:=rfl;rw [bg] at bt;obtain ⟨D3,d9⟩:∃ D3,D3=yYV D2 n (v+1) 0 rc:=⟨_,rfl⟩;rw [← d9] at w1 w2 bt fp;obtain ⟨D1,aL⟩:∃ D1,D1=(yBU (yAN n:Nat) (v+1) 0 (yBw rc) 0 D2).2:=⟨_,rfl⟩;rw [← aL] at cap bt;rw [k4] at w2
 have cfo2:∀ (N:List Nd) (hT:TbOk N a r),Ct prog W 51 [zPp s] [stP s d q n (v:Nat) (zq g) D.life false,DiskP d D,tbP q a b,arP N] (fun _:Nat=>.nilIface)
  (fun g2=>[stP s d q n ((v+1:Nat):Int) (zq g2) D.life false,DiskP d D2,tbP q a b,arP N,yPX g2 d n (v+1) 0 D2.life]):=fun N hT=>by
  have:=eG N hT;rw [← aF] at this;exact this
 have bP:=fun (M:List Nd) (hM:∀ y ∈ N,y ∈ M) xa xc=>yC4 (W:=W) (p:=q) (tb:=b) (hT.mono hM) _ xa xc os (aA xa xc) zO;have q0:decide (((os.length:Nat):Int)=0)=false:=zZ (by have:=zLv.2 ao;omega)
 have q1:decide (yA2 (yA7 n:Nat)<(rc.length:Nat))=false:=zZ zO;have q2:decide (((234*yAA n:Nat):Int)<((yAk (yAP r os)).length:Nat))=false:=zZ zO;have cX:∀ (M:List Nd) (a2:Option Addr) (b2:Int) (g2:Nat),(∀ z ∈ N,z ∈ M)→TbOk M a2 (yAP r os)→StI n (m+1) (yAP r os) ⟨d,q,g2,v+1,(yBw rc).length,D3,M,a2,b2⟩∧StGo ⟨d,q,g,v,used,D,N,a,b⟩ ⟨d,q,g2,v+1,(yBw rc).length,D3,M,a2,b2⟩ true:=fun M a2 b2 g2 hs h=>⟨⟨w1,by dsimp only;omega,by dsimp only;omega,by dsimp only;omega,h,ah⟩,⟨rfl,hs,fun _=>⟨1,Nat.le_refl _,rfl,fp⟩,fun h0=>by cases h0⟩⟩;clear p1 p2 p3 p4 p5 p6 aL d9 aF db k1 k2 k5 k6 k7 eG;have d7:D3.life=D.life:=w2;rw [k4] at cap bt cfo2;refine zE func20 ntmps20 fun R=>?_;repeat' (first|(refine yAb ?_;first|refine xca (bP M hM _ _) fun y=>?_;obtain ⟨⟨M2,a2,b2⟩,gM,be⟩:=y;dsimp only at gM be ⊢|refine xca (bt _) fun _=>?_|refine xca (cap _) fun _=>?_|refine xca (cfo2 M (hT.mono hM)) fun g2=>?_|refine xca (gE _ _) fun M=>?_;obtain ⟨M,hM⟩:=M;dsimp only at hM ⊢|refine xca (bV _ _) fun _=>?_|refine xca cq fun x=>?_;obtain ⟨xa,xc⟩:=x)|refine xqa ?_|refine xsf ?_ ?_|intro _)
 all_goals exact xdn ⟨⟨d,q,g2,v+1,(yBw rc).length,D3,M2,a2,b2⟩,cX M2 a2 b2 g2 (fun z hz=>gM z (hM z hz)) be⟩ (hE:=by unfold stL;dsimp only;rw [d7];exact (xN))
end
section
variable {W:World} {F:Nat→Addr} {r:Rows} {s n m:Nat}
theorem yPZ (hE:ErrsOn L16 W F) (h1:64≤n) (h2:n≤65536) (x:StH) (hI:StI n m r x) (A:SP) (oa:Option Addr) (oc:Nat) (ops:List BOp) (hL:Lv W opC 3 A oa ops) (ho:ops.length≤100000000) (hl:r.length≤100000000) (hb:(yBx (yAR ops)).length≤100000000000000) (f9:(yAk (yAP r (yAR ops))).length≤4611686018427387904) (bX:yAR ops=[]∨yE6 n r ops≠0) :Ct prog W 20 [zPp s,.slice oa ops.length oc] (A::stL s n x) (fun _:{y:StH//StI n m r y∧StGo x y false}=>yAy F (yE6 n r ops)) (fun y=>A::stL s n y.1):=by
 obtain ⟨d,q,g,v,used,D,N,a,b⟩:=x;have hI0:=hI;obtain ⟨hR,v1,vm,d4,hT,jH⟩:=hI;dsimp only at hR v1 vm d4 hT jH ⊢;have hA:=yBr h2;have cP:1≤yA7 n∧yA7 n≤65536:=by unfold yA7 yAA;omega
 have bz:yBi D D.life false=false:=by unfold yBi;rw [hR.rest.calm.1];simp
 have fX:W.cell? ⟨4,0,none⟩=some (yAy F 17):=hE.at_ 17 zX;have e18:W.cell? ⟨5,0,none⟩=some (yAy F 18):=hE.at_ 18 zX;have j0:=yKK (W:=W) (s:=s) (d:=d) (q:=q) (n:=n) (v:Nat) (zq g) D.life bz;have cq:=yGP (W:=W) A oa oc ops hL zO;have dJ:(yAR ops).length≤ops.length:=yKF ops;have dF:=yGo ops;have aX:yE6 n r ops=if yAR ops=[] then 0 else if yA2 (yA7 n:Nat)<((yBx (yAR ops)).length:Nat) then 18 else if 234*yAA n<(yAk (yAP r (yAR ops))).length then 17 else 0:=rfl
 obtain ⟨os,cQ⟩:∃ os,os=yAR ops:=⟨_,rfl⟩;obtain ⟨ce,fm⟩:∃ e,e=yE6 n r ops:=⟨_,rfl⟩;rw [← cQ] at cq dJ dF aX hb f9 bX;rw [← fm] at aX bX ⊢;obtain ⟨rc,hrc⟩:∃ rc,rc=yBx os:=⟨_,rfl⟩;rw [← hrc] at dF aX hb;have aA:∀ xa xc,Lv W opC 3 (lsP opC 58 3 (.slice xa os.length xc) os) xa os:=fun xa xc=>Lv.own yAY rfl;have bV:=fun xa xc=>yGO (W:=W) (F:=F) _ xa xc os (aA xa xc) (by rw [← hrc];omega) zO (fun h=>by rw [dF] at h;cases h) (fun h=>by rw [dF] at h;cases h);rw [dF] at bV;have clg:=yEv (W:=W) (s:=s) (d:=d) (q:=q) (n:=n) (v:Nat) (zq g) D.life false h2;have bL:=yCw (W:=W) (s:=s) (d:=d) (q:=q) (n:=n) (v:Nat) (zq g) D.life false h2;have gE:=fun xa xc=>yGn (W:=W) (s:=s) (d:=d) (q:=q) (n:=n) (b:=b) (v:Nat) (zq g) D.life false hT _ xa xc os (aA xa xc) zO f9;by_cases hz:os=[]
 ·rw [if_pos hz] at aX;have q0:decide (((os.length:Nat):Int)=0)=true:=zY (by rw [hz];rfl);rw [aX];show Ct prog W 20 _ _ (fun _:{y:StH//StI n m r y∧StGo ⟨d,q,g,v,used,D,N,a,b⟩ y false}=>.nilIface) _;refine zE func20 ntmps20 fun R=>?_;repeat' (first|refine xca (bV _ _) fun _=>?_|refine xca cq fun x=>?_;obtain ⟨xa,xc⟩:=x|refine xqa ?_|refine xsf ?_ ?_|intro _)
  all_goals exact xdn ⟨⟨d,q,g,v,used,D,N,a,b⟩,hI0,⟨rfl,fun _ h=>h,(fun h0=>by cases h0),fun _=>⟨rfl,rfl⟩⟩⟩
 rw [if_neg hz] at aX;have bX:ce≠0:=by rcases bX with h|h;exact absurd h hz;exact h
 have q0:decide (((os.length:Nat):Int)=0)=false:=zZ (by have:=zLv.2 hz;omega)
 have hlv:=yFH cP.1 cP.2;by_cases hg:yA2 (yA7 n:Nat)<(rc.length:Nat)
 ·rw [if_pos hg] at aX;have q1:decide (yA2 (yA7 n:Nat)<(rc.length:Nat))=true:=zY hg;rw [aX];refine zE func20 ntmps20 fun R=>?_;repeat' (first|refine xca (bV _ _) fun _=>?_|refine xca cq fun x=>?_;obtain ⟨xa,xc⟩:=x|refine xqa ?_|refine xsf ?_ ?_|intro _)
  all_goals exact xdn ⟨⟨d,q,g,v,used,D,N,a,b⟩,hI0,⟨rfl,fun _ h=>h,(fun h0=>by cases h0),fun _=>⟨rfl,rfl⟩⟩⟩
 rw [if_neg hg] at aX;have q1:decide (yA2 (yA7 n:Nat)<(rc.length:Nat))=false:=zZ hg;by_cases hf:234*yAA n<(yAk (yAP r os)).length
 ·rw [if_pos hf] at aX;have q2:decide (((234*yAA n:Nat):Int)<((yAk (yAP r os)).length:Nat))=true:=zY zO;rw [aX];refine zE func20 ntmps20 fun R=>?_;repeat' (first|refine xca (gE _ _) fun M=>?_;obtain ⟨M,hM⟩:=M;dsimp only at hM ⊢|refine xca (bV _ _) fun _=>?_|refine xca cq fun x=>?_;obtain ⟨xa,xc⟩:=x|refine xqa ?_|refine xsf ?_ ?_|intro _)
  all_goals exact xdn ⟨⟨d,q,g,v,used,D,M,a,b⟩,⟨hR,v1,vm,d4,hT.mono hM,jH⟩,⟨rfl,hM,(fun h0=>by cases h0),fun _=>⟨rfl,rfl⟩⟩⟩
 ·rw [if_neg hf] at aX;exact absurd aX bX
def xAe (n:Nat) (r:Rows) (ops:List BOp):Bool:=decide (yAR ops≠[]∧yE6 n r ops=0)
theorem yXz (hE:ErrsOn L16 W F) (ay:ErrsOn L8 W F) (hN:NibAt W) (h1:64≤n) (h2:n≤4096) (hm:m+1≤1099511627776) (x:StH) (hx:StI n m r x) (A:SP) (oa:Option Addr) (oc:Nat) (ops:List BOp) (hL:Lv W opC 3 A oa ops) (ho:ops.length≤100000000) (hl:r.length≤100000000) (hb:(yBx (yAR ops)).length≤100000000000000) (f9:(yAk (yAP r (yAR ops))).length≤4611686018427387904) :Ct prog W 20 [zPp s,.slice oa ops.length oc] (A::stL s n x) (fun _:{y:StH//StI n (m+1) (ySx n r ops) y∧StGo x y (xAe n r ops)}=>yAy F (yE6 n r ops)) (fun y=>A::stL s n y.1):=by
 have fX:W.cell? ⟨4,0,none⟩=some (yAy F 17):=hE.at_ 17 zX;have up:∀ {r':Rows} {y:StH},StI n m r' y→StI n (m+1) r' y:=fun h=>⟨h.rdy,h.v1,Nat.le_succ_of_le h.vm,h.used,h.tab,h.room⟩;by_cases bX:yAR ops=[]∨yE6 n r ops≠0
 ·have hr:ySx n r ops=r:=by
   unfold ySx;split
   ·rename_i h0;rcases bX with h|h
    ·rw [h];rfl
    ·exact absurd h0 h
   ·rfl
  have hd:xAe n r ops=false:=zZ fun h=>bX.elim h.1 (fun h'=>h' h.2);rw [hr,hd];have:=yPZ (W:=W) (F:=F) (s:=s) hE h1 zO x hx A oa oc ops hL ho hl hb f9 bX;exact this.to (fun y=>⟨y.1,up y.2.1,y.2.2⟩) (fun _=>rfl) (fun y R g q=>q)
 ·have ao:yAR ops≠[]:=fun h=>bX (.inl h);have h0:yE6 n r ops=0:=Classical.byContradiction fun h=>bX (.inr h);have hr:ySx n r ops=yAP r (yAR ops):=if_pos h0;have hd:xAe n r ops=true:=zY ⟨ao,h0⟩;have fm:=h0;unfold yE6 at fm;rw [if_neg ao] at fm;have hlg:¬ yA2 (yA7 n:Nat)<((yBx (yAR ops)).length:Nat):=fun h=>by rw [if_pos h] at fm;cases fm
  rw [if_neg hlg] at fm;have jH:¬ 234*yAA n<(yAk (yAP r (yAR ops))).length:=fun h=>by rw [if_pos h] at fm;cases fm
  have cP:1≤yA7 n∧yA7 n≤4096:=by unfold yA7 yAA;omega
  have hlv:=yFH cP.1 (show yA7 n≤65536 by omega);rw [hr,h0,hd];show Ct prog W 20 _ _ (fun _:{y:StH//StI n (m+1) (yAP r (yAR ops)) y∧StGo x y true}=>.nilIface) _;by_cases ak:x.used+(yBw (yBx (yAR ops))).length≤yA7 n
  ·obtain ⟨d,q,g,v,used,D,N,a,b⟩:=x;obtain ⟨hR,v1,vm,d4,hT,hrm0⟩:=hx;dsimp only at hR v1 vm d4 hT hrm0 ak;obtain ⟨w1,w2⟩:=hR.log h1 _ ak;have fp:=hR.log_fl (used:=used) (yBx (yAR ops));have:=ySw (W:=W) (F:=F) (s:=s) (d:=d) (q:=q) (n:=n) (g:=g) (b:=b) ay fX hN h1 zO v used ⟨v1,zO⟩ hR.rest hR.nn hT A oa oc ops hL zO ao zO (yBx (yAR ops)) (yGo ops) zO zO zO ak zO;refine this.to (fun y=>⟨⟨d,q,g,v,used+(yBw (yBx (yAR ops))).length,yYV D n v used (yBx (yAR ops)),y.1.1,y.1.2.1,y.1.2.2⟩,⟨w1,v1,by dsimp only;omega,ak,y.2.2,zO⟩,⟨rfl,y.2.1,fun _=>⟨0,zLA _,rfl,fp⟩,fun h=>by cases h⟩⟩) (fun _=>rfl) (fun y R g' q'=>?_);unfold stL;dsimp only;rw [w2];exact q'
  ·have:=yPY (W:=W) (F:=F) (s:=s) (m:=m) ay fX hN h1 zO x hx hm A oa oc ops hL ho ao hl (yBx (yAR ops)) rfl zO zO ak zO;exact this
end
section
variable {P:Program} {W:World} {f:FuncId} {args:List Value} {X:Type} {r:X→Value}
theorem Ct.frm {Hp:List SP} {H':X→List SP} (h:Ct P W f args Hp r H') (F:List SP):Ct P W f args (Hp++F) r (fun x=>H' x++F):=
 ⟨fun R w s=>(h.go (F++R) w (by rw [← zLd];exact s)).mono fun _ _ ⟨x,he,hs⟩=>⟨x,he,by rw [zLd];exact hs⟩⟩
end
def yFi {γ:Type} (w:γ→Nat) (l:List γ):Nat:=(l.map w).sum
theorem yEw {γ:Type} (w:γ→Nat) (x:γ) (l:List γ):yFi w (x::l)=w x+yFi w l:=by unfold yFi;rw [List.map_cons,List.sum_cons]
theorem yHt {γ:Type} (w:γ→Nat) (l m:List γ):yFi w (l++m)=yFi w l+yFi w m:=by unfold yFi;rw [List.map_append,List.sum_append]
theorem yKM {γ:Type} (w:γ→Nat) (p:γ→Bool) (l:List γ):yFi w (l.filter p)≤yFi w l:=by
 induction l with
 |nil=>exact Nat.le_refl _
 |cons x l ih=>
  rw [List.filter_cons,yEw];split
  ·rw [yEw];omega
  ·omega
theorem yRb {γ:Type} (w:γ→Nat) (f:γ→zB) (l:List γ) (x:γ):yFi w (yPE f l x)=yFi w l+w x:=by
 have h:yFi w l=yFi w (l.take (atB f l (f x)))+yFi w (l.drop (atB f l (f x))):=by rw [← yHt,zLu]
 rw [yIL,yHt,yHt,yEw,h];have:yFi w ([]:List γ)=0:=rfl;omega
def yOn (p:zB × zB):Nat:=(rowB p).length
theorem yKN {γ:Type} (g:γ→zB) (l:List γ):(l.flatMap g).length=yFi (fun x=>(g x).length) l:=by
 induction l with
 |nil=>rfl
 |cons x l ih=>rw [zLr,zLa,ih,yEw]
theorem yIe (r:Rows):(yAk r).length=(vu r.length).length+yFi yOn r:=by unfold yAk;rw [zLa,yKN];rfl
theorem yXA {r:Rows} (hr:RisR r) (k v:zB):yHW r k v=yPE Prod.fst (yHn r k) (k,v):=by
 have h1:=yMY hr k;have h2:yIu Prod.fst (yHn r k) k=false:=hasB_false.2 fun x hx e=>by have:=(List.mem_filter.1 hx).2;simp at this;exact this e
 have h3:yHW (yHn r k) k v=yPE Prod.fst (yHn r k) (k,v):=by unfold yHW;rw [h2];rfl
 rw [← h3];refine yGH (yDb hr k v) (yDb h1 k v) fun y=>?_;rw [yER hr,yER h1,yYO];by_cases e:y=k
 ·rw [if_pos e,if_pos e]
 ·rw [if_neg e,if_neg e,if_neg e]
theorem xAf {r:Rows} (hr:RisR r) (k v:zB):yFi yOn (yHW r k v)≤yFi yOn r+yOn (k,v):=by rw [yXA hr,yRb];have:yFi yOn (yHn r k)≤yFi yOn r:=yKM _ _ _;omega
theorem xAg (r:Rows) (k:zB):yFi yOn (yHn r k)≤yFi yOn r:=yKM _ _ _
def opW (o:BOp):Nat:=(yD7 o).length
theorem xAh (l:List BOp):(yBx l).length=(vu l.length).length+yFi opW l:=by unfold yBx yEt;rw [zLa,yKN];rfl
theorem xAi (o:BOp):opW o.nrm=opW o:=by obtain ⟨d,k,v⟩:=o;cases d <;> rfl
theorem yXB (l:List BOp):yFi opW (yAR l)≤yFi opW l:=by
 induction l with
 |nil=>exact Nat.le_refl _
 |cons o r ih=>
  rw [yEw];unfold yAR;split
  ·omega
  ·rw [yRb,xAi];omega
theorem yLV {r:Rows} (hr:RisR r) (S:List BOp):yFi yOn (yAP r S)≤yFi yOn r+yFi opW S:=by
 induction S generalizing r with
 |nil=>exact Nat.le_refl _
 |cons o S ih=>
  have h1:=ih (yIM hr o);have h2:yFi yOn (yEI r o)≤yFi yOn r+opW o:=by
   unfold yEI;split
   ·have:=xAg r o.key;omega
   ·rename_i hd;have h3:=xAf hr o.key o.val;have h4:yOn (o.key,o.val)≤opW o:=by unfold yOn rowB opW yD7;rw [if_neg hd];simp
    omega
  rw [yEw];show yFi yOn (yAP (yEI r o) S)≤_;omega
def ySy (hi:zB):Rows→Nat
 |[]=>0
 |p::r=>bif Op.bytesLess p.1 hi then ySy hi r+1 else 0
theorem yNb (hi:zB):∀ r:Rows,ySy hi r≤r.length
 |[]=>Nat.le_refl _
 |p::r=>by
  unfold ySy;cases Op.bytesLess p.1 hi with
  |true=>exact Nat.succ_le_succ (yNb hi r)
  |false=>exact zLA _
theorem yVa (hi:zB):∀ (r:Rows) (i:Nat) (p:zB × zB),r[i]? = some p→i<ySy hi r→Op.bytesLess p.1 hi=true
 |[],i,p,h,_=>by cases h
 |q::r,i,p,h,hn=>by
  unfold ySy at hn;cases hq:Op.bytesLess q.1 hi with
  |false=>rw [hq] at hn;cases hn
  |true=>
   rw [hq] at hn;cases i with
   |zero=>cases h;exact hq
   |succ i=>exact yVa hi r i p h (Nat.lt_of_succ_lt_succ hn)
theorem yRc (hi:zB):∀ (r:Rows) (p:zB × zB),r[ySy hi r]? = some p→Op.bytesLess p.1 hi=false
 |[],p,h=>by cases h
 |q::r,p,h=>by
  unfold ySy at h;cases hq:Op.bytesLess q.1 hi with
  |false=>rw [hq] at h;cases h;exact hq
  |true=>rw [hq] at h;exact yRc hi r p h
theorem yKO {hi:zB}:∀ {r:Rows},RisR r→r.filter (fun p=>Op.bytesLess p.1 hi)=r.take (ySy hi r)
 |[],_=>rfl
 |p::r,h=>by
  have hr:RisR r:=(List.pairwise_cons.1 h).2;have hp:∀ q ∈ r,Op.bytesLess p.1 q.1=true:=(List.pairwise_cons.1 h).1;unfold ySy;cases hq:Op.bytesLess p.1 hi with
  |true=>
   rw [List.filter_cons,if_pos hq,yKO hr];rfl
  |false=>
   rw [List.filter_cons,if_neg (by rw [hq];simp)];exact List.filter_eq_nil_iff.2 fun q hm bY=>by rw [yG1 (hp q hm) bY] at hq;cases hq
end Go.Proofs.YtoipmnikdiogcaaGreatDoor
