/-
  JRf3, JRf4, JRf5.
-/
import Derived.Test.YtoipmnikdiogcaaGreatDoorYGS
set_option maxRecDepth 100000
set_option maxHeartbeats 64000000
namespace Go.Proofs.YtoipmnikdiogcaaGreatDoor
open Go Go.RowKit
open Go.Proofs.Tryz
abbrev yFd:Pl:=(po [0,1,2,3,4,5,6,7,8,9,10,11,12,13,14,15,16,17,18] .nil)
abbrev yVQ:Pl:=(po [0,1,2,3,4,5,6,7,8,9,10,11,12,13,14,15,16,17,18,19,20] .nil)
abbrev yY8:Pl:=(po [0,1,2,3,4,5,6,7,8,9,10,11,12,13,14,15,16] .nil)
abbrev yRp:Pl:=(po [0,1,2,3,4,5,6,7,8,9,10,11] .nil)
abbrev yRq:Pl:=(po [0,1,2,3,4,5,6,7,8,9] (.ef 10 [] (po [11,12,13,14,15] .nil)))
abbrev yRr:Pl:=(po [0,1,2,3,4,5,6,7,8,9,10,11,12,13,14,15] (.ef 16 [] (.op 17 .nil)))
abbrev zTGV0:List (Nat×Pl):=[(4,yRp),(9,yRq),(11,yRr)]
def xB3 (o:Option (zB × Int)) (i:Nat):Value:=match o with
 |none=>.tuple #[strV [],.int .i64 0,.bool false]
 |some (s,u)=>.tuple #[strV s,.int .i64 ((i:Int)+u),.bool true]
structure ShF (kd:IntKind) (i s y:Int):Prop where
 h0:0≤s
 h:kd.wrap (i*2 ^ (min s.toNat kd.bits))=y
theorem yGW {P:Program} {W:World} {n:Nat} {E:Env} {H:List SP} {t u:TypeId} {x y:Operand} {kd yk:IntKind} {i j r:Int} (hx:Env.ev E x=some (.int kd i)) (hy:Env.ev E y=some (.int yk j)) (h:ShF kd i j r):Ev P W n E H (.binOp .shl t x y u) (.int kd r):=yMR hx hy h.h0 h.h
theorem yX7 {st:Int} {raw q:zB} (h:yCq st raw=some q):q.length≤234:=by
 unfold yCq at h;split at h
 ·cases h
 split at h
 ·cases h
 rename_i hl;split at h
 ·cases h
 rename_i h2;split at h
 ·cases h;rw [yEF raw zO zO];omega
 ·cases h
theorem xAH {D:Dsk} {at_ n:Int} {ver i:Nat} {q:zB} (h:yDT D at_ n ver i=some q):q.length≤234:=by
 unfold yDT at h;split at h
 ·cases h
 split at h
 ·cases h
 exact yX7 h
section
variable {W:World} {E:Nat→Addr} {p g:Nat} {D:Dsk}
theorem ySY (am:D.ok) (aS:D.und.length<1073741824) (at_ n:Int) (ver i:Nat) (hn:D.n≤65536) (ho:D.off=false) (h:yMS D at_ n (ver:Nat)) (hi:(i:Int)<n):CtU prog W 222 [zPp p,zi at_,zi n,zi (ver:Nat),zi (i:Nat)] [yA1 p D] (xB3 (yFV D at_ n ver i) i) [yA1 p D]:=by
 have co:=fun k (hk:((i+k:Nat):Int)<n)=>yVP (W:=W) (p:=p) am aS at_ n ver (i+k) hn ho h hk;have hple:∀ k q,yDT D at_ n ver (i+k)=some q→q.length≤234:=fun k q h=>xAH h;obtain ⟨h1,h2,h3,h4,h5,h6,h7⟩:=h;obtain ⟨aB,au⟩:∃ aB,xB3 (yFV D at_ n ver i) i=aB:=⟨_,rfl⟩;rw [au];have bX:yFV D at_ n ver i=none→aB=.tuple #[strV [],zi 0,.bool false]:=fun e=>by rw [← au,e];rfl
 refine zE func222 ntmps222 fun R=>?_;have c1:=co 0 (by simpa using hi);rw [zLz] at c1;cases hq:yDT D at_ n ver i with
 |none=>
  rw [hq] at c1;have c1':CtU prog W 234 [zPp p,zi at_,zi (i:Nat),zi (ver:Nat)] [yA1 p D] (.tuple #[strV [],.bool false]) [yA1 p D]:=c1;rw [bX (yKj hq)];repeat' (first|refine xst ?_|refine xsf ?_ ?_|refine xdr 4 yFd ?_|exact xdn ()|apply zN|intro _)
 |some q=>
 rw [hq] at c1;have c1':CtU prog W 234 [zPp p,zi at_,zi (i:Nat),zi (ver:Nat)] [yA1 p D] (.tuple #[strV q,.bool true]) [yA1 p D]:=c1;have hql:=hple 0 q hq;by_cases l5:q.length<5
 ·have q5:decide ((q.length:Int)<5)=true:=zY zO;rw [bX (ySX hq l5)];repeat' (first|refine xqa ?_|refine xsf ?_ ?_|refine xdr 4 yFd ?_|exact xdn ()|apply zN|intro _)
 have q5:decide ((q.length:Int)<5)=false:=zZ zO;obtain ⟨c0,eu⟩:∃ c,q[(0:Int).toNat]? = some c:=⟨_,zLb (by show 0<q.length;omega)⟩;obtain ⟨b1,bU⟩:∃ c,q[(1:Int).toNat]? = some c:=⟨_,zLb (by show 1<q.length;omega)⟩;obtain ⟨b2,jd⟩:∃ c,q[(2:Int).toNat]? = some c:=⟨_,zLb (by show 2<q.length;omega)⟩;obtain ⟨b3,hb3⟩:∃ c,q[(3:Int).toNat]? = some c:=⟨_,zLb (by show 3<q.length;omega)⟩;obtain ⟨b4,hb4⟩:∃ c,q[(4:Int).toNat]? = some c:=⟨_,zLb (by show 4<q.length;omega)⟩;have bE:q.getD 0 0=c0:=by rw [List.getD];rw [show q[0]? = some c0 from eu];rfl
 by_cases hh:c0=1;rotate_left
 ·have h6':((c0.toNat:Nat):Int)≠1:=by intro e;apply hh;apply UInt8.toNat_inj.1;show c0.toNat=1;omega
  rw [bX (yVL hq (by rw [bE];exact hh))];repeat' (first|refine xqa ?_|refine xsf ?_ ?_|refine xdr 4 yFd ?_|exact xdn ()|apply zN|intro _)
 have h6':((c0.toNat:Nat):Int)=1:=by rw [hh];rfl
 have hZ:yFT q=b1.toNat+b2.toNat*256+b3.toNat*65536+b4.toNat*16777216:=by unfold yFT;rw [List.getD,List.getD,List.getD,List.getD,show q[1]? = some b1 from bU,show q[2]? = some b2 from jd,show q[3]? = some b3 from hb3,show q[4]? = some b4 from hb4];rfl
 have u1:=zLy b1;have u2:=zLy b2;have u3:=zLy b3;have u4:=zLy b4;obtain ⟨y2,hy2⟩:∃ y,y=b2.toNat*256:=⟨_,rfl⟩;obtain ⟨y3,hy3⟩:∃ y,y=b3.toNat*65536:=⟨_,rfl⟩;obtain ⟨y4,hy4⟩:∃ y,y=b4.toNat*16777216:=⟨_,rfl⟩;have s2:ShF .i64 (b2.toNat:Int) 8 ((y2:Nat):Int):=by refine ⟨by decide,?_⟩;rw [show (b2.toNat:Int)*2 ^ (min (8:Int).toNat IntKind.i64.bits)=(b2.toNat:Int)*256 from rfl,yDa _ zO];omega
 have s3:ShF .i64 (b3.toNat:Int) 16 ((y3:Nat):Int):=by refine ⟨by decide,?_⟩;rw [show (b3.toNat:Int)*2 ^ (min (16:Int).toNat IntKind.i64.bits)=(b3.toNat:Int)*65536 from rfl,yDa _ zO];omega
 have s4:ShF .i64 (b4.toNat:Int) 24 ((y4:Nat):Int):=by refine ⟨by decide,?_⟩;rw [show (b4.toNat:Int)*2 ^ (min (24:Int).toNat IntKind.i64.bits)=(b4.toNat:Int)*16777216 from rfl,yDa _ zO];omega
 have hg4:=fun (h:n-(i:Int)<yBQ (yFT q:Nat))=>yVM hq h;have jw:=fun k (hk:((k:Nat):Int)<yBQ (yFT q:Nat))=>yX4 (k:=k) hq hk;have aI:=fun (P:List zB)=>yX5 (D:=D) (at_:=at_) (n:=n) (ver:=ver) (i:=i) (P:=P) hq;obtain ⟨Z,hZZ⟩:∃ Z,Z=yFT q:=⟨_,rfl⟩;rw [← hZZ] at hZ hg4 jw aI;obtain ⟨z2,eb⟩:∃ z,z=b1.toNat+y2:=⟨_,rfl⟩;obtain ⟨z3,hz3⟩:∃ z,z=z2+y3:=⟨_,rfl⟩;have hz4:Z=z3+y4:=zO;have hZb:Z≤4294967296:=zO;have cc:=yQN (W:=W) (Z:Nat) zO;have bw:yBQ (Z:Nat)=if ((Z:Nat):Int)<0 then 0 else if ((Z:Nat):Int)≤229 then 1 else 2+(((Z:Nat):Int)-230) / 233:=rfl
 rw [if_neg zO] at bw;obtain ⟨aE,dL⟩:∃ m,m=yBQ (Z:Nat):=⟨_,rfl⟩;rw [← dL] at cc hg4 jw aI bw;have bk:=fun (T:zB) (hT:T.length=Z)=>(yB2 T).trans (show yBQ T.length=aE by rw [dL,hT]);clear dL hZ hZZ;have cN:1≤aE:=by split at bw <;> omega
 by_cases h8:n-(i:Int)<aE
 ·have q8:decide (n-(i:Int)<aE)=true:=zY h8;rw [bX (hg4 h8)];repeat' (first|refine yAu ?_;refine yAa (yCA rfl zO) ?_|refine zad Z ?_|refine zad z3 ?_|refine zad z2 ?_|(refine yCo ?_;first|refine yAa (yGW rfl rfl s4) ?_|refine yAa (yGW rfl rfl s3) ?_|refine yAa (yGW rfl rfl s2) ?_)|refine xqa ?_|refine xsf ?_ ?_|refine xdr 4 yFd ?_|exact xdn ()|apply zN|intro _)
 have q8:decide (n-(i:Int)<aE)=false:=zZ h8;obtain ⟨iQ,jD⟩:∃ x,q.drop (5:Int).toNat=x:=⟨_,rfl⟩;have hq5l:iQ.length=q.length-5:=by rw [← jD];exact zLf
 have htx1:txt [q]=iQ:=by rw [← jD];simp [txt]
 have hZ2:Z≤15300000:=by split at bw <;> omega
 repeat' (first|refine yHF ?_;refine yHT rfl rfl (fun g3 c3=>?_)|refine yAu ?_;refine yAa (yCA rfl zO) ?_|refine zad Z ?_|refine zad z3 ?_|refine zad z2 ?_|(refine yCo ?_;first|refine yAa (yGW rfl rfl s4) ?_|refine yAa (yGW rfl rfl s3) ?_|refine yAa (yGW rfl rfl s2) ?_)|refine xqa ?_|refine xsf ?_ ?_|refine xdr 4 yFd ?_|apply zN|intro _)
 clear s2 s3 s4 bU jd hb3 hb4 eu h6' hg4 cc c1 c1' eb hz3 hz4 hy2 hy3 hy4 u1 u2 u3 u4 bE q5 l5
 refine yAC (fun k:{s:List zB × zB × Nat × Nat//(∀ j p,s.1[j]? = some p→yDT D at_ n ver (i+j)=some p)∧txt s.1=s.2.1∧1≤s.1.length∧(s.1.length:Int)≤aE∧s.2.1.length≤240*s.1.length}=>[(0,zPp p),(1,zi at_),(2,zi n),(3,zi (ver:Nat)),(4,zi (i:Nat)),(15,zi (Z:Nat)),(16,zi aE),(17,.slice (some ⟨k.1.2.2.1,0,none⟩) k.1.2.1.length k.1.2.2.2),(18,zi (k.1.1.length:Nat))])
  (fun k=>[yA1 p D,yMP k.1.2.2.1 k.1.2.1.length k.1.2.2.2 k.1.2.1 5]++R) (fun k=>aE.toNat-k.1.1.length) ⟨([q],iQ,g3,c3),fun j p hj=>by
   cases j with
   |zero=>cases hj;exact hq
   |succ j=>simp at hj,htx1,Nat.le_refl _,by dsimp only [List.length];omega,by dsimp only [List.length];omega⟩ xB (xN) (fun ⟨(P,T,g4,c4),hP,hT,hP1,hPn,iq⟩=>?_)
 dsimp only at hP hT hP1 hPn iq ⊢;have hPne:P≠[]:=by intro e;rw [e] at hP1;simp at hP1
 by_cases hlt:(P.length:Int)<aE
 ·have ql:decide ((P.length:Int)<aE)=true:=zY hlt;have c6:=co P.length zO;have hgp:=jw P.length hlt;have hp6:=hple P.length;have ax:=fun q2 (h:yDT D at_ n ver (i+P.length)=some q2)=>fun j p (hj:(P++[q2])[j]? = some p)=>show yDT D at_ n ver (i+j)=some p from (by
   rw [List.getElem?_append] at hj;split at hj
   ·exact hP j p hj
   ·rename_i gu;have hl:=(zLc.1 hj).1;have:j=P.length:=by simp at hl;omega
    subst this;simp at hj;rw [← hj];exact h)
  obtain ⟨o2,dK⟩:∃ o,yDT D at_ n ver (i+P.length)=o:=⟨_,rfl⟩;rw [dK] at c6;cases o2 with
  |none=>
   rw [bX (hgp (fun p hp=>by rw [dK] at hp;cases hp))];have kU:CtU prog W 234 [zPp p,zi at_,zi ((i+P.length:Nat):Int),zi (ver:Nat)] [yA1 p D] (.tuple #[strV [],.bool false]) [yA1 p D]:=c6;repeat' (first|refine zad (i+P.length) ?_|refine xqa ?_|refine xsf ?_ ?_|refine xdr 4 yFd ?_|exact xdn ()|apply zN|intro _)
  |some q2=>
   have kU:CtU prog W 234 [zPp p,zi at_,zi ((i+P.length:Nat):Int),zi (ver:Nat)] [yA1 p D] (.tuple #[strV q2,.bool true]) [yA1 p D]:=c6;by_cases h9:q2.length<1
   ·have q9:decide ((q2.length:Int)<1)=true:=zY zO;rw [bX (hgp (fun p hp=>by rw [dK] at hp;cases hp;exact h9))];repeat' (first|refine zad (i+P.length) ?_|refine xqa ?_|refine xsf ?_ ?_|refine xdr 4 yFd ?_|exact xdn ()|apply zN|intro _)
   have q9:decide ((q2.length:Int)<1)=false:=zZ zO;have hq2l:=hp6 q2 dK;have hnx2:=ax q2 dK;obtain ⟨q3,fa⟩:∃ x,q2.drop (1:Int).toNat=x:=⟨_,rfl⟩;have hq3l:q3.length=q2.length-1:=by rw [← fa];exact zLf
   have be:txt (P++[q2])=T++q3:=by rw [yX3 P hPne,hT,← fa];rfl
   repeat' (first|refine yAQ ?_;refine yEG rfl rfl xS zO rfl (fun g5 c5=>?_)|refine zad (P.length+1) ?_|refine zad (i+P.length) ?_|refine xqa ?_|refine xsf ?_ ?_|refine xdr 4 yFd ?_|apply zN|intro _)
   refine yAs ⟨(P++[q2],T++q3,g5,c5),hnx2,be,by dsimp only;rw [zLa];omega,by dsimp only;rw [zLa];show ((P.length+1:Nat):Int)≤aE;omega,by dsimp only;rw [zLa,zLa];show _≤240*(P.length+1);omega⟩ (by show aE.toNat-(P++[q2]).length<aE.toNat-P.length;rw [zLa];show aE.toNat-(P.length+1)<_;omega) ?_ ?_
   ·dsimp only;rw [zLa,zLa];exact xB
   ·dsimp only;rw [zLa];exact (xN)
 have ql:decide ((P.length:Int)<aE)=false:=zZ hlt;have hPe:(P.length:Int)=aE:=zO;have bF:=fun s u=>@aI P hP hPe s u;by_cases h10:(T.length:Int)=(Z:Nat);rotate_left
 ·rw [bX (yJJ fun s u hr=>by obtain ⟨-,e2,e3⟩:=bF s u hr;rw [hT] at e2;rw [e2,e3] at h10;exact h10 rfl)]
  repeat' (first|refine xqa ?_|refine xsf ?_ ?_|refine xdr 4 yFd ?_|exact xdn ()|apply zN|intro _)
 have hTZ:T.length=Z:=zO;have cp:=yL3 (W:=W) T zO;have fI:=bk T hTZ;have hyes:=fun (hp:∀ j p,(yBw T)[j]? = some p→yDT D at_ n ver (i+j)=some p)=>yX6 (D:=D) (at_:=at_) (n:=n) (ver:=ver) (i:=i) (s:=T) zO hp zO;have az:=fun (ao:P≠yBw T)=>bX (yJJ fun s u hr=>by obtain ⟨e1,e2,-⟩:=bF s u hr;rw [hT] at e2;rw [e2] at ao;exact ao e1)
 obtain ⟨Q,hQ⟩:∃ Q,Q=yBw T:=⟨_,rfl⟩;rw [← hQ] at cp fI hyes az;clear bF aI jw hQ;repeat' (first|refine xca cp fun x=>?_|refine yAu ?_;refine yAa (yFw rfl xS) ?_|refine xqa ?_|refine xsf ?_ ?_|refine xdr 4 yFd ?_|apply zN|intro _)
 rename_i x;obtain ⟨gw,cw⟩:=x;dsimp only
 refine yAC (fun k:{k:Nat//(k:Int)≤aE∧∀ j,j<k→P[j]? = Q[j]?}=>[(0,zPp p),(1,zi at_),(2,zi n),(3,zi (ver:Nat)),(4,zi (i:Nat)),(16,zi aE),(17,.slice (zq g4) T.length c4),(21,.slice (zq gw) Q.length cw),(22,zi (k.1:Nat))])
  (fun _=>[yA1 p D,yMP g4 T.length c4 T 5,yA4 (.slice (zq gw) Q.length cw) 9 1 Q.length (Q.map strV)]++R) (fun k=>aE.toNat-k.1) ⟨0,zO,fun j hj=>by omega⟩ xB (xN) (fun ⟨k,hk,hkq⟩=>?_)
 dsimp only at hk hkq ⊢;by_cases hlt2:(k:Int)<aE;rotate_left
 ·have ql2:decide ((k:Int)<aE)=false:=zZ hlt2;have hPQ:P=Q:=by
   apply List.ext_getElem?;intro j;by_cases hj:j<k
   ·exact hkq j hj
   ·rw [List.getElem?_eq_none zO,List.getElem?_eq_none zO]
  have hr:=hyes (fun j p hj=>hP j p (by rw [hPQ];exact hj));rw [fI] at hr;have hres2:aB=.tuple #[strV T,zi ((i:Int)+aE),.bool true]:=by rw [← au,hr];rfl
  rw [hres2];repeat' (first|refine yAu ?_;refine yAa (yFw rfl xS) ?_|refine yAr ?_;refine yAa (yAd (r:=(i:Int)+aE) rfl rfl rfl zO) ?_|refine xqa ?_|refine xsf ?_ ?_|refine xdr 4 yFd ?_|exact xdn ()|apply zN|intro _)
 have ql2:decide ((k:Int)<aE)=true:=zY hlt2;have hkP:k<P.length:=zO;obtain ⟨pk,eQ⟩:∃ q,P[k]? = some q:=⟨_,zLb hkP⟩;obtain ⟨qk,hqk⟩:∃ q,Q[k]? = some q:=⟨_,zLb zO⟩;have c7:=co k zO;rw [hP k pk eQ] at c7;have j4:CtU prog W 234 [zPp p,zi at_,zi ((i+k:Nat):Int),zi (ver:Nat)] [yA1 p D] (.tuple #[strV pk,.bool true]) [yA1 p D]:=c7;have hget:(Q.map strV)[0+((k:Nat):Int).toNat*1]? = some (strV qk):=by rw [zLe,Nat.mul_one,zLq,zLE,hqk];rfl
 by_cases he:pk=qk
 ·subst he;repeat' (first|refine zad (k+1) ?_|refine zad (i+k) ?_|refine yAo ?_;refine yAa (yDO rfl rfl rfl) ?_|refine xqa ?_|refine xsf ?_ ?_|refine xdr 4 yFd ?_|apply zN|intro _)
  all_goals exact yAs ⟨k+1,zO,fun j hj=>by
   by_cases h:j<k
   ·exact hkq j h
   ·obtain rfl:j=k:=by omega
    rw [eQ,hqk]⟩ (by show aE.toNat-(k+1)<aE.toNat-k;omega) xB (xN)
 ·rw [az (fun e=>by rw [e,hqk] at eQ;cases eQ;exact he rfl)];repeat' (first|refine zad (i+k) ?_|refine xqa ?_|refine xsf ?_ ?_|refine xdr 4 yFd ?_|exact xdn ()|apply zN|intro _)
theorem yIY (am:D.ok) (aS:D.und.length<1073741824) (at_ n:Int) (ver:Nat) (hn:D.n≤65536) (ho:D.off=false) (h:yMS D at_ n (ver:Nat)):Ct prog W 181 [zPp p,zi at_,zi n,zi (ver:Nat)] [yA1 p D] (fun v:Value=>.tuple #[v,zi 0]) (fun v=>[yA1 p D,yA4 v 9 1 (yHb D at_ n ver (n.toNat+1) 0 []).length ((yHb D at_ n ver (n.toNat+1) 0 []).map strV)]):=by
 have cm:=yVN (W:=W) (p:=p) at_ n (ver:Nat) hn h;have cr:=fun i (hi:((i:Nat):Int)<n)=>ySY (W:=W) (p:=p) am aS at_ n ver i hn ho h hi;obtain ⟨h1,h2,h3,h4,h5,h6,h7⟩:=h;obtain ⟨aB,au⟩:∃ aB,aB=yHb D at_ n ver (n.toNat+1) 0 []:=⟨_,rfl⟩;rw [← au];refine zE func181 ntmps181 fun R=>?_;apply yHm (fun K=>KJ W 47 K [(0,zPp p),(1,zi at_),(2,zi n),(3,zi (ver:Nat))] ([yA1 p D]++R))
 ·intro rest;repeat' (first|refine yAE (id:=3) ?_;exact KJ.weak rest xB (xN)|refine xst ?_|refine xsf ?_ ?_|intro _)
 apply yHm (fun K=>KJ W 47 K [(0,zPp p),(1,zi at_),(2,zi n),(3,zi (ver:Nat))] ([yA1 p D]++R))
 ·intro rest;refine KJ.unpack_at (F:=yCE p D) xS (fun x=>?_);obtain ⟨sv,wv⟩:=x;rw [yAZ,ho];repeat' (first|refine yAE (id:=5) ?_;exact KJ.weak rest xB (fun g q=>yDP (F:=yCE p D) (sv,wv) g (by rw [yAZ,ho];exact q))|refine xst ?_|refine xsf ?_ ?_|intro _)
 refine yQp (by first|constructor|fail) ?_;repeat' (first|refine yGu (id:=0) ?_;fail|refine xst ?_|refine xsf ?_ ?_|intro _)
 all_goals skip
 refine KJ.row0 (e:=9) (sz:=1) ?_
 refine yAC (fun k:{s:Nat × Nat × List zB × Value//yHb D at_ n ver s.1 s.2.1 s.2.2.1=aB∧(s.2.1:Int)≤n∧n+1≤(s.1:Int)+s.2.1∧s.2.2.1.length≤s.2.1}=>[(0,zPp p),(1,zi at_),(2,zi n),(3,zi (ver:Nat)),(10,k.1.2.2.2),(11,zi (k.1.2.1:Nat))])
  (fun k=>[yA1 p D,yA4 k.1.2.2.2 9 1 k.1.2.2.1.length (k.1.2.2.1.map strV)]++R) (fun k=>k.1.1) ⟨(n.toNat+1,0,[],.slice none 0 0),au.symm,by dsimp only;omega,by dsimp only;omega,Nat.le_refl _⟩ xB (xN) (fun ⟨(f,i,an,v),hr,dh,iM,bF⟩=>?_)
 dsimp only at hr dh iM bF ⊢;obtain ⟨f',rfl⟩:∃ f',f=f'+1:=⟨f-1,zO⟩;have aG:yHb D at_ n ver (f'+1) i an=match yFV D at_ n ver i with
  |none=>an
  |some (s,u)=>yHb D at_ n ver f' (i+u.toNat) (an++[s]):=rfl
 rw [aG] at hr;clear aG;by_cases hlt:(i:Int)<n;rotate_left
 ·have ql:decide ((i:Int)<n)=false:=zZ hlt;rw [yKj (by unfold yDT;rw [if_pos zO])] at hr;have aN:an=aB:=hr;subst aN;repeat' (first|refine xqa ?_|refine xsf ?_ ?_|intro _)
  all_goals (exact xdn v)
 have ql:decide ((i:Int)<n)=true:=zY hlt;have c2:=cr i hlt;have jp:=fun s u=>yGa (D:=D) (at_:=at_) (n:=n) (ver:=ver) (i:=i) (s:=s) (u:=u);obtain ⟨o,ho⟩:∃ o,o=yFV D at_ n ver i:=⟨_,rfl⟩;rw [← ho] at c2 hr;simp only [← ho] at jp;clear ho;cases o with
 |none=>
  have aN:an=aB:=hr;subst aN;have iU:CtU prog W 222 [zPp p,zi at_,zi n,zi (ver:Nat),zi (i:Nat)] [yA1 p D] (.tuple #[strV [],zi 0,.bool false]) [yA1 p D]:=c2;repeat' (first|refine xqa ?_|refine xsf ?_ ?_|intro _)
  all_goals (exact xdn v)
 |some su=>
  obtain ⟨s,u⟩:=su;dsimp only at hr;obtain ⟨iN,db⟩:=jp s u rfl;obtain ⟨un,rfl⟩:∃ un:Nat,u=(un:Int):=⟨u.toNat,zO⟩;rw [zLe] at hr;have iU:CtU prog W 222 [zPp p,zi at_,zi n,zi (ver:Nat),zi (i:Nat)] [yA1 p D] (.tuple #[strV s,zi ((i+un:Nat):Int),.bool true]) [yA1 p D]:=c2;repeat' (first|refine yAQ ?_;refine yCN (a2:=0) rfl rfl (by rfl) zO xS (Src.cells (i:=1) xS xC) (by rfl) zO xO zO zO rfl rfl (fun g5 c5=>?_)|refine yAD ?_;refine yAK rfl xF (by rfl) zO rfl (fun g3=>?_)|refine xqa ?_|refine xsf ?_ ?_|intro _)
  refine yAs ⟨(f',i+un,an++[s],.slice (zq g5) (an.length+1) c5),hr,by dsimp only;omega,by dsimp only;omega,by dsimp only;rw [zLa];show an.length+1≤_;omega⟩ (by show f'<f'+1;omega) xB ?_;have em:an.map strV++[strV s]=(an++[s]).map strV:=zW;dsimp only;rw [← em,zLa];exact (xN)
end
section
variable {P:Program} {W:World} {n:Nat} {k:KK} {E:Env} {H R:List SP}
theorem KJ.pack {α:Type} {tag key:Nat} {F:α→List SP} (a:α) (p:Pick (F a) H R) (h:KJ W n k E (yHl tag key F::R)):KJ W n k E H:=
 ⟨fun ac w q s=>h.go ac w q ((s.perm (p.perm.append_right _)).mono (yJw (fun g hg=>yDP a g hg) _))⟩
end
section
variable {W:World} {E:Nat→Addr} {p g:Nat} {D:Dsk}
theorem yVR (at_ n ver:Int) (hn:D.n≤65536) (ho:D.off=false) (h:yMS D at_ n ver):Ct prog W 139 [zPp p,zi at_,zi n,zi ver] [yA1 p D] (fun g:Nat=>.tuple #[zPp g,zi 0]) (fun g=>[yA1 p D,yAj g [zPp p,zi at_,zi n,zi ver,zi 0,.bool false,zi D.life] 201]):=by
 have cm:=yVN (W:=W) (p:=p) at_ n ver hn h;refine zE func139 ntmps139 fun R=>?_;apply yHm (fun K=>KJ W 30 K [(0,zPp p),(1,zi at_),(2,zi n),(3,zi ver)] ([yA1 p D]++R))
 ·intro rest;repeat' (first|refine yAE (id:=3) ?_;exact KJ.weak rest xB (xN)|refine xst ?_|refine xsf ?_ ?_|intro _)
 refine KJ.unpack_at (F:=yCE p D) xS (fun x=>?_);obtain ⟨sv,wv⟩:=x;rw [yAZ,ho];repeat' (first|refine zbx fun g1=>?_|refine xst ?_|refine xsf ?_ ?_|intro _)
 refine KJ.pack (tag:=21) (key:=p) (F:=yCE p D) (sv,wv) (by rw [yAZ,ho];exact xP) ?_
 (exact xdn g1)
theorem yRs (at_ n ver used life:Int) (dead:Bool):CtU prog W 140 [zPp g] [yA1 p D,yAj g [zPp p,zi at_,zi n,zi ver,zi used,.bool (dead),zi life] 201] (.bool (yBi D life dead)) [yA1 p D,yAj g [zPp p,zi at_,zi n,zi ver,zi used,.bool (yBi D life dead),zi life] 201]:=by
 refine zE func140 ntmps140 fun R=>?_;refine KJ.unpack_at (F:=yCE p D) xS (fun x=>?_);obtain ⟨sv,wv⟩:=x;rcases Bool.eq_false_or_eq_true D.off with ho|ho
 ·have e:yBi D life dead=true:=by unfold yBi;rw [ho];rfl
  rw [e,yAZ,ho];repeat' (first|refine xst ?_|refine xsf ?_ ?_|refine xdr 1 yVQ ?_|apply zN|intro _)
  refine KJ.pack (tag:=21) (key:=p) (F:=yCE p D) (sv,wv) (by rw [yAZ,ho];exact xP) ?_
  (exact xdn ())
 by_cases hl:D.life=life
 ·have e:yBi D life dead=dead:=by unfold yBi;rw [ho,zZ (by simpa using hl)];rfl
  rw [e,yAZ,ho];repeat' (first|refine xqa ?_|refine xsf ?_ ?_|refine xdr 1 yVQ ?_|apply zN|intro _)
  refine KJ.pack (tag:=21) (key:=p) (F:=yCE p D) (sv,wv) (by rw [yAZ,ho];exact xP) ?_
  (exact xdn ())
 ·have e:yBi D life dead=true:=by unfold yBi;rw [ho,zY (by simpa using hl)];rfl
  rw [e,yAZ,ho];repeat' (first|refine xqa ?_|refine xsf ?_ ?_|refine xdr 1 yVQ ?_|apply zN|intro _)
  refine KJ.pack (tag:=21) (key:=p) (F:=yCE p D) (sv,wv) (by rw [yAZ,ho];exact xP) ?_
  (exact xdn ())
theorem yX8 (at_ n ver used life:Int) (dead:Bool) (b:Int) (hb:b≤9223372036854775807) (hn:0≤n∧n≤65536) (hu:0≤used∧used≤65536):CtU prog W 74 [zPp g,zi b] [yAj g [zPp p,zi at_,zi n,zi ver,zi used,.bool (dead),zi life] 201] (.bool (decide (0≤b∧yBQ b≤n-used))) [yAj g [zPp p,zi at_,zi n,zi ver,zi used,.bool (dead),zi life] 201]:=by
 have c1:=yQN (W:=W) b hb;obtain ⟨c,hc⟩:∃ c,c=yBQ b:=⟨_,rfl⟩;rw [← hc] at c1 ⊢;by_cases h1:0≤b
 ·have q1:decide (0≤b)=true:=zY h1;have q2:decide (c≤n-used)=decide (0≤b∧c≤n-used):=by simp [h1]
  refine zE func74 ntmps74 fun R=>?_;repeat' (first|(refine yBS ?_;first|(refine yBn (X:=Unit) xE c1 xP rfl ?_)|(refine yCl (X:=Unit) rfl rfl xE c1 xP rfl ?_))|refine xqa ?_|refine xsf ?_ ?_|refine xdr 1 yY8 ?_|exact xdn ()|apply zN|intro _)
 ·have q1:decide (0≤b)=false:=zZ h1;rw [show decide (0≤b∧c≤n-used)=false by simp [h1]];refine zE func74 ntmps74 fun R=>?_;repeat' (first|refine xqa ?_|refine xsf ?_ ?_|refine xdr 1 yY8 ?_|exact xdn ()|apply zN|intro _)
theorem yVS {D:Dsk} (ho:D.off=false) {i:Int} (hi:0≤i∧i<D.n) {s:zB} (hs:s.length=256) (hz:D.writeE i s≠0):D.writeE i s=12:=by
 have hh:D.has i=true:=zY hi;unfold Dsk.writeE at hz ⊢;rw [if_neg (by rw [ho];simp),if_pos hh,if_pos hs] at hz ⊢;split at hz
 ·rename_i hd;rw [if_pos hd]
 ·exact absurd rfl hz
theorem yVT {D:Dsk} (ho:D.off=false) {i:Int} (hi:0≤i∧i<D.n) {s:zB} (hs:s.length=256) (hz:D.writeE i s=0):(D.writeD i s).off=false∧(D.writeD i s).n=D.n:=by
 have hh:D.has i=true:=zY hi;unfold Dsk.writeE at hz;rw [if_neg (by rw [ho];simp),if_pos hh,if_pos hs] at hz;unfold Dsk.writeD;rw [if_neg (by rw [ho];simp),if_pos hh,if_pos hs];split at hz
 ·cases hz
 ·rename_i hd;rw [if_neg hd];dsimp only;refine ⟨?_,Dsk.gone_n _⟩;unfold Dsk.gone;have cV:¬ D.armed=0:=by intro e;apply hd;exact zY e
  rw [if_neg cV];split <;> exact ho
theorem xAI (am:D.ok) (at_ n life:Int) (ver used:Nat) (s:zB) (ig:D.off=false) (hlog:yMS D at_ n (ver:Nat)) (bz:yBi D life false=false) (hu:(used:Int)≤n) (hl:s.length≤1048576) (ak:yBQ s.length≤n-used) (aS:D.und.length+65536<1073741823) :Ct prog W 76 [zPp g,strV s] [yA1 p D,yAj g [zPp p,zi at_,zi n,zi ver,zi used,.bool (false),zi life] 201] (fun _:Unit=>.int .i64 (if (yBU at_ ver used (yBw s) 0 D).1 then 0 else 12)) (fun _=>[yA1 p (yBU at_ ver used (yBw s) 0 D).2,yAj g [zPp p,zi at_,zi n,zi ver,zi (if (yBU at_ ver used (yBw s) 0 D).1 then (used:Int)+yBQ s.length else used),.bool (!(yBU at_ ver used (yBw s) 0 D).1),zi life] 201]):=by
 obtain ⟨k1,k2,k3,k4,k5,k6,k7⟩:=hlog;have cO:=am.n2;have c1:=yRs (W:=W) (p:=p) (g:=g) (D:=D) at_ n ver used life false;rw [bz] at c1;have c3:=yL3 (W:=W) s zO;have hL:=yB2 s;have hLe:=yIH s;obtain ⟨cost,bw⟩:∃ c,c=yBQ s.length:=⟨_,rfl⟩;obtain ⟨ps,iF⟩:∃ ps,ps=yBw s:=⟨_,rfl⟩;rw [← bw] at hL ak ⊢;rw [← iF] at hL hLe c3 ⊢;clear bw iF;obtain ⟨aB,au⟩:∃ aB,aB=yBU at_ ver used ps 0 D:=⟨_,rfl⟩;rw [← au];have qg:decide (n-(used:Int)<(ps.length:Nat))=false:=zZ zO;refine zE func76 ntmps76 fun R=>?_;repeat' (first|refine xca c3 fun x=>?_|refine xca c1 fun _=>?_|refine xqa ?_|refine xsf ?_ ?_|refine xdt zTGV0 ?_|apply zN|intro _)
 rename_i x;obtain ⟨gw,cw⟩:=x;dsimp only
 refine yAC (fun i:{s:Nat × Dsk//yBU at_ ver used (ps.drop s.1) s.1 s.2=aB∧s.1≤ps.length∧s.2.und.length≤D.und.length+s.1∧s.2.off=false∧s.2.ok∧s.2.n=D.n}=>[(0,zPp g),(5,.slice (zq gw) ps.length cw),(6,zi (i.1.1:Nat))])
  (fun i=>[yA1 p i.1.2,yAj g [zPp p,zi at_,zi n,zi ver,zi used,.bool (false),zi life] 201,yA4 (.slice (zq gw) ps.length cw) 9 1 ps.length (ps.map strV)]++R) (fun i=>ps.length-i.1.1) ⟨(0,D),au.symm,zLA _,Nat.le_refl _,ig,am,rfl⟩ xB (xN) (fun ⟨(k,Dk),hr,hk,db,dK,ic,dc⟩=>?_)
 dsimp only at hr hk db dK ic dc ⊢;by_cases hlt:k<ps.length;rotate_left
 ·have aY:k=ps.length:=by omega
  subst aY;rw [List.drop_length] at hr;have ql:decide ((ps.length:Int)<(ps.length:Int))=false:=zZ zO;have h1:aB.1=true:=by rw [← hr];rfl
  have h2:aB.2=Dk:=by rw [← hr];rfl
  rw [h1,h2];repeat' (first|refine yAr ?_;refine yAa (yAd (r:=(used:Int)+cost) rfl rfl zO zO) ?_|refine xqa ?_|refine xsf ?_ ?_|refine xdt zTGV0 ?_|exact xdn ()|apply zN|intro _)
 have ql:decide ((k:Int)<(ps.length:Int))=true:=zY zO;obtain ⟨pc,cK⟩:∃ pc,ps[k]? = some pc:=⟨_,zLb hlt⟩;have bk:=hLe pc (zLk cK);have hdr:ps.drop k=pc::ps.drop (k+1):=by rw [List.drop_eq_getElem_cons hlt];congr 1;exact (zLc.1 cK).2
 have hget:(ps.map strV)[0+((k:Nat):Int).toNat*1]? = some (strV pc):=by rw [zLe,Nat.mul_one,zLq,zLE,cK];rfl
 have eo:((used+k:Nat):Int)=(used:Int)+(k:Int):=zO;have c5:=yVO (W:=W) ver (used+k) ⟨zO,zO⟩ zO;have c6:=yJI (W:=W) (yA8 ver (used+k)) (by unfold yA8;omega) (yMU zO zO) pc bk;have dw:=yBk (yA8 ver (used+k):Nat) pc bk;have dh:0≤at_+(used:Nat)+(k:Nat)∧at_+(used:Nat)+(k:Nat)<(Dk.n:Nat):=by rw [dc];omega
 have c7:=yK6 (W:=W) (p:=p) (D:=Dk) ic (at_+(used:Nat)+(k:Nat)) (yAF (yA8 ver (used+k):Nat) pc) zO
 have aG:yBU at_ ver used (pc::ps.drop (k+1)) k Dk=if Dk.writeE (at_+(used:Nat)+(k:Nat)) (yAF (yA8 ver (used+k):Nat) pc)≠0 then (false,Dk.writeD (at_+(used:Nat)+(k:Nat)) (yAF (yA8 ver (used+k):Nat) pc))
  else yBU at_ ver used (ps.drop (k+1)) (k+1) (Dk.writeD (at_+(used:Nat)+(k:Nat)) (yAF (yA8 ver (used+k):Nat) pc)):=rfl
 rw [hdr,aG] at hr;have jX:=yDE Dk (at_+(used:Nat)+(k:Nat)) (yAF (yA8 ver (used+k):Nat) pc);have iv:=Dsk.writeD_ok ic (at_+(used:Nat)+(k:Nat)) (yAF (yA8 ver (used+k):Nat) pc);have bB:=yVS dK dh dw;have fP:=yVT dK dh dw;obtain ⟨ad,had⟩:∃ a,a=at_+(used:Nat)+(k:Nat):=⟨_,rfl⟩;rw [← had] at c7 hr jX iv bB fP dh;obtain ⟨stm,aj⟩:∃ m,m=yA8 ver (used+k):=⟨_,rfl⟩;rw [← aj] at c5 c6 c7 hr jX iv bB fP dw;obtain ⟨raw,aV⟩:∃ m,m=yAF (stm:Nat) pc:=⟨_,rfl⟩;rw [← aV] at c6 c7 hr jX iv bB fP dw;obtain ⟨D1,aL⟩:∃ D1,D1=Dk.writeD ad raw:=⟨_,rfl⟩;rw [← aL] at c7 hr jX iv fP;obtain ⟨e,he⟩:∃ e,e=Dk.writeE ad raw:=⟨_,rfl⟩;rw [← he] at c7 hr bB fP;clear aj aV aL he aG au hdr cK;by_cases hz:e=0
 ·subst hz;rw [if_neg zW] at hr;obtain ⟨hon4,hn4⟩:=fP rfl;have j4:CtU prog W 134 [zPp p,zi ad,strV raw] [yA1 p Dk] (zi 0) [yA1 p D1]:=c7;repeat' (first|refine xca j4 fun _=>?_|refine xca c6 fun _=>?_|refine xca c5 fun _=>?_|refine zad (k+1) ?_|(refine yAr ?_;first|refine yAa (yAd (r:=((used+k:Nat):Int)) rfl rfl eo.symm zO) ?_|refine yAa (yAd (r:=ad) rfl rfl zO zO) ?_)|refine yAo ?_;refine yAa (yAz rfl rfl rfl) ?_|refine xqa ?_|refine xsf ?_ ?_|refine xdt zTGV0 ?_|apply zN|intro _)
  all_goals exact yAs ⟨(k+1,D1),hr,by dsimp only;omega,by dsimp only;omega,hon4,iv,by dsimp only;omega⟩ (by show ps.length-(k+1)<ps.length-k;omega) xB (xN)
 ·rw [if_pos hz] at hr;obtain rfl:=bB hz;have h1:aB.1=false:=by rw [← hr]
  have h2:aB.2=D1:=by rw [← hr]
  rw [h1,h2];have j4:CtU prog W 134 [zPp p,zi ad,strV raw] [yA1 p Dk] (zi 12) [yA1 p D1]:=c7;repeat' (first|refine xca j4 fun _=>?_|refine xca c6 fun _=>?_|refine xca c5 fun _=>?_|(refine yAr ?_;first|refine yAa (yAd (r:=((used+k:Nat):Int)) rfl rfl eo.symm zO) ?_|refine yAa (yAd (r:=ad) rfl rfl zO zO) ?_)|refine yAo ?_;refine yAa (yBe rfl rfl zX) ?_|refine xqa ?_|refine xsf ?_ ?_|refine xdt zTGV0 ?_|exact xdn ()|apply zN|intro _)
theorem yX9 (am:D.ok) (aS:D.und.length<1073741824) (at_ n ver used life:Int) (bz:yBi D life false=false):CtU prog W 77 [zPp g] [yA1 p D,yAj g [zPp p,zi at_,zi n,zi ver,zi used,.bool (false),zi life] 201] (zi (if D.flushE=0 then 0 else 12)) [yA1 p D.flushD,yAj g [zPp p,zi at_,zi n,zi ver,zi used,.bool (decide (D.flushE≠0)),zi life] 201]:=by
 have c1:=yRs (W:=W) (p:=p) (g:=g) (D:=D) at_ n ver used life false;rw [bz] at c1;have c2:=yK8 (W:=W) (p:=p) am aS;have bB:D.flushE=0∨D.flushE=12:=by unfold Dsk.flushE;split <;> simp
 obtain ⟨D1,aL⟩:∃ D1,D1=D.flushD:=⟨_,rfl⟩;obtain ⟨e,he⟩:∃ e,e=D.flushE:=⟨_,rfl⟩;rw [← aL,← he] at c2;rw [← he] at bB;rw [← aL,← he];clear aL he;rcases bB with rfl|rfl
 ·have iU:CtU prog W 135 [zPp p] [yA1 p D] (zi 0) [yA1 p D1]:=c2;refine zE func77 ntmps77 fun R=>?_;repeat' (first|refine yAo ?_;refine yAa (yAz rfl rfl rfl) ?_|refine xst ?_|refine xsf ?_ ?_|exact xdn ()|intro _)
 ·have iU:CtU prog W 135 [zPp p] [yA1 p D] (zi 12) [yA1 p D1]:=c2;refine zE func77 ntmps77 fun R=>?_;repeat' (first|refine yAo ?_;refine yAa (yBe rfl rfl zX) ?_|refine xst ?_|refine xsf ?_ ?_|exact xdn ()|intro _)
end
end Go.Proofs.YtoipmnikdiogcaaGreatDoor
