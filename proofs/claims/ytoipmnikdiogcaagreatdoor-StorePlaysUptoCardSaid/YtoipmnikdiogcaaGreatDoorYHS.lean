/-
  StD6, StD7, StD8.
-/
import Derived.Test.YtoipmnikdiogcaaGreatDoorYHP
set_option maxHeartbeats 64000000
namespace Go.Proofs.YtoipmnikdiogcaaGreatDoor
open Go Go.RowKit
open Go.Proofs.Tryz
abbrev yL7:Pl:=(po [0,1,2,4,5,6,7,8] (.ef 3 [8,7,6,5,4,0] (.ef 9 [] (po [10,11,12,13,14] .nil))))
abbrev yFg:Pl:=(po [0,2,3] (.ef 1 [3,2] (.ef 4 [] (.op 5 .nil))))
abbrev zTHS0:List (Nat×Pl):=[(7,yL7),(21,yFg)]
abbrev yLg:Pl:=(po [0,1,2,3,4,5,6,7,8] (.ef 9 [] (po [10,11,12,13,14] .nil)))
abbrev yIs:Pl:=(po [0,1,2,3,4,5] .nil)
abbrev zTHS1:List (Nat×Pl):=[(7,yLg),(21,yIs)]
abbrev yV6:Pl:=(po [0,1,2,3,4,5,6,7,8,9,10,11,12,13,14,15,16] (.ef 17 [] (.op 18 .nil)))
abbrev yV7:Pl:=(po [0,1,2,3,4,5,6,7,8,9,10,11,12,13,14,15,16,17] (.ef 18 [] (po [19,20,21,22,23] .nil)))
abbrev yFS:Pl:=(po [0,1,2,3,4,5,6,7,8] (.ef 9 [] (.op 10 .nil)))
theorem yLh {n room k:Nat} (hn:n<2 ^ 64) (hk:k<2 ^ 64) (h:k≤room):yTn n room (yBJ n k)=some k:=by unfold yTn yBJ;rw [yFz n hn (vu k)];have:=yFz k hk [];rw [zLs] at this;simp only [this];rw [if_pos ⟨h,trivial,trivial⟩]
theorem xAP {most:Nat}:∀ (r:Rows) (fst:Bool) (last:zB),RisR r→(fst=false→∀ p ∈ r,Op.bytesLess last p.1=true)→(∀ p ∈ r,p.1.length≤most∧p.2.length≤most)→most<2 ^ 64→yOx most r.length fst last (r.flatMap rowB)=some r:=by
 intro r
 induction r with
 |nil=>intro fst last _ _ _ _;rfl
 |cons p r ih=>
  intro fst last hr hf hl hm;obtain ⟨k,v⟩:=p;obtain ⟨l1,l2⟩:=hl (k,v) (List.mem_cons_self ..);dsimp only at l1 l2;have aN:=List.pairwise_cons.1 hr;have e:((k,v)::r).flatMap rowB=tx k++(tx v++r.flatMap rowB):=by rw [zLr];unfold rowB;rw [zLd]
  rw [e,zLj];unfold yOx;rw [yQS most k _ l1 zO];simp only;rw [yQS most v _ l2 zO];simp only;have hc:fst=true∨Op.bytesLess last k=true:=by
   cases fst with
   |true=>exact .inl rfl
   |false=>exact .inr (hf rfl _ (List.mem_cons_self ..))
  rw [if_pos hc,ih false k aN.2 (fun _ q hq=>aN.1 q hq) (fun q hq=>hl q (List.mem_cons_of_mem _ hq)) hm]
theorem yNn {r:Rows} (hr:RisR r) (hl:(yAk r).length≤1000000):yG2 (yAk r)=some r:=by
 have h1:=yC6 r;have h2:(yAk r).length=(vu r.length).length+(r.flatMap rowB).length:=by unfold yAk;rw [zLa]
 have hp:∀ p ∈ r,p.1.length≤(yAk r).length∧p.2.length≤(yAk r).length:=fun p hp=>by
  obtain ⟨i,hi,he⟩:=List.mem_iff_getElem.1 hp;obtain ⟨t,u,-,-,h3⟩:=yIb (r:=r) (i:=i) (p:=p) (by rw [zLb hi,he]) zO;have tk:p.1.length≤(tx p.1).length:=by unfold tx;rw [zLa];omega
  have tv:p.2.length≤(tx p.2).length:=by unfold tx;rw [zLa];omega
  omega
 unfold yG2;have e:ru (yAk r)=.ok r.length (r.flatMap rowB):=yFz _ zO _;rw [e];simp only;rw [if_pos zO];exact xAP r true [] hr (fun h=>by cases h) hp zO
theorem Ct.rowSl0 {P:Program} {W:World} {f:FuncId} {args:List Value} {Hpre:List SP} {A:SP} {e size m:Nat} {xs:List Value} (h:Ct P W f args Hpre (fun v:Value=>.tuple #[v,zi 0]) (fun v=>[A,yA4 v e size m xs])) :Ct P W f args Hpre (fun x:Option Addr × Nat=>.tuple #[.slice x.1 m x.2,zi 0]) (fun x=>[A,yA4 (.slice x.1 m x.2) e size m xs]):=
 ⟨fun R w s=>(h.go R w s).mono fun en w' ⟨v,he,st⟩=>by
  have aC:=St.row (v:=v) (e:=e) (size:=size) (n:=m) (xs:=xs) st (.there .here);rcases aC.2 with ⟨hv,q⟩|⟨g,cap,aw,hv,_⟩
  ·subst hv;subst q;exact ⟨(none,0),he,st⟩
  ·subst hv;exact ⟨(some ⟨g,0,none⟩,cap),he,st⟩⟩
section
variable {W:World} {p n:Nat} {D:Dsk} {r:Rows}
instance xCf:FnIs prog 136:=⟨zK⟩
theorem yV8 (h1:64≤n) (h2:n≤3000) (aj:Still D) (hn:D.n=n) (e:Nat) (h:yBA D 0=e) (ao:e≠0):CtU prog W 136 [zPp p,.agg (yOj n).toArray] [yA1 p D] (.tuple #[.slice none 0 0,zi 0,zi ((e:Nat))]) [yA1 p D]:=by have cT:=yCx (W:=W) (p:=p) aj zO;rw [h] at cT;have qe:decide (((e:Nat):Int)≠0)=true:=zY zO;refine zE func136 ntmps136 fun R=>?_;repeat' (first|refine zbx fun g3=>?_|refine xqa ?_|refine xsf ?_ ?_|refine xdt zTHS0 ?_|exact xdn ()|apply zN|intro _)
theorem yV9 (h1:64≤n) (h2:n≤3000) (aj:Still D) (hn:D.n=n) (h:yBA D 0=0) (hh:yTn n (234*yAA n) (yBT D 0)=none):CtU prog W 136 [zPp p,.agg (yOj n).toArray] [yA1 p D] (.tuple #[.slice none 0 0,zi 0,zi (15)]) [yA1 p D]:=by have cT:=yCx (W:=W) (p:=p) aj zO;rw [h] at cT;have dw:=yOy D 0;have iu:=ySZ (W:=W) (p:=p) (D:=D) hn zO (yBT D 0) zO hh;refine zE func136 ntmps136 fun R=>?_;repeat' (first|refine zbx fun g3=>?_|refine xca iu fun k=>?_|refine znf ?_|refine xst ?_|refine xsf ?_ ?_|refine xdt zTHS0 ?_|exact xdn ()|apply zN|intro _)
theorem yWa (h1:64≤n) (h2:n≤3000) (aj:Still D) (hn:D.n=n) (v L:Nat) (hv:1≤v∧v≤1099511627776) (hL:L≤234*yAA n) (g1:yBA D 0=0) (g2:yB6 D 0=v) (g3:yBT D 0=yBJ n L) (g4:yCd D (yAG n v) (yAA n) v L=([],15)):CtU prog W 136 [zPp p,.agg (yOj n).toArray] [yA1 p D] (.tuple #[.slice none 0 0,zi 0,zi (15)]) [yA1 p D]:=by have cT:=yCx (W:=W) (p:=p) aj zO;obtain ⟨f1,f2,f3,f4⟩:=yBf h1 v;have hA:=yBr (n:=n) zO;have jc:=yDc n L;have iu:=yFe (W:=W) (p:=p) (D:=D) hn zO (yBJ n L) zO L (yLh zO zO hL);rw [g1,g2,g3] at cT;have dX:=yEd (W:=W) (n:=n) v;have wv:IntKind.u64.wrap ((v:Nat):Int)=((v:Nat):Int):=yAx _ zO;have bC:=yGs (W:=W) (p:=p) (D:=D) aj.ok (by rw [aj.und];simp) (yAG n v:Nat) (yAA n:Nat) v zO (L:Nat);rw [g4] at bC;obtain ⟨hd,aM⟩:∃ hd,hd=yBJ n L:=⟨_,rfl⟩;rw [← aM] at iu cT;clear aM jc g1 g2 g3 g4;refine zE func136 ntmps136 fun R=>?_;repeat' (first|refine zbx fun g3=>?_|refine yAo ?_;refine yAa (yAn (q:=true) rfl rfl rfl) ?_|refine znf ?_|refine yBS ?_;(refine yBn (X:=Unit) xE dX xP rfl ?_)|refine xqa ?_|refine xsf ?_ ?_|refine xdt zTHS1 ?_|exact xdn ()|apply zN|intro _)
theorem yWb (h1:64≤n) (h2:n≤3000) (aj:Still D) (hn:D.n=n) (v L:Nat) (hv:1≤v∧v≤1099511627776) (hL:L≤234*yAA n) (g1:yBA D 0=0) (g2:yB6 D 0=v) (g3:yBT D 0=yBJ n L) (t:zB) (ht:t.length≤1000000) (hr:yG2 t=none) (g4:yCd D (yAG n v) (yAA n) v L=(t,0)):CtU prog W 136 [zPp p,.agg (yOj n).toArray] [yA1 p D] (.tuple #[.slice none 0 0,zi 0,zi (15)]) [yA1 p D]:=by have cT:=yCx (W:=W) (p:=p) aj zO;obtain ⟨f1,f2,f3,f4⟩:=yBf h1 v;have hA:=yBr (n:=n) zO;have jc:=yDc n L;have iu:=yFe (W:=W) (p:=p) (D:=D) hn zO (yBJ n L) zO L (yLh zO zO hL);rw [g1,g2,g3] at cT;have dX:=yEd (W:=W) (n:=n) v;have wv:IntKind.u64.wrap ((v:Nat):Int)=((v:Nat):Int):=yAx _ zO;have bC:=yGs (W:=W) (p:=p) (D:=D) aj.ok (by rw [aj.und];simp) (yAG n v:Nat) (yAA n:Nat) v zO (L:Nat);rw [g4] at bC;obtain ⟨hd,aM⟩:∃ hd,hd=yBJ n L:=⟨_,rfl⟩;rw [← aM] at iu cT;clear aM jc g1 g2 g3 g4;have bL:=yS3 (W:=W) t ht hr;refine zE func136 ntmps136 fun R=>?_;repeat' (first|refine zbx fun g3=>?_|refine xca bL fun x=>?_|refine znf ?_|refine yBS ?_;(refine yBn (X:=Unit) xE dX xP rfl ?_)|refine xqa ?_|refine xsf ?_ ?_|refine xdt zTHS1 ?_|exact xdn ()|apply zN|intro _)
theorem yWc (h1:64≤n) (h2:n≤3000) (aj:Still D) (hn:D.n=n) (v:Nat) {r0:Rows} (hr:RisR r0) (hv:1≤v∧v≤1099511627776) (hL:(yAk r0).length≤234*yAA n) (g1:yBA D 0=0) (g2:yB6 D 0=v) (g3:yBT D 0=yBJ n (yAk r0).length) (g4:yCd D (yAG n v) (yAA n) v (yAk r0).length=(yAk r0,0)) (ab:List zB) (g5:yHb D (yAN n:Nat) (yA7 n:Nat) v ((((yA7 n:Nat):Int).toNat)+1) 0 []=ab) (i0:Nat) (hi0:i0<ab.length) (hb:∀ x,ab[i0]? = some x→(yAV x).2≠0) (hg:∀ j x,j<i0→ab[j]? = some x→(yAV x).2=0):CtU prog W 136 [zPp p,.agg (yOj n).toArray] [yA1 p D] (.tuple #[.slice none 0 0,zi 0,zi (15)]) [yA1 p D]:=by
 have cT:=yCx (W:=W) (p:=p) aj zO;have eK:yAA n≤1000:=by unfold yAA;omega
 have j8:yG2 (yAk r0)=some r0:=yNn hr zO;have cP:yA7 n≤3000:=by unfold yA7;omega
 obtain ⟨l1,l2⟩:=yIi (D:=D) (at_:=(yAN n:Nat)) (n:=(yA7 n:Nat)) (ver:=v) (((yA7 n:Nat):Int).toNat+1) 0 [] 0 (fun x hx=>by cases hx) (Nat.le_refl _);rw [g5] at l1 l2;have aO:∀ i,i≤ab.length→(lgR r0 ab i).length≤15335424+i*15269888:=by
  intro i
  induction i with
  |zero=>intro _;show r0.length≤_;have:=yC6 r0;have h9:(yAk r0).length=(vu r0.length).length+(r0.flatMap rowB).length:=(by unfold yAk;rw [zLa]);omega
  |succ i ih=>
   intro hi;obtain ⟨x,hx⟩:∃ x,ab[i]? = some x:=⟨_,zLb zO⟩;have h1:=yCX (yAV x).1 (lgR r0 ab i);have h2:=yDY x;have h3:=l1 x (zLk hx);have h4:=ih zO;rw [yCH r0 hx,zLH];omega
 have aO:∀ i,i≤ab.length→(lgR r0 ab i).length≤100000000000:=fun i hi=>by have h3:=aO i hi;have:i*15269888≤3001*15269888:=zLt _ zO;omega
 have dZ:=yIZ (W:=W) (yAk r0) zO r0 j8;have bz:=fun i=>yRu hr ab i;obtain ⟨L,ji⟩:∃ L,L=(yAk r0).length:=⟨_,rfl⟩;rw [← ji] at hL g3 g4;obtain ⟨f1,f2,f3,f4⟩:=yBf h1 v;have hA:=yBr (n:=n) zO;have jc:=yDc n L;have iu:=yFe (W:=W) (p:=p) (D:=D) hn zO (yBJ n L) zO L (yLh zO zO hL);rw [g1,g2,g3] at cT;have dX:=yEd (W:=W) (n:=n) v;have wv:IntKind.u64.wrap ((v:Nat):Int)=((v:Nat):Int):=yAx _ zO;have bC:=yGs (W:=W) (p:=p) (D:=D) aj.ok (by rw [aj.und];simp) (yAG n v:Nat) (yAA n:Nat) v zO (L:Nat);rw [g4] at bC;obtain ⟨hd,aM⟩:∃ hd,hd=yBJ n L:=⟨_,rfl⟩;rw [← aM] at iu cT;clear aM jc g1 g2 g3 g4;have fW:Ct prog W 181 [zPp p,zi (yAN n:Nat),zi (yA7 n:Nat),zi (v:Nat)] [yA1 p D] (fun x:Option Addr × Nat=>.tuple #[.slice x.1 ab.length x.2,zi 0]) (fun x=>[yA1 p D,lsP lrcC 9 1 (.slice x.1 ab.length x.2) ab]):=by have h:=yIY (W:=W) (p:=p) (D:=D) aj.ok (by rw [aj.und];simp) (yAN n:Nat) (yA7 n:Nat) v zO aj.on ⟨zO,zO,zO,zO,zO,zO,zO⟩;rw [g5,yE9] at h;exact Ct.rowSl0 h
 obtain ⟨S,hS⟩:∃ S,S=yAk r0:=⟨_,rfl⟩;rw [← hS] at dZ bC;clear g5;refine zE func136 ntmps136 fun R=>?_;repeat' (first|refine zbx fun g3=>?_|refine xca fW fun x=>?_;obtain ⟨xa,xc⟩:=x|refine xca dZ fun x=>?_;obtain ⟨ra,rc⟩:=x|refine znf ?_|refine yBS ?_;(refine yBn (X:=Unit) xE dX xP rfl ?_)|refine xqa ?_|refine xsf ?_ ?_|refine xdt zTHS1 ?_|apply zN|intro _)
 have d5:Lv W lrcC 1 (lsP lrcC 9 1 (.slice xa ab.length xc) ab) xa ab:=Lv.own yDu rfl
 refine yAC (fun x:{x:Nat × Rows × Option Addr × Nat//x.1≤i0∧x.2.1=lgR r0 ab x.1}=>[(0,zPp p),(3,zPp g3),(8,zi (v:Nat)),(13,.slice x.1.2.2.1 x.1.2.1.length x.1.2.2.2),(14,.slice xa ab.length xc),(16,zi (x.1.1:Nat))])
  (fun x=>[yA1 p D,yAj g3 (yOj n) 80,yAO (x.1.2.2.1,x.1.2.2.2) x.1.2.1,lsP lrcC 9 1 (.slice xa ab.length xc) ab]++R) (fun x=>ab.length-x.1.1) ⟨(0,r0,ra,rc),zLA _,rfl⟩ xB (xN) (fun ⟨(i,T,ta,tc),hi,hT⟩=>?_)
 dsimp only at hi hT ⊢;by_cases hlt:i<i0
 ·have hii:i<ab.length:=by omega
  have ql:decide ((i:Int)<(ab.length:Nat))=true:=zY zO;obtain ⟨x,aZ⟩:∃ s,ab[i]? = some s:=⟨_,zLb zO⟩;refine KJ.lvSome d5 xS zO (fun b0 of aJ=>?_);subst aJ;have ae:of+Int.toNat (i:Int)*1=of+i*1+0:=zW;have aR:(lrcC x)[0]? = some (strV x):=rfl;have df:=l1 x (zLk aZ);have bO:=yGX (W:=W) x zO;have fL:=hg i x hlt aZ;rw [fL] at bO;have ax:=yCH r0 aZ;have bS:=aO i zO;have iZ:=yDY x;have hTr:RisR T:=by rw [hT];exact bz i
  have iq:T.length≤100000000000:=by rw [hT];exact bS
  have bP:=fun ya yc=>yFf (W:=W) (yAO (ta,tc) T) _ ta ya tc yc T (yAV x).1 (Lv.own (e:=64) (c:=tc) yBp rfl) (Lv.own (e:=58) (c:=yc) yAY rfl) hTr zO;have be:yAP T (yAV x).1=lgR r0 ab (i+1):=by rw [hT,ax]
  obtain ⟨os,cQ⟩:∃ os,os=(yAV x).1:=⟨_,rfl⟩;rw [← cQ] at bO bP be;obtain ⟨T2,jV⟩:∃ T2,T2=yAP T os:=⟨_,rfl⟩;rw [← jV] at be;simp only [← jV] at bP;repeat' (first|refine xca (bP _ _) fun y=>?_;obtain ⟨za,zc⟩:=y|refine xca bO fun y=>?_;obtain ⟨ya,yc⟩:=y|refine yAi ?_;refine yAa (yA0 yDu d5 rfl rfl xS ae aZ aR) ?_|refine zad (i+1) ?_|refine znf ?_|refine xqa ?_|refine xsf ?_ ?_|refine xdt zTHS0 ?_|apply zN|intro _)
  all_goals refine yAs ⟨(i+1,T2,_,_),by dsimp only;omega,be⟩ (by show ab.length-(i+1)<ab.length-i;omega) xB (xN)
 ·obtain rfl:i=i0:=by omega
  have ql:decide ((i:Int)<(ab.length:Nat))=true:=zY zO;obtain ⟨x,aZ⟩:∃ s,ab[i]? = some s:=⟨_,zLb zO⟩;refine KJ.lvSome d5 xS zO (fun b0 of aJ=>?_);subst aJ;have ae:of+Int.toNat (i:Int)*1=of+i*1+0:=zW;have aR:(lrcC x)[0]? = some (strV x):=rfl;have df:=l1 x (zLk aZ);have bO:=yGX (W:=W) x zO;have fL:=hb x aZ;have qe:decide ((((yAV x).2:Nat):Int)≠0)=true:=zY zO;repeat' (first|refine xca bO fun y=>?_;obtain ⟨ya,yc⟩:=y|refine yAi ?_;refine yAa (yA0 yDu d5 rfl rfl xS ae aZ aR) ?_|refine xqa ?_|refine xsf ?_ ?_|refine xdt zTHS0 ?_|exact xdn ()|apply zN|intro _)
theorem yWd (h1:64≤n) (h2:n≤3000) (aj:Still D) (hn:D.n=n) (v:Nat) {r0:Rows} (hr:RisR r0) (hv:1≤v∧v≤1099511627776) (hL:(yAk r0).length≤234*yAA n) (g1:yBA D 0=0) (g2:yB6 D 0=v) (g3:yBT D 0=yBJ n (yAk r0).length) (g4:yCd D (yAG n v) (yAA n) v (yAk r0).length=(yAk r0,0)) (ab:List zB) (g5:yHb D (yAN n:Nat) (yA7 n:Nat) v ((((yA7 n:Nat):Int).toNat)+1) 0 []=ab) (cV:∀ x ∈ ab,(yAV x).2=0) (cM:234*yAA n<(yAk (lgR r0 ab ab.length)).length):CtU prog W 136 [zPp p,.agg (yOj n).toArray] [yA1 p D] (.tuple #[.slice none 0 0,zi 0,zi (15)]) [yA1 p D]:=by
 have cT:=yCx (W:=W) (p:=p) aj zO;have eK:yAA n≤1000:=by unfold yAA;omega
 have j8:yG2 (yAk r0)=some r0:=yNn hr zO;have cP:yA7 n≤3000:=by unfold yA7;omega
 obtain ⟨l1,l2⟩:=yIi (D:=D) (at_:=(yAN n:Nat)) (n:=(yA7 n:Nat)) (ver:=v) (((yA7 n:Nat):Int).toNat+1) 0 [] 0 (fun x hx=>by cases hx) (Nat.le_refl _);rw [g5] at l1 l2;have aO:∀ i,i≤ab.length→(lgR r0 ab i).length≤15335424+i*15269888:=by
  intro i
  induction i with
  |zero=>intro _;show r0.length≤_;have:=yC6 r0;have h9:(yAk r0).length=(vu r0.length).length+(r0.flatMap rowB).length:=(by unfold yAk;rw [zLa]);omega
  |succ i ih=>
   intro hi;obtain ⟨x,hx⟩:∃ x,ab[i]? = some x:=⟨_,zLb zO⟩;have h1:=yCX (yAV x).1 (lgR r0 ab i);have h2:=yDY x;have h3:=l1 x (zLk hx);have h4:=ih zO;rw [yCH r0 hx,zLH];omega
 have aO:∀ i,i≤ab.length→(lgR r0 ab i).length≤100000000000:=fun i hi=>by have h3:=aO i hi;have:i*15269888≤3001*15269888:=zLt _ zO;omega
 have dZ:=yIZ (W:=W) (yAk r0) zO r0 j8;have bz:=fun i=>yRu hr ab i;obtain ⟨L,ji⟩:∃ L,L=(yAk r0).length:=⟨_,rfl⟩;rw [← ji] at hL g3 g4;obtain ⟨f1,f2,f3,f4⟩:=yBf h1 v;have hA:=yBr (n:=n) zO;have jc:=yDc n L;have iu:=yFe (W:=W) (p:=p) (D:=D) hn zO (yBJ n L) zO L (yLh zO zO hL);rw [g1,g2,g3] at cT;have dX:=yEd (W:=W) (n:=n) v;have wv:IntKind.u64.wrap ((v:Nat):Int)=((v:Nat):Int):=yAx _ zO;have bC:=yGs (W:=W) (p:=p) (D:=D) aj.ok (by rw [aj.und];simp) (yAG n v:Nat) (yAA n:Nat) v zO (L:Nat);rw [g4] at bC;obtain ⟨hd,aM⟩:∃ hd,hd=yBJ n L:=⟨_,rfl⟩;rw [← aM] at iu cT;clear aM jc g1 g2 g3 g4;have fW:Ct prog W 181 [zPp p,zi (yAN n:Nat),zi (yA7 n:Nat),zi (v:Nat)] [yA1 p D] (fun x:Option Addr × Nat=>.tuple #[.slice x.1 ab.length x.2,zi 0]) (fun x=>[yA1 p D,lsP lrcC 9 1 (.slice x.1 ab.length x.2) ab]):=by have h:=yIY (W:=W) (p:=p) (D:=D) aj.ok (by rw [aj.und];simp) (yAN n:Nat) (yA7 n:Nat) v zO aj.on ⟨zO,zO,zO,zO,zO,zO,zO⟩;rw [g5,yE9] at h;exact Ct.rowSl0 h
 obtain ⟨S,hS⟩:∃ S,S=yAk r0:=⟨_,rfl⟩;rw [← hS] at dZ bC;clear g5;refine zE func136 ntmps136 fun R=>?_;repeat' (first|refine zbx fun g3=>?_|refine xca fW fun x=>?_;obtain ⟨xa,xc⟩:=x|refine xca dZ fun x=>?_;obtain ⟨ra,rc⟩:=x|refine znf ?_|refine yBS ?_;(refine yBn (X:=Unit) xE dX xP rfl ?_)|refine xqa ?_|refine xsf ?_ ?_|refine xdt zTHS1 ?_|apply zN|intro _)
 have d5:Lv W lrcC 1 (lsP lrcC 9 1 (.slice xa ab.length xc) ab) xa ab:=Lv.own yDu rfl
 refine yAC (fun x:{x:Nat × Rows × Option Addr × Nat//x.1≤ab.length∧x.2.1=lgR r0 ab x.1}=>[(0,zPp p),(3,zPp g3),(8,zi (v:Nat)),(13,.slice x.1.2.2.1 x.1.2.1.length x.1.2.2.2),(14,.slice xa ab.length xc),(16,zi (x.1.1:Nat))])
  (fun x=>[yA1 p D,yAj g3 (yOj n) 80,yAO (x.1.2.2.1,x.1.2.2.2) x.1.2.1,lsP lrcC 9 1 (.slice xa ab.length xc) ab]++R) (fun x=>ab.length-x.1.1) ⟨(0,r0,ra,rc),zLA _,rfl⟩ xB (xN) (fun ⟨(i,T,ta,tc),hi,hT⟩=>?_)
 dsimp only at hi hT ⊢;by_cases hlt:i<ab.length
 ·have hii:i<ab.length:=by omega
  have ql:decide ((i:Int)<(ab.length:Nat))=true:=zY zO;obtain ⟨x,aZ⟩:∃ s,ab[i]? = some s:=⟨_,zLb zO⟩;refine KJ.lvSome d5 xS zO (fun b0 of aJ=>?_);subst aJ;have ae:of+Int.toNat (i:Int)*1=of+i*1+0:=zW;have aR:(lrcC x)[0]? = some (strV x):=rfl;have df:=l1 x (zLk aZ);have bO:=yGX (W:=W) x zO;have fL:=cV x (zLk aZ);rw [fL] at bO;have ax:=yCH r0 aZ;have bS:=aO i zO;have iZ:=yDY x;have hTr:RisR T:=by rw [hT];exact bz i
  have iq:T.length≤100000000000:=by rw [hT];exact bS
  have bP:=fun ya yc=>yFf (W:=W) (yAO (ta,tc) T) _ ta ya tc yc T (yAV x).1 (Lv.own (e:=64) (c:=tc) yBp rfl) (Lv.own (e:=58) (c:=yc) yAY rfl) hTr zO;have be:yAP T (yAV x).1=lgR r0 ab (i+1):=by rw [hT,ax]
  obtain ⟨os,cQ⟩:∃ os,os=(yAV x).1:=⟨_,rfl⟩;rw [← cQ] at bO bP be;obtain ⟨T2,jV⟩:∃ T2,T2=yAP T os:=⟨_,rfl⟩;rw [← jV] at be;simp only [← jV] at bP;repeat' (first|refine xca (bP _ _) fun y=>?_;obtain ⟨za,zc⟩:=y|refine xca bO fun y=>?_;obtain ⟨ya,yc⟩:=y|refine yAi ?_;refine yAa (yA0 yDu d5 rfl rfl xS ae aZ aR) ?_|refine zad (i+1) ?_|refine znf ?_|refine xqa ?_|refine xsf ?_ ?_|refine xdt zTHS0 ?_|apply zN|intro _)
  all_goals refine yAs ⟨(i+1,T2,_,_),by dsimp only;omega,be⟩ (by show ab.length-(i+1)<ab.length-i;omega) xB (xN)
 ·have ql:decide ((i:Int)<(ab.length:Nat))=false:=zZ zO;obtain rfl:i=ab.length:=zO;have dG:=yQc hr ab (fun x hx=>by have:=l1 x hx;omega) zO zO;have bj:=yEe (W:=W) (yAO (ta,tc) T) ta tc T (Lv.own (e:=64) (c:=tc) yBp rfl) (by rw [hT];exact dG);have j3:=yFa (W:=W) (n:=yAA n) zO;have qg:decide (((234*yAA n:Nat):Int)<(((yAk T).length:Nat):Int))=true:=zY (by rw [hT];omega);repeat' (first|(refine yBS ?_;first|(refine yBn (X:=Unit) xE bj xP rfl ?_)|(refine yBn (X:=Unit) xE j3 xP rfl ?_))|refine xqa ?_|refine xsf ?_ ?_|refine xdt zTHS1 ?_|exact xdn ()|apply zN|intro _)
theorem yS8 (h1:64≤n) (h2:n≤3000) (aj:Still D) (hn:D.n=n) {r0:Rows} {ab:List zB} {v:Nat} (hO:LiesO n D r0 ab v r):Ct prog W 136 [zPp p,.agg (yOj n).toArray] [yA1 p D] (fun x:Option Addr × Nat=>.tuple #[.slice x.1 r.length x.2,zi (v:Nat),zi 0]) (fun x=>[yA1 p D,yAO x r]):=by
 obtain ⟨g1,g2,hv,g3,g4,hr,hL,g5,cV,his,ah⟩:=hO;have cT:=yCx (W:=W) (p:=p) aj zO;have eK:yAA n≤1000:=by unfold yAA;omega
 have j8:yG2 (yAk r0)=some r0:=yNn hr zO;have cP:yA7 n≤3000:=by unfold yA7;omega
 obtain ⟨l1,l2⟩:=yIi (D:=D) (at_:=(yAN n:Nat)) (n:=(yA7 n:Nat)) (ver:=v) (((yA7 n:Nat):Int).toNat+1) 0 [] 0 (fun x hx=>by cases hx) (Nat.le_refl _);rw [g5] at l1 l2;have aO:∀ i,i≤ab.length→(lgR r0 ab i).length≤15335424+i*15269888:=by
  intro i
  induction i with
  |zero=>intro _;show r0.length≤_;have:=yC6 r0;have h9:(yAk r0).length=(vu r0.length).length+(r0.flatMap rowB).length:=(by unfold yAk;rw [zLa]);omega
  |succ i ih=>
   intro hi;obtain ⟨x,hx⟩:∃ x,ab[i]? = some x:=⟨_,zLb zO⟩;have h1:=yCX (yAV x).1 (lgR r0 ab i);have h2:=yDY x;have h3:=l1 x (zLk hx);have h4:=ih zO;rw [yCH r0 hx,zLH];omega
 have aO:∀ i,i≤ab.length→(lgR r0 ab i).length≤100000000000:=fun i hi=>by have h3:=aO i hi;have:i*15269888≤3001*15269888:=zLt _ zO;omega
 have dZ:=yIZ (W:=W) (yAk r0) zO r0 j8;have bz:=fun i=>yRu hr ab i;obtain ⟨L,ji⟩:∃ L,L=(yAk r0).length:=⟨_,rfl⟩;rw [← ji] at hL g3 g4;obtain ⟨f1,f2,f3,f4⟩:=yBf h1 v;have hA:=yBr (n:=n) zO;have jc:=yDc n L;have iu:=yFe (W:=W) (p:=p) (D:=D) hn zO (yBJ n L) zO L (yLh zO zO hL);rw [g1,g2,g3] at cT;have dX:=yEd (W:=W) (n:=n) v;have wv:IntKind.u64.wrap ((v:Nat):Int)=((v:Nat):Int):=yAx _ zO;have bC:=yGs (W:=W) (p:=p) (D:=D) aj.ok (by rw [aj.und];simp) (yAG n v:Nat) (yAA n:Nat) v zO (L:Nat);rw [g4] at bC;obtain ⟨hd,aM⟩:∃ hd,hd=yBJ n L:=⟨_,rfl⟩;rw [← aM] at iu cT;clear aM jc g1 g2 g3 g4;have fW:Ct prog W 181 [zPp p,zi (yAN n:Nat),zi (yA7 n:Nat),zi (v:Nat)] [yA1 p D] (fun x:Option Addr × Nat=>.tuple #[.slice x.1 ab.length x.2,zi 0]) (fun x=>[yA1 p D,lsP lrcC 9 1 (.slice x.1 ab.length x.2) ab]):=by have h:=yIY (W:=W) (p:=p) (D:=D) aj.ok (by rw [aj.und];simp) (yAN n:Nat) (yA7 n:Nat) v zO aj.on ⟨zO,zO,zO,zO,zO,zO,zO⟩;rw [g5,yE9] at h;exact Ct.rowSl0 h
 obtain ⟨S,hS⟩:∃ S,S=yAk r0:=⟨_,rfl⟩;rw [← hS] at dZ bC;clear g5;refine zE func136 ntmps136 fun R=>?_;repeat' (first|refine zbx fun g3=>?_|refine xca fW fun x=>?_;obtain ⟨xa,xc⟩:=x|refine xca dZ fun x=>?_;obtain ⟨ra,rc⟩:=x|refine znf ?_|refine yBS ?_;(refine yBn (X:=Unit) xE dX xP rfl ?_)|refine xqa ?_|refine xsf ?_ ?_|refine xdt zTHS1 ?_|apply zN|intro _)
 have d5:Lv W lrcC 1 (lsP lrcC 9 1 (.slice xa ab.length xc) ab) xa ab:=Lv.own yDu rfl
 refine yAC (fun x:{x:Nat × Rows × Option Addr × Nat//x.1≤ab.length∧x.2.1=lgR r0 ab x.1}=>[(0,zPp p),(3,zPp g3),(8,zi (v:Nat)),(13,.slice x.1.2.2.1 x.1.2.1.length x.1.2.2.2),(14,.slice xa ab.length xc),(16,zi (x.1.1:Nat))])
  (fun x=>[yA1 p D,yAj g3 (yOj n) 80,yAO (x.1.2.2.1,x.1.2.2.2) x.1.2.1,lsP lrcC 9 1 (.slice xa ab.length xc) ab]++R) (fun x=>ab.length-x.1.1) ⟨(0,r0,ra,rc),zLA _,rfl⟩ xB (xN) (fun ⟨(i,T,ta,tc),hi,hT⟩=>?_)
 dsimp only at hi hT ⊢;by_cases hlt:i<ab.length
 ·have hii:i<ab.length:=by omega
  have ql:decide ((i:Int)<(ab.length:Nat))=true:=zY zO;obtain ⟨x,aZ⟩:∃ s,ab[i]? = some s:=⟨_,zLb zO⟩;refine KJ.lvSome d5 xS zO (fun b0 of aJ=>?_);subst aJ;have ae:of+Int.toNat (i:Int)*1=of+i*1+0:=zW;have aR:(lrcC x)[0]? = some (strV x):=rfl;have df:=l1 x (zLk aZ);have bO:=yGX (W:=W) x zO;have fL:=cV x (zLk aZ);rw [fL] at bO;have ax:=yCH r0 aZ;have bS:=aO i zO;have iZ:=yDY x;have hTr:RisR T:=by rw [hT];exact bz i
  have iq:T.length≤100000000000:=by rw [hT];exact bS
  have bP:=fun ya yc=>yFf (W:=W) (yAO (ta,tc) T) _ ta ya tc yc T (yAV x).1 (Lv.own (e:=64) (c:=tc) yBp rfl) (Lv.own (e:=58) (c:=yc) yAY rfl) hTr zO;have be:yAP T (yAV x).1=lgR r0 ab (i+1):=by rw [hT,ax]
  obtain ⟨os,cQ⟩:∃ os,os=(yAV x).1:=⟨_,rfl⟩;rw [← cQ] at bO bP be;obtain ⟨T2,jV⟩:∃ T2,T2=yAP T os:=⟨_,rfl⟩;rw [← jV] at be;simp only [← jV] at bP;repeat' (first|refine xca (bP _ _) fun y=>?_;obtain ⟨za,zc⟩:=y|refine xca bO fun y=>?_;obtain ⟨ya,yc⟩:=y|refine yAi ?_;refine yAa (yA0 yDu d5 rfl rfl xS ae aZ aR) ?_|refine zad (i+1) ?_|refine znf ?_|refine xqa ?_|refine xsf ?_ ?_|refine xdt zTHS0 ?_|apply zN|intro _)
  all_goals refine yAs ⟨(i+1,T2,_,_),by dsimp only;omega,be⟩ (by show ab.length-(i+1)<ab.length-i;omega) xB (xN)
 ·have ql:decide ((i:Int)<(ab.length:Nat))=false:=zZ zO;obtain rfl:i=ab.length:=zO;have dG:=yQc hr ab (fun x hx=>by have:=l1 x hx;omega) zO zO;have bj:=yEe (W:=W) (yAO (ta,tc) T) ta tc T (Lv.own (e:=64) (c:=tc) yBp rfl) (by rw [hT];exact dG);have j3:=yFa (W:=W) (n:=yAA n) zO;have qg:decide (((234*yAA n:Nat):Int)<(((yAk T).length:Nat):Int))=false:=zZ (by rw [hT,his];omega);rw [his] at hT;subst hT;repeat' (first|(refine yBS ?_;first|(refine yBn (X:=Unit) xE bj xP rfl ?_)|(refine yBn (X:=Unit) xE j3 xP rfl ?_))|refine xqa ?_|refine xsf ?_ ?_|refine xdt zTHS1 ?_|apply zN|intro _)
  all_goals (exact xdn (ta,tc))
end
abbrev rsC (p n:Nat) (ra:Option Addr) (rl rc:Nat) (v:Int) (j:Option Addr) (life:Int) (dead:Bool):List Value:=[zPp p,zi 2,zi (2+yAA n:Nat),zi (yAA n:Nat),zi (yAN n:Nat),zi (yA7 n:Nat),.slice ra rl rc,zi v,.pointer j,zi life,.bool dead]
abbrev rsP (t p n:Nat) (ra:Option Addr) (rl rc:Nat) (v:Int) (j:Option Addr) (life:Int) (dead:Bool):SP:=yAj t (rsC p n ra rl rc v j life dead) 83
abbrev rjP (g p n v used:Nat) (dead:Bool) (life:Int):SP:=yAj g [zPp p,zi (yAN n:Nat),zi (yA7 n:Nat),zi (v:Nat),zi (used:Nat),.bool dead,zi life] 201
section
variable {W:World} {p n t:Nat} {D:Dsk} {r:Rows}
instance xCg:FnIs prog 75:=⟨zK⟩
instance xA5:FnIs prog 69:=⟨zK⟩
theorem yGw (v:Int) (hv:1099511627776≤v) (ra:Option Addr) (rl rc:Nat) (j:Option Addr) (life:Int) (dead:Bool) :CtU prog W 75 [zPp t] [rsP t p n ra rl rc v j life dead] (zi 16) [rsP t p n ra rl rc v j life dead]:=by
 have q1:decide ((1099511627776:Int)≤v)=true:=zY hv;refine zE func75 ntmps75 fun R=>?_;repeat' (first|refine xqa ?_|refine xsf ?_ ?_|refine xdt [(3,yV6),(8,yV7)] ?_|exact xdn ()|apply zN|intro _)
theorem yI1 (A:SP) (ra:Option Addr) (rc:Nat) (hA:Lv W rC 2 A ra r) (h1:64≤n) (h2:n≤3000) (aj:Still D) (hn:D.n=n) (v:Nat) (hv:v+1≤1099511627776) (j:Option Addr) (life:Int) (ah:(yAk r).length≤234*yAA n) :(yDW D n v r=12→CtU prog W 75 [zPp t] [A,rsP t p n ra r.length rc (v:Nat) j life false,yA1 p D] (zi 12) [A,rsP t p n ra r.length rc (v:Nat) j life true,yA1 p (yCk D n v r)])∧ (yDW D n v r=0→Ct prog W 75 [zPp t] [A,rsP t p n ra r.length rc (v:Nat) j life false,yA1 p D] (fun _:Nat=>.int .i64 0) (fun g=>[A,rsP t p n ra r.length rc (v+1:Nat) (zq g) life false,yA1 p (yCk D n v r),rjP g p n (v+1) 0 false (yCk D n v r).life])):=by
 have fB:yAA n≤1000:=by unfold yAA;omega
 obtain ⟨f1,f2,f3,f4⟩:=yBf h1 0;have cm:=yL5 (W:=W) (p:=p) (D:=D) A ra rc hA h1 zO aj hn v (v+1) rfl hv ah zO;have fw:=yC7 aj hn h1 zO v hv r ah;have q1:decide ((1099511627776:Int)≤(v:Nat))=false:=zZ zO;have ev:((v:Nat):Int)+1=((v+1:Nat):Int):=zO;have hnW:=fw.nn;obtain ⟨D2,aF⟩:∃ D2,D2=yCk D n v r:=⟨_,rfl⟩;refine ⟨fun h=>?_,fun h=>?_⟩
 ·rw [h,← aF] at cm;rw [← aF];clear aF hnW;refine zE func75 ntmps75 fun R=>?_;repeat' (first|refine yAr ?_;refine yAa (yAd rfl rfl ev zO) ?_|refine yAo ?_;refine yAa (yAn (q:=true) rfl rfl rfl) ?_|refine xqa ?_|refine xsf ?_ ?_|refine xdt [(3,yV6),(8,yV7)] ?_|exact xdn ()|apply zN|intro _)
 ·have ig:(yCk D n v r).off=false:=by
   rcases fw.way with ⟨-,q⟩|⟨q,-⟩
   ·exact q.on
   ·rw [h] at q;cases q
  rw [h,← aF] at cm;rw [← aF] at ig hnW ⊢;have cb:=yVR (W:=W) (p:=p) (D:=D2) (yAN n:Nat) (yA7 n:Nat) (v+1:Nat) zO ig ⟨zO,zO,zO,zO,zO,zO,zO⟩;clear aF;refine zE func75 ntmps75 fun R=>?_;repeat' (first|refine xca cb fun g=>?_|refine yAr ?_;refine yAa (yAd rfl rfl ev zO) ?_|refine znf ?_|refine xqa ?_|refine xsf ?_ ?_|refine xdt [(3,yV6),(8,yV7)] ?_|apply zN|intro _)
  all_goals (exact xdn g)
theorem yL8 (h1:64≤n) (h2:n≤3000) (aj:Still D) (hn:D.n=n) (e:Nat) (hB:Bad n D e):e≠0∧ CtU prog W 136 [zPp p,.agg (yOj n).toArray] [yA1 p D] (.tuple #[.slice none 0 0,zi 0,zi (e:Nat)]) [yA1 p D]:=by
 have fB:yAA n≤1000:=by unfold yAA;omega
 cases hB with
 |slot e h ao=>exact ⟨ao,yV8 h1 h2 aj hn e h ao⟩
 |hdr h hh=>exact ⟨zO,yV9 h1 h2 aj hn h hh⟩
 |area v k h hv v1 hh hk ha=>exact ⟨zO,yWa h1 h2 aj hn v k v1 hk h hv hh ha⟩
 |rows v k s h hv v1 hh hk ha hs hr=>exact ⟨zO,yWb h1 h2 aj hn v k v1 hk h hv hh s zO hr ha⟩
 |bat v r0 ab i h hv v1 hh hk ha hr rp hi hb hg=>exact ⟨zO,yWc h1 h2 aj hn v hr v1 hk h hv hh ha ab rp i hi hb hg⟩
 |room v r0 ab h hv v1 hh hk ha hr rp hd hb=>exact ⟨zO,yWd h1 h2 aj hn v hr v1 hk h hv hh ha ab rp hd hb⟩
theorem yS9 (h1:64≤n) (h2:n≤3000) (aj:Still D) (hn:D.n=n) (e:Nat) (hB:Bad n D e) :CtU prog W 69 [zPp p] [yA1 p D] (.tuple #[.pointer none,zi (e:Nat)]) [yA1 p D]:=by
 obtain ⟨ao,cl⟩:=yL8 (W:=W) (p:=p) h1 h2 aj hn e hB;have eP:=yGV (W:=W) h1 (show n≤65536 by omega);have qe:decide (((e:Nat):Int)≠0)=true:=zY zO;refine zE func69 ntmps69 fun R=>?_;refine KJ.unpack_at (F:=yCE p D) xS (fun x=>?_);obtain ⟨sv,wv⟩:=x;rw [yAZ,hn,aj.on];refine KJ.row_slice xS (fun sa sc e=>?_);subst e;repeat' (first|refine yAE (id:=6) ?_;refine yDw ?_|refine zal fun g4=>?_|refine znf ?_|refine xst ?_|refine xsf ?_ ?_|refine xdr 9 yFS ?_|apply zN|intro _)
 refine Hold.mk ?_;refine KJ.pack (tag:=21) (key:=p) (F:=yCE p D) (.slice sa n sc,wv) (by rw [yAZ,hn,aj.on];exact xP) ?_;repeat' (first|refine xca cl fun _=>?_|refine xqa ?_|refine xsf ?_ ?_|refine xdr 9 yFS ?_|exact xdn ()|apply zN|intro _)
theorem yTa (h1:64≤n) (h2:n≤3000) (aj:Still D) (hn:D.n=n) {r0:Rows} {ab:List zB} {v:Nat} (hL:LiesO n D r0 ab v r) :(yS6 D n v r≠0→CtU prog W 69 [zPp p] [yA1 p D] (.tuple #[.pointer none,zi (yS6 D n v r:Nat)]) [yA1 p (yOG D n v r)])∧ (yS6 D n v r=0→Ct prog W 69 [zPp p] [yA1 p D] (fun x:Nat × (Option Addr × Nat) × Nat=>.tuple #[.pointer (some ⟨x.1,0,none⟩),zi 0]) (fun x=>[rsP x.1 p n x.2.1.1 r.length x.2.1.2 (v+1:Nat) (some ⟨x.2.2,0,none⟩) D.life false,yA1 p (yOG D n v r),yAO x.2.1 r,rjP x.2.2 p n (v+1) 0 false (yOG D n v r).life])):=by
 have cl:=yS8 (W:=W) (p:=p) h1 h2 aj hn hL;have eP:=yGV (W:=W) h1 (show n≤65536 by omega);have hv:=hL.v1;have ah:=hL.room;have dp:∀ sv wv:Value,[sv,wv,.bool D.off,.bool (decide (0≤D.armed)),zi (max D.armed 0),zi D.writes,zi D.flushes,zi D.life][0+7]? = some (zi D.life):=fun _ _=>rfl;unfold yS6 yOG;by_cases hw:1099511627776≤v
 ·rw [if_pos hw,if_pos hw];refine ⟨fun _=>?_,fun h=>by cases h⟩;refine zE func69 ntmps69 fun R=>?_;refine KJ.unpack_at (F:=yCE p D) xS (fun x=>?_);obtain ⟨sv,wv⟩:=x;rw [yAZ,hn,aj.on];refine KJ.row_slice xS (fun sa sc e=>?_);subst e;repeat' (first|refine yAE (id:=6) ?_;refine yDw ?_|refine zal fun g4=>?_|refine znf ?_|refine xst ?_|refine xsf ?_ ?_|refine xdr 9 yFS ?_|apply zN|intro _)
  refine Hold.mk ?_;refine KJ.pack (tag:=21) (key:=p) (F:=yCE p D) (.slice sa n sc,wv) (by rw [yAZ,hn,aj.on];exact xP) ?_;repeat' (first|refine yAE (id:=9) ?_;refine yDw ?_|refine xca cl fun x=>?_;obtain ⟨ra,rc⟩:=x|refine znf ?_|refine xst ?_|refine xsf ?_ ?_|refine xdr 9 yFS ?_|apply zN|intro _)
  refine Hold.mk ?_;have hRa:Lv W rC 2 (yAO (ra,rc) r) ra r:=Lv.own (e:=64) (c:=rc) yBp rfl;have cx:=fun t=>yGw (W:=W) (t:=t) (p:=p) (n:=n) (v:Nat) zO ra r.length rc none D.life false;repeat' (first|refine zbx fun g8=>?_|refine xca (cx _) fun _=>?_|refine yAi ?_;refine yAa (yFb rfl xS dp) ?_|refine yAo ?_;refine yAa (yAn (q:=true) rfl rfl rfl) ?_|refine xst ?_|refine xsf ?_ ?_|refine xdr 9 yFS ?_|exact xdn ()|apply zN|intro _)
 rw [if_neg hw,if_neg hw];have nx:=fun (t:Nat) (ra:Option Addr) (rc:Nat) (hRa:Lv W rC 2 (yAO (ra,rc) r) ra r)=>yI1 (W:=W) (t:=t) (p:=p) (D:=D) (yAO (ra,rc) r) ra rc hRa h1 h2 aj hn v zO none D.life ah;obtain ⟨D2,aF⟩:∃ D2,D2=yCk D n v r:=⟨_,rfl⟩;rw [← aF] at nx ⊢;refine ⟨fun h=>?_,fun h=>?_⟩
 ·have bB:yDW D n v r=12:=by
   rcases (yC7 aj hn h1 zO v zO r ah).way with ⟨q,-⟩|⟨q,-⟩
   ·exact absurd q h
   ·exact q
  rw [bB];refine zE func69 ntmps69 fun R=>?_;refine KJ.unpack_at (F:=yCE p D) xS (fun x=>?_);obtain ⟨sv,wv⟩:=x;rw [yAZ,hn,aj.on];refine KJ.row_slice xS (fun sa sc e=>?_);subst e;repeat' (first|refine yAE (id:=6) ?_;refine yDw ?_|refine zal fun g4=>?_|refine znf ?_|refine xst ?_|refine xsf ?_ ?_|refine xdr 9 yFS ?_|apply zN|intro _)
  refine Hold.mk ?_;refine KJ.pack (tag:=21) (key:=p) (F:=yCE p D) (.slice sa n sc,wv) (by rw [yAZ,hn,aj.on];exact xP) ?_;repeat' (first|refine yAE (id:=9) ?_;refine yDw ?_|refine xca cl fun x=>?_;obtain ⟨ra,rc⟩:=x|refine znf ?_|refine xst ?_|refine xsf ?_ ?_|refine xdr 9 yFS ?_|apply zN|intro _)
  refine Hold.mk ?_;have hRa:Lv W rC 2 (yAO (ra,rc) r) ra r:=Lv.own (e:=64) (c:=rc) yBp rfl;have cx:=fun t=>(nx t ra rc hRa).1 bB;repeat' (first|refine zbx fun g8=>?_|refine xca (cx _) fun _=>?_|refine yAi ?_;refine yAa (yFb rfl xS dp) ?_|refine yAo ?_;refine yAa (yAn (q:=true) rfl rfl rfl) ?_|refine xst ?_|refine xsf ?_ ?_|refine xdr 9 yFS ?_|exact xdn ()|apply zN|intro _)
 ·skip
  refine zE func69 ntmps69 fun R=>?_;refine KJ.unpack_at (F:=yCE p D) xS (fun x=>?_);obtain ⟨sv,wv⟩:=x;rw [yAZ,hn,aj.on];refine KJ.row_slice xS (fun sa sc e=>?_);subst e;repeat' (first|refine yAE (id:=6) ?_;refine yDw ?_|refine zal fun g4=>?_|refine znf ?_|refine xst ?_|refine xsf ?_ ?_|refine xdr 9 yFS ?_|apply zN|intro _)
  refine Hold.mk ?_;refine KJ.pack (tag:=21) (key:=p) (F:=yCE p D) (.slice sa n sc,wv) (by rw [yAZ,hn,aj.on];exact xP) ?_;repeat' (first|refine yAE (id:=9) ?_;refine yDw ?_|refine xca cl fun x=>?_;obtain ⟨ra,rc⟩:=x|refine znf ?_|refine xst ?_|refine xsf ?_ ?_|refine xdr 9 yFS ?_|apply zN|intro _)
  refine Hold.mk ?_;have hRa:Lv W rC 2 (yAO (ra,rc) r) ra r:=Lv.own (e:=64) (c:=rc) yBp rfl;have cx:=fun t=>(nx t ra rc hRa).2 h;repeat' (first|refine zbx fun g8=>?_|refine xca (cx _) fun g=>?_|refine yAi ?_;refine yAa (yFb rfl xS dp) ?_|refine znf ?_|refine xst ?_|refine xsf ?_ ?_|refine xdr 9 yFS ?_|apply zN|intro _)
  all_goals (exact xdn (g8,(ra,rc),g))
end
section
variable {W:World} {p n:Nat} {D:Dsk} {r:Rows}
instance yZc:FnIs prog 24:=⟨zK⟩
theorem yLi (B:SP) (h1:n<64) (hn:D.n=n) (ob:Option Addr) (ol oc:Nat) :CtU prog W 24 [zPp p,.slice ob ol oc] [B,yA1 p D] (zi 13) [B,yA1 p D]:=by
 have eP:=yK4 (W:=W) (n:Nat) zO;refine zE func24 ntmps24 fun R=>?_;refine KJ.unpack_at (F:=yCE p D) xS (fun x=>?_);obtain ⟨sv,wv⟩:=x;rw [yAZ,hn];refine KJ.row_slice xS (fun sa sc e=>?_);subst e;repeat' (first|refine zal fun g4=>?_|refine yAo ?_;refine yAa (yAn (q:=true) rfl rfl rfl) ?_|refine xst ?_|refine xsf ?_ ?_|refine xdr 10 yFg ?_|apply zN|intro _)
 refine KJ.pack (tag:=21) (key:=p) (F:=yCE p D) (.slice sa n sc,wv) (by rw [yAZ,hn];exact xP) ?_
 (exact xdn ())
theorem yNo (h1:n<64) (hn:D.n=n) :CtU prog W 69 [zPp p] [yA1 p D] (.tuple #[.pointer none,zi 13]) [yA1 p D]:=by
 have eP:=yK4 (W:=W) (n:Nat) zO;refine yIl fun sv wv=>?_;rw [yAZ,hn];refine zE func69 ntmps69 fun R=>?_;refine KJ.row_slice xS (fun sa sc e=>?_);subst e;repeat' (first|refine zal fun g4=>?_|refine yAo ?_;refine yAa (yAn (q:=true) rfl rfl rfl) ?_|refine xst ?_|refine xsf ?_ ?_|refine xdr 9 yFS ?_|apply zN|intro _)
 refine KJ.pack (tag:=21) (key:=p) (F:=yCE p D) (.slice sa n sc,wv) (by rw [yAZ,hn];exact xP) ?_
 (exact xdn ())
theorem yNp (B:SP) (h1:64≤n) (h2:n≤3000) (aj:Still D) (hn:D.n=n) (h0:yBA D 0=0) (ob:Option Addr) (ol oc:Nat) :CtU prog W 24 [zPp p,.slice ob ol oc] [B,yA1 p D] (zi 21) [B,yA1 p D]:=by
 have eP:=yGV (W:=W) h1 (show n≤65536 by omega);have cT:=yCx (W:=W) (p:=p) aj zO;rw [h0] at cT;refine zE func24 ntmps24 fun R=>?_;refine KJ.unpack_at (F:=yCE p D) xS (fun x=>?_);obtain ⟨sv,wv⟩:=x;rw [yAZ,hn,aj.on];refine KJ.row_slice xS (fun sa sc e=>?_);subst e;repeat' (first|refine yAE (id:=6) ?_;refine yDw ?_|refine zal fun g4=>?_|refine znf ?_|refine xst ?_|refine xsf ?_ ?_|refine xdr 10 yFg ?_|apply zN|intro _)
 refine Hold.mk ?_;refine KJ.pack (tag:=21) (key:=p) (F:=yCE p D) (.slice sa n sc,wv) (by rw [yAZ,hn,aj.on];exact xP) ?_;repeat' (first|refine yAt ?_;refine yAa (yAe (q:=true) rfl rfl rfl) ?_|refine xst ?_|refine xsf ?_ ?_|refine xdr 10 yFg ?_|exact xdn ()|apply zN|intro _)
theorem yOH (h1:64≤n) (h2:n≤3000) (aj:Still D) (hn:D.n=n) (h0:yBA D 0=14) (B:SP) (ob:Option Addr) (oc:Nat) (ops:List BOp) (hB:Lv W opC 3 B ob ops) (ho:ops.length≤100000000) (hr:yAP [] ops=r) (hs:(yAk r).length≤4611686018427387904) :(234*yAA n<(yAk r).length→CtU prog W 24 [zPp p,.slice ob ops.length oc] [B,yA1 p D] (zi 17) [B,yA1 p D])∧ ((yAk r).length≤234*yAA n→CtU prog W 24 [zPp p,.slice ob ops.length oc] [B,yA1 p D] (zi (yDW D n 0 r:Nat)) [B,yA1 p (yCk D n 0 r)]):=by
 have fB:yAA n≤1000:=by unfold yAA;omega
 have eP:=yGV (W:=W) h1 (show n≤65536 by omega);have cT:=yCx (W:=W) (p:=p) aj zO;rw [h0] at cT;have cap:=yFf (W:=W) noP B none ob 0 oc [] ops (Lv.old yBp ⟨none,0,rfl,fun h=>absurd rfl h⟩) hB List.Pairwise.nil (by simp;omega);rw [hr] at cap;have bj:=fun x:Option Addr × Nat=>yEe (W:=W) (yAO x r) x.1 x.2 r (Lv.own (e:=64) (c:=x.2) yBp rfl) hs;have j3:=yFa (W:=W) (n:=yAA n) zO;have ql:(([]:Rows).length:Nat)=0:=rfl;refine ⟨fun cM=>?_,fun ak=>?_⟩
 ·have qg:decide (((234*yAA n:Nat):Int)<(((yAk r).length:Nat):Int))=true:=zY zO;refine zE func24 ntmps24 fun R=>?_;refine KJ.noP ?_;refine KJ.unpack_at (F:=yCE p D) xS (fun x=>?_);obtain ⟨sv,wv⟩:=x;rw [yAZ,hn,aj.on];refine KJ.row_slice xS (fun sa sc e=>?_);subst e;repeat' (first|refine yAE (id:=6) ?_;refine yDw ?_|refine zal fun g4=>?_|refine znf ?_|refine xst ?_|refine xsf ?_ ?_|refine xdr 10 yFg ?_|apply zN|intro _)
  refine Hold.mk ?_;refine KJ.pack (tag:=21) (key:=p) (F:=yCE p D) (.slice sa n sc,wv) (by rw [yAZ,hn,aj.on];exact xP) ?_;repeat' (first|refine yAE (id:=10) ?_;refine yDw ?_|refine xca cap fun y=>?_|refine yAt ?_;refine yAa (yAe (q:=false) rfl rfl rfl) ?_|refine xst ?_|refine xsf ?_ ?_|refine xdr 10 yFg ?_|apply zN|intro _)
  refine Hold.mk ?_;have cz:=bj y;repeat' (first|(refine yBS ?_;first|(refine yBn (X:=Unit) xE cz xP rfl ?_)|(refine yBn (X:=Unit) xE j3 xP rfl ?_))|refine xqa ?_|refine xsf ?_ ?_|refine xdr 10 yIs ?_|exact xdn ()|apply zN|intro _)
 ·have qg:decide (((234*yAA n:Nat):Int)<(((yAk r).length:Nat):Int))=false:=zZ zO;have cmk:=fun x:Option Addr × Nat=>yL5 (W:=W) (p:=p) (D:=D) (yAO x r) x.1 x.2 (Lv.own (e:=64) (c:=x.2) yBp rfl) h1 zO aj hn 0 1 rfl zO ak zO;obtain ⟨D2,aF⟩:∃ D2,D2=yCk D n 0 r:=⟨_,rfl⟩;obtain ⟨fe,kG⟩:∃ fe,fe=yDW D n 0 r:=⟨_,rfl⟩;rw [← aF,← kG];simp only [← aF,← kG] at cmk;clear aF kG;refine zE func24 ntmps24 fun R=>?_;refine KJ.noP ?_;refine KJ.unpack_at (F:=yCE p D) xS (fun x=>?_);obtain ⟨sv,wv⟩:=x;rw [yAZ,hn,aj.on];refine KJ.row_slice xS (fun sa sc e=>?_);subst e;repeat' (first|refine yAE (id:=6) ?_;refine yDw ?_|refine zal fun g4=>?_|refine znf ?_|refine xst ?_|refine xsf ?_ ?_|refine xdr 10 yFg ?_|apply zN|intro _)
  refine Hold.mk ?_;refine KJ.pack (tag:=21) (key:=p) (F:=yCE p D) (.slice sa n sc,wv) (by rw [yAZ,hn,aj.on];exact xP) ?_;repeat' (first|refine yAE (id:=10) ?_;refine yDw ?_|refine xca cap fun y=>?_|refine yAt ?_;refine yAa (yAe (q:=false) rfl rfl rfl) ?_|refine xst ?_|refine xsf ?_ ?_|refine xdr 10 yFg ?_|apply zN|intro _)
  refine Hold.mk ?_;have cz:=bj y;have cm:=cmk y;repeat' (first|refine xca cm fun _=>?_|(refine yBS ?_;first|(refine yBn (X:=Unit) xE cz xP rfl ?_)|(refine yBn (X:=Unit) xE j3 xP rfl ?_))|refine xqa ?_|refine xsf ?_ ?_|refine xdr 10 yIs ?_|exact xdn ()|apply zN|intro _)
end
end Go.Proofs.YtoipmnikdiogcaaGreatDoor
