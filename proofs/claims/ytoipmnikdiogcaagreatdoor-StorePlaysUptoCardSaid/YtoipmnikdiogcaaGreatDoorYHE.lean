/-
  StV3.
-/
import Derived.Test.YtoipmnikdiogcaaGreatDoorYHD
set_option maxHeartbeats 64000000
namespace Go.Proofs.YtoipmnikdiogcaaGreatDoor
open Go Go.RowKit
open Go.Proofs.Tryz
abbrev yFN:Pl:=(po [0,1,2,3,4,8] (.ef 5 [8,0] (.op 6 (.op 7 (.ef 9 [] .nil)))))
abbrev yFO:Pl:=(po [0,1,2,3,4,5,6,7,8,9,10,11,12,13,14,15,16,17,18,19] (.ef 20 [] (po [21,22,23,24,25] .nil)))
abbrev yFP:Pl:=(po [0,1,2,3,4,5,6,7,8,9,10,11,12,13,14] (.ef 15 [] (po [16,17,18,19,20] .nil)))
abbrev yFQ:Pl:=(po [0,1,2,3,5,8] (.ef 4 [8,5] (.ef 6 [8] (.op 7 (.ef 9 [] .nil)))))
abbrev zTHE0:List (Nat×Pl):=[(8,yFN),(9,yFO),(12,yFP),(21,yFQ)]
section
variable {W:World} {F:Nat→Addr} {s d q n:Nat} {D:Dsk}
theorem yVY (hE:ErrsAt W F) (hN:NibAt W) (h1:64≤n) (h2:n≤65536) (life:Int) (fQ:D.n=n) (hs0:yBA D 0=0) (hh:yTn n (234*yAA n) (yBT D 0)=none) :Pn prog W 50 [zPp s] [stP s d q n 0 none life false,DiskP d D] (fun _:Unit=>brk F 15) (fun _=>[DiskP d D]):=by
 have aq:ErrsOn L16 W F:=hE.to16;have ay:ErrsOn L8 W F:=aq.to8;have e1:W.cell? ⟨9,0,none⟩=some (yAy F 1):=aq.at_ 1 zX;have e2:W.cell? ⟨10,0,none⟩=some (yAy F 2):=aq.at_ 2 zX;have e3:W.cell? ⟨11,0,none⟩=some (yAy F 3):=aq.at_ 3 zX;have e5:W.cell? ⟨13,0,none⟩=some (yAy F 5):=aq.at_ 5 zX;have dz:W.cell? ⟨6,0,none⟩=some (yAy F 15):=aq.at_ 15 zX;have hA:=yBr (n:=n) zO;have fF:=fun e (h1:1≤e) (h2:e≤7)=>yCb hE e h1 zO zO;have ib:=yCb hE 15 zO zO zO;have cup:=yEx (W:=W) (F:=F) 15 zO;have cm:=yGl (W:=W);have cc:=yCY (W:=W) aq;have jM:=yC5 (W:=W) (yAy F 15);have bL:=fun q v=>yCw (W:=W) (s:=s) (d:=d) (q:=q) (n:=n) v none life false zO;have bj:CtU prog W 45 [zPp d] [DiskP d D] (zi (n:Nat)) [DiskP d D]:=by have:=yBM (W:=W) (p:=d) (D:=D);rw [fQ] at this;exact this
 have w1:IntKind.u64.wrap ((n:Nat):Int)=((n:Nat):Int):=yAx _ zO;have qe:decide (((n:Nat):Int)=((n:Nat):Int))=true:=zY rfl;obtain ⟨hd,aM⟩:∃ hd,hd=yBT D 0:=⟨_,rfl⟩;obtain ⟨vv,hvv⟩:∃ vv,vv=yB6 D 0:=⟨_,rfl⟩;have ju:hd.length≤234:=by rw [aM];exact yOy D 0
 have cr:CtU prog W 52 [zPp d,zi 0] [DiskP d D] (.tuple #[strV hd,zi vv,.nilIface]) [DiskP d D]:=by have:=yC9 (W:=W) (p:=d) (D:=D) ay hN zO 0;rw [hs0,← aM,← hvv] at this;exact this
 rw [← aM] at hh;clear aM hvv hs0;have bC:=yDK (W:=W) hd;have cu:=fun g=>yEa (W:=W) (F:=F) (p:=g) (s:=hd) (a:=0) zO zO e1 e2 _ rfl;simp only [zLo] at cu;unfold yTn at hh;cases hq:ru hd with
 |bad e=>
  rw [hq] at cu;have z1:rdN (.bad e)=0:=rfl;have z2:rdE (.bad e:Rd Nat)=e:=rfl;rw [z1,z2] at cu;have he:=yDB hq;have ix:=fF e zO zO;refine Pn.enter func50 rfl ntmps50 zW (fun R=>?_);repeat' (first|refine yCy rfl xE ix xP (fun _=>?_)|refine KJ.pnSeq ?_|refine KJ.pnThn ?_|refine KJ.pnBlk ?_|refine xca (cu _) fun _=>?_|refine xca bC fun g=>?_|refine xst ?_|refine xsf ?_ ?_|refine xdt zTHE0 ?_|apply zN|intro _)
  all_goals exact yBR () rfl (xN)
 |ok m t=>
  rw [hq] at hh cu;simp only at hh;have ht:=yDs (s:=hd) (a:=0) (by rw [zLo];exact hq);have hf:=yEL (s:=hd) (a:=0) (by rw [zLo];exact hq);have z1:rdN (.ok m t)=m:=rfl;have z2:rdE (.ok m t)=0:=rfl;have z3:rdL (.ok m t)=(vu m).length:=rfl;have hz:yAy F 0=.nilIface:=rfl;rw [z1,z2,z3,hz] at cu;have hm64:=(yHV hq).2;obtain ⟨a1,bi⟩:∃ x,x=0+(vu m).length:=⟨_,rfl⟩;rw [← bi] at cu ht hf;rw [ht] at hh;clear bi z1 z2 z3 hq ht;have iA:=fun g=>yDM (W:=W) (F:=F) (p:=g) (s:=hd) (a:=a1) (234*yAA n) zO zO zO e1 e2 e3 _ rfl;obtain ⟨q2,bY⟩:∃ q2,q2=ru (hd.drop a1):=⟨_,rfl⟩;rw [← bY] at hh;simp only [← bY] at iA;by_cases hue:yHx (234*yAA n) q2=0;rotate_left
  ·have kO:1≤yHx (234*yAA n) q2∧yHx (234*yAA n) q2≤3:=by
    cases q2 with
    |bad e=>
     have:=yDB bY.symm;show 1≤e∧e≤3;omega
    |ok x t=>
     have e:yHx (234*yAA n) (.ok x t)=if 234*yAA n<x then 3 else 0:=rfl
     rw [e] at hue ⊢;split <;> rename_i h0
     ·omega
     ·rw [if_neg h0] at hue;exact absurd rfl hue
   obtain ⟨ee,iE⟩:∃ ee,ee=yHx (234*yAA n) q2:=⟨_,rfl⟩;obtain ⟨nn,dc⟩:∃ nn,nn=yOU (234*yAA n) q2:=⟨_,rfl⟩;obtain ⟨ll,bS⟩:∃ ll,ll=a1+yOV (234*yAA n) q2:=⟨_,rfl⟩;rw [← iE] at kO;simp only [← iE,← dc,← bS] at iA;have ix:=fF ee zO zO;clear iE dc bS hue hh;refine Pn.enter func50 rfl ntmps50 zW (fun R=>?_);repeat' (first|refine yCy rfl xE ix xP (fun _=>?_)|refine KJ.pnSeq ?_|refine KJ.pnThn ?_|refine KJ.pnBlk ?_|(refine yAb ?_;first|refine xca (iA _) fun _=>?_|refine xca (bL _ _) fun _=>?_|refine xca (cu _) fun _=>?_|refine xca bC fun g=>?_)|refine xst ?_|refine xsf ?_ ?_|refine xdt zTHE0 ?_|apply zN|intro _)
   all_goals exact yBR () rfl (xN)
  cases q2 with
  |bad e=>
   have he:e=0:=hue;have:=yDB bY.symm;omega
  |ok k u=>
   simp only at hh;have hkr:¬ 234*yAA n<k:=fun h=>by
    have e:yHx (234*yAA n) (.ok k u)=if 234*yAA n<k then 3 else 0:=rfl
    rw [e,if_pos h] at hue;cases hue
   obtain ⟨u2,u1,u3⟩:=yLQ (most:=234*yAA n) (x:=k) (t:=u) hkr;have hu:=yDs (s:=hd) (a:=a1) bY.symm;have dW:=yEL (s:=hd) (a:=a1) bY.symm;simp only [u1,u2,u3,hz] at iA;obtain ⟨a2,bx⟩:∃ x,x=a1+(vu k).length:=⟨_,rfl⟩;rw [← bx] at dW hu;simp only [← bx] at iA;have cd:=fun g=>yDL (W:=W) (F:=F) (p:=g) (s:=hd) (a:=a2) zO zO e5;clear bx u1 u2 u3 hue bY;by_cases hlt:a2<hd.length
   ·simp only [if_pos hlt] at cd;have ix:=fF 5 zO zO;refine Pn.enter func50 rfl ntmps50 zW (fun R=>?_);repeat' (first|refine yCy rfl xE ix xP (fun _=>?_)|refine KJ.pnSeq ?_|refine KJ.pnThn ?_|refine KJ.pnBlk ?_|(refine yAb ?_;first|refine xca (cd _) fun _=>?_|refine xca (iA _) fun _=>?_|refine xca (bL _ _) fun _=>?_|refine xca (cu _) fun _=>?_|refine xca bC fun g=>?_)|refine xst ?_|refine xsf ?_ ?_|refine xdt zTHE0 ?_|apply zN|intro _)
    all_goals exact yBR () rfl (xN)
   simp only [if_neg hlt,hz] at cd;have jA:((m:Nat):Int)≠((n:Nat):Int):=fun h=>by rw [if_pos ⟨zO,by rw [hu];exact List.drop_eq_nil_of_le zO,zO⟩] at hh;cases hh
   have qm:decide (((m:Nat):Int)=((n:Nat):Int))=false:=zZ jA;refine Pn.enter func50 rfl ntmps50 zW (fun R=>?_);repeat' (first|refine yAE (id:=8) ?_;refine yDw ?_|(refine yAb ?_;first|refine xca (cd _) fun _=>?_|refine xca (iA _) fun _=>?_|refine xca (bL _ _) fun _=>?_|refine xca (cu _) fun _=>?_|refine xca bC fun g=>?_)|refine xst ?_|refine xsf ?_ ?_|refine xdt zTHE0 ?_|apply zN|intro _)
   refine Hold.mk ?_;refine yTq ?_;refine yI0 9 (po [0,1,2,3,4,5,6,7,8] .nil) zK rfl zK ?_;refine yB8 rfl (yFo (yIx rfl) rfl ?_);refine yB8 rfl (yFo (yIx rfl) rfl ?_);refine yB8 rfl (yFo (yHg rfl) rfl ?_);refine yB8 rfl (yFo (yMs rfl) rfl ?_);refine yB8 rfl (yFo (yDC rfl xS (by rfl)) rfl ?_);refine yB8 rfl (yBn (X:=Unit) xE bj xP rfl ?_);refine yB8 rfl (yFo (yAg rfl w1) rfl ?_);refine yB8 rfl (yFo (yAe rfl rfl qm) rfl ?_);refine yB8 rfl (yFo (yAm rfl dz) rfl ?_);refine yQw (yNl xE cup xP (fun _=>?_));refine KJ.pnSeq ?_;exact yBR () rfl (xN)
theorem yVZ (hE:ErrsAt W F) (hN:NibAt W) (h1:64≤n) (h2:n≤65536) (life:Int) (fQ:D.n=n) (v L:Nat) (hv:1≤v∧v≤1099511627776) (hL:L≤234*yAA n) (g1:yBA D 0=0) (g2:yB6 D 0=v) (g3:yBT D 0=yBJ n L) (g4:yCd D (yAG n v) (yAA n) v L=([],15)) :Pn prog W 50 [zPp s] [stP s d q n 0 none life false,DiskP d D] (fun _:Unit=>brk F 15) (fun _=>[DiskP d D]):=by
 have aq:ErrsOn L16 W F:=hE.to16;have ay:ErrsOn L8 W F:=aq.to8;have e1:W.cell? ⟨9,0,none⟩=some (yAy F 1):=aq.at_ 1 zX;have e2:W.cell? ⟨10,0,none⟩=some (yAy F 2):=aq.at_ 2 zX;have e3:W.cell? ⟨11,0,none⟩=some (yAy F 3):=aq.at_ 3 zX;have e5:W.cell? ⟨13,0,none⟩=some (yAy F 5):=aq.at_ 5 zX;have dz:W.cell? ⟨6,0,none⟩=some (yAy F 15):=aq.at_ 15 zX;have hA:=yBr (n:=n) zO;have fF:=fun e (h1:1≤e) (h2:e≤7)=>yCb hE e h1 zO zO;have ib:=yCb hE 15 zO zO zO;have cup:=yEx (W:=W) (F:=F) 15 zO;have cm:=yGl (W:=W);have cc:=yCY (W:=W) aq;have jM:=yC5 (W:=W) (yAy F 15);have bL:=fun q v=>yCw (W:=W) (s:=s) (d:=d) (q:=q) (n:=n) v none life false zO;have bj:CtU prog W 45 [zPp d] [DiskP d D] (zi (n:Nat)) [DiskP d D]:=by have:=yBM (W:=W) (p:=d) (D:=D);rw [fQ] at this;exact this
 have w1:IntKind.u64.wrap ((n:Nat):Int)=((n:Nat):Int):=yAx _ zO;have qe:decide (((n:Nat):Int)=((n:Nat):Int))=true:=zY rfl;obtain ⟨f1,f2,f3,f4⟩:=yBf h1 v;have hLp:=yCG L;have hLl:=yCe L;have jN:=yCG n;have jR:=yCe n;obtain ⟨hd,aM⟩:∃ hd,hd=yBJ n L:=⟨_,rfl⟩;have ju:hd.length=(vu n).length+(vu L).length:=by rw [aM];unfold yBJ;rw [zLa]
 have bp:ru (hd.drop 0)=.ok n (vu L):=by rw [zLo,aM];exact yFz n zO (vu L)
 have bn:ru (hd.drop (vu n).length)=.ok L []:=by
  rw [aM];unfold yBJ;rw [List.drop_left];have:=yFz L zO []
  rwa [zLs] at this
 have cr:CtU prog W 52 [zPp d,zi 0] [DiskP d D] (.tuple #[strV hd,zi (v:Nat),.nilIface]) [DiskP d D]:=by have:=yC9 (W:=W) (p:=d) (D:=D) ay hN zO 0;rw [g1,g2,g3,← aM] at this;exact this
 have bC:=yDK (W:=W) hd;have cu:∀ g,CtU prog W 91 [zPp g] [rdP g hd 0] (.tuple #[.int .u64 (n:Nat),.nilIface]) [rdP g hd (vu n).length]:=fun g=>by have:=yEa (W:=W) (F:=F) (p:=g) (s:=hd) (a:=0) zO zO e1 e2 (.ok n (vu L)) bp;rw [zLq] at this;exact this
 have fq:∀ g,CtU prog W 93 [zPp g,zi (234*yAA n:Nat)] [rdP g hd (vu n).length] (.tuple #[zi (L:Nat),.nilIface]) [rdP g hd ((vu n).length+(vu L).length)]:=fun g=>by have:=yDM (W:=W) (F:=F) (p:=g) (s:=hd) (a:=(vu n).length) (234*yAA n) zO zO zO e1 e2 e3 (.ok L []) bn;have u1:yOU (234*yAA n) (.ok L [])=L:=(if_neg zO:(if 234*yAA n<L then 0 else L)=L);have u2:yHx (234*yAA n) (.ok L [])=0:=(if_neg zO:(if 234*yAA n<L then 3 else 0)=0);have u3:yOV (234*yAA n) (.ok L [])=(vu L).length:=(if_neg zO:(if 234*yAA n<L then 0 else (vu L).length)=(vu L).length);rw [u1,u2,u3] at this;exact this
 have cd:∀ g,CtU prog W 94 [zPp g] [rdP g hd ((vu n).length+(vu L).length)] .nilIface [rdP g hd ((vu n).length+(vu L).length)]:=fun g=>by have:=yDL (W:=W) (F:=F) (p:=g) (s:=hd) (a:=(vu n).length+(vu L).length) zO zO e5;rw [if_neg zO] at this;exact this
 have w2:IntKind.u64.wrap ((v:Nat):Int)=((v:Nat):Int):=yAx _ zO;obtain ⟨m,hm⟩:∃ m:Nat,((v:Nat):Int) % 2=(m:Nat):=⟨v % 2,zO⟩;have dy:m<2:=zO;have hx:∀ z,(stC d z n 0 none life false)[0+1+0+((m:Nat):Int).toNat*1]? = some (zi (yAG n v:Nat)):=fun z=>by
  unfold yAG;rcases (show m=0∨m=1 by omega) with rfl|rfl
  ·rw [if_pos zO];rfl
  ·rw [if_neg zO];rfl
 clear g1 g2 g3 bp bn aM;have dX:CtU prog W 96 [zPp d,zi (yAG n v:Nat),zi (yAA n:Nat),.int .u64 (v:Nat),zi (L:Nat)] [DiskP d D] (.tuple #[strV [],yAy F 15]) [DiskP d D]:=by have:=yGD (W:=W) (p:=d) (D:=D) ay dz hN zO (yAG n v:Nat) (yAA n:Nat) (v:Nat) (L:Nat);rw [g4] at this;exact this
 refine Pn.enter func50 rfl ntmps50 zW (fun R=>?_);repeat' (first|refine yCy rfl xE ib xP (fun _=>?_)|refine KJ.pnSeq ?_|refine KJ.pnThn ?_|refine KJ.pnBlk ?_|(refine yAb ?_;first|refine xca (cd _) fun _=>?_|refine xca (fq _) fun _=>?_|refine xca (bL _ _) fun _=>?_|refine xca (cu _) fun _=>?_|refine xca bC fun g=>?_)|refine yAi ?_;refine yAa (yDC rfl xS (hx _)) ?_|refine xqa ?_|refine xsf ?_ ?_|refine xdt zTHE0 ?_|apply zN|intro _)
 all_goals exact yBR () rfl (xN)
theorem yV0 (hE:ErrsAt W F) (hN:NibAt W) (h1:64≤n) (h2:n≤65536) (life:Int) (fQ:D.n=n) (v L:Nat) (hv:1≤v∧v≤1099511627776) (hL:L≤234*yAA n) (g1:yBA D 0=0) (g2:yB6 D 0=v) (g3:yBT D 0=yBJ n L) (t:zB) (ht:t.length≤144115188075855872) (hr:yG2 t=none) (g4:yCd D (yAG n v) (yAA n) v L=(t,0)) :Pn prog W 50 [zPp s] [stP s d q n 0 none life false,DiskP d D] (fun _:Unit=>brk F 15) (fun _=>[DiskP d D]):=by
 have aq:ErrsOn L16 W F:=hE.to16;have ay:ErrsOn L8 W F:=aq.to8;have e1:W.cell? ⟨9,0,none⟩=some (yAy F 1):=aq.at_ 1 zX;have e2:W.cell? ⟨10,0,none⟩=some (yAy F 2):=aq.at_ 2 zX;have e3:W.cell? ⟨11,0,none⟩=some (yAy F 3):=aq.at_ 3 zX;have e5:W.cell? ⟨13,0,none⟩=some (yAy F 5):=aq.at_ 5 zX;have dz:W.cell? ⟨6,0,none⟩=some (yAy F 15):=aq.at_ 15 zX;have hA:=yBr (n:=n) zO;have fF:=fun e (h1:1≤e) (h2:e≤7)=>yCb hE e h1 zO zO;have ib:=yCb hE 15 zO zO zO;have cup:=yEx (W:=W) (F:=F) 15 zO;have cm:=yGl (W:=W);have cc:=yCY (W:=W) aq;have jM:=yC5 (W:=W) (yAy F 15);have bL:=fun q v=>yCw (W:=W) (s:=s) (d:=d) (q:=q) (n:=n) v none life false zO;have bj:CtU prog W 45 [zPp d] [DiskP d D] (zi (n:Nat)) [DiskP d D]:=by have:=yBM (W:=W) (p:=d) (D:=D);rw [fQ] at this;exact this
 have w1:IntKind.u64.wrap ((n:Nat):Int)=((n:Nat):Int):=yAx _ zO;have qe:decide (((n:Nat):Int)=((n:Nat):Int))=true:=zY rfl;obtain ⟨f1,f2,f3,f4⟩:=yBf h1 v;have hLp:=yCG L;have hLl:=yCe L;have jN:=yCG n;have jR:=yCe n;obtain ⟨hd,aM⟩:∃ hd,hd=yBJ n L:=⟨_,rfl⟩;have ju:hd.length=(vu n).length+(vu L).length:=by rw [aM];unfold yBJ;rw [zLa]
 have bp:ru (hd.drop 0)=.ok n (vu L):=by rw [zLo,aM];exact yFz n zO (vu L)
 have bn:ru (hd.drop (vu n).length)=.ok L []:=by
  rw [aM];unfold yBJ;rw [List.drop_left];have:=yFz L zO []
  rwa [zLs] at this
 have cr:CtU prog W 52 [zPp d,zi 0] [DiskP d D] (.tuple #[strV hd,zi (v:Nat),.nilIface]) [DiskP d D]:=by have:=yC9 (W:=W) (p:=d) (D:=D) ay hN zO 0;rw [g1,g2,g3,← aM] at this;exact this
 have bC:=yDK (W:=W) hd;have cu:∀ g,CtU prog W 91 [zPp g] [rdP g hd 0] (.tuple #[.int .u64 (n:Nat),.nilIface]) [rdP g hd (vu n).length]:=fun g=>by have:=yEa (W:=W) (F:=F) (p:=g) (s:=hd) (a:=0) zO zO e1 e2 (.ok n (vu L)) bp;rw [zLq] at this;exact this
 have fq:∀ g,CtU prog W 93 [zPp g,zi (234*yAA n:Nat)] [rdP g hd (vu n).length] (.tuple #[zi (L:Nat),.nilIface]) [rdP g hd ((vu n).length+(vu L).length)]:=fun g=>by have:=yDM (W:=W) (F:=F) (p:=g) (s:=hd) (a:=(vu n).length) (234*yAA n) zO zO zO e1 e2 e3 (.ok L []) bn;have u1:yOU (234*yAA n) (.ok L [])=L:=(if_neg zO:(if 234*yAA n<L then 0 else L)=L);have u2:yHx (234*yAA n) (.ok L [])=0:=(if_neg zO:(if 234*yAA n<L then 3 else 0)=0);have u3:yOV (234*yAA n) (.ok L [])=(vu L).length:=(if_neg zO:(if 234*yAA n<L then 0 else (vu L).length)=(vu L).length);rw [u1,u2,u3] at this;exact this
 have cd:∀ g,CtU prog W 94 [zPp g] [rdP g hd ((vu n).length+(vu L).length)] .nilIface [rdP g hd ((vu n).length+(vu L).length)]:=fun g=>by have:=yDL (W:=W) (F:=F) (p:=g) (s:=hd) (a:=(vu n).length+(vu L).length) zO zO e5;rw [if_neg zO] at this;exact this
 have w2:IntKind.u64.wrap ((v:Nat):Int)=((v:Nat):Int):=yAx _ zO;obtain ⟨m,hm⟩:∃ m:Nat,((v:Nat):Int) % 2=(m:Nat):=⟨v % 2,zO⟩;have dy:m<2:=zO;have hx:∀ z,(stC d z n 0 none life false)[0+1+0+((m:Nat):Int).toNat*1]? = some (zi (yAG n v:Nat)):=fun z=>by
  unfold yAG;rcases (show m=0∨m=1 by omega) with rfl|rfl
  ·rw [if_pos zO];rfl
  ·rw [if_neg zO];rfl
 clear g1 g2 g3 bp bn aM;have dX:CtU prog W 96 [zPp d,zi (yAG n v:Nat),zi (yAA n:Nat),.int .u64 (v:Nat),zi (L:Nat)] [DiskP d D] (.tuple #[strV t,.nilIface]) [DiskP d D]:=by have:=yGD (W:=W) (p:=d) (D:=D) ay dz hN zO (yAG n v:Nat) (yAA n:Nat) (v:Nat) (L:Nat);rw [g4] at this;exact this
 have dZ:=yS4 (W:=W) (F:=F) hE t ht hr;refine Pn.enter func50 rfl ntmps50 zW (fun R=>?_);repeat' (first|refine yCy rfl xE dZ xP (fun _=>?_)|refine KJ.pnSeq ?_|refine KJ.pnThn ?_|refine KJ.pnBlk ?_|(refine yAb ?_;first|refine xca (cd _) fun _=>?_|refine xca (fq _) fun _=>?_|refine xca (bL _ _) fun _=>?_|refine xca (cu _) fun _=>?_|refine xca bC fun g=>?_)|refine yAi ?_;refine yAa (yDC rfl xS (hx _)) ?_|refine xqa ?_|refine xsf ?_ ?_|refine xdt zTHE0 ?_|apply zN|intro _)
 all_goals exact yBR () rfl (xN)
theorem yV1 (hE:ErrsAt W F) (hN:NibAt W) (h1:64≤n) (h2:n≤65536) (life:Int) (fQ:D.n=n) (v:Nat) {r:Rows} (hr:RisR r) (hv:1≤v∧v≤1099511627776) (hL:(yAk r).length≤234*yAA n) (g1:yBA D 0=0) (g2:yB6 D 0=v) (g3:yBT D 0=yBJ n (yAk r).length) (ho:D.off=false) (g4:yCd D (yAG n v) (yAA n) v (yAk r).length=(yAk r,0)) (ab:List zB) (g5:yHb D (yAN n:Nat) (yA7 n:Nat) v ((((yA7 n:Nat):Int).toNat)+1) 0 []=ab) (ai:∀ x ∈ ab,x.length≤15269888) (fM:ab.length≤65537) (i0:Nat) (hi0:i0<ab.length) (hb:∀ x,ab[i0]? = some x→(yAV x).2≠0) (hg:∀ j x,j<i0→ab[j]? = some x→(yAV x).2=0) :Pn prog W 50 [zPp s] [stP s d q n 0 none life false,DiskP d D] (fun _:Unit=>brk F 15) (fun _=>[DiskP d D]):=by
 have aq:ErrsOn L16 W F:=hE.to16;have ay:ErrsOn L8 W F:=aq.to8;have e1:W.cell? ⟨9,0,none⟩=some (yAy F 1):=aq.at_ 1 zX;have e2:W.cell? ⟨10,0,none⟩=some (yAy F 2):=aq.at_ 2 zX;have e3:W.cell? ⟨11,0,none⟩=some (yAy F 3):=aq.at_ 3 zX;have e5:W.cell? ⟨13,0,none⟩=some (yAy F 5):=aq.at_ 5 zX;have dz:W.cell? ⟨6,0,none⟩=some (yAy F 15):=aq.at_ 15 zX;have hA:=yBr (n:=n) zO;have fF:=fun e (h1:1≤e) (h2:e≤7)=>yCb hE e h1 zO zO;have ib:=yCb hE 15 zO zO zO;have cup:=yEx (W:=W) (F:=F) 15 zO;have cm:=yGl (W:=W);have cc:=yCY (W:=W) aq;have jM:=yC5 (W:=W) (yAy F 15);have bL:=fun q v=>yCw (W:=W) (s:=s) (d:=d) (q:=q) (n:=n) v none life false zO;have bj:CtU prog W 45 [zPp d] [DiskP d D] (zi (n:Nat)) [DiskP d D]:=by have:=yBM (W:=W) (p:=d) (D:=D);rw [fQ] at this;exact this
 have w1:IntKind.u64.wrap ((n:Nat):Int)=((n:Nat):Int):=yAx _ zO;have qe:decide (((n:Nat):Int)=((n:Nat):Int))=true:=zY rfl;have aO:∀ i,i≤ab.length→(lgR r ab i).length≤15335424+i*15269888:=by
  intro i
  induction i with
  |zero=>intro _;show r.length≤_;have:=yC6 r;have h9:(yAk r).length=(vu r.length).length+(r.flatMap rowB).length:=(by unfold yAk;rw [zLa]);omega
  |succ i ih=>
   intro hi;obtain ⟨x,hx⟩:∃ x,ab[i]? = some x:=⟨_,zLb zO⟩;have h1:=yCX (yAV x).1 (lgR r ab i);have h2:=yDY x;have h3:=ai x (zLk hx);have h4:=ih zO;rw [yCH r hx,zLH];omega
 have aO:∀ i,i≤ab.length→(lgR r ab i).length≤1100000000000:=fun i hi=>by have h3:=aO i hi;have:i*15269888≤65537*15269888:=zLt _ zO;omega
 obtain ⟨L,ji⟩:∃ L,L=(yAk r).length:=⟨_,rfl⟩;rw [← ji] at hL g3 g4;obtain ⟨f1,f2,f3,f4⟩:=yBf h1 v;have hLp:=yCG L;have hLl:=yCe L;have jN:=yCG n;have jR:=yCe n;obtain ⟨hd,aM⟩:∃ hd,hd=yBJ n L:=⟨_,rfl⟩;have ju:hd.length=(vu n).length+(vu L).length:=by rw [aM];unfold yBJ;rw [zLa]
 have bp:ru (hd.drop 0)=.ok n (vu L):=by rw [zLo,aM];exact yFz n zO (vu L)
 have bn:ru (hd.drop (vu n).length)=.ok L []:=by
  rw [aM];unfold yBJ;rw [List.drop_left];have:=yFz L zO []
  rwa [zLs] at this
 have cr:CtU prog W 52 [zPp d,zi 0] [DiskP d D] (.tuple #[strV hd,zi (v:Nat),.nilIface]) [DiskP d D]:=by have:=yC9 (W:=W) (p:=d) (D:=D) ay hN zO 0;rw [g1,g2,g3,← aM] at this;exact this
 have bC:=yDK (W:=W) hd;have cu:∀ g,CtU prog W 91 [zPp g] [rdP g hd 0] (.tuple #[.int .u64 (n:Nat),.nilIface]) [rdP g hd (vu n).length]:=fun g=>by have:=yEa (W:=W) (F:=F) (p:=g) (s:=hd) (a:=0) zO zO e1 e2 (.ok n (vu L)) bp;rw [zLq] at this;exact this
 have fq:∀ g,CtU prog W 93 [zPp g,zi (234*yAA n:Nat)] [rdP g hd (vu n).length] (.tuple #[zi (L:Nat),.nilIface]) [rdP g hd ((vu n).length+(vu L).length)]:=fun g=>by have:=yDM (W:=W) (F:=F) (p:=g) (s:=hd) (a:=(vu n).length) (234*yAA n) zO zO zO e1 e2 e3 (.ok L []) bn;have u1:yOU (234*yAA n) (.ok L [])=L:=(if_neg zO:(if 234*yAA n<L then 0 else L)=L);have u2:yHx (234*yAA n) (.ok L [])=0:=(if_neg zO:(if 234*yAA n<L then 3 else 0)=0);have u3:yOV (234*yAA n) (.ok L [])=(vu L).length:=(if_neg zO:(if 234*yAA n<L then 0 else (vu L).length)=(vu L).length);rw [u1,u2,u3] at this;exact this
 have cd:∀ g,CtU prog W 94 [zPp g] [rdP g hd ((vu n).length+(vu L).length)] .nilIface [rdP g hd ((vu n).length+(vu L).length)]:=fun g=>by have:=yDL (W:=W) (F:=F) (p:=g) (s:=hd) (a:=(vu n).length+(vu L).length) zO zO e5;rw [if_neg zO] at this;exact this
 have w2:IntKind.u64.wrap ((v:Nat):Int)=((v:Nat):Int):=yAx _ zO;obtain ⟨m,hm⟩:∃ m:Nat,((v:Nat):Int) % 2=(m:Nat):=⟨v % 2,zO⟩;have dy:m<2:=zO;have hx:∀ z,(stC d z n 0 none life false)[0+1+0+((m:Nat):Int).toNat*1]? = some (zi (yAG n v:Nat)):=fun z=>by
  unfold yAG;rcases (show m=0∨m=1 by omega) with rfl|rfl
  ·rw [if_pos zO];rfl
  ·rw [if_neg zO];rfl
 clear g1 g2 g3 bp bn aM;have dX:CtU prog W 96 [zPp d,zi (yAG n v:Nat),zi (yAA n:Nat),.int .u64 (v:Nat),zi (L:Nat)] [DiskP d D] (.tuple #[strV (yAk r),.nilIface]) [DiskP d D]:=by have:=yGD (W:=W) (p:=d) (D:=D) ay dz hN zO (yAG n v:Nat) (yAA n:Nat) (v:Nat) (L:Nat);rw [g4] at this;exact this
 have kA:(yAk r).length≤234*yAA n:=zO;have du:=(yDV r zO).2;have dZ:=yGR (W:=W) (F:=F) aq hr zO zO;have fW:Ct prog W 98 [zPp d,zi (yAN n:Nat),zi (yA7 n:Nat),zi (v:Nat)] [DiskP d D] (fun x:Option Addr × Nat=>.tuple #[.slice x.1 ab.length x.2,.nilIface]) (fun x=>[DiskP d D,lsP lrcC 9 1 (.slice x.1 ab.length x.2) ab]):=by have h:=yHU (W:=W) (p:=d) (D:=D) ay hN (yAN n:Nat) (yA7 n:Nat) v zO ho ⟨zO,zO,zO,zO,zO,zO,zO⟩;rw [g5,yE9] at h;exact Ct.rowSl h
 clear g4 g5;refine Pn.enter func50 rfl ntmps50 zW (fun R=>?_);repeat' (first|(refine yAb ?_;first|refine xca fW fun x=>?_;obtain ⟨xa,xc⟩:=x|refine xca dZ fun y=>?_;obtain ⟨q',⟨⟨N,a,b⟩,gN,hT⟩⟩:=y;dsimp only at gN hT ⊢|refine xca (cd _) fun _=>?_|refine xca (fq _) fun _=>?_|refine xca (bL _ _) fun _=>?_|refine xca (cu _) fun _=>?_|refine xca bC fun g=>?_)|refine yAi ?_;refine yAa (yDC rfl xS (hx _)) ?_|refine xqa ?_|refine xsf ?_ ?_|refine xdt zTHE0 ?_|apply zN|intro _)
 have d5:Lv W lrcC 1 (lsP lrcC 9 1 (.slice xa ab.length xc) ab) xa ab:=Lv.own yDu rfl
 refine yAC (fun x:{x:Nat × List Nd × Option Addr × Int//x.1≤i0∧TbOk x.2.1 x.2.2.1 (lgR r ab x.1)}=>[(0,zPp s),(3,zi (v:Nat)),(108,.slice xa ab.length xc),(109,zi (ab.length:Nat)),(110,zi (x.1.1:Nat))])
  (fun x=>[stP s d q' n 0 none life false,DiskP d D,tbP q' x.1.2.2.1 x.1.2.2.2,arP x.1.2.1,lsP lrcC 9 1 (.slice xa ab.length xc) ab]++R) (fun x=>ab.length-x.1.1) ⟨(0,N,a,b),zLA _,hT⟩ xB (xN) (fun ⟨(i,N2,a2,b2),hi,be⟩=>?_)
 dsimp only at hi be ⊢;by_cases hlt:i<i0
 ·have ql:decide ((i:Int)<(ab.length:Nat))=true:=zY zO;obtain ⟨x,aZ⟩:∃ s,ab[i]? = some s:=⟨_,zLb zO⟩;refine KJ.lvSome d5 xS zO (fun b0 of aJ=>?_);subst aJ;have ae:of+Int.toNat (i:Int)*1=of+i*1+0:=zW;have aR:(lrcC x)[0]? = some (strV x):=rfl;have df:=ai x (zLk aZ);have bO:=yGU (W:=W) (F:=F) x zO aq;have fL:=hg i x hlt aZ;rw [fL] at bO;have ax:=yCH r aZ;have bS:=aO i zO;have iZ:=yDY x;have bP:=fun ya yc=>yC4 (W:=W) (p:=q') (tb:=b2) be _ ya yc (yAV x).1 (Lv.own (e:=58) (c:=yc) yAY rfl) zO;rw [← ax] at bP;have dc:yAy F 0=.nilIface:=rfl;rw [dc] at bO;obtain ⟨os,cQ⟩:∃ os,os=(yAV x).1:=⟨_,rfl⟩;rw [← cQ] at bO bP;repeat' (first|refine xca (bP _ _) fun y=>?_;obtain ⟨⟨N3,a3,b3⟩,g3,t3⟩:=y;dsimp only at g3 t3 ⊢|refine xca bO fun y=>?_;obtain ⟨ya,yc⟩:=y|refine yAi ?_;refine yAa (yA0 yDu d5 rfl rfl xS ae aZ aR) ?_|refine zad (i+1) ?_|refine xqa ?_|refine xsf ?_ ?_|refine xdt zTHE0 ?_|apply zN|intro _)
  all_goals refine yAs ⟨(i+1,N3,a3,b3),zO,t3⟩ (by show ab.length-(i+1)<ab.length-i;omega) xB (xN)
 ·obtain rfl:i=i0:=by omega
  have ql:decide ((i:Int)<(ab.length:Nat))=true:=zY zO;obtain ⟨x,aZ⟩:∃ s,ab[i]? = some s:=⟨_,zLb zO⟩;refine KJ.lvSome d5 xS zO (fun b0 of aJ=>?_);subst aJ;have ae:of+Int.toNat (i:Int)*1=of+i*1+0:=zW;have aR:(lrcC x)[0]? = some (strV x):=rfl;have df:=ai x (zLk aZ);have bO:=yGU (W:=W) (F:=F) x zO aq;have fL:=hb x aZ;have hde:=xAs x;have ix:=fF (yAV x).2 zO hde;repeat' (first|refine yCy rfl xE ix xP (fun _=>?_)|refine KJ.pnSeq ?_|refine KJ.pnThn ?_|refine KJ.pnBlk ?_|refine xca bO fun y=>?_;obtain ⟨ya,yc⟩:=y|refine yAi ?_;refine yAa (yA0 yDu d5 rfl rfl xS ae aZ aR) ?_|refine xqa ?_|refine xsf ?_ ?_|refine xdt zTHE0 ?_|apply zN|intro _)
  all_goals exact yBR () rfl (xN)
theorem yV2 (hE:ErrsAt W F) (hN:NibAt W) (h1:64≤n) (h2:n≤65536) (life:Int) (fQ:D.n=n) (v:Nat) {r:Rows} (hr:RisR r) (hv:1≤v∧v≤1099511627776) (hL:(yAk r).length≤234*yAA n) (g1:yBA D 0=0) (g2:yB6 D 0=v) (g3:yBT D 0=yBJ n (yAk r).length) (ho:D.off=false) (g4:yCd D (yAG n v) (yAA n) v (yAk r).length=(yAk r,0)) (ab:List zB) (g5:yHb D (yAN n:Nat) (yA7 n:Nat) v ((((yA7 n:Nat):Int).toNat)+1) 0 []=ab) (ai:∀ x ∈ ab,x.length≤15269888) (fM:ab.length≤65537) (cV:∀ x ∈ ab,(yAV x).2=0) (cM:234*yAA n<(yAk (lgR r ab ab.length)).length) (iX:(yAk (lgR r ab ab.length)).length≤4611686018427387904) :Pn prog W 50 [zPp s] [stP s d q n 0 none life false,DiskP d D] (fun _:Unit=>brk F 15) (fun _=>[DiskP d D]):=by
 have aq:ErrsOn L16 W F:=hE.to16;have ay:ErrsOn L8 W F:=aq.to8;have e1:W.cell? ⟨9,0,none⟩=some (yAy F 1):=aq.at_ 1 zX;have e2:W.cell? ⟨10,0,none⟩=some (yAy F 2):=aq.at_ 2 zX;have e3:W.cell? ⟨11,0,none⟩=some (yAy F 3):=aq.at_ 3 zX;have e5:W.cell? ⟨13,0,none⟩=some (yAy F 5):=aq.at_ 5 zX;have dz:W.cell? ⟨6,0,none⟩=some (yAy F 15):=aq.at_ 15 zX;have hA:=yBr (n:=n) zO;have fF:=fun e (h1:1≤e) (h2:e≤7)=>yCb hE e h1 zO zO;have ib:=yCb hE 15 zO zO zO;have cup:=yEx (W:=W) (F:=F) 15 zO;have cm:=yGl (W:=W);have cc:=yCY (W:=W) aq;have jM:=yC5 (W:=W) (yAy F 15);have bL:=fun q v=>yCw (W:=W) (s:=s) (d:=d) (q:=q) (n:=n) v none life false zO;have bj:CtU prog W 45 [zPp d] [DiskP d D] (zi (n:Nat)) [DiskP d D]:=by have:=yBM (W:=W) (p:=d) (D:=D);rw [fQ] at this;exact this
 have w1:IntKind.u64.wrap ((n:Nat):Int)=((n:Nat):Int):=yAx _ zO;have qe:decide (((n:Nat):Int)=((n:Nat):Int))=true:=zY rfl;have aO:∀ i,i≤ab.length→(lgR r ab i).length≤15335424+i*15269888:=by
  intro i
  induction i with
  |zero=>intro _;show r.length≤_;have:=yC6 r;have h9:(yAk r).length=(vu r.length).length+(r.flatMap rowB).length:=(by unfold yAk;rw [zLa]);omega
  |succ i ih=>
   intro hi;obtain ⟨x,hx⟩:∃ x,ab[i]? = some x:=⟨_,zLb zO⟩;have h1:=yCX (yAV x).1 (lgR r ab i);have h2:=yDY x;have h3:=ai x (zLk hx);have h4:=ih zO;rw [yCH r hx,zLH];omega
 have aO:∀ i,i≤ab.length→(lgR r ab i).length≤1100000000000:=fun i hi=>by have h3:=aO i hi;have:i*15269888≤65537*15269888:=zLt _ zO;omega
 obtain ⟨L,ji⟩:∃ L,L=(yAk r).length:=⟨_,rfl⟩;rw [← ji] at hL g3 g4;obtain ⟨f1,f2,f3,f4⟩:=yBf h1 v;have hLp:=yCG L;have hLl:=yCe L;have jN:=yCG n;have jR:=yCe n;obtain ⟨hd,aM⟩:∃ hd,hd=yBJ n L:=⟨_,rfl⟩;have ju:hd.length=(vu n).length+(vu L).length:=by rw [aM];unfold yBJ;rw [zLa]
 have bp:ru (hd.drop 0)=.ok n (vu L):=by rw [zLo,aM];exact yFz n zO (vu L)
 have bn:ru (hd.drop (vu n).length)=.ok L []:=by
  rw [aM];unfold yBJ;rw [List.drop_left];have:=yFz L zO []
  rwa [zLs] at this
 have cr:CtU prog W 52 [zPp d,zi 0] [DiskP d D] (.tuple #[strV hd,zi (v:Nat),.nilIface]) [DiskP d D]:=by have:=yC9 (W:=W) (p:=d) (D:=D) ay hN zO 0;rw [g1,g2,g3,← aM] at this;exact this
 have bC:=yDK (W:=W) hd;have cu:∀ g,CtU prog W 91 [zPp g] [rdP g hd 0] (.tuple #[.int .u64 (n:Nat),.nilIface]) [rdP g hd (vu n).length]:=fun g=>by have:=yEa (W:=W) (F:=F) (p:=g) (s:=hd) (a:=0) zO zO e1 e2 (.ok n (vu L)) bp;rw [zLq] at this;exact this
 have fq:∀ g,CtU prog W 93 [zPp g,zi (234*yAA n:Nat)] [rdP g hd (vu n).length] (.tuple #[zi (L:Nat),.nilIface]) [rdP g hd ((vu n).length+(vu L).length)]:=fun g=>by have:=yDM (W:=W) (F:=F) (p:=g) (s:=hd) (a:=(vu n).length) (234*yAA n) zO zO zO e1 e2 e3 (.ok L []) bn;have u1:yOU (234*yAA n) (.ok L [])=L:=(if_neg zO:(if 234*yAA n<L then 0 else L)=L);have u2:yHx (234*yAA n) (.ok L [])=0:=(if_neg zO:(if 234*yAA n<L then 3 else 0)=0);have u3:yOV (234*yAA n) (.ok L [])=(vu L).length:=(if_neg zO:(if 234*yAA n<L then 0 else (vu L).length)=(vu L).length);rw [u1,u2,u3] at this;exact this
 have cd:∀ g,CtU prog W 94 [zPp g] [rdP g hd ((vu n).length+(vu L).length)] .nilIface [rdP g hd ((vu n).length+(vu L).length)]:=fun g=>by have:=yDL (W:=W) (F:=F) (p:=g) (s:=hd) (a:=(vu n).length+(vu L).length) zO zO e5;rw [if_neg zO] at this;exact this
 have w2:IntKind.u64.wrap ((v:Nat):Int)=((v:Nat):Int):=yAx _ zO;obtain ⟨m,hm⟩:∃ m:Nat,((v:Nat):Int) % 2=(m:Nat):=⟨v % 2,zO⟩;have dy:m<2:=zO;have hx:∀ z,(stC d z n 0 none life false)[0+1+0+((m:Nat):Int).toNat*1]? = some (zi (yAG n v:Nat)):=fun z=>by
  unfold yAG;rcases (show m=0∨m=1 by omega) with rfl|rfl
  ·rw [if_pos zO];rfl
  ·rw [if_neg zO];rfl
 clear g1 g2 g3 bp bn aM;have dX:CtU prog W 96 [zPp d,zi (yAG n v:Nat),zi (yAA n:Nat),.int .u64 (v:Nat),zi (L:Nat)] [DiskP d D] (.tuple #[strV (yAk r),.nilIface]) [DiskP d D]:=by have:=yGD (W:=W) (p:=d) (D:=D) ay dz hN zO (yAG n v:Nat) (yAA n:Nat) (v:Nat) (L:Nat);rw [g4] at this;exact this
 have kA:(yAk r).length≤234*yAA n:=zO;have du:=(yDV r zO).2;have dZ:=yGR (W:=W) (F:=F) aq hr zO zO;have fW:Ct prog W 98 [zPp d,zi (yAN n:Nat),zi (yA7 n:Nat),zi (v:Nat)] [DiskP d D] (fun x:Option Addr × Nat=>.tuple #[.slice x.1 ab.length x.2,.nilIface]) (fun x=>[DiskP d D,lsP lrcC 9 1 (.slice x.1 ab.length x.2) ab]):=by have h:=yHU (W:=W) (p:=d) (D:=D) ay hN (yAN n:Nat) (yA7 n:Nat) v zO ho ⟨zO,zO,zO,zO,zO,zO,zO⟩;rw [g5,yE9] at h;exact Ct.rowSl h
 have iw:=fun (q:Nat) (N:List Nd) (a:Option Addr) (b:Int) (hT:TbOk N a (lgR r ab ab.length))=>yEM (W:=W) (p:=q) (b:=b) hT iX;have qs:decide (((yAk (lgR r ab ab.length)).length:Nat)≤((234*yAA n:Nat):Int))=false:=zZ zO;clear g4 g5;refine Pn.enter func50 rfl ntmps50 zW (fun R=>?_);repeat' (first|(refine yAb ?_;first|refine xca fW fun x=>?_;obtain ⟨xa,xc⟩:=x|refine xca dZ fun y=>?_;obtain ⟨q',⟨⟨N,a,b⟩,gN,hT⟩⟩:=y;dsimp only at gN hT ⊢|refine xca (cd _) fun _=>?_|refine xca (fq _) fun _=>?_|refine xca (bL _ _) fun _=>?_|refine xca (cu _) fun _=>?_|refine xca bC fun g=>?_)|refine yAi ?_;refine yAa (yDC rfl xS (hx _)) ?_|refine xqa ?_|refine xsf ?_ ?_|refine xdt zTHE0 ?_|apply zN|intro _)
 have d5:Lv W lrcC 1 (lsP lrcC 9 1 (.slice xa ab.length xc) ab) xa ab:=Lv.own yDu rfl
 refine yAC (fun x:{x:Nat × List Nd × Option Addr × Int//x.1≤ab.length∧TbOk x.2.1 x.2.2.1 (lgR r ab x.1)}=>[(0,zPp s),(3,zi (v:Nat)),(108,.slice xa ab.length xc),(109,zi (ab.length:Nat)),(110,zi (x.1.1:Nat))])
  (fun x=>[stP s d q' n 0 none life false,DiskP d D,tbP q' x.1.2.2.1 x.1.2.2.2,arP x.1.2.1,lsP lrcC 9 1 (.slice xa ab.length xc) ab]++R) (fun x=>ab.length-x.1.1) ⟨(0,N,a,b),zLA _,hT⟩ xB (xN) (fun ⟨(i,N2,a2,b2),hi,be⟩=>?_)
 dsimp only at hi be ⊢;by_cases hlt:i<ab.length
 ·have ql:decide ((i:Int)<(ab.length:Nat))=true:=zY zO;obtain ⟨x,aZ⟩:∃ s,ab[i]? = some s:=⟨_,zLb zO⟩;refine KJ.lvSome d5 xS zO (fun b0 of aJ=>?_);subst aJ;have ae:of+Int.toNat (i:Int)*1=of+i*1+0:=zW;have aR:(lrcC x)[0]? = some (strV x):=rfl;have df:=ai x (zLk aZ);have bO:=yGU (W:=W) (F:=F) x zO aq;have fL:=cV x (zLk aZ);rw [fL] at bO;have ax:=yCH r aZ;have bS:=aO i zO;have iZ:=yDY x;have bP:=fun ya yc=>yC4 (W:=W) (p:=q') (tb:=b2) be _ ya yc (yAV x).1 (Lv.own (e:=58) (c:=yc) yAY rfl) zO;rw [← ax] at bP;have dc:yAy F 0=.nilIface:=rfl;rw [dc] at bO;obtain ⟨os,cQ⟩:∃ os,os=(yAV x).1:=⟨_,rfl⟩;rw [← cQ] at bO bP;repeat' (first|refine xca (bP _ _) fun y=>?_;obtain ⟨⟨N3,a3,b3⟩,g3,t3⟩:=y;dsimp only at g3 t3 ⊢|refine xca bO fun y=>?_;obtain ⟨ya,yc⟩:=y|refine yAi ?_;refine yAa (yA0 yDu d5 rfl rfl xS ae aZ aR) ?_|refine zad (i+1) ?_|refine xqa ?_|refine xsf ?_ ?_|refine xdt zTHE0 ?_|apply zN|intro _)
  all_goals refine yAs ⟨(i+1,N3,a3,b3),zO,t3⟩ (by show ab.length-(i+1)<ab.length-i;omega) xB (xN)
 ·have ql:decide ((i:Int)<(ab.length:Nat))=false:=zZ zO;obtain rfl:i=ab.length:=zO;repeat' (first|refine yAE (id:=21) ?_;refine yDw ?_|refine xqa ?_|refine xsf ?_ ?_|refine xdt zTHE0 ?_|apply zN|intro _)
  refine Hold.mk ?_;refine yTq ?_;refine yI0 9 (po [0,1,2,3,4,5,6,7,8] .nil) zK rfl zK ?_;refine yB8 rfl (yFo (yIx rfl) rfl ?_);refine yB8 rfl (yFo (yHg rfl) rfl ?_);refine yB8 rfl (yFo (yMs rfl) rfl ?_);refine yB8 rfl (yFo (yDC rfl xS (by rfl)) rfl ?_);refine yB8 rfl (yBn (X:=Unit) xE (iw _ _ _ _ be) xP rfl ?_);refine yB8 rfl (yFo (yIx rfl) rfl ?_);refine yB8 rfl (yBn (X:=Unit) xE (bL _ _) xP rfl ?_);refine yB8 rfl (yFo (yBd rfl rfl qs) rfl ?_);refine yB8 rfl (yFo (yAm rfl dz) rfl ?_);refine yQw (yNl xE cup xP (fun _=>?_));refine KJ.pnSeq ?_;exact yBR () rfl (xN)
end
end Go.Proofs.YtoipmnikdiogcaaGreatDoor
