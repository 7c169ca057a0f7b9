/-
  Jou3, AreT, JLe1.
-/
import Derived.Test.YtoipmnikdiogcaaGreatDoorYCC
set_option maxRecDepth 100000
set_option maxHeartbeats 64000000
namespace Go.Proofs.YtoipmnikdiogcaaGreatDoor
open Go Go.RowKit
open Go.Proofs.Tryz
def yDT (D:Dsk) (at_ n:Int) (ver i:Nat):Option zB:=if n≤(i:Int) then none else if D.readE (at_+(i:Nat))≠0 then none else yCq (yA8 ver i:Nat) (D.readS (at_+(i:Nat)))
def yDz (q:zB):Nat→Int
 |0=>0
 |k+1=>bits .or .i64 (yDz q k) (IntKind.i64.wrap (((q.getD (1+k) 0).toNat:Int)*2 ^ (min (8*(k:Int)).toNat IntKind.i64.bits)))
def yFy (D:Dsk) (at_ n:Int) (ver i:Nat) (size:Int):Nat→Nat→zB→Option zB
 |0,_,out=>some out
 |f+1,k,out=>match yDT D at_ n ver (i+k) with
  |none=>none
  |some q=>if (q.length:Int)≠1+min (size-out.length) 233 then none else if q.getD 0 0≠0 then none else yFy D at_ n ver i size f (k+1) (out++q.drop 1)
def yFV (D:Dsk) (at_ n:Int) (ver i:Nat):Option (zB × Int):=
 match yDT D at_ n ver i with
 |none=>none
 |some q=>if q.length<5 then none else if q.getD 0 0≠1 then none else if n-(i:Int)<yBQ (yDz q 4) then none else if ((q.drop 5).length:Int)≠min (yDz q 4) 229 then none else
  match yFy D at_ n ver i (yDz q 4) (yBQ (yDz q 4)-1).toNat 1 (q.drop 5) with
  |none=>none
  |some s=>some (s,yBQ (yDz q 4))
def yHb (D:Dsk) (at_ n:Int) (ver:Nat):Nat→Nat→List zB→List zB
 |0,_,an=>an
 |f+1,i,an=>match yFV D at_ n ver i with
  |none=>an
  |some (s,u)=>yHb D at_ n ver f (i+u.toNat) (an++[s])
theorem yUD (x:Int):-9223372036854775808≤IntKind.i64.wrap x∧IntKind.i64.wrap x≤9223372036854775807:=by
 have:IntKind.i64.wrap x=if x % 18446744073709551616≥9223372036854775808 then x % 18446744073709551616-18446744073709551616 else x % 18446744073709551616:=by simp [IntKind.wrap,IntKind.signed,IntKind.bits]
 rw [this];split <;> omega
theorem yN2 (q:zB) (k:Nat):-9223372036854775808≤yDz q k∧yDz q k≤9223372036854775807:=by
 cases k with
 |zero=>exact ⟨by show (-9223372036854775808:Int)≤0;omega,by show (0:Int)≤_;omega⟩
 |succ k=>
  show _≤bits .or .i64 _ _∧bits .or .i64 _ _≤_;exact yUD _
theorem yGa {D:Dsk} {at_ n:Int} {ver i:Nat} {s:zB} {u:Int} (h:yFV D at_ n ver i=some (s,u)):1≤u∧u≤n-(i:Int):=by
 unfold yFV at h;split at h
 ·cases h
 split at h
 ·cases h
 split at h
 ·cases h
 split at h
 ·cases h
 split at h
 ·cases h
 split at h
 ·cases h
 rename_i q hq h5 h6 h1 h2 x s' gG;simp only [Option.some.injEq,Prod.mk.injEq] at h;obtain ⟨-,rfl⟩:=h;refine ⟨?_,zO⟩;unfold yBQ;split
 ·rw [zLf] at h2;omega
 split <;> omega
section
variable {W:World} {E:Nat→Addr} {p g:Nat} {D:Dsk}
theorem yLJ (hE:ErrsOn L8 W E) (hN:NibAt W) (at_ n:Int) (ver i:Nat) (cJ:0≤at_∧at_≤65536) (hn:n≤65536) (eq:1≤ver∧ver≤1099511627776) (hi:i≤131072):CtU prog W 190 [.agg #[zPp p,zi at_,zi n,zi (ver:Nat)],zi (i:Nat)] [DiskP p D] (.tuple #[strV ((yDT D at_ n ver i).getD []),.bool (yDT D at_ n ver i).isSome]) [DiskP p D]:=by
 by_cases h1:n≤(i:Int)
 ·have q1:decide (n≤(i:Int))=true:=zY h1;rw [show yDT D at_ n ver i=none from if_pos h1];refine zE func190 ntmps190 fun R=>?_;repeat' (first|refine zbx fun g1=>?_|refine xqb ?_|refine xsf ?_ ?_|exact xdn ()|intro _)
 have q1:decide (n≤(i:Int))=false:=zZ h1;have c1:=yYM (W:=W) ver i eq zO;have c2:=yMA (W:=W) (p:=p) (D:=D) hE (at_+(i:Nat));have c3:=yPu (W:=W) hN (yA8 ver i:Nat) (D.readS (at_+(i:Nat)));obtain ⟨stm,aj⟩:∃ m,m=yA8 ver i:=⟨_,rfl⟩;rw [show yDT D at_ n ver i=_ from if_neg h1,← aj];rw [← aj] at c1 c3;obtain ⟨raw,aV⟩:∃ m,m=D.readS (at_+(i:Nat)):=⟨_,rfl⟩;obtain ⟨e,he⟩:∃ m,m=D.readE (at_+(i:Nat)):=⟨_,rfl⟩;rw [← aV,← he];rw [← aV] at c2 c3;rw [← he] at c2;clear aj aV he;by_cases hz:e=0
 ·subst hz;rw [if_neg zW];have iU:CtU prog W 108 [zPp p,zi (at_+(i:Nat))] [DiskP p D] (.tuple #[strV raw,.nilIface]) [DiskP p D]:=c2;refine zE func190 ntmps190 fun R=>?_;repeat' (first|refine zbx fun g1=>?_|refine xqb ?_|refine xsf ?_ ?_|exact xdn ()|intro _)
 ·rw [if_pos hz];obtain ⟨ea,bT⟩:=yDf (E:=E) hz;rw [bT] at c2;refine zE func190 ntmps190 fun R=>?_;repeat' (first|refine zbx fun g1=>?_|refine xqb ?_|refine xsf ?_ ?_|exact xdn ()|intro _)
def xDm (o:Option (zB × Int)):Value:=match o with
 |none=>.tuple #[strV [],.int .i64 0,.bool false]
 |some (s,u)=>.tuple #[strV s,.int .i64 u,.bool true]
theorem yUE (hE:ErrsOn L8 W E) (hN:NibAt W) (at_ n:Int) (ver i:Nat) (cJ:0≤at_∧at_≤65536) (hn:n≤65536) (eq:1≤ver∧ver≤1099511627776) (hi:(i:Int)≤n):CtU prog W 154 [.agg #[zPp p,zi at_,zi n,zi (ver:Nat)],zi (i:Nat)] [DiskP p D] (xDm (yFV D at_ n ver i)) [DiskP p D]:=by
 have c1:=yLJ (p:=p) (D:=D) hE hN at_ n ver i cJ hn eq zO;have cp:=fun k (hk:(i:Int)+(k:Nat)≤131072)=>yLJ (p:=p) (D:=D) hE hN at_ n ver (i+k) cJ hn eq zO;obtain ⟨aB,au⟩:∃ aB,aB=yFV D at_ n ver i:=⟨_,rfl⟩;rw [← au];unfold yFV at au;obtain ⟨o,ho⟩:∃ o,o=yDT D at_ n ver i:=⟨_,rfl⟩;rw [← ho] at c1 au;clear ho;cases o with
 |none=>
  subst au;have c1':CtU prog W 190 [.agg #[zPp p,zi at_,zi n,zi (ver:Nat)],zi (i:Nat)] [DiskP p D] (.tuple #[strV [],.bool false]) [DiskP p D]:=c1;show Ct _ _ _ _ _ (fun _:Unit=>.tuple #[strV [],zi 0,.bool false]) _;refine zE func154 ntmps154 fun R=>?_;repeat' (first|refine zbx fun g2=>?_|refine xst ?_|refine xsf ?_ ?_|exact xdn ()|intro _)
 |some q=>
  dsimp only at au;have c1':CtU prog W 190 [.agg #[zPp p,zi at_,zi n,zi (ver:Nat)],zi (i:Nat)] [DiskP p D] (.tuple #[strV q,.bool true]) [DiskP p D]:=c1;clear c1;by_cases h5:q.length<5
  ·rw [if_pos h5] at au;subst au;have q5:decide ((q.length:Int)<5)=true:=zY zO;show Ct _ _ _ _ _ (fun _:Unit=>.tuple #[strV [],zi 0,.bool false]) _;refine zE func154 ntmps154 fun R=>?_;repeat' (first|refine zbx fun g2=>?_|refine xqb ?_|refine xsf ?_ ?_|exact xdn ()|intro _)
  rw [if_neg h5] at au;have q5:decide ((q.length:Int)<5)=false:=zZ zO;obtain ⟨c0,eu⟩:∃ c,q[(0:Int).toNat]? = some c:=⟨_,zLb (by show 0<q.length;omega)⟩;have hg0:q.getD 0 0=c0:=by rw [List.getD];rw [show q[0]? = some c0 from eu];rfl
  rw [hg0] at au;by_cases h6:c0=1;rotate_left
  ·rw [if_pos h6] at au;subst au;have h6':((c0.toNat:Nat):Int)≠1:=by intro e;apply h6;apply UInt8.toNat_inj.1;show c0.toNat=1;omega
   show Ct _ _ _ _ _ (fun _:Unit=>.tuple #[strV [],zi 0,.bool false]) _;refine zE func154 ntmps154 fun R=>?_;repeat' (first|refine zbx fun g2=>?_|refine xqb ?_|refine xsf ?_ ?_|exact xdn ()|intro _)
  rw [if_neg (by simpa using h6)] at au;have h6':((c0.toNat:Nat):Int)=1:=by rw [h6];rfl
  refine zE func154 ntmps154 fun R=>?_;repeat' (first|refine zbx fun g2=>?_|refine xqb ?_|refine xsf ?_ ?_|intro _)
  refine yAC (fun k:{k:Nat//k≤4}=>[(1,zi (i:Nat)),(2,zPp g2),(7,strV q),(9,zi (yDz q k.1)),(32,zi (k.1:Nat))]) (fun _=>[DiskP p D,yAj g2 [zPp p,zi at_,zi n,zi (ver:Nat)] 178]++R) (fun k=>4-k.1) ⟨0,zO⟩ xB (xN) (fun ⟨k,hk⟩=>?_);dsimp only;by_cases hlt:k<4
  ·have ql:decide ((k:Int)<4)=true:=zY zO;obtain ⟨c,hc⟩:∃ c,q[((k+1:Nat):Int).toNat]? = some c:=⟨_,zLb zO⟩;have hgc:q.getD (1+k) 0=c:=by rw [show ((k+1:Nat):Int).toNat=1+k by omega] at hc;rw [List.getD,hc];rfl
   have hcb:=zLy c;obtain ⟨sh,fN⟩:∃ sh,IntKind.i64.wrap ((c.toNat:Int)*2 ^ (min (8*(k:Int)).toNat IntKind.i64.bits))=sh:=⟨_,rfl⟩;have fy:bits .or .i64 (yDz q k) sh=yDz q (k+1):=by rw [← fN,← hgc];rfl
   repeat' (first|refine yAu ?_;refine yAa (yCA rfl zO) ?_|refine zad (k+1) ?_|refine yFp ?_;refine yAa (yZL rfl rfl fy) ?_|refine yCo ?_;refine yAa (yMR rfl rfl zO fN) ?_|refine xqb ?_|refine xsf ?_ ?_|intro _)
   all_goals exact yAs ⟨k+1,zO⟩ (by show 4-(k+1)<4-k;omega) xB (xN)
  have hk4:k=4:=zO;subst hk4;have ql:decide (((4:Nat):Int)<4)=false:=zX;have bu:=yN2 q 4;obtain ⟨size,ew⟩:∃ s,s=yDz q 4:=⟨_,rfl⟩;rw [← ew] at bu au ⊢;clear ew;have c2:=yPA (W:=W) size bu.2;have bw:yBQ size=if size<0 then 0 else if size≤229 then 1 else 2+(size-230) / 233:=rfl
  obtain ⟨aE,dL⟩:∃ m,m=yBQ size:=⟨_,rfl⟩;rw [← dL] at c2 au bw;clear dL;obtain ⟨iQ,jD⟩:∃ x,q.drop (5:Int).toNat=x:=⟨_,rfl⟩;rw [show q.drop 5=iQ from jD] at au;have hq5l:iQ.length=q.length-5:=by rw [← jD];exact zLf
  by_cases h7:n-(i:Int)<aE
  ·rw [if_pos h7] at au;subst au;have q7:decide (n-(i:Int)<aE)=true:=zY h7;repeat' (first|refine yHF ?_;refine yHT rfl rfl (fun g3 c3=>?_)|refine yBb ?_;refine yAa (yBh rfl rfl zO jD) ?_|refine xqb ?_|refine xsf ?_ ?_|exact xdn ()|intro _)
  rw [if_neg h7] at au;have q7:decide (n-(i:Int)<aE)=false:=zZ h7;obtain ⟨mn,jA⟩:∃ m,min size 229=m:=⟨_,rfl⟩;rw [jA] at au;by_cases h8:(iQ.length:Int)=mn;rotate_left
  ·rw [if_pos h8] at au;subst au;repeat' (first|refine yHF ?_;refine yHT rfl rfl (fun g3 c3=>?_)|refine yBb ?_;refine yAa (yBh rfl rfl zO jD) ?_|refine yDg ?_;refine yAa (yCv rfl rfl jA) ?_|refine xqb ?_|refine xsf ?_ ?_|exact xdn ()|intro _)
  rw [if_neg (by simpa using h8)] at au;have hs0:0≤size:=zO;have bM:size≤16777216:=by split at bw <;> omega
  obtain ⟨ro,cI⟩:∃ ro,ro=yFy D at_ n ver i size (aE-1).toNat 1 iQ:=⟨_,rfl⟩;rw [← cI] at au;repeat' (first|refine yHF ?_;refine yHT rfl rfl (fun g3 c3=>?_)|refine yBb ?_;refine yAa (yBh rfl rfl zO jD) ?_|refine yDg ?_;refine yAa (yCv rfl rfl jA) ?_|refine xqb ?_|refine xsf ?_ ?_|intro _)
  refine yAC (fun k:{s:Nat × Nat × zB × Nat × Nat//yFy D at_ n ver i size s.1 s.2.1 s.2.2.1=ro∧(s.1:Int)+s.2.1=max aE 1∧1≤s.2.1∧(s.2.2.1.length:Int)=min size (229+233*((s.2.1:Int)-1))}=>[(1,zi (i:Nat)),(2,zPp g2),(9,zi size),(11,zi aE),(12,.slice (some ⟨k.1.2.2.2.1,0,none⟩) k.1.2.2.1.length k.1.2.2.2.2),(13,zi (k.1.2.1:Nat))])
   (fun k=>[DiskP p D,yAj g2 [zPp p,zi at_,zi n,zi (ver:Nat)] 178,yMP k.1.2.2.2.1 k.1.2.2.1.length k.1.2.2.2.2 k.1.2.2.1 5]++R) (fun k=>k.1.1) ⟨((aE-1).toNat,1,iQ,g3,c3),cI.symm,by dsimp only;omega,by dsimp only;omega,by dsimp only;omega⟩ xB (xN) (fun ⟨(fu,k,out,g4,c4),hr,hfk,ez,kB⟩=>?_)
  dsimp only at hr hfk ez kB ⊢;by_cases hlt2:(k:Int)<aE;rotate_left
  ·have qk:decide ((k:Int)<aE)=false:=zZ hlt2;have hfu:fu=0:=zO;subst hfu;have aN:ro=some out:=by rw [← hr];rfl
   rw [aN] at au;subst au;repeat' (first|refine yAu ?_;refine yAa (yFw rfl xS) ?_|refine xqb ?_|refine xsf ?_ ?_|exact xdn ()|intro _)
  have qk:decide ((k:Int)<aE)=true:=zY hlt2;obtain ⟨fu',rfl⟩:∃ f',fu=f'+1:=⟨fu-1,zO⟩;have hout:(out.length:Int)=229+233*((k:Int)-1)∧(out.length:Int)<size:=by split at bw <;> omega
  have c6:=cp k zO;have aG:yFy D at_ n ver i size (fu'+1) k out=match yDT D at_ n ver (i+k) with
   |none=>none
   |some q=>if (q.length:Int)≠1+min (size-out.length) 233 then none else if q.getD 0 0≠0 then none else yFy D at_ n ver i size fu' (k+1) (out++q.drop 1):=rfl
  rw [aG] at hr;clear aG;obtain ⟨o2,dK⟩:∃ o,o=yDT D at_ n ver (i+k):=⟨_,rfl⟩;rw [← dK] at c6 hr;clear dK;cases o2 with
  |none=>
   have aN:ro=none:=by rw [← hr]
   rw [aN] at au;subst au;have kU:CtU prog W 190 [.agg #[zPp p,zi at_,zi n,zi (ver:Nat)],zi ((i+k:Nat):Int)] [DiskP p D] (.tuple #[strV [],.bool false]) [DiskP p D]:=c6;repeat' (first|refine zad (i+k) ?_|refine xqb ?_|refine xsf ?_ ?_|exact xdn ()|intro _)
  |some q2=>
   dsimp only at hr;have kU:CtU prog W 190 [.agg #[zPp p,zi at_,zi n,zi (ver:Nat)],zi ((i+k:Nat):Int)] [DiskP p D] (.tuple #[strV q2,.bool true]) [DiskP p D]:=c6;obtain ⟨m2,dy⟩:∃ m,min (size-(out.length:Int)) 233=m:=⟨_,rfl⟩;rw [dy] at hr;by_cases h9:(q2.length:Int)=1+m2;rotate_left
   ·rw [if_pos h9] at hr;have aN:ro=none:=by rw [← hr]
    rw [aN] at au;subst au;repeat' (first|refine yDg ?_;refine yAa (yCv rfl rfl dy) ?_|refine zad (i+k) ?_|refine xqb ?_|refine xsf ?_ ?_|exact xdn ()|intro _)
   rw [if_neg (by simpa using h9)] at hr;obtain ⟨d0,fU⟩:∃ c,q2[(0:Int).toNat]? = some c:=⟨_,zLb (by show 0<q2.length;omega)⟩;have bE:q2.getD 0 0=d0:=by rw [List.getD];rw [show q2[0]? = some d0 from fU];rfl
   rw [bE] at hr;by_cases h10:d0=0;rotate_left
   ·rw [if_pos h10] at hr;have aN:ro=none:=by rw [← hr]
    rw [aN] at au;subst au;have h10':((d0.toNat:Nat):Int)≠0:=by intro e;apply h10;apply UInt8.toNat_inj.1;show d0.toNat=0;omega
    repeat' (first|refine yDg ?_;refine yAa (yCv rfl rfl dy) ?_|refine zad (i+k) ?_|refine xqb ?_|refine xsf ?_ ?_|exact xdn ()|intro _)
   rw [if_neg (by simpa using h10)] at hr;have h10':((d0.toNat:Nat):Int)=0:=by rw [h10];rfl
   obtain ⟨q3,fa⟩:∃ x,q2.drop (1:Int).toNat=x:=⟨_,rfl⟩;rw [show q2.drop 1=q3 from fa] at hr;have hq3l:q3.length=q2.length-1:=by rw [← fa];exact zLf
   repeat' (first|refine yAQ ?_;refine yEG rfl rfl xS zO rfl (fun g5 c5=>?_)|refine yBb ?_;refine yAa (yBh rfl rfl zO fa) ?_|refine yDg ?_;refine yAa (yCv rfl rfl dy) ?_|refine zad (k+1) ?_|refine zad (i+k) ?_|refine xqb ?_|refine xsf ?_ ?_|intro _)
   refine yAs ⟨(fu',k+1,out++q3,g5,c5),hr,by dsimp only;omega,by dsimp only;omega,by dsimp only;rw [zLa];split at bw <;> omega⟩ (by show fu'<fu'+1;omega) ?_ ?_
   ·dsimp only;rw [zLa];exact xB
   ·dsimp only;rw [zLa];exact (xN)
theorem yHU (hE:ErrsOn L8 W E) (hN:NibAt W) (at_ n:Int) (ver:Nat) (cO:D.n≤65536) (ho:D.off=false) (h:yMS D at_ n ver):Ct prog W 98 [zPp p,zi at_,zi n,zi (ver:Nat)] [DiskP p D] (fun v:Value=>.tuple #[v,.nilIface]) (fun v=>[DiskP p D,yA4 v 9 1 (yHb D at_ n ver (n.toNat+1) 0 []).length ((yHb D at_ n ver (n.toNat+1) 0 []).map strV)]):=by
 have c1:=yQO (W:=W) (p:=p) cO ho at_ n (ver:Nat) h;obtain ⟨h1,h2,h3,h4,h5,h6,h7⟩:=h;obtain ⟨aB,au⟩:∃ aB,aB=yHb D at_ n ver (n.toNat+1) 0 []:=⟨_,rfl⟩;rw [← au];have cr:=fun i (hi:((i:Nat):Int)≤n)=>yUE (W:=W) (p:=p) (D:=D) hE hN at_ n ver i zO h5 zO hi;refine zE func98 ntmps98 fun R=>?_;repeat' (first|refine xca c1 fun _=>?_|refine xst ?_|refine xsf ?_ ?_|intro _)
 refine KJ.row0 (e:=9) (sz:=1) ?_;rename_i gl _
 refine yAC (fun k:{s:Nat × Nat × List zB × Value//yHb D at_ n ver s.1 s.2.1 s.2.2.1=aB∧(s.2.1:Int)≤n∧n+1≤(s.1:Int)+s.2.1∧s.2.2.1.length≤s.2.1}=>[(10,zPp gl),(12,k.1.2.2.2),(13,zi (k.1.2.1:Nat))])
  (fun k=>[DiskP p D,yAj gl [zPp p,zi at_,zi n,zi (ver:Nat)] 178,yA4 k.1.2.2.2 9 1 k.1.2.2.1.length (k.1.2.2.1.map strV)]++R) (fun k=>k.1.1) ⟨(n.toNat+1,0,[],.slice none 0 0),au.symm,by dsimp only;omega,by dsimp only;omega,Nat.le_refl _⟩ xB (xN) (fun ⟨(f,i,an,v),hr,dh,iM,bF⟩=>?_)
 dsimp only at hr dh iM bF ⊢;obtain ⟨f',rfl⟩:∃ f',f=f'+1:=⟨f-1,zO⟩;have aG:yHb D at_ n ver (f'+1) i an=match yFV D at_ n ver i with
  |none=>an
  |some (s,u)=>yHb D at_ n ver f' (i+u.toNat) (an++[s]):=rfl
 rw [aG] at hr;clear aG;have c2:=cr i dh;have jp:=fun s u=>yGa (D:=D) (at_:=at_) (n:=n) (ver:=ver) (i:=i) (s:=s) (u:=u);obtain ⟨o,ho⟩:∃ o,o=yFV D at_ n ver i:=⟨_,rfl⟩;rw [← ho] at c2 hr;simp only [← ho] at jp;clear ho;cases o with
 |none=>
  have aN:an=aB:=hr;subst aN;have iU:CtU prog W 154 [.agg #[zPp p,zi at_,zi n,zi (ver:Nat)],zi (i:Nat)] [DiskP p D] (.tuple #[strV [],zi 0,.bool false]) [DiskP p D]:=c2;repeat' (first|refine xca iU fun _=>?_|refine xst ?_|refine xsf ?_ ?_|intro _)
  all_goals (exact xdn v)
 |some su=>
  obtain ⟨s,u⟩:=su;dsimp only at hr;obtain ⟨iN,db⟩:=jp s u rfl;obtain ⟨un,rfl⟩:∃ un:Nat,u=(un:Int):=⟨u.toNat,zO⟩;rw [zLe] at hr;have iU:CtU prog W 154 [.agg #[zPp p,zi at_,zi n,zi (ver:Nat)],zi (i:Nat)] [DiskP p D] (.tuple #[strV s,zi (un:Nat),.bool true]) [DiskP p D]:=c2;repeat' (first|refine xca iU fun _=>?_|refine yAQ ?_;refine yCN (a2:=0) rfl rfl (by rfl) zO xS (Src.cells (i:=1) xS xC) (by rfl) zO xO zO zO rfl rfl (fun g5 c5=>?_)|refine yAD ?_;refine yAK rfl xF (by rfl) zO rfl (fun g3=>?_)|refine zad (i+un) ?_|refine xst ?_|refine xsf ?_ ?_|intro _)
  refine yAs ⟨(f',i+un,an++[s],.slice (zq g5) (an.length+1) c5),hr,by dsimp only;omega,by dsimp only;omega,by dsimp only;rw [zLa];show an.length+1≤_;omega⟩ (by show f'<f'+1;omega) xB ?_;have em:an.map strV++[strV s]=(an++[s]).map strV:=zW;dsimp only;rw [← em,zLa];exact (xN)
end
theorem ySf (aa:Int):∀ (f a:Nat) (v:zB),(pcs aa f a v).length≤yHw v.length:=by
 intro f
 induction f with
 |zero=>intro a v;simp [pcs]
 |succ f ih=>
  intro a v;by_cases hv:v=[]
  ·rw [hv,yPy];simp
  ·rw [yHS _ _ _ _ hv,zLj];have h:=ih (a+1) (v.drop 234);have hp:=zLv.2 hv;rw [zLf] at h;unfold yHw at h ⊢;omega
theorem yXc:yDX ((zs 256).drop 248) 8=0:=zK
theorem yCS (q:zB) (k x:Nat) (hk:k<4) (hx:x<2 ^ (8*k)) (h:yDz q k=(x:Int)):yDz q (k+1)=((x+(q.getD (1+k) 0).toNat*2 ^ (8*k):Nat):Int):=by
 obtain ⟨c,hc⟩:∃ c,c=q.getD (1+k) 0:=⟨_,rfl⟩;have hcb:=zLy c;have hm:min (8*(k:Int)).toNat IntKind.i64.bits=8*k:=by show min (8*(k:Int)).toNat 64=8*k;omega
 have hp:(2:Nat) ^ (8*k)≤2 ^ 24:=Nat.pow_le_pow_right zO zO;have jQ:=Nat.two_pow_pos (8*k);have hcp:c.toNat*2 ^ (8*k)≤255*2 ^ 24:=Nat.mul_le_mul zO hp;show bits .or .i64 (yDz q k) (IntKind.i64.wrap (((q.getD (1+k) 0).toNat:Int)*2 ^ (min (8*(k:Int)).toNat IntKind.i64.bits)))=_;rw [h,hm,← hc];have e2:((c.toNat:Int)*2 ^ (8*k))=((c.toNat*2 ^ (8*k):Nat):Int):=zW;obtain ⟨y,hy⟩:∃ y,y=c.toNat*2 ^ (8*k):=⟨_,rfl⟩;have fy:x ||| y=x+y:=by rw [hy,Nat.or_comm,Nat.mul_comm,← Nat.two_pow_add_eq_or_of_lt hx,Nat.add_comm]
 rw [e2,← hy];rw [← hy] at hcp;rw [yDa (y:Int) zO];have e:bits .or .i64 (x:Int) (y:Int)=IntKind.i64.wrap ((BitVec.ofInt 64 (x:Int) ||| BitVec.ofInt 64 (y:Int)).toNat:Int):=rfl;have b1:(BitVec.ofInt 64 (x:Int)).toNat=x:=by rw [BitVec.toNat_ofInt];omega
 have b2:(BitVec.ofInt 64 (y:Int)).toNat=y:=by rw [BitVec.toNat_ofInt];omega
 rw [e,BitVec.toNat_or,b1,b2,fy];exact yDa _ zO
theorem yPC (L:Nat) (hL:L<2147483648) (x:zB):yDz (yE2 L++x) 4=(L:Int):=by
 have g0:((yE2 L++x).getD (1+0) 0).toNat=L % 256:=by show (UInt8.ofNat (L % 256)).toNat=_;rw [UInt8.toNat_ofNat'];omega
 have g1:((yE2 L++x).getD (1+1) 0).toNat=L / 256 % 256:=by show (UInt8.ofNat (L / 256 % 256)).toNat=_;rw [UInt8.toNat_ofNat'];omega
 have g2:((yE2 L++x).getD (1+2) 0).toNat=L / 65536 % 256:=by show (UInt8.ofNat (L / 65536 % 256)).toNat=_;rw [UInt8.toNat_ofNat'];omega
 have g3:((yE2 L++x).getD (1+3) 0).toNat=L / 16777216 % 256:=by show (UInt8.ofNat (L / 16777216 % 256)).toNat=_;rw [UInt8.toNat_ofNat'];omega
 have s0:=yCS (yE2 L++x) 0 0 zO zX rfl;rw [g0] at s0;have s1:=yCS (yE2 L++x) 1 (0+L % 256*2 ^ (8*0)) zO zO s0;rw [g1] at s1;have s2:=yCS (yE2 L++x) 2 (0+L % 256*2 ^ (8*0)+L / 256 % 256*2 ^ (8*1)) zO zO s1;rw [g2] at s2;have s3:=yCS (yE2 L++x) 3 (0+L % 256*2 ^ (8*0)+L / 256 % 256*2 ^ (8*1)+L / 65536 % 256*2 ^ (8*2)) zO zO s2;rw [g3] at s3;rw [s3];omega
section
variable {D:Dsk} {at_ n:Int} {ver:Nat}
theorem ySg (i:Nat) (L:Int):∀ (f:Nat) (l:zB) (k:Nat) (out:zB),l.length≤233*f→(out.length:Int)+l.length=L→(∀ j p,(yBH f l)[j]? = some p→yDT D at_ n ver (i+k+j)=some p∨yDT D at_ n ver (i+k+j)=none)→(yFy D at_ n ver i L (yBH f l).length k out=some (out++l)∧∀ j,j<(yBH f l).length→(yDT D at_ n ver (i+k+j)).isSome=true)∨ (yFy D at_ n ver i L (yBH f l).length k out=none∧∃ j,j<(yBH f l).length∧yDT D at_ n ver (i+k+j)=none):=by
 intro f
 induction f with
 |zero=>
  intro l k out hl _ _;have:l=[]:=List.length_eq_zero_iff.1 zO;subst this;exact .inl ⟨by simp [yBH,yFy],fun j hj=>by simp [yBH] at hj⟩
 |succ f ih=>
  intro l k out hl hL hp;by_cases h0:l=[]
  ·subst h0;rw [yCR];exact .inl ⟨by simp [yFy],fun j hj=>by simp at hj⟩
  have hpos:=zLv.2 h0;rw [yCr _ _ h0] at hp ⊢;rw [zLj];have aG:yFy D at_ n ver i L ((yBH f (l.drop 233)).length+1) k out=match yDT D at_ n ver (i+k) with
   |none=>none
   |some q=>if (q.length:Int)≠1+min (L-out.length) 233 then none else if q.getD 0 0≠0 then none else yFy D at_ n ver i L (yBH f (l.drop 233)).length (k+1) (out++q.drop 1):=rfl
  rw [aG];clear aG;have hh:=hp 0 (0::l.take 233) rfl;rw [zLz] at hh;rcases hh with hh|hh
  ·rw [hh];dsimp only;rw [if_neg (by rw [zLj,zLg];omega),if_neg zW];have:=ih (l.drop 233) (k+1) (out++l.take 233) (by rw [zLf];omega) (by rw [zLa,zLf,zLg];omega) (fun j p hj=>by
    have:=hp (j+1) p (by simpa using hj)
    rwa [show i+k+(j+1)=i+(k+1)+j by omega] at this)
   rw [zLd,zLu] at this;rcases this with ⟨a,b⟩|⟨a,j,b,c⟩
   ·refine .inl ⟨a,fun j hj=>?_⟩;cases j with
    |zero=>rw [zLz,hh];rfl
    |succ j=>
     have:=b j zO
     rwa [show i+(k+1)+j=i+k+(j+1) by omega] at this
   ·exact .inr ⟨a,j+1,zO,by rw [show i+k+(j+1)=i+(k+1)+j by omega];exact c⟩
  ·rw [hh];exact .inr ⟨rfl,0,zO,by rw [zLz];exact hh⟩
theorem yUF (i:Nat) (r:zB) (hr:r.length<2147483648) (hp:∀ j p,(yBw r)[j]? = some p→yDT D at_ n ver (i+j)=some p∨yDT D at_ n ver (i+j)=none) (hn:(i:Int)+(yBw r).length≤n) :(yFV D at_ n ver i=some (r,((yBw r).length:Int))∧∀ j,j<(yBw r).length→(yDT D at_ n ver (i+j)).isSome=true)∨(yFV D at_ n ver i=none∧∃ j,j<(yBw r).length∧yDT D at_ n ver (i+j)=none):=by
 have hL:=yB2 r;have ai:(yBw r).length=(yBH r.length (r.drop 229)).length+1:=rfl;have hh:=hp 0 (yE2 r.length++r.take 229) rfl;rw [zLz] at hh;unfold yFV;rcases hh with hh|hh
 ·rw [hh];dsimp only;have hql:(yE2 r.length++r.take 229).length=5+min 229 r.length:=by rw [zLa,zLg];rfl
  have hdr:(yE2 r.length++r.take 229).drop 5=r.take 229:=rfl;rw [yPC _ hr,if_neg zO,if_neg (by show ¬ ((1:UInt8)≠1);simp),if_neg (by rw [← hL];omega),hdr,if_neg (by rw [zLg];omega)];have hfu:(yBQ (r.length:Nat)-1).toNat=(yBH r.length (r.drop 229)).length:=by rw [← hL,ai];omega
  rw [hfu];have:=ySg (D:=D) (at_:=at_) (n:=n) (ver:=ver) i (r.length:Int) r.length (r.drop 229) 1 (r.take 229) (by rw [zLf];omega) (by rw [zLf,zLg];omega) (fun j p hj=>by
   have:=hp (j+1) p (by unfold yBw;simpa using hj)
   rwa [show i+(j+1)=i+1+j by omega] at this)
  rw [zLu] at this;rcases this with ⟨a,b⟩|⟨a,j,b,c⟩
  ·rw [a];refine .inl ⟨by dsimp only;rw [hL],fun j hj=>?_⟩;cases j with
   |zero=>rw [zLz,hh];rfl
   |succ j=>
    have:=b j zO
    rwa [show i+1+j=i+(j+1) by omega] at this
  ·rw [a];exact .inr ⟨rfl,j+1,zO,by rw [show i+(j+1)=i+1+j by omega];exact c⟩
 ·rw [hh];exact .inr ⟨rfl,0,zO,by rw [zLz];exact hh⟩
theorem yKj {i:Nat} (h:yDT D at_ n ver i=none):yFV D at_ n ver i=none:=by unfold yFV;rw [h]
end
end Go.Proofs.YtoipmnikdiogcaaGreatDoor
