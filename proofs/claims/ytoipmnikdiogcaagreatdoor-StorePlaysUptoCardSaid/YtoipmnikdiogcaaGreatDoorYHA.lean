/-
  StD1, BaR2, RrA, StD2, StD3.
-/
import Derived.Test.YtoipmnikdiogcaaGreatDoorYGV
set_option maxHeartbeats 64000000
namespace Go.Proofs.YtoipmnikdiogcaaGreatDoor
open Go Go.RowKit
open Go.Proofs.Tryz
abbrev yHf:Pl:=(po [0,1,2,3,4,5,6] (.ef 7 [] (.ef 8 [] .nil)))
abbrev yVU:Pl:=(po [0,1,2,3,4,5,6,7,8,9,10,11,12,13] .nil)
section
variable {W:World} {p n:Nat} {D:Dsk}
instance xB4:FnIs prog 132:=⟨zK⟩
instance xA4:FnIs prog 65:=⟨zK⟩
instance xB5:FnIs prog 178:=⟨zK⟩
theorem yEd (v:Nat):CtU prog W 132 [.agg (yOj n).toArray,zi (v:Nat)] [] (zi (yAG n v:Nat)) []:=by
 obtain ⟨m,hm⟩:∃ m:Nat,((v:Nat):Int) % 2=(m:Nat):=⟨v % 2,zO⟩;rcases (show m=0∨m=1 by omega) with rfl|rfl
 ·have e:yAG n v=2:=if_pos zO;rw [e];refine zE func132 ntmps132 fun R=>?_;repeat' (first|refine zbx fun g2=>?_|refine yAt ?_;refine yAa (yAe (q:=true) rfl rfl rfl) ?_|refine xqa ?_|refine xsf ?_ ?_|exact xdn ()|intro _)
 ·have e:yAG n v=2+yAA n:=if_neg zO;rw [e];refine zE func132 ntmps132 fun R=>?_;repeat' (first|refine zbx fun g2=>?_|refine yAt ?_;refine yAa (yAe (q:=false) rfl rfl rfl) ?_|refine xqa ?_|refine xsf ?_ ?_|exact xdn ()|intro _)
theorem yRt (h:Still D) (k:Nat) (hk:k<D.n):CtU prog W 127 [zPp p,zi (k:Nat)] [yA1 p D] (.tuple #[strV (D.sec k),zi 0]) [yA1 p D]:=by
 have:=yK7 (W:=W) (p:=p) h.ok (k:Nat) (by rw [h.und];simp);have h1:D.has ((k:Nat):Int)=true:=by unfold Dsk.has;exact zY zO
 have e1:D.readS (k:Nat)=D.sec k:=by unfold Dsk.readS Dsk.rd;rw [h.on,h1,h.und];rfl
 have e2:D.readE (k:Nat)=0:=by unfold Dsk.readE;rw [h.on,h1];rfl
 rw [e1,e2] at this;exact this
theorem yCx (h:Still D) (h2:2≤D.n):CtU prog W 65 [zPp p] [yA1 p D] (.tuple #[strV (yBT D 0),zi (yB6 D 0),zi (yBA D 0:Nat)]) [yA1 p D]:=by have hl:=h.ok.len;obtain ⟨z1,z2,z3⟩:=yXZ h h2;have l0:(D.sec 0).length=256:=yBY _ _ _ zO;have l1:(D.sec 1).length=256:=yBY _ _ _ zO;have c0:CtU prog W 127 [zPp p,zi 0] [yA1 p D] (.tuple #[strV (D.sec 0),zi 0]) [yA1 p D]:=yRt h 0 zO;have c1:CtU prog W 127 [zPp p,zi 1] [yA1 p D] (.tuple #[strV (D.sec 1),zi 0]) [yA1 p D]:=yRt h 1 zO;have c8:=yVF (W:=W) (D.sec 0++D.sec 1) 2 (by rw [zLa];omega) zO 0;rw [z1,z2,z3] at c8;clear z1 z2 z3;obtain ⟨a,ha⟩:∃ a,a=D.sec 0:=⟨_,rfl⟩;obtain ⟨b,hb⟩:∃ b,b=D.sec 1:=⟨_,rfl⟩;rw [← ha] at l0 c0 c8;rw [← hb] at l1 c1 c8;have bl:a.length+b.length≤9223372036854775807:=zO;refine zE func65 ntmps65 fun R=>?_;repeat' (first|refine yAr ?_;refine yAa (yFk (a:=a) (b:=b) rfl rfl bl) ?_|refine znf ?_|refine xst ?_|refine xsf ?_ ?_|exact xdn ()|intro _)
theorem yFe (hn:D.n=n) (h2:n≤65536) (s:zB) (hs:s.length≤1000) (k:Nat) (h:yTn n (234*yAA n) s=some k) :CtU prog W 178 [zPp p,.agg (yOj n).toArray,strV s] [yA1 p D] (.tuple #[zi (k:Nat),.bool true]) [yA1 p D]:=by
 obtain ⟨e,hk⟩:=yVu h;have hA:=yBr h2;subst e;have cr:=yFa (W:=W) (n:=yAA n) zO;have hl:(yBJ n k).length=(vu n).length+(vu k).length:=by unfold yBJ;rw [zLa]
 have bp:ru ((yBJ n k).drop 0)=.ok n (vu k):=by rw [zLo];exact yFz n zO (vu k)
 have bn:rup (234*yAA n) ((yBJ n k).drop (0+(vu n).length))=.ok k []:=by unfold yBJ rup;rw [zLq,List.drop_left];have:=yFz k zO [];rw [zLs] at this;rw [this];exact if_neg zO
 have cu:=yGt (W:=W) (s:=yBJ n k) (a:=0) zO zO _ bp;have cp:=yFc (W:=W) (s:=yBJ n k) (a:=0+(vu n).length) (234*yAA n) zO zO zO _ bn;have z1:rdN (.ok n (vu k))=n:=rfl;have z2:rdE (.ok n (vu k))=0:=rfl;have z3:rdL (.ok n (vu k))=(vu n).length:=rfl;have y1:rdN (.ok k [])=k:=rfl;have y2:rdE (.ok k ([]:zB))=0:=rfl;have y3:rdL (.ok k [])=(vu k).length:=rfl;rw [z1,z2,z3] at cu;rw [y1,y2,y3] at cp;obtain ⟨S,hS⟩:∃ S,S=yBJ n k:=⟨_,rfl⟩;rw [← hS] at cu cp hl ⊢;obtain ⟨a1,bi⟩:∃ a,a=0+(vu n).length:=⟨_,rfl⟩;obtain ⟨a2,bx⟩:∃ a,a=a1+(vu k).length:=⟨_,rfl⟩;rw [← bi] at cu cp;rw [← bx] at cp;have hl2:S.length=a2:=zO;have w1:IntKind.u64.wrap ((n:Nat):Int)=((n:Nat):Int):=yAx _ zO;have qn:decide (((n:Nat):Int)≠((n:Nat):Int))=false:=zW;have ql:decide (((a2:Nat):Int)=((S.length:Nat):Int))=true:=zY zO;refine yIl fun sv wv=>?_;rw [yAZ];refine zE func178 ntmps178 fun R=>?_;refine KJ.row_slice xS (fun sa sc e=>?_);subst e;rw [hn];repeat' (first|refine zbx fun g4=>?_|refine yAt ?_;refine yAa (yAe (q:=true) rfl rfl rfl) ?_|refine znf ?_|refine xqa ?_|refine xsf ?_ ?_|intro _)
 refine KJ.pack (tag:=21) (key:=p) (F:=yCE p D) (.slice sa n sc,wv) (by rw [yAZ,hn];exact xP) ?_
 (exact xdn ())
theorem ySZ (hn:D.n=n) (h2:n≤65536) (s:zB) (hs:s.length≤1000) (h:yTn n (234*yAA n) s=none) :Ct prog W 178 [zPp p,.agg (yOj n).toArray,strV s] [yA1 p D] (fun k:Nat=>.tuple #[zi (k:Nat),.bool false]) (fun _=>[yA1 p D]):=by
 have hA:=yBr h2;have cr:=yFa (W:=W) (n:=yAA n) zO;have w1:IntKind.u64.wrap ((n:Nat):Int)=((n:Nat):Int):=yAx _ zO;have cu:=yGt (W:=W) (s:=s) (a:=0) zO zO _ rfl;rw [zLo] at cu;unfold yTn at h;refine yIl fun sv wv=>?_;rw [yAZ];refine zE func178 ntmps178 fun R=>?_;refine KJ.row_slice xS (fun sa sc e=>?_);subst e;rw [hn];cases hq:ru s with
 |bad e=>
  rw [hq] at cu;have he:=yDB hq;have z1:rdN (.bad e)=0:=rfl;have z2:rdE (.bad e:Rd Nat)=e:=rfl;have z3:rdL (.bad e)=0:=rfl;rw [z1,z2,z3] at cu;have qe:decide (((e:Nat):Int)≠0)=true:=zY zO;repeat' (first|refine zbx fun g4=>?_|refine xqa ?_|refine xsf ?_ ?_|intro _)
  refine KJ.pack (tag:=21) (key:=p) (F:=yCE p D) (.slice sa n sc,wv) (by rw [yAZ,hn];exact xP) ?_;exact xdn 0
 |ok m t=>
  rw [hq] at h cu;simp only at h;have ht:=yDs (s:=s) (a:=0) (by rw [zLo];exact hq);have hf:=yEL (s:=s) (a:=0) (by rw [zLo];exact hq);have z1:rdN (.ok m t)=m:=rfl;have z2:rdE (.ok m t)=0:=rfl;have z3:rdL (.ok m t)=(vu m).length:=rfl;rw [z1,z2,z3] at cu;obtain ⟨a1,bi⟩:∃ x,x=0+(vu m).length:=⟨_,rfl⟩;rw [← bi] at cu ht hf;rw [ht] at h;clear bi z1 z2 z3 hq ht;by_cases jA:((m:Nat):Int)=((n:Nat):Int);rotate_left
  ·have qn:decide (((m:Nat):Int)≠((n:Nat):Int))=true:=zY jA;repeat' (first|refine zbx fun g4=>?_|refine znf ?_|refine xqa ?_|refine xsf ?_ ?_|intro _)
   refine KJ.pack (tag:=21) (key:=p) (F:=yCE p D) (.slice sa n sc,wv) (by rw [yAZ,hn];exact xP) ?_;exact xdn 0
  have qn:decide (((m:Nat):Int)≠((n:Nat):Int))=false:=zZ (fun h=>h jA);have cp:=yFc (W:=W) (s:=s) (a:=a1) (234*yAA n) zO zO zO _ rfl;cases bY:rup (234*yAA n) (s.drop a1) with
  |bad e=>
   rw [bY] at cp;have he:e≠0:=by
    unfold rup at bY;split at bY
    ·rename_i hb;cases bY;have:=yDB hb;omega
    ·split at bY
     ·cases bY;omega
     ·cases bY
   have y1:rdN (.bad e)=0:=rfl;have y2:rdE (.bad e:Rd Nat)=e:=rfl;have y3:rdL (.bad e)=0:=rfl;rw [y1,y2,y3] at cp;have qe:decide (((e:Nat):Int)=0)=false:=zZ zO;repeat' (first|refine zbx fun g4=>?_|refine znf ?_|refine xqa ?_|refine xsf ?_ ?_|intro _)
   refine KJ.pack (tag:=21) (key:=p) (F:=yCE p D) (.slice sa n sc,wv) (by rw [yAZ,hn];exact xP) ?_;exact xdn 0
  |ok k u=>
   have fa:ru (s.drop a1)=.ok k u∧k≤234*yAA n:=by
    unfold rup at bY;split at bY
    ·cases bY
    ·rename_i n' t' hb;split at bY
     ·cases bY
     ·cases bY;exact ⟨hb,zO⟩
   obtain ⟨fa,hk⟩:=fa;rw [bY] at cp;rw [fa] at h;simp only at h;have hu:=yDs (s:=s) (a:=a1) fa;have dW:=yEL (s:=s) (a:=a1) fa;have y1:rdN (.ok k u)=k:=rfl;have y2:rdE (.ok k u)=0:=rfl;have y3:rdL (.ok k u)=(vu k).length:=rfl;rw [y1,y2,y3] at cp;obtain ⟨a2,bx⟩:∃ x,x=a1+(vu k).length:=⟨_,rfl⟩;rw [← bx] at cp hu dW;clear bx y1 y2 y3;have hlt:a2<s.length:=by
    rcases Nat.lt_or_ge a2 s.length with q|q
    ·exact q
    ·exfalso;rw [if_pos ⟨hk,by rw [hu];exact List.drop_eq_nil_of_le q,zO⟩] at h;cases h
   have ql:decide (((a2:Nat):Int)=((s.length:Nat):Int))=false:=zZ zO;repeat' (first|refine zbx fun g4=>?_|refine yAt ?_;refine yAa (yAe (q:=true) rfl rfl rfl) ?_|refine znf ?_|refine xqa ?_|refine xsf ?_ ?_|intro _)
   refine KJ.pack (tag:=21) (key:=p) (F:=yCE p D) (.slice sa n sc,wv) (by rw [yAZ,hn];exact xP) ?_;exact xdn k
end
def shL {α:Type} (l:List α) (k:Nat) (y:α):List α:=l.take k++y::l.drop k
section
variable {α:Type}
theorem yLa (l:List α) {k:Nat} (y:α) (h:k≤l.length):(shL l k y).length=l.length+1:=by unfold shL;rw [zLa,zLj,zLg,zLf];omega
theorem yLb (l:List α) {k:Nat} (y:α) (h:k<l.length):(shL l (k+1) y)[k]? = l[k]?:=by unfold shL;rw [zLp (by rw [zLg];omega),List.getElem?_take,if_pos zO]
theorem yEU (l:List α) {k:Nat} (y x:α) (h:k≤l.length):(shL l k y).set k x=shL l k x:=by unfold shL;rw [List.set_append_right _ _ (by rw [zLg];omega)];rw [zLg,Nat.min_eq_left h,Nat.sub_self];rfl
theorem yIq (l:List α) {k:Nat} {x:α} (hx:l[k]? = some x):shL l (k+1) x=shL l k x:=by obtain ⟨h,e⟩:=zLc.1 hx;unfold shL;rw [List.take_add_one,hx,List.drop_eq_getElem_cons h,e];simp
theorem yLc (l:List α) (y:α):l++[y]=shL l l.length y:=by simp [shL]
end
def kRow (o:BOp):zB × zB:=(o.key,[])
theorem xAJ (l:List BOp) (k:zB):atB Prod.fst (l.map kRow) k=atB BOp.key l k:=by
 induction l with
 |nil=>rfl
 |cons o l ih=>rw [List.map_cons,atB,atB,ih];rfl
theorem yYa (l:List BOp) (k:zB):yIu Prod.fst (l.map kRow) k=yIu BOp.key l k:=by unfold yIu;rw [List.any_map];rfl
theorem yYb {l:List BOp} (h:yDA BOp.key l):RisR (l.map kRow):=List.pairwise_map.2 h
theorem yVV (l:List BOp):(yAR l).length≤l.length:=by
 induction l with
 |nil=>exact Nat.le_refl _
 |cons o r ih=>
  unfold yAR;split
  ·rw [zLj];omega
  ·rw [yIL];have:=yJh (f:=BOp.key) (yAR r) o.nrm.key;simp only [zLa,zLg,zLf,zLj,List.length_nil];omega
theorem yS0 {ops:List BOp} {i:Nat} {o:BOp} (h:ops[i]? = some o):yAR (ops.drop i)=if yIu BOp.key (yAR (ops.drop (i+1))) o.key=true then yAR (ops.drop (i+1)) else yPE BOp.key (yAR (ops.drop (i+1))) o.nrm:=by obtain ⟨hl,e⟩:=zLc.1 h;rw [List.drop_eq_getElem_cons hl,e,yAR]
section
variable {W:World}
set_option maxRecDepth 10000 in
theorem yS1 (A:SP) (a:Option Addr) (c:Nat) (ops:List BOp) (hL:Lv W opC 3 A a ops) (hl:ops.length*40≤140737488355328):Ct prog W 72 [.slice a ops.length c] [A] (fun x:Option Addr × Nat=>.slice x.1 (yAR ops).length x.2) (fun x=>[A,lsP opC 58 3 (.slice x.1 (yAR ops).length x.2) (yAR ops)]):=by
 refine zE func72 ntmps72 fun R=>?_;repeat' (first|refine yAD ?_;refine yCC rfl (fun gz=>?_)|refine yCj ?_;refine yAa (yBl (r:=((ops.length:Nat):Int)-1) rfl rfl rfl zO) ?_|refine xst ?_|refine xsf ?_ ?_|intro _)
 rename_i g1
 refine yAC (fun x:{x:(Nat × List BOp) × (Option Addr × Nat) × (Option Addr × Nat)//x.1.1≤ops.length∧x.1.2=yAR (ops.drop x.1.1)}=>[(0,.slice a ops.length c),(3,.slice x.1.2.1.1 (x.1.1.2.map kRow).length x.1.2.1.2),(4,.slice x.1.2.2.1 x.1.1.2.length x.1.2.2.2),(5,zi (((x.1.1.1:Nat):Int)-1))])
  (fun x=>[lsP rC 64 2 (.slice x.1.2.1.1 (x.1.1.2.map kRow).length x.1.2.1.2) (x.1.1.2.map kRow),lsP opC 58 3 (.slice x.1.2.2.1 x.1.1.2.length x.1.2.2.2) x.1.1.2,A]++R) (fun x=>x.1.1.1)
  ⟨((ops.length,[]),(some ⟨g1,0,none⟩,0),(some ⟨gz,0,none⟩,0)),Nat.le_refl _,by rw [List.drop_length];rfl⟩ xB (xN) (fun ⟨((j,N),(a1,c1),(a2,c2)),hj,hN⟩=>?_)
 dsimp only at hj hN ⊢;have hNl:=yVV (ops.drop j);rw [← hN,zLf] at hNl;have hNr:=yEH (ops.drop j);rw [← hN] at hNr;have kJ:(N.map kRow).length=N.length:=zLD _;by_cases hj0:j=0
 ·subst hj0;have ql:decide ((0:Int)≤((0:Nat):Int)-1)=false:=rfl;repeat' (first|refine xqa ?_|refine xsf ?_ ?_|intro _)
  all_goals rw [zLo] at hN
  all_goals subst hN
  all_goals (exact xdn (a2,c2))
 obtain ⟨i,rfl⟩:∃ i,j=i+1:=⟨j-1,zO⟩;have ql:decide ((0:Int)≤((i+1:Nat):Int)-1)=true:=zY zO;obtain ⟨o,ho⟩:∃ s,ops[i]? = some s:=⟨_,zLb zO⟩;have aj:=yS0 ho;rw [← hN] at aj;have cJ:=yJh (f:=BOp.key) N o.key;have cp:=yOh (W:=W) a1 c1 (N.map kRow) (yYb hNr) o.key (by rw [kJ];omega);rw [xAJ,yYa] at cp;refine KJ.lvSome hL xS zO (fun b of aJ=>?_);subst aJ;have hi0:Int.toNat (((i+1:Nat):Int)-1)=i:=zO;have ae:of+Int.toNat (((i+1:Nat):Int)-1)*3=of+i*3:=by rw [hi0]
 have gH:of+Int.toNat (((i+1:Nat):Int)-1)*3+1=of+i*3+1:=by rw [hi0]
 have hi1:((i+1:Nat):Int)-1-1=((i:Nat):Int)-1:=zO;cases hh:yIu BOp.key N o.key with
 |true=>
  rw [hh] at cp;rw [hh,if_pos rfl] at aj;have ko:(opC o)[1]? = some (strV o.key):=rfl;repeat' (first|refine yAi ?_;refine yAa (yA0 yAY hL rfl rfl xS gH ho ko) ?_|refine yCj ?_;refine yAa (yBl (r:=((i:Nat):Int)-1) rfl rfl hi1 zO) ?_|refine xqa ?_|refine xsf ?_ ?_|intro _)
  all_goals refine yAs ⟨((i,N),(a1,c1),(a2,c2)),by dsimp only;omega,aj.symm⟩ (by show i<i+1;omega) xB (xN)
 |false=>
  rw [hh] at cp;rw [hh,if_neg zX,yIL] at aj;obtain ⟨N',hN'⟩:∃ N',N'=yAR (ops.drop i):=⟨_,rfl⟩;rw [← hN'] at aj;obtain ⟨del,key,val⟩:=o;have ko:(opC ⟨del,key,val⟩)[1]? = some (strV key):=rfl;obtain ⟨at_,kr⟩:∃ n,n=atB BOp.key N key:=⟨_,rfl⟩;dsimp only [BOp.nrm] at aj cJ cp ho;rw [← kr] at aj cJ cp;have bK:((N.map kRow).length+1)*32≤140737488355328:=by rw [kJ];omega
  have bK2:(N.map kRow).length+1≤9223372036854775807:=by rw [kJ];omega
  have bN:(N.length+1)*40≤140737488355328:=zO;have bN2:N.length+1≤9223372036854775807:=zO;have hK1:(N.map kRow++[(([],[]):zB × zB)]).length=N.length+1:=zW;have fT:(N++[(⟨false,[],[]⟩:BOp)]).length=N.length+1:=zW;cases del with
  |true=>
   repeat' (first|refine zal fun g8=>?_|(refine yAQ ?_;first|refine yBm (a:=(([],[]):zB × zB)) yBp rfl rfl rfl xS xS bK bK2 rfl (fun gk ck=>?_)|refine yBm (a:=(⟨false,[],[]⟩:BOp)) yAY rfl rfl rfl xS xS bN bN2 rfl (fun go co=>?_))|refine yAD ?_;refine yAK rfl xF (by rfl) zO rfl (fun gb=>?_)|(refine yAi ?_;first|refine yAa (yBa yAY hL rfl rfl xS ae ho) ?_|refine yAa (yA0 yAY hL rfl rfl xS gH ho ko) ?_)|refine yCj ?_;refine yAa (yBl (r:=((N.length:Nat):Int)) rfl rfl (by rw [fT];omega) zO) ?_|refine xqa ?_|refine xsf ?_ ?_|intro _)
   refine yAC (fun x:{x:Nat × Rows × List BOp//at_≤x.1∧x.1≤N.length∧(∃ y,x.2.1=shL (N.map kRow) x.1 y)∧∃ y,x.2.2=shL N x.1 y}=>[(0,.slice (some ⟨b,of,none⟩) ops.length c),(3,.slice (zq gk) (N.map kRow++[(([],[]):zB × zB)]).length ck),(4,.slice (zq go) (N++[(⟨false,[],[]⟩:BOp)]).length co),(5,zi (((i+1:Nat):Int)-1)),(6,zi (at_:Nat)),(8,zPp g8),(9,zi (x.1.1:Nat))])
    (fun x=>[yAj g8 (opC ⟨true,key,[]⟩) 58,lsP rC 64 2 (.slice (zq gk) (N.map kRow++[(([],[]):zB × zB)]).length ck) x.1.2.1,lsP opC 58 3 (.slice (zq go) (N++[(⟨false,[],[]⟩:BOp)]).length co) x.1.2.2,A]++R) (fun x=>x.1.1)
    ⟨(N.length,N.map kRow++[([],[])],N++[⟨false,[],[]⟩]),cJ,Nat.le_refl _,⟨_,by rw [yLc,kJ]⟩,⟨_,yLc _ _⟩⟩ xB (xN) (fun ⟨(k,LK,LN),ez,aW,⟨y1,e1⟩,⟨y2,e2⟩⟩=>?_)
   dsimp only at ez aW e1 e2 ⊢;have lK:(N.map kRow++[(([],[]):zB × zB)]).length=LK.length:=by rw [hK1,e1,yLa _ _ zO,kJ]
   have lN:(N++[(⟨false,[],[]⟩:BOp)]).length=LN.length:=by rw [fT,e2,yLa _ _ aW]
   by_cases hlt:at_<k
   ·obtain ⟨k,rfl⟩:∃ q,k=q+1:=⟨k-1,zO⟩;have q3:decide ((at_:Int)<((k+1:Nat):Int))=true:=zY zO;obtain ⟨x2,cH⟩:∃ s,N[k]? = some s:=⟨_,zLb zO⟩;have fi:(N.map kRow)[k]? = some (kRow x2):=by rw [zLE,cH];rfl
    have gx1:LK[k]? = some (kRow x2):=by rw [e1,yLb _ _ zO,fi]
    have gx2:LN[k]? = some x2:=by rw [e2,yLb _ _ zO,cH]
    have ok1:0+Int.toNat ((k:Nat):Int)*2=k*2:=by rw [zLe];omega
    have gK:0+Int.toNat ((k+1:Nat):Int)*2=(k+1)*2:=by rw [zLe];omega
    have on1:0+Int.toNat ((k:Nat):Int)*3=k*3:=by rw [zLe];omega
    have j1:0+Int.toNat ((k+1:Nat):Int)*3=(k+1)*3:=by rw [zLe];omega
    have ik:k+1<LK.length:=by rw [← lK,hK1];omega
    have il:k+1<LN.length:=by rw [← lN,fT];omega
    repeat' (first|(refine yDm ?_;first|refine yCD (a:=kRow x2) yBp rfl rfl xS lK gK ik ?_|refine yCD (a:=x2) yAY rfl rfl xS lN j1 il ?_)|(refine yAi ?_;first|refine yAa (yGd yAY rfl xS lN on1 gx2) ?_|refine yAa (yGd yBp rfl xS lK ok1 gx1) ?_)|refine yCj ?_;refine yAa (yBl (r:=((k:Nat):Int)) rfl rfl zO zO) ?_|refine xqa ?_|refine xsf ?_ ?_|intro _)
    all_goals refine yAs ⟨(k,LK.set (k+1) (kRow x2),LN.set (k+1) x2),by dsimp only;omega,by dsimp only;omega,⟨kRow x2,by dsimp only;rw [e1,yEU _ _ _ zO,yIq _ fi]⟩,⟨x2,by dsimp only;rw [e2,yEU _ _ _ zO,yIq _ cH]⟩⟩ (by show k<k+1;omega) xB (xN)
   obtain rfl:k=at_:=zO;have q3:decide ((k:Int)<((k:Nat):Int))=false:=zZ zO;have gK:0+Int.toNat ((k:Nat):Int)*2=k*2:=by rw [zLe];omega
   have j1:0+Int.toNat ((k:Nat):Int)*3=k*3:=by rw [zLe];omega
   have ik:k<LK.length:=by rw [← lK,hK1];omega
   have il:k<LN.length:=by rw [← lN,fT];omega
   have f2:LN.set k ⟨true,key,[]⟩=N':=by rw [e2,yEU _ _ _ aW,aj];unfold shL;simp
   have f1:LK.set k (key,[])=N'.map kRow:=by rw [e1,yEU _ _ _ zO,aj];unfold shL;simp [List.map_take,List.map_drop,kRow]
   have m1:(N.map kRow++[(([],[]):zB × zB)]).length=(N'.map kRow).length:=by rw [lK,← f1,List.length_set]
   have m2:(N++[(⟨false,[],[]⟩:BOp)]).length=N'.length:=by rw [lN,← f2,List.length_set]
   repeat' (first|(refine yDm ?_;first|refine yCD (a:=(key,[])) yBp rfl rfl xS lK gK ik ?_|refine yCD (a:=(⟨true,key,[]⟩:BOp)) yAY rfl rfl xS lN j1 il ?_)|refine yCj ?_;refine yAa (yBl (r:=((i:Nat):Int)-1) rfl rfl hi1 zO) ?_|refine xqa ?_|refine xsf ?_ ?_|intro _)
   all_goals rw [f1,f2,m1,m2]
   all_goals refine yAs ⟨((i,N'),(some ⟨gk,0,none⟩,ck),(some ⟨go,0,none⟩,co)),by dsimp only;omega,hN'⟩ (by show i<i+1;omega) xB (xN)
  |false=>
   repeat' (first|refine zal fun g8=>?_|(refine yAQ ?_;first|refine yBm (a:=(([],[]):zB × zB)) yBp rfl rfl rfl xS xS bK bK2 rfl (fun gk ck=>?_)|refine yBm (a:=(⟨false,[],[]⟩:BOp)) yAY rfl rfl rfl xS xS bN bN2 rfl (fun go co=>?_))|refine yAD ?_;refine yAK rfl xF (by rfl) zO rfl (fun gb=>?_)|(refine yAi ?_;first|refine yAa (yBa yAY hL rfl rfl xS ae ho) ?_|refine yAa (yA0 yAY hL rfl rfl xS gH ho ko) ?_)|refine yCj ?_;refine yAa (yBl (r:=((N.length:Nat):Int)) rfl rfl (by rw [fT];omega) zO) ?_|refine xqa ?_|refine xsf ?_ ?_|intro _)
   refine yAC (fun x:{x:Nat × Rows × List BOp//at_≤x.1∧x.1≤N.length∧(∃ y,x.2.1=shL (N.map kRow) x.1 y)∧∃ y,x.2.2=shL N x.1 y}=>[(0,.slice (some ⟨b,of,none⟩) ops.length c),(3,.slice (zq gk) (N.map kRow++[(([],[]):zB × zB)]).length ck),(4,.slice (zq go) (N++[(⟨false,[],[]⟩:BOp)]).length co),(5,zi (((i+1:Nat):Int)-1)),(6,zi (at_:Nat)),(8,zPp g8),(9,zi (x.1.1:Nat))])
    (fun x=>[yAj g8 (opC ⟨false,key,val⟩) 58,lsP rC 64 2 (.slice (zq gk) (N.map kRow++[(([],[]):zB × zB)]).length ck) x.1.2.1,lsP opC 58 3 (.slice (zq go) (N++[(⟨false,[],[]⟩:BOp)]).length co) x.1.2.2,A]++R) (fun x=>x.1.1)
    ⟨(N.length,N.map kRow++[([],[])],N++[⟨false,[],[]⟩]),cJ,Nat.le_refl _,⟨_,by rw [yLc,kJ]⟩,⟨_,yLc _ _⟩⟩ xB (xN) (fun ⟨(k,LK,LN),ez,aW,⟨y1,e1⟩,⟨y2,e2⟩⟩=>?_)
   dsimp only at ez aW e1 e2 ⊢;have lK:(N.map kRow++[(([],[]):zB × zB)]).length=LK.length:=by rw [hK1,e1,yLa _ _ zO,kJ]
   have lN:(N++[(⟨false,[],[]⟩:BOp)]).length=LN.length:=by rw [fT,e2,yLa _ _ aW]
   by_cases hlt:at_<k
   ·obtain ⟨k,rfl⟩:∃ q,k=q+1:=⟨k-1,zO⟩;have q3:decide ((at_:Int)<((k+1:Nat):Int))=true:=zY zO;obtain ⟨x2,cH⟩:∃ s,N[k]? = some s:=⟨_,zLb zO⟩;have fi:(N.map kRow)[k]? = some (kRow x2):=by rw [zLE,cH];rfl
    have gx1:LK[k]? = some (kRow x2):=by rw [e1,yLb _ _ zO,fi]
    have gx2:LN[k]? = some x2:=by rw [e2,yLb _ _ zO,cH]
    have ok1:0+Int.toNat ((k:Nat):Int)*2=k*2:=by rw [zLe];omega
    have gK:0+Int.toNat ((k+1:Nat):Int)*2=(k+1)*2:=by rw [zLe];omega
    have on1:0+Int.toNat ((k:Nat):Int)*3=k*3:=by rw [zLe];omega
    have j1:0+Int.toNat ((k+1:Nat):Int)*3=(k+1)*3:=by rw [zLe];omega
    have ik:k+1<LK.length:=by rw [← lK,hK1];omega
    have il:k+1<LN.length:=by rw [← lN,fT];omega
    repeat' (first|(refine yDm ?_;first|refine yCD (a:=kRow x2) yBp rfl rfl xS lK gK ik ?_|refine yCD (a:=x2) yAY rfl rfl xS lN j1 il ?_)|(refine yAi ?_;first|refine yAa (yGd yAY rfl xS lN on1 gx2) ?_|refine yAa (yGd yBp rfl xS lK ok1 gx1) ?_)|refine yCj ?_;refine yAa (yBl (r:=((k:Nat):Int)) rfl rfl zO zO) ?_|refine xqa ?_|refine xsf ?_ ?_|intro _)
    all_goals refine yAs ⟨(k,LK.set (k+1) (kRow x2),LN.set (k+1) x2),by dsimp only;omega,by dsimp only;omega,⟨kRow x2,by dsimp only;rw [e1,yEU _ _ _ zO,yIq _ fi]⟩,⟨x2,by dsimp only;rw [e2,yEU _ _ _ zO,yIq _ cH]⟩⟩ (by show k<k+1;omega) xB (xN)
   obtain rfl:k=at_:=zO;have q3:decide ((k:Int)<((k:Nat):Int))=false:=zZ zO;have gK:0+Int.toNat ((k:Nat):Int)*2=k*2:=by rw [zLe];omega
   have j1:0+Int.toNat ((k:Nat):Int)*3=k*3:=by rw [zLe];omega
   have ik:k<LK.length:=by rw [← lK,hK1];omega
   have il:k<LN.length:=by rw [← lN,fT];omega
   have f2:LN.set k ⟨false,key,val⟩=N':=by rw [e2,yEU _ _ _ aW,aj];unfold shL;simp
   have f1:LK.set k (key,[])=N'.map kRow:=by rw [e1,yEU _ _ _ zO,aj];unfold shL;simp [List.map_take,List.map_drop,kRow]
   have m1:(N.map kRow++[(([],[]):zB × zB)]).length=(N'.map kRow).length:=by rw [lK,← f1,List.length_set]
   have m2:(N++[(⟨false,[],[]⟩:BOp)]).length=N'.length:=by rw [lN,← f2,List.length_set]
   repeat' (first|(refine yDm ?_;first|refine yCD (a:=(key,[])) yBp rfl rfl xS lK gK ik ?_|refine yCD (a:=(⟨false,key,val⟩:BOp)) yAY rfl rfl xS lN j1 il ?_)|refine yCj ?_;refine yAa (yBl (r:=((i:Nat):Int)-1) rfl rfl hi1 zO) ?_|refine xqa ?_|refine xsf ?_ ?_|intro _)
   all_goals rw [f1,f2,m1,m2]
   all_goals refine yAs ⟨((i,N'),(some ⟨gk,0,none⟩,ck),(some ⟨go,0,none⟩,co)),by dsimp only;omega,hN'⟩ (by show i<i+1;omega) xB (xN)
end
theorem yVW {M:Rows} (hr:RisR M) {k:zB} (h:yIu Prod.fst M k=true):∃ u,M[atB Prod.fst M k]? = some (k,u)∧M=M.take (atB Prod.fst M k)++(k,u)::M.drop (atB Prod.fst M k+1):=by
 obtain ⟨⟨y,u⟩,hy,e⟩:=(yKo hr k).1 h;have e:y=k:=e;subst e;obtain ⟨hl,e2⟩:=zLc.1 hy;refine ⟨u,hy,?_⟩
 conv=>lhs;rw [← zLu (atB Prod.fst M y) M,List.drop_eq_getElem_cons hl,e2]
theorem xAK {M:Rows} (hr:RisR M) {k:zB} (h:yIu Prod.fst M k=true):M.eraseIdx (atB Prod.fst M k)=yHn M k:=by obtain ⟨u,-,e⟩:=yVW hr h;rw [List.eraseIdx_eq_take_drop_succ];obtain ⟨A,hA⟩:∃ A,A=M.take (atB Prod.fst M k):=⟨_,rfl⟩;obtain ⟨B,hB⟩:∃ B,B=M.drop (atB Prod.fst M k+1):=⟨_,rfl⟩;rw [← hA,← hB] at e ⊢;subst e;obtain ⟨-,-,h3,h4⟩:=ris_mid.1 hr;rw [yH0,if_pos rfl,yDr (yGI h3),yDr (yHX h4)]
theorem xAL {M:Rows} (hr:RisR M) {k v:zB} (h:yIu Prod.fst M k=true):M.set (atB Prod.fst M k) (k,v)=yHW M k v:=by obtain ⟨u,hu,e⟩:=yVW hr h;have hl:=(zLc.1 hu).1;rw [List.set_eq_take_append_cons_drop,if_pos hl];obtain ⟨A,hA⟩:∃ A,A=M.take (atB Prod.fst M k):=⟨_,rfl⟩;obtain ⟨B,hB⟩:∃ B,B=M.drop (atB Prod.fst M k+1):=⟨_,rfl⟩;rw [← hA,← hB] at e ⊢;subst e;rw [yYP _ hr]
theorem xAM {M:Rows} {k v:zB} (h:yIu Prod.fst M k=false):shL M (atB Prod.fst M k) (k,v)=yHW M k v:=by unfold yHW;rw [if_neg (by rw [h];decide),yIL];unfold shL;simp
theorem xB6 {M:Rows} {k:zB} (h:yIu Prod.fst M k=false):yHn M k=M:=by
 refine yDr ?_;cases e:lk M k with
 |none=>rfl
 |some v=>rw [yUO,e] at h;cases h
section
variable {W:World}
set_option maxRecDepth 10000 in
theorem yFf (A B:SP) (a b:Option Addr) (c d:Nat) (r:Rows) (ops:List BOp) (hA:Lv W rC 2 A a r) (hB:Lv W opC 3 B b ops) (hr:RisR r) (hl:(r.length+ops.length)*32≤140737488355328) :Ct prog W 66 [.slice a r.length c,.slice b ops.length d] [A,B] (fun x:Option Addr × Nat=>.slice x.1 (yAP r ops).length x.2) (fun x=>[A,B,lsP rC 64 2 (.slice x.1 (yAP r ops).length x.2) (yAP r ops)]):=by
 have b1:(([]:Rows).length+r.length)*32≤140737488355328:=by rw [List.length_nil];omega
 have b2:([]:Rows).length+r.length≤9223372036854775807:=by rw [List.length_nil];omega
 refine zE func66 ntmps66 fun R=>?_;refine KJ.lvOpen hA xS (fun b0 o0 gi=>?_);repeat' (first|refine yAQ ?_;refine yGe (l:=([]:Rows)) (l2:=r) yBp rfl rfl rfl rfl xS (Src.lv hA gi xS) b1 b2 rfl (fun a1 c1=>?_)|refine yAD ?_;refine yCC rfl (fun g0=>?_)|refine xst ?_|refine xsf ?_ ?_|refine xdr 7 yHf ?_|apply zN|intro _)
 refine yAC (fun x:{x:Nat × Rows × Option Addr × Nat//x.1≤ops.length∧x.2.1=yAP r (ops.take x.1)}=>[(5,.slice x.1.2.2.1 x.1.2.1.length x.1.2.2.2),(14,.slice b ops.length d),(15,zi (ops.length:Nat)),(16,zi (x.1.1:Nat))])
  (fun x=>[lsP rC 64 2 (.slice x.1.2.2.1 x.1.2.1.length x.1.2.2.2) x.1.2.1,A,B]++R) (fun x=>ops.length-x.1.1) ⟨(0,[]++r,a1,c1),zLA _,rfl⟩ xB (xN) (fun ⟨(i,M,sa,sc),hi,hM⟩=>?_)
 dsimp only at hi hM ⊢;by_cases hlt:i<ops.length;rotate_left
 ·have ql:decide ((i:Int)<(ops.length:Nat))=false:=zZ zO;rw [zLi zO] at hM;repeat' (first|refine xqa ?_|refine xsf ?_ ?_|refine xdr 7 yHf ?_|apply zN|intro _)
  all_goals subst hM
  all_goals (exact xdn (sa,sc))
 have ql:decide ((i:Int)<(ops.length:Nat))=true:=zY zO;obtain ⟨o,ho⟩:∃ s,ops[i]? = some s:=⟨_,zLb hlt⟩;have ai:=yCX (ops.take i) r;rw [zLg,← hM] at ai;have ax:=yKC (r:=r) ho;have hMr:RisR M:=by rw [hM];exact yDj hr _
 rw [← hM] at ax;refine KJ.lvSome hB xS zO (fun bo oo aJ=>?_);subst aJ;have ae:oo+Int.toNat (i:Int)*3=oo+i*3:=zW;obtain ⟨del,key,val⟩:=o;have cJ:=yJh (f:=Prod.fst) M key;have cp:=yOh (W:=W) sa sc M hMr key zO;have fx:=fun h=>xAK (M:=M) (k:=key) hMr h;have hY:=fun h=>xAL (M:=M) (k:=key) (v:=val) hMr h;have hins:=fun h=>xAM (M:=M) (k:=key) (v:=val) h;have aC:=fun h=>yVW (M:=M) (k:=key) hMr h;obtain ⟨at_,kr⟩:∃ n,n=atB Prod.fst M key:=⟨_,rfl⟩;rw [← kr] at cJ cp fx hY hins aC;refine KJ.lsOpen xS (fun a3 c3 he hcf=>?_);cases he;cases hh:yIu Prod.fst M key with
 |true=>
  rw [hh] at cp;obtain ⟨u,hu,-⟩:=aC hh;have dh:=(zLc.1 hu).1;refine KJ.lsSome xS zO (fun g hg=>?_);subst hg;cases del with
  |true=>
   have ax:yAP r (ops.take (i+1))=M.eraseIdx at_:=ax.trans (fx hh).symm;repeat' (first|refine zal fun g7=>?_|refine yAQ ?_;refine yVd (i:=at_) yBp rfl rfl rfl xS dh hcf rfl ?_|refine yAi ?_;refine yAa (yBa yAY hB rfl rfl xS ae ho) ?_|(refine yBb ?_;first|refine yAa (yM0 rfl rfl zO) ?_|refine yAa (yPM rfl rfl zO) ?_)|refine zad (at_+1) ?_|refine zad (i+1) ?_|refine xqa ?_|refine xsf ?_ ?_|refine xdr 7 yHf ?_|apply zN|intro _)
   all_goals refine yAs ⟨(i+1,M.eraseIdx at_,some ⟨g,0,none⟩,sc),hlt,ax.symm⟩ (by show ops.length-(i+1)<ops.length-i;omega) xB (xN)
  |false=>
   have ax:yAP r (ops.take (i+1))=M.set at_ (key,val):=ax.trans (hY hh).symm;have bD:0+Int.toNat ((at_:Nat):Int)*2+1=at_*2+1:=by rw [zLe];omega
   have he2:rC (key,val)=(rC (key,u)).set 1 (strV val):=rfl;have gd:M.length=(M.set at_ (key,val)).length:=by rw [List.length_set]
   repeat' (first|refine yAE (id:=5) ?_;refine yDw ?_|refine zal fun g7=>?_|refine yAi ?_;refine yAa (yBa yAY hB rfl rfl xS ae ho) ?_|refine xqa ?_|refine xsf ?_ ?_|refine xdr 7 yHf ?_|apply zN|intro _)
   refine Hold.mk ?_;repeat' (first|refine yDm ?_;refine yDw ?_|refine xst ?_|refine xsf ?_ ?_|refine xdr 7 yHf ?_|apply zN|intro _)
   refine Hold.mk ?_;refine yP1 (t:=9) (v:=strV val) yBp rfl rfl xS rfl bD hu zO he2 xF xO ?_;rw [gd];repeat' (first|refine zad (i+1) ?_|refine xst ?_|refine xsf ?_ ?_|refine xdr 7 yHf ?_|apply zN|intro _)
   all_goals refine yAs ⟨(i+1,M.set at_ (key,val),some ⟨g,0,none⟩,sc),hlt,ax.symm⟩ (by show ops.length-(i+1)<ops.length-i;omega) xB (xN)
 |false=>
  rw [hh] at cp;cases del with
  |true=>
   have ax:yAP r (ops.take (i+1))=M:=ax.trans (xB6 hh);repeat' (first|refine zal fun g7=>?_|refine yAi ?_;refine yAa (yBa yAY hB rfl rfl xS ae ho) ?_|refine zad (i+1) ?_|refine xqa ?_|refine xsf ?_ ?_|refine xdr 7 yHf ?_|apply zN|intro _)
   all_goals refine yAs ⟨(i+1,M,sa,sc),hlt,ax.symm⟩ (by show ops.length-(i+1)<ops.length-i;omega) xB (xN)
  |false=>
   have ax:yAP r (ops.take (i+1))=shL M at_ (key,val):=ax.trans (hins hh).symm;have bN:(M.length+1)*32≤140737488355328:=zO;have bN2:M.length+1≤9223372036854775807:=zO;have fT:(M++[(([],[]):zB × zB)]).length=M.length+1:=zW;have hsubl:(((M++[(([],[]):zB × zB)]).length:Nat):Int)-1=((M.length:Nat):Int):=by rw [fT];omega
   repeat' (first|refine zal fun g7=>?_|refine yAQ ?_;refine yBm (a:=(([],[]):zB × zB)) yBp rfl rfl rfl xS xS bN bN2 rfl (fun go co=>?_)|refine yAD ?_;refine yAK rfl xF (by rfl) zO rfl (fun gb=>?_)|refine yAi ?_;refine yAa (yBa yAY hB rfl rfl xS ae ho) ?_|refine yCj ?_;refine yAa (yBl (r:=((M.length:Nat):Int)) rfl rfl hsubl zO) ?_|refine xqa ?_|refine xsf ?_ ?_|refine xdr 7 yHf ?_|apply zN|intro _)
   refine yAC (fun x:{x:Nat × Rows//at_≤x.1∧x.1≤M.length∧∃ y,x.2=shL M x.1 y}=>[(5,.slice (zq go) (M++[(([],[]):zB × zB)]).length co),(7,zPp g7),(8,zi (at_:Nat)),(10,zi (x.1.1:Nat)),(14,.slice (some ⟨bo,oo,none⟩) ops.length d),(15,zi (ops.length:Nat)),(16,zi (i:Nat))])
    (fun x=>[yAj g7 (opC ⟨false,key,val⟩) 58,lsP rC 64 2 (.slice (zq go) (M++[(([],[]):zB × zB)]).length co) x.1.2,A,B]++R) (fun x=>x.1.1)
    ⟨(M.length,M++[([],[])]),cJ,Nat.le_refl _,⟨_,yLc _ _⟩⟩ xB (xN) (fun ⟨(k,L),ez,aW,⟨y1,e1⟩⟩=>?_)
   dsimp only at ez aW e1 ⊢;have lN:(M++[(([],[]):zB × zB)]).length=L.length:=by rw [fT,e1,yLa _ _ aW]
   by_cases hlt2:at_<k
   ·obtain ⟨k,rfl⟩:∃ q,k=q+1:=⟨k-1,zO⟩;have q3:decide ((at_:Int)<((k+1:Nat):Int))=true:=zY zO;obtain ⟨x2,cH⟩:∃ s,M[k]? = some s:=⟨_,zLb zO⟩;have gx2:L[k]? = some x2:=by rw [e1,yLb _ _ zO,cH]
    have ok1:0+Int.toNat ((k:Nat):Int)*2=k*2:=by rw [zLe];omega
    have gK:0+Int.toNat ((k+1:Nat):Int)*2=(k+1)*2:=by rw [zLe];omega
    have il:k+1<L.length:=by rw [← lN,fT];omega
    repeat' (first|refine yDm ?_;refine yCD (a:=x2) yBp rfl rfl xS lN gK il ?_|refine yAi ?_;refine yAa (yGd yBp rfl xS lN ok1 gx2) ?_|refine yCj ?_;refine yAa (yBl (r:=((k:Nat):Int)) rfl rfl zO zO) ?_|refine xqa ?_|refine xsf ?_ ?_|refine xdr 7 yHf ?_|apply zN|intro _)
    all_goals refine yAs ⟨(k,L.set (k+1) x2),by dsimp only;omega,by dsimp only;omega,⟨x2,by dsimp only;rw [e1,yEU _ _ _ zO,yIq _ cH]⟩⟩ (by show k<k+1;omega) xB (xN)
   obtain rfl:k=at_:=zO;have q3:decide ((k:Int)<((k:Nat):Int))=false:=zZ zO;have gK:0+Int.toNat ((k:Nat):Int)*2=k*2:=by rw [zLe];omega
   have il:k<L.length:=by rw [← lN,fT];omega
   have f2:L.set k (key,val)=shL M k (key,val):=by rw [e1,yEU _ _ _ aW]
   obtain ⟨M',hM'⟩:∃ M',M'=shL M k (key,val):=⟨_,rfl⟩;rw [← hM'] at f2 ax;have m2:(M++[(([],[]):zB × zB)]).length=M'.length:=by rw [lN,← f2,List.length_set]
   repeat' (first|refine yDm ?_;refine yCD (a:=(key,val)) yBp rfl rfl xS lN gK il ?_|refine zad (i+1) ?_|refine xqa ?_|refine xsf ?_ ?_|refine xdr 7 yHf ?_|apply zN|intro _)
   all_goals rw [f2,m2]
   all_goals refine yAs ⟨(i+1,M',some ⟨go,0,none⟩,co),hlt,ax.symm⟩ (by show ops.length-(i+1)<ops.length-i;omega) xB (xN)
end
def yY9 (r:Rows) (i:Nat):zB:=vu r.length++(r.take i).flatMap rowB
theorem yVX {r:Rows} {i:Nat} {p:zB × zB} (h:r[i]? = some p):yY9 r (i+1)=(yY9 r i++tx p.1)++tx p.2:=by unfold yY9;rw [List.take_add_one,h,List.flatMap_append];simp only [Option.toList_some,zLr,List.flatMap_nil,zLs];unfold rowB;simp only [zLd]
theorem yYc (r:Rows) (i:Nat):(yY9 r i).length=yHs r i:=by unfold yY9 yHs;rw [zLa]
theorem yYd (r:Rows):yY9 r r.length=yAk r:=by unfold yY9 yAk;rw [List.take_length]
section
variable {W:World}
instance xB7:FnIs prog 38:=⟨zK⟩
instance xB8:FnIs prog 130:=⟨zK⟩
instance xB9:FnIs prog 180:=⟨zK⟩
theorem yEe (A:SP) (a:Option Addr) (c:Nat) (r:Rows) (hA:Lv W rC 2 A a r) (hs:(yAk r).length≤4611686018427387904) :CtU prog W 38 [.slice a r.length c] [A] (zi ((yAk r).length:Nat)) [A]:=by
 have du:=(yDV r hs).2;have gq:=yNa r;have fI:=fun i p (h:r[i]? = some p)=>yKL h;have aC:=fun i p (h:r[i]? = some p)=>yIb h hs;have fE:=yFK (W:=W) r.length zO;have w0:IntKind.u64.wrap ((r.length:Nat):Int)=((r.length:Nat):Int):=yAx _ zO;refine zE func38 ntmps38 fun R=>?_;repeat' (first|refine yAu ?_;refine yAa (yAg rfl w0) ?_|refine xst ?_|refine xsf ?_ ?_|refine xdr 5 yVU ?_|apply zN|intro _)
 refine yAC (fun i:{i:Nat//i≤r.length}=>[(0,.slice a r.length c),(3,zi (yHs r i.1:Nat)),(4,zi (i.1:Nat))])
  (fun _=>[A]++R) (fun i=>r.length-i.1) ⟨0,zLA _⟩ xB (xN) (fun ⟨i,hi⟩=>?_)
 dsimp only;by_cases hlt:i<r.length;rotate_left
 ·have ql:decide ((i:Int)<(r.length:Nat))=false:=zZ zO;obtain rfl:i=r.length:=zO;rw [gq];repeat' (first|refine xqa ?_|refine xsf ?_ ?_|refine xdr 5 yVU ?_|exact xdn ()|apply zN|intro _)
 have ql:decide ((i:Int)<(r.length:Nat))=true:=zY zO;obtain ⟨⟨k,v⟩,hp⟩:∃ p,r[i]? = some p:=⟨_,zLb hlt⟩;obtain ⟨t,u,-,-,h3⟩:=aC i _ hp;have hn:=fI i _ hp;dsimp only at h3 hn;have tk:(tx k).length=(vu k.length).length+k.length:=by unfold tx;rw [zLa]
 have tv:(tx v).length=(vu v.length).length+v.length:=by unfold tx;rw [zLa]
 refine KJ.lvSome hA xS zO (fun ba oa aJ=>?_);subst aJ;have gU:oa+Int.toNat (i:Int)*2=oa+i*2+0:=by rw [zLe];rfl
 have bD:oa+Int.toNat (i:Int)*2+1=oa+i*2+1:=by rw [zLe]
 have aR:(rC (k,v))[0]? = some (strV k):=rfl;have eA:(rC (k,v))[1]? = some (strV v):=rfl;have cuk:=yFK (W:=W) k.length zO;have cuv:=yFK (W:=W) v.length zO;have wk:IntKind.u64.wrap ((k.length:Nat):Int)=((k.length:Nat):Int):=yAx _ zO;have wv:IntKind.u64.wrap ((v.length:Nat):Int)=((v.length:Nat):Int):=yAx _ zO;obtain ⟨lk,hlk⟩:∃ x,x=(vu k.length).length:=⟨_,rfl⟩;obtain ⟨lv,hlv⟩:∃ x,x=(vu v.length).length:=⟨_,rfl⟩;obtain ⟨P0,hP0⟩:∃ x,x=yHs r i:=⟨_,rfl⟩;obtain ⟨P4,hP4⟩:∃ x,x=yHs r (i+1):=⟨_,rfl⟩;rw [← hP0,← hP4] at hn;rw [← hP0] at h3 ⊢;rw [← hlk] at tk;rw [← hlv] at tv;have e1:((P0:Nat):Int)+(((vu k.length).length:Nat):Int)=((P0+lk:Nat):Int):=zO;have e2:((P0+lk:Nat):Int)+((k.length:Nat):Int)=((P0+lk+k.length:Nat):Int):=zO;have e3:((P0+lk+k.length:Nat):Int)+(((vu v.length).length:Nat):Int)=((P0+lk+k.length+lv:Nat):Int):=zO;have e4:((P0+lk+k.length+lv:Nat):Int)+((v.length:Nat):Int)=((P4:Nat):Int):=zO;clear hlk hlv;repeat' (first|(refine yAi ?_;first|refine yAa (yA0 yBp hA rfl rfl xS bD hp eA) ?_|refine yAa (yA0 yBp hA rfl rfl xS gU hp aR) ?_)|refine zad (i+1) ?_|refine xqa ?_|refine xsf ?_ ?_|refine xdr 5 yVU ?_|apply zN|intro _)
 all_goals rw [hP4]
 all_goals refine yAs ⟨i+1,hlt⟩ (by show r.length-(i+1)<r.length-i;omega) xB (xN)
theorem yS2 (A:SP) (a:Option Addr) (c:Nat) (r:Rows) (hA:Lv W rC 2 A a r) (hs:(yAk r).length≤1000000) :CtU prog W 130 [.slice a r.length c] [A] (strV (yAk r)) [A]:=by
 have du:=(yDV r zO).2;have aC:=fun i p (h:r[i]? = some p)=>yIb h zO;have fE:=yFK (W:=W) r.length zO;have w0:IntKind.u64.wrap ((r.length:Nat):Int)=((r.length:Nat):Int):=yAx _ zO;refine zE func130 ntmps130 fun R=>?_;repeat' (first|refine yHF ?_;refine yHT rfl rfl (fun g3 c3=>?_)|refine yAu ?_;refine yAa (yAg rfl w0) ?_|refine xst ?_|refine xsf ?_ ?_|intro _)
 refine yAC (fun i:{i:Nat × zB × Nat × Nat//i.1≤r.length∧i.2.1=yY9 r i.1}=>[(0,.slice a r.length c),(3,.slice (some ⟨i.1.2.2.1,0,none⟩) i.1.2.1.length i.1.2.2.2),(4,zi (i.1.1:Nat))])
  (fun i=>[A,yMP i.1.2.2.1 i.1.2.1.length i.1.2.2.2 i.1.2.1 5]++R) (fun i=>r.length-i.1.1) ⟨(0,vu r.length,g3,c3),zLA _,(zLs _).symm⟩ xB (xN) (fun ⟨(i,P,g,c'),hi,hP⟩=>?_)
 dsimp only at hi hP ⊢;by_cases hlt:i<r.length;rotate_left
 ·have ql:decide ((i:Int)<(r.length:Nat))=false:=zZ zO;obtain rfl:i=r.length:=zO;rw [yYd] at hP;rw [← hP];repeat' (first|refine yAu ?_;refine yAa (yFw rfl xS) ?_|refine xqa ?_|refine xsf ?_ ?_|exact xdn ()|intro _)
 have ql:decide ((i:Int)<(r.length:Nat))=true:=zY zO;obtain ⟨⟨k,v⟩,hp⟩:∃ p,r[i]? = some p:=⟨_,zLb hlt⟩;obtain ⟨t,u,-,-,h3⟩:=aC i _ hp;have ax:=yVX hp;have bk:=yYc r i;dsimp only at h3 ax;rw [← hP] at ax bk;have tk:k.length≤(tx k).length:=by unfold tx;rw [zLa];omega
 have tv:v.length≤(tx v).length:=by unfold tx;rw [zLa];omega
 refine KJ.lvSome hA xS zO (fun ba oa aJ=>?_);subst aJ;have gU:oa+Int.toNat (i:Int)*2=oa+i*2+0:=by rw [zLe];rfl
 have bD:oa+Int.toNat (i:Int)*2+1=oa+i*2+1:=by rw [zLe]
 have aR:(rC (k,v))[0]? = some (strV k):=rfl;have eA:(rC (k,v))[1]? = some (strV v):=rfl;have ctk:=yRo (W:=W) k zO;have ctv:=yRo (W:=W) v zO;have m2:(P++tx k).length=P.length+(tx k).length:=zLa;have m3:((P++tx k)++tx v).length=P.length+(tx k).length+(tx v).length:=by rw [zLa,zLa]
 clear aC;repeat' (first|(refine yAQ ?_;first|refine yEG (l:=P++tx k) rfl rfl xS zO rfl (fun g6 c6=>?_)|refine yEG (l:=P) rfl rfl xS zO rfl (fun g5 c5=>?_))|(refine yAi ?_;first|refine yAa (yA0 yBp hA rfl rfl xS bD hp eA) ?_|refine yAa (yA0 yBp hA rfl rfl xS gU hp aR) ?_)|refine zad (i+1) ?_|refine xqa ?_|refine xsf ?_ ?_|intro _)
 all_goals rw [← m3]
 all_goals refine yAs ⟨(i+1,(P++tx k)++tx v,_,_),hlt,ax.symm⟩ (by show r.length-(i+1)<r.length-i;omega) xB (xN)
end
section
variable {W:World}
abbrev yAO (x:Option Addr × Nat) (l:Rows):SP:=lsP rC 64 2 (.slice x.1 l.length x.2) l
theorem yIZ (s:zB) (hl:s.length≤1000000) (r:Rows) (h:yG2 s=some r) :Ct prog W 180 [strV s] [] (fun x:Option Addr × Nat=>.tuple #[.slice x.1 r.length x.2,.bool true]) (fun x=>[yAO x r]):=by
 obtain ⟨e,bJ⟩:=yRi h;subst e;have aC:=fun i p (h:r[i]? = some p)=>yIb h zO;obtain ⟨gL,iC⟩:=yDV r zO;have jQ:yHs r 0=0+(vu r.length).length:=by rw [yOm];omega
 have gq:=yNa r;have fI:=fun i p (h:r[i]? = some p)=>yKL h;have fA:(vu r.length).length≤(yAk r).length:=by unfold yAk;rw [zLa];omega
 obtain ⟨S,hS⟩:∃ S,S=yAk r:=⟨_,rfl⟩;rw [← hS] at hl aC gL iC gq fA ⊢;clear hS h;have cu:=yGt (W:=W) (s:=S) (a:=0) zO zO _ gL;have z1:rdN (.ok r.length (r.flatMap rowB))=r.length:=rfl;have z2:rdE (.ok r.length (r.flatMap rowB))=0:=rfl;have z3:rdL (.ok r.length (r.flatMap rowB))=(vu r.length).length:=rfl;rw [z1,z2,z3,← jQ] at cu;have w0:IntKind.u64.wrap ((S.length:Nat):Int)=((S.length:Nat):Int):=yAx _ zO;have w1:IntKind.i64.wrap ((r.length:Nat):Int)=((r.length:Nat):Int):=yDa _ zO;have qg:decide (((S.length:Nat):Int)<((r.length:Nat):Int))=false:=zZ zO;have qe:decide (((S.length:Nat):Int)=((S.length:Nat):Int))=true:=zY rfl;refine zE func180 ntmps180 fun R=>?_;refine KJ.nilrow 64 2 ?_;repeat' (first|refine yAu ?_;refine yAa (yAg rfl w0) ?_|refine znf ?_|refine xqa ?_|refine xsf ?_ ?_|intro _)
 refine yAC (fun x:{x:Nat × Rows × Option Addr × Nat//x.1≤r.length∧x.2.1=r.take x.1}=>[(0,strV S),(4,.int .u64 (r.length:Nat)),(5,zi (yHs r x.1.1:Nat)),(7,.slice x.1.2.2.1 x.1.2.1.length x.1.2.2.2),(8,zi (x.1.1:Nat))])
  (fun x=>[lsP rC 64 2 (.slice x.1.2.2.1 x.1.2.1.length x.1.2.2.2) x.1.2.1]++R) (fun x=>r.length-x.1.1) ⟨(0,[],none,0),zLA _,rfl⟩ xB (xN) (fun ⟨(i,T,xa,xc),hi,hT⟩=>?_)
 dsimp only at hi hT ⊢;by_cases hlt:i<r.length;rotate_left
 ·have ql:decide ((i:Int)<(r.length:Nat))=false:=zZ zO;obtain rfl:i=r.length:=zO;rw [List.take_length] at hT;subst hT;rw [gq];repeat' (first|refine xqa ?_|refine xsf ?_ ?_|intro _)
  all_goals (exact xdn (xa,xc))
 have ql:decide ((i:Int)<(r.length:Nat))=true:=zY zO;obtain ⟨p,hp⟩:∃ p,r[i]? = some p:=⟨_,zLb hlt⟩;obtain ⟨t,u,h1,h2,h3⟩:=aC i p hp;have hn:=fI i p hp;have iq:T.length=i:=by rw [hT,zLg];omega
 have hTn:T++[p]=r.take (i+1):=by rw [List.take_add_one,hp,hT];rfl
 have dg:∀ y,T[i-1]? = some y→0<i→Op.bytesLess y.1 p.1=true:=fun y hy h0=>by obtain ⟨j,rfl⟩:∃ j,i=j+1:=⟨i-1,zO⟩;rw [hT,Nat.add_sub_cancel,List.getElem?_take_of_lt zO] at hy;exact yRa bJ hy hp
 obtain ⟨k,v⟩:=p;dsimp only at h1 h2 h3 hn hTn dg;have dP:=yIp (W:=W) (s:=S) (a:=yHs r i) S.length zO zO zO _ h1;have de:=yIp (W:=W) (s:=S) (a:=yHs r i+(tx k).length) S.length zO zO zO _ h2;have y1:rdS (.ok k t)=k:=rfl;have y2:rdE (.ok k t)=0:=rfl;have y3:rdT (.ok k t)=(tx k).length:=rfl;have y4:rdS (.ok v u)=v:=rfl;have y5:rdE (.ok v u)=0:=rfl;have y6:rdT (.ok v u)=(tx v).length:=rfl;rw [y1,y2,y3] at dP;rw [y4,y5,y6,← hn] at de;obtain ⟨P0,hP0⟩:∃ x,x=yHs r i:=⟨_,rfl⟩;obtain ⟨P1,hP1⟩:∃ x,x=P0+(tx k).length:=⟨_,rfl⟩;rw [← hP0] at dP de ⊢;rw [← hP1] at dP de;clear h1 h2 h3 hn aC fI y1 y2 y3 y4 y5 y6 hP0 hP1;have m1:(T.length+1)*32≤140737488355328:=zO;have m2:T.length+1≤9223372036854775807:=zO;have iY:(T++[(k,v)]).length=T.length+1:=zW;by_cases h0:i=0
 ·have q0:decide ((0:Int)<((i:Nat):Int))=false:=zZ zO;repeat' (first|refine yAQ ?_;refine yBm (l:=T) (a:=(k,v)) yBp rfl rfl rfl xS xS m1 m2 rfl (fun g' c'=>?_)|refine yAD ?_;refine yAK rfl xF (by rfl) zO rfl (fun gb=>?_);show KJ W _ _ _ (yAj gb (rC (k,v)) 64::_)|refine zad (i+1) ?_|refine znf ?_|refine xqa ?_|refine xsf ?_ ?_|intro _)
  all_goals refine yAs ⟨(i+1,T++[(k,v)],_,_),hlt,hTn⟩ (by show r.length-(i+1)<r.length-i;omega) xB (xN)
 ·have q0:decide ((0:Int)<((i:Nat):Int))=true:=zY zO;obtain ⟨y,hy⟩:∃ y,T[i-1]? = some y:=⟨_,zLb zO⟩;have gc:=dg y hy zO;have dI:Go.RowKit.wrap64 (((i:Nat):Int)-1)=((i-1:Nat):Int):=by unfold Go.RowKit.wrap64;omega
  have aR:(rC y)[0]? = some (strV y.1):=rfl;have bI:(Op.bytesLess k y.1 || decide (k=y.1))=false:=by have ao:decide (k=y.1)=false:=zZ (fun e=>by rw [e,yDi] at gc;cases gc);rw [yGb gc,ao];rfl
  refine KJ.lsSome xS zO (fun gT kw=>?_);subst kw;have hof:0+Int.toNat ((i-1:Nat):Int)*2+0=(i-1)*2+0:=by rw [zLe];omega
  have hTl2:i-1<T.length:=zO;repeat' (first|refine yAQ ?_;refine yBm (l:=T) (a:=(k,v)) yBp rfl rfl rfl xS xS m1 m2 rfl (fun g' c'=>?_)|refine yAD ?_;refine yAK rfl xF (by rfl) zO rfl (fun gb=>?_);show KJ W _ _ _ (yAj gb (rC (k,v)) 64::_)|refine yAi ?_;refine yAa (yCV yBp rfl xS rfl hof hy aR) ?_|refine zad (i+1) ?_|refine yCj ?_;refine yAa (yJF rfl rfl dI) ?_|refine znf ?_|refine xqa ?_|refine xsf ?_ ?_|intro _)
  all_goals refine yAs ⟨(i+1,T++[(k,v)],_,_),hlt,hTn⟩ (by show r.length-(i+1)<r.length-i;omega) xB (xN)
end
end Go.Proofs.YtoipmnikdiogcaaGreatDoor
