/-
  JRf2.
-/
import Derived.Test.YtoipmnikdiogcaaGreatDoorYGR
set_option maxRecDepth 100000
set_option maxHeartbeats 64000000
namespace Go.Proofs.YtoipmnikdiogcaaGreatDoor
open Go Go.RowKit
open Go.Proofs.Tryz
theorem yGu {P:Program} {W:World} {n:Nat} {E:Env} {H:List SP} {q:QQ} {id:Nat} {c c2:Code} (h:KJ W n (.code P (Code.seq (Code.block id c) c2) q) E H):KJ W n (.code P (Code.seq (Code.block id c) c2) q) E H:=h
theorem KJ.asv {W:World} {n:Nat} {k:KK} {E:Env} {H:List SP} (t:Nat) {v v':Value} (q:Env.at E t=some v) (e:v=v') (h:KJ W n k ((t,v')::E) H):KJ W n k E H:=by subst e;exact KJ.also t q h
section
variable {W:World} {E:Nat→Addr} {p g:Nat} {D:Dsk}
theorem yVN (at_ n ver:Int) (hn:D.n≤65536) (h:yMS D at_ n ver):CtU prog W 183 [zPp p,zi at_,zi n,zi ver] [yA1 p D] (.bool true) [yA1 p D]:=by
 obtain ⟨h1,h2,h3,h4,h5,h6,h7⟩:=h;have q0:decide (0≤at_)=true:=zY zO;have q1:decide (0≤n)=true:=zY zO;have q2:decide (at_≤(D.n:Int))=true:=zY zO;have q3:decide (n≤(D.n:Int)-at_)=true:=zY zO;have q4:decide (n≤65536)=true:=zY zO;have q5:decide (1≤ver)=true:=zY zO;have q6:decide (ver≤1099511627776)=true:=zY zO;refine yIl fun sv wv=>?_;rw [yAZ];refine zE func183 ntmps183 fun R=>?_;refine KJ.row_slice xS (fun sa sc e=>?_);subst e;repeat' (first|refine xqa ?_|refine xsf ?_ ?_|intro _)
 (refine yCu ?_;exact yBW zor rfl (by (repeat' (first|exact Rvs.nil|(apply Rvs.tmp;exact rfl)));first|done|fail) (by rfl) _ _ (by rw [yAZ];exact (xN)))
theorem yVO (v i:Nat) (hv:1≤v∧v≤1099511627776) (hi:i<65536):CtU prog W 142 [zi (v:Nat),zi (i:Nat)] [] (.tuple #[.int .u64 (yA8 v i:Nat),zi 0]) []:=by
 have q1:decide ((v:Int)<1)=false:=zZ zO;have q2:decide ((1099511627776:Int)<(v:Int))=false:=zZ zO;have q3:decide ((i:Int)<0)=false:=zZ zO;have q4:decide ((65536:Int)≤(i:Int))=false:=zZ zO;have c1:IntKind.u64.wrap (v:Int)=(v:Int):=yBC v zO;have c2:IntKind.u64.wrap (i:Int)=(i:Int):=yBC i zO;have c3:IntKind.u64.wrap ((v:Int)*1048576)=((v*1048576:Nat):Int):=by rw [show (v:Int)*1048576=((v*1048576:Nat):Int) by omega];exact yBC _ zO
 have c4:IntKind.u64.wrap (((v*1048576:Nat):Int)+(i:Int))=((v*1048576+i:Nat):Int):=yBC (v*1048576+i) zO;have c5:IntKind.u64.wrap (((v*1048576+i:Nat):Int)+1)=((yA8 v i:Nat):Int):=yBC (v*1048576+i+1) zO;obtain ⟨a2,bx⟩:∃ a2,a2=v*1048576+i:=⟨_,rfl⟩;obtain ⟨a1,bi⟩:∃ a1,a1=v*1048576:=⟨_,rfl⟩;obtain ⟨a3,ha3⟩:∃ a3,a3=yA8 v i:=⟨_,rfl⟩;rw [← bx] at c4 c5;rw [← bi] at c3 c4;rw [← ha3] at c5 ⊢;clear bi bx ha3;refine zE func142 ntmps142 fun R=>?_;repeat' (first|refine yBN ?_;refine yAa (yRl rfl rfl c3) ?_|refine xqa ?_|refine xsf ?_ ?_|exact xdn ()|intro _)
theorem yVP (am:D.ok) (aS:D.und.length<1073741824) (at_ n:Int) (ver i:Nat) (hn:D.n≤65536) (ho:D.off=false) (h:yMS D at_ n (ver:Nat)) (hi:(i:Int)<n):CtU prog W 234 [zPp p,zi at_,zi (i:Nat),zi (ver:Nat)] [yA1 p D] (.tuple #[strV ((yDT D at_ n ver i).getD []),.bool (yDT D at_ n ver i).isSome]) [yA1 p D]:=by
 obtain ⟨h1,h2,h3,h4,h5,h6,h7⟩:=h;have c1:=yK7 (W:=W) (p:=p) am (at_+(i:Nat)) aS;have c2:=yVO (W:=W) ver i zO zO;have c3:=yNi (W:=W) (yA8 ver i) (yMU zO zO) (D.readS (at_+(i:Nat)));have hE:D.readE (at_+(i:Nat))=0:=by unfold Dsk.readE Dsk.has;rw [ho,zY (show (0:Int)≤at_+(i:Nat)∧at_+(i:Nat)<D.n by omega)];rfl
 have hp:yDT D at_ n ver i=yCq (yA8 ver i:Nat) (D.readS (at_+(i:Nat))):=by unfold yDT;rw [if_neg zO,hE,if_neg (fun q=>q rfl)]
 rw [hE] at c1;rw [hp];obtain ⟨o,hoo⟩:∃ o,o=yCq (yA8 ver i:Nat) (D.readS (at_+(i:Nat))):=⟨_,rfl⟩;rw [← hoo] at c3 ⊢;obtain ⟨a,ha⟩:∃ a,at_+((i:Nat):Int)=a:=⟨_,rfl⟩;rw [ha] at c1 c3;refine zE func234 ntmps234 fun R=>?_;repeat' (first|refine yAo ?_;refine yAa (yAz rfl rfl rfl) ?_|refine xqa ?_|refine xsf ?_ ?_|exact xdn ()|intro _)
theorem yL3 (r:zB) (hl:r.length≤16777216):Ct prog W 141 [strV r] [] (fun x:Nat × Nat=>.slice (some ⟨x.1,0,none⟩) (yBw r).length x.2) (fun x=>[yA4 (.slice (some ⟨x.1,0,none⟩) (yBw r).length x.2) 9 1 (yBw r).length ((yBw r).map strV)]):=by
 obtain ⟨aB,au⟩:∃ aB,aB=yBw r:=⟨_,rfl⟩;rw [← au];have b0:=yKh r.length;have b1:=yGG r.length 256;have b2:=yGG r.length 65536;have b3:=yGG r.length 16777216;have s1:((r.length:Nat):Int).fdiv (2 ^ (min (8:Int).toNat IntKind.i64.bits))=((r.length / 256:Nat):Int):=yII r.length 8 zO;have s2:((r.length:Nat):Int).fdiv (2 ^ (min (16:Int).toNat IntKind.i64.bits))=((r.length / 65536:Nat):Int):=yII r.length 16 zO;have s3:((r.length:Nat):Int).fdiv (2 ^ (min (24:Int).toNat IntKind.i64.bits))=((r.length / 16777216:Nat):Int):=yII r.length 24 zO;obtain ⟨c0,eu⟩:∃ c,c=UInt8.ofNat (r.length % 256):=⟨_,rfl⟩;obtain ⟨c1,eF⟩:∃ c,c=UInt8.ofNat (r.length / 256 % 256):=⟨_,rfl⟩;obtain ⟨c2,dt⟩:∃ c,c=UInt8.ofNat (r.length / 65536 % 256):=⟨_,rfl⟩;obtain ⟨c3,kR⟩:∃ c,c=UInt8.ofNat (r.length / 16777216 % 256):=⟨_,rfl⟩;have bW:yE2 r.length=[1,c0,c1,c2,c3]:=by rw [eu,eF,dt,kR];rfl
 rw [← eu] at b0;rw [← eF] at b1;rw [← dt] at b2;rw [← kR] at b3;obtain ⟨n1,cN⟩:∃ m,m=r.length / 256:=⟨_,rfl⟩;obtain ⟨n2,cO⟩:∃ m,m=r.length / 65536:=⟨_,rfl⟩;obtain ⟨n3,jb⟩:∃ m,m=r.length / 16777216:=⟨_,rfl⟩;rw [← cN] at s1 b1;rw [← cO] at s2 b2;rw [← jb] at s3 b3;obtain ⟨ct,hct⟩:∃ m,m=min r.length 229:=⟨_,rfl⟩;obtain ⟨r1,jE⟩:∃ x,x=r.take ct:=⟨_,rfl⟩;have hr1l:r1.length≤229:=by rw [jE,zLg];omega
 have ht:r.take 229=r1:=by rw [jE,hct];exact List.take_eq_take_iff.2 zO
 have hd:r.drop ct=r.drop 229:=by
  rw [hct];by_cases hh:r.length≤229
  ·rw [zLl zO,zLl zO]
  ·rw [show min r.length 229=229 by omega]
 have aI:[[1,c0,c1,c2,c3]++r1]++yBH r.length (r.drop ct)=aB:=by rw [au,hd,← ht,← bW];rfl
 clear eu eF dt kR cN cO jb bW au hd;have hctl:ct≤r.length:=zO;refine zE func141 ntmps141 fun R=>?_;apply yHm (fun K=>∀ g2,KJ W 52 K [(0,strV r),(3,zi (r.length:Nat)),(5,zi (ct:Nat)),(6,.slice (zq g2) 1 1)] ([yA4 (.slice (zq g2) 1 1) 9 1 1 [strV ([1,c0,c1,c2,c3]++r1)]]++R))
 ·intro rest;by_cases hk:229≤r.length
  ·have qk:decide (((r.length:Nat):Int)<229)=false:=zZ zO;have h5:Value.int .i64 229=.int .i64 ((ct:Nat):Int):=by rw [show ct=229 by omega];rfl
   have ht':r.take ((229:Int)).toNat=r1:=ht;repeat' (first|refine yGu (id:=0) ?_;refine KJ.asv 5 rfl h5 ?_;refine KJ.toRow (e:=9) (m:=1) (size:=1) xS (by rfl) (by unfold maxLen;omega) ?_;exact KJ.weak (rest _) xB (xN)|(refine yAD ?_;first|refine yAK rfl xF (by rfl) zO rfl (fun g2=>?_)|refine yKg (v0:=1) (v1:=c0) (v2:=c1) (v3:=c2) (v4:=c3) rfl rfl rfl rfl rfl rfl (fun g1=>?_))|refine yAu ?_;refine yAa (yCP (l:=[1,c0,c1,c2,c3]) rfl xS rfl) ?_|refine yAr ?_;refine yAa (yFx rfl rfl) ?_|refine xqa ?_|refine xsf ?_ ?_|intro _)
  ·have qk:decide (((r.length:Nat):Int)<229)=true:=zY zO;have h5:Value.int .i64 (r.length:Nat)=.int .i64 ((ct:Nat):Int):=by rw [show ct=r.length by omega]
   have ht':r.take ((r.length:Nat):Int).toNat=r1:=by rw [jE,zLe];exact List.take_eq_take_iff.2 zO
   repeat' (first|refine yGu (id:=0) ?_;refine KJ.asv 5 rfl h5 ?_;refine KJ.toRow (e:=9) (m:=1) (size:=1) xS (by rfl) (by unfold maxLen;omega) ?_;exact KJ.weak (rest _) xB (xN)|(refine yAD ?_;first|refine yAK rfl xF (by rfl) zO rfl (fun g2=>?_)|refine yKg (v0:=1) (v1:=c0) (v2:=c1) (v3:=c2) (v4:=c3) rfl rfl rfl rfl rfl rfl (fun g1=>?_))|refine yAu ?_;refine yAa (yCP (l:=[1,c0,c1,c2,c3]) rfl xS rfl) ?_|refine yAr ?_;refine yAa (yFx rfl rfl) ?_|refine xqa ?_|refine xsf ?_ ?_|intro _)
 intro g2;refine yQp (by first|constructor|fail) ?_;refine yQp (by first|constructor|fail) ?_
 refine yAC (fun i:{s:Nat × Nat × List zB × Nat × Nat//s.2.2.1++yBH s.1 (r.drop s.2.1)=aB∧s.2.1≤r.length∧r.length-s.2.1≤233*s.1∧s.2.2.1.length+s.1≤16777217}=>[(0,strV r),(3,zi (r.length:Nat)),(5,zi (i.1.2.1:Nat)),(6,.slice (some ⟨i.1.2.2.2.1,0,none⟩) i.1.2.2.1.length i.1.2.2.2.2)])
  (fun i=>[yA4 (.slice (some ⟨i.1.2.2.2.1,0,none⟩) i.1.2.2.1.length i.1.2.2.2.2) 9 1 i.1.2.2.1.length (i.1.2.2.1.map strV)]++R) (fun i=>i.1.1) ⟨(r.length,ct,[[1,c0,c1,c2,c3]++r1],g2,1),aI,hctl,by dsimp only;omega,by dsimp only [List.length];omega⟩ xB (xN) (fun ⟨(f,k,an,ga,ca),hr,jn,hf,bF⟩=>?_)
 dsimp only at hr jn hf bF ⊢;by_cases hlt:k<r.length;rotate_left
 ·have ql:decide (((k:Nat):Int)<(r.length:Nat))=false:=zZ zO;rw [zLl zO,yCR,zLs] at hr;subst hr;repeat' (first|refine xqa ?_|refine xsf ?_ ?_|intro _)
  all_goals (exact xdn (ga,ca))
 have ql:decide (((k:Nat):Int)<(r.length:Nat))=true:=zY zO;obtain ⟨f',rfl⟩:∃ f',f=f'+1:=⟨f-1,zO⟩;have ao:r.drop k≠[]:=fun e=>by have:=congrArg List.length e;rw [zLf,List.length_nil] at this;omega
 rw [yCr _ _ ao,List.drop_drop] at hr;obtain ⟨m,hm⟩:∃ m,m=min (k+233) r.length:=⟨_,rfl⟩;obtain ⟨q1,eJ⟩:∃ x,x=(r.drop k).take 233:=⟨_,rfl⟩;have hq1l:q1.length≤233:=by rw [eJ,zLg];omega
 have dw:(r.take m).drop k=q1:=by rw [eJ,List.take_drop,hm];congr 1;exact List.take_eq_take_iff.2 zO
 have hdm:r.drop (k+233)=r.drop m:=by
  by_cases hh:k+233≤r.length
  ·rw [show m=k+233 by omega]
  ·rw [zLl zO,zLl zO]
 rw [← eJ,hdm] at hr;clear eJ hdm;have em:an.map strV++[strV (0::q1)]=(an++[0::q1]).map strV:=zW;have hsl':(r.take ((m:Nat):Int).toNat).drop ((k:Nat):Int).toNat=q1:=by rw [zLe,zLe];exact dw
 have hz:∀ x:zB,([0]:zB)++x=0::x:=fun _=>rfl;by_cases hg:k+233≤r.length
 ·have qg:decide (((r.length:Nat):Int)<((k+233:Nat):Int))=false:=zZ zO;obtain rfl:m=k+233:=zO;repeat' (first|refine yAQ ?_;refine yCN (a2:=0) rfl rfl (by rfl) zO xS (Src.cells (i:=1) xS xC) (by rfl) zO xO zO zO rfl rfl (fun g5 c5=>?_)|refine yAD ?_;refine yAK rfl xF (by rfl) zO rfl (fun g3=>?_)|refine yBb ?_;refine yAa (yCh rfl rfl rfl zO hsl') ?_|refine yAr ?_;refine yAa (yFx rfl rfl) ?_|refine zad (k+233) ?_|refine xqa ?_|refine xsf ?_ ?_|intro _)
  refine yAs ⟨(f',k+233,an++[0::q1],g5,c5),by dsimp only;rw [zLd];exact hr,by dsimp only;omega,by dsimp only;omega,by dsimp only;rw [zLa];show an.length+1+f'≤_;omega⟩ (by show f'<f'+1;omega) ?_ ?_
  ·dsimp only;rw [zLa];exact xB
  ·dsimp only;rw [← em,zLa];exact (xN)
 ·have qg:decide (((r.length:Nat):Int)<((k+233:Nat):Int))=true:=zY zO;obtain rfl:m=r.length:=zO;repeat' (first|refine yAQ ?_;refine yCN (a2:=0) rfl rfl (by rfl) zO xS (Src.cells (i:=1) xS xC) (by rfl) zO xO zO zO rfl rfl (fun g5 c5=>?_)|refine yAD ?_;refine yAK rfl xF (by rfl) zO rfl (fun g3=>?_)|refine yBb ?_;refine yAa (yCh rfl rfl rfl zO hsl') ?_|refine yAr ?_;refine yAa (yFx rfl rfl) ?_|refine zad (k+233) ?_|refine xqa ?_|refine xsf ?_ ?_|intro _)
  refine yAs ⟨(f',r.length,an++[0::q1],g5,c5),by dsimp only;rw [zLd];exact hr,by dsimp only;omega,by dsimp only;omega,by dsimp only;rw [zLa];show an.length+1+f'≤_;omega⟩ (by show f'<f'+1;omega) ?_ ?_
  ·dsimp only;rw [zLa];exact xB
  ·dsimp only;rw [← em,zLa];exact (xN)
end
end Go.Proofs.YtoipmnikdiogcaaGreatDoor
